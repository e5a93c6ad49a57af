/- A part of the proof. -/
import Derived.Test.YtihhpjmclebfpaaGreatDoorQbo
import Derived.Test.YtihhpjmclebfpaaGreatDoorQbp
set_option linter.defProp false
set_option linter.unusedVariables false
set_option linter.unusedSimpArgs false
set_option maxRecDepth 100000
set_option maxHeartbeats 32000000
open Option renaming some->XL,none->XM
open Go renaming World->XO,Value->XP,Calls->X4,TypeId->Ya,maxLen->Yd,Oper->YO,undef->YQ,Ending->Zb,Program->Zh
open Bool renaming false->XQ,true->XR
open And renaming intro->XU
open Go.RowKit renaming Hid->XV
open Go.Proofs renaming intOf->X8
open Go.Proofs.Tryz renaming prog->X3
open Go.Value renaming int->X1,string->X2,slice->Zk,bool->Zp,agg->Zr,pointer->Zs
open Go.IntKind renaming i64->Yo
open Go.Region renaming Mode->Y4
open Go.Ending renaming returned->YT
open Go.Obj renaming cells->Zq
open Go.Operand renaming tmp->Zt
namespace Go.Proofs.YtihhpjmclebfpaaGreatDoor
open Go Go.RowKit Go.Proofs.Tryz
section
open Go.MapKept
def gg6{m:aU}{x:fq}(h:dV m x=XR):(kP m x).kind<=1000000/\(kP m x).by_<=1000000/\∀k∈(kP m x).nums,k<=2000000:=by
 obtain⟨c,_,hl,hs,hh,_⟩:=DB h;have j:=ZW h;refine⟨by unfold kP;simp only;omega,by unfold kP;simp only;omega,λk c=>?_⟩;unfold kP at c;simp only[YL,Ys,Yq,or_false]at c;rcases c with c|rfl|rfl|rfl
 .split at c
  .rw[List.mem_singleton.1 c];omega
  .cases c
 all_goals omega
def bz9{W:XO}{g:Nat}{T:Ya}{u0 u1 u2 u3 u4 u5:XP}(c h j y z A:XP)(C:af W g #[u0,u1,u2,u3,u4,u5] T):
 ((((((W.setCell g c).setCell (g 1 XM) h).setCell (g 2 XM) j).setCell (g 3 XM) y).setCell (g 4 XM) z).setCell (g 5 XM) A).heap[g]?=XL (Zq #[c,h,j,y,z,A] T (0,0))/\
 aL W g W ((((((W.setCell g c).setCell (g 1 XM) h).setCell (g 2 XM) j).setCell (g 3 XM) y).setCell (g 4 XM) z).setCell (g 5 XM) A):=
 ⟨(bf (bf (bf (bf (bf (bf C 0 c) 1 h) 2 j) 3 y) 4 z) 5 A).t (by kernel_rfl),
  aL.set (aL.set (aL.set (aL.set (aL.set (aL.set (aL.refl _ _ _) (.inl rfl) _) (.inl rfl) _) (.inl rfl) _) (.inl rfl) _) (.inl rfl) _) (.inl rfl) _⟩
def qi{w w':XO}{base e g:Nat}{v:XP}{n:Nat}{xs:List XP}{C:Array XP}{t:Ya}{f:Nat×Nat}(h:w.ownsRow base e 1 v n xs)(G:w.heap[g]?=XL (Zq C t f))(J:¬t=e)(I:aL w g w w'):w'.ownsRow base e 1 v n xs:=by have z:=yR h G J;refine⟨h.1,h.2.imp id ?_⟩;rintro⟨b,cap,c,j,D,y,F⟩;exact⟨b,cap,c,j,D,I.blk y (blk_lt y) (λA=>z b (by rw[j];rfl) A.symm),F⟩
def ca0{P:Zh}{c:Code}{Q:Exit->Act->XO->Prop}{a:Act}{w:XO}{A B C:Array XP}{x y z:Ya}(h:∀W,(Below w w W/\af W w.heap.size A x/\af W (w.heap.size+1) B y/\af W (w.heap.size+2) C z)->Code.wp P c Q a W):Code.wp P c Q a (((w.alloc (Zq A x)).alloc (Zq B y)).alloc (Zq C z)):=h _ (bf0 w A B C x y z)
def wv:Obj:=Zq #[ah 0,X2 ⟨#[]⟩,Zk XM 0 0,Zk XM 0 0,ah 0,Zp XQ] 100
def yY(a b c:Nat):Array Value:= #[ah a,ah b,ah c]
def rQ{h W:XO}(j:Below h h W)(g base:Nat)(A:base<=h)(c:Array XP)(n:Nat)(t:Ya)(y:g=W)(hm:n<=Yd)(z:c.size=n*1):(W.alloc (Zq c t)).ownsRow base t 1 (Zk (XL (g 0 XM)) n n) n c.toList:=
 mA W c n g base t y (by have:=j.size;omega) hm z
def Nm{c W:XO}(j:Below c c W)(g:Nat)(o:Obj)(h:g=W):(W.alloc o).heap[g]?=XL o:=by subst h;exact cR W o
section
variable {P:Zh} {md:Y4} {ops:Array YO} {Q:Exit->Act->XO->Prop} {S:XO->Prop} {N:Nat}
end
section
variable {P:Zh} {md:Y4} {ops:Array YO} {Q:Exit->Act->XO->Prop} {S:XO->Prop} {N:Nat} {fuel:Nat} {listed:Array Bool} {a:Act} {W0 A0:XO} {B b e i n k g:Nat} {rv nv:XP} {xs ys:List XP} {o:Option Obj}
def gg7(c:Below B A0 W0)(j:W0.ownsRow b e 1 rv n xs)(h:∀W,Below B A0 W->W.ownsRow b e 1 rv n xs->f' P md ops Q S N fuel listed a W):f' P md ops Q S N fuel listed a W0:=h W0 c j
def RK(c:Below B A0 W0)(j:W0.ownsRow b e 1 rv n xs)(y:W0.ownsRow b i 1 nv k ys)(h:∀W,Below B A0 W->W.ownsRow b e 1 rv n xs->W.ownsRow b i 1 nv k ys->f' P md ops Q S N fuel listed a W):f' P md ops Q S N fuel listed a W0:=h W0 c j y
def gg8(c:Below B A0 W0)(j:W0.ownsRow b e 1 rv n xs)(y:W0.ownsRow b i 1 nv k ys)(z:W0.heap[g]?=o)(h:∀W,Below B A0 W->W.ownsRow b e 1 rv n xs->W.ownsRow b i 1 nv k ys->W.heap[g]?=o->f' P md ops Q S N fuel listed a W):f' P md ops Q S N fuel listed a W0:=h W0 c j y z
end
def ca1{w:XO}{B:Nat}{v:XP}{a:ay}(h:bR w B v [bs a]):w.ownsRow B 9 1 v [a].length ([a].map λs=>X2 (bs s)):=h
section
variable {W:XO} {rt:Nat} {T:Ya} {u0 u1 u2 u3 u4 u5:XP}
def Gr{f:Func}{a:Act}{R:Zb->XO->Prop}{c j y z A C:XP}(O:f.results=Tryz.f74.results)(h4:a.tmps.getD 4 YQ=Zs (XL rt))(J:a.defers=[])
 (I:af W rt #[u0,u1,u2,u3,u4,u5] T)(G:∀D,aL W rt W D->R (YT (Zr #[c,j,y,z,A,C])) D):
 bodyPost X3 f R .ret a ((((((W.setCell rt c).setCell (rt 1 XM) j).setCell (rt 2 XM) y).setCell (rt 3 XM) z).setCell (rt 4 XM) A).setCell (rt 5 XM) C):=by
 obtain⟨g7,hK⟩:=bz9 c j y z A C I;generalize ((((((W.setCell rt c).setCell (rt 1 XM) j).setCell (rt 2 XM) y).setCell (rt 3 XM) z).setCell (rt 4 XM) A).setCell (rt 5 XM) C)=D at g7 hK⊢
 obtain⟨f0,f1,f2,f3,f4,f5⟩:=dy g7;refine bodyPost_ret (v:=Zr #[c,j,y,z,A,C]) ?_ J (G D hK);have F:a.tmps[4]?.getD YQ=Zs (XL rt):=oL;simp[results,O,Tryz.f74,go_sem,F,f0,f1,f2,f3,f4,f5]
end
def gg9(m:aU)(mv:MV)(x:fq)(o:XP)(w:XO)(hm:m.In w w mv)(bA:ew m=XR)(hx:dV m x=XR)(ho:aS w w o x.on):
 X4 X3 73 #[Zr (m.cells mv),Zr #[bs x.name,x.kind,x.count,x.load,x.size,x.share,o]] w (ZU w (kP m x)):=by
 obtain⟨pG,cz,Ll,bm,pJ,_⟩:=DB hx;have wW:=ZW hx;have VU:=λn A=>jh.1 ((Cj cz).2.2.1 n A);have Ai:=Mg cz;have oz:=(wh bA).mn.2;refine DK λSa sc hs bZ bL Fa fc bS bM cj Ra rc hr cd cZ Ma mc gF cr co La lc ee cW dh Ia ic hi dg d' Ua uc hu dm dr=>?_;obtain⟨oA,on,oc,rfl,xc,_,_⟩:=ho.sk.form;have HS:=aj (nD m hs bS hr gF ee hi hu);have V:=aj λW(I:Below w w W)=>bz8 m mv (Zk oA on oc) x.on W (hm.to I (ar _) I.size) ((ho.below I (ar _)).more I.size) Zv VU;rw[HS.o]at V⊢
 obtain⟨D,pf⟩:∃D:Nat,x.kind=(D:Int):=⟨x.kind.toNat,by omega⟩;have J:=aj (show kP m x={kind:=5+D,name:=x.name,refs:=ji m x.on,nums:=(if D=1 then[x.count.toNat]else[])++[x.load.toNat,x.size.toNat,x.share.toNat]}from zg D pf);obtain⟨NM,KD,CT,LD,SZ,SH,ON⟩:=x;simp only at pf pG Ll bm pJ wW V J xc Ai VU⊢
 clear hm hs bS hr gF ee hi hu bZ bL bM cj cd cZ cr co cW dh dg d' dm dr ho bA hx cz VU Ai;subst pf;obtain⟨X,rfl⟩:∃j:Nat,CT=(j:Int):=⟨CT.toNat,by omega⟩;obtain⟨ln,rfl⟩:∃j:Nat,LD=(j:Int):=⟨LD.toNat,by omega⟩;obtain⟨sn,rfl⟩:∃j:Nat,SZ=(j:Int):=⟨SZ.toNat,by omega⟩;obtain⟨A,rfl⟩:∃j:Nat,SH=(j:Int):=⟨SH.toNat,by omega⟩;simp only[Int.toNat_natCast]at J;have Vw:D<=2:=Zv;have hd6:IntKind.i64.wrap (5+(D:Int))=5+(D:Int):=Yr _ Zv;clear pG;go_enter func73,ntmps73;go_upto_region 1 with(fail)
 refine ca0 ?_;intro G ⟨bP,eH,pk,a_⟩;have O:=aj bP;have xY:=aj eH;have Hf:=aj pk;have Kk:=aj a_;have IJ:=blk_lt a_;have xl:=bP.size;have cU:=aj λW(h:Below G G W)=>XU (bQ (ai xY h)) (gM (ai Hf h));clear bP eH pk a_;go_cut [5] (λp wx=>∃(g:Nat)(rv nv:XP),p=Zs (XL g)/\af wx g #[ah (5+(D:Int)),bs NM,rv,nv,ah 0,Zp XQ] 100/\w.heap.size+2<g/\wx.ownsRow w 9 1 rv (ji m ON).length ((ji m ON).map λs=>X2 (bs s))/\wx.ownsRow w 3 1 nv 3 [ah (ln:Int),ah (sn:Int),ah (A:Int)]/\Below G G wx)
 case first=>
  refine eT (S:=Below G G) 18 19 (aW (am G)) λhS=>?_;iterate 8 refine nz 19 6 ?_
  refine jC 9 15 ?_;refine jC 10 16 ?_;refine jC 11 17 ?_;refine jC 12 18 ?_;refine jC 13 19 ?_;refine jC 14 20 ?_;refine ny (rs:=[8,15,17]) aI Zy ?_;refine dC.cons1 de ?_ (dC.cons1 de ?_ (dC.cons1 de ?_ dC.nil))
  focus
   intro K hK;go_simp;refine(V _ (aq O hS)).q λw5 u hu z=>?_;obtain⟨rA,rn,rc',rfl⟩:=eW hu;refine Nn λHU=>?_;have C:=aq hS z;have mK:=C.size;try go_simp
   refine hK _ _ (by exact C) λhS=>?_;clear hK hu z C;refine aH ?_;refine ny (rs:=[15,17]) aI Zy ?_;refine dC.cons1 de ?_ (dC.cons1 de ?_ dC.nil)
   focus
    intro K hK;go_simp;have HU:=aj (eI HU (ak (am _) (Zq (yY ln sn A) 3)));have y:=aj (rQ hS (w5.heap.size) w xl (yY ln sn A) 3 3 Zy fH rfl);refine ip λhS=>?_;clear hK;refine aH ?_;refine ny (rs:=[16,17]) aI Zy ?_;refine dC.cons1 de ?_ (dC.cons1 de ?_ dC.nil)
    focus
     intro K hK;go_simp;refine xN λhS=>?_;clear hK;refine aH ?_;refine bt 17 λK hK=>?_;go_simp;have HU:=aj (eI HU (ak (am _) wv));have y:=aj (eI y (ak (am _) wv));have HP:=aj (Nm hS (w5+1) wv Zy);refine ip λhS=>?_;clear hK;refine aH ?_
    rotate_left
    focus
     intro K hK;go_simp;have HU:=aj (eI HU (ak (am _) wv));have y:=aj (eI y (ak (am _) wv));have HP:=aj (Nm hS (w5+1) wv Zy);refine ip λhS=>?_;clear hK;refine aH ?_;refine bt 16 λK hK=>?_;go_simp;refine xN λhS=>?_;clear hK;refine aH ?_
    rotate_left
   rotate_left 2
   focus
    intro K hK;go_simp;refine RL λHU HP=>?_;refine ip λhS=>?_;clear hK;refine aH ?_;refine bt 15 λK hK=>?_;go_simp;have HU:=aj (eI HU (ak (am _) (Zq (yY ln sn A) 3)));have HP:=aj (ai HP (ak (am _) (Zq (yY ln sn A) 3)));have y:=aj (rQ hS (w5+1) w xl (yY ln sn A) 3 3 Zy fH rfl);refine ip λhS=>?_;clear hK;refine aH ?_;refine bt 16 λK hK=>?_;go_simp;refine xN λhS=>?_;clear hK;refine aH ?_
   rotate_left
  rotate_left 3
  focus
   intro K hK;go_simp;have y:=aj (rQ hS (G.heap.size) w xl (yY ln sn A) 3 3 Zy fH rfl);refine ip λhS=>?_;clear hK;refine aH ?_;refine ny (rs:=[8,17]) aI Zy ?_;refine dC.cons1 de ?_ (dC.cons1 de ?_ dC.nil)
   focus
    intro K hK;go_simp;refine(V _ (aq O hS)).q λw5 u hu z=>?_;obtain⟨rA,rn,rc',rfl⟩:=eW hu;refine Nn λHU=>?_;have y:=aj (eI y z);have C:=aq hS z;have mK:=C.size;try go_simp
    refine hK _ _ (by exact C) λhS=>?_;clear hK hu z C;refine aH ?_;refine ny (rs:=[16,17]) aI Zy ?_;refine dC.cons1 de ?_ (dC.cons1 de ?_ dC.nil)
    focus
     intro K hK;go_simp;refine xN λhS=>?_;clear hK;refine aH ?_;refine bt 17 λK hK=>?_;go_simp;have y:=aj (eI y (ak (am _) wv));refine RL λHU HP=>?_;refine ip λhS=>?_;clear hK;refine aH ?_
    rotate_left
    focus
     intro K hK;go_simp;have y:=aj (eI y (ak (am _) wv));refine RL λHU HP=>?_;refine ip λhS=>?_;clear hK;refine aH ?_;refine bt 16 λK hK=>?_;go_simp;refine xN λhS=>?_;clear hK;refine aH ?_
    rotate_left
   rotate_left 2
   focus
    intro K hK;go_simp;have y:=aj (eI y (ak (am _) wv));have HP:=aj (Nm hS (G+1) wv Zy);refine ip λhS=>?_;clear hK;refine aH ?_;refine bt 8 λK hK=>?_;go_simp;refine(V _ (aq O hS)).q λw5 u hu z=>?_;obtain⟨rA,rn,rc',rfl⟩:=eW hu;refine Nn λHU=>?_;have y:=aj (eI y z);have HP:=aj (ai HP z);have C:=aq hS z;have mK:=C.size;try go_simp
    refine hK _ _ (by exact C) λhS=>?_;clear hK hu z C;refine aH ?_;refine bt 16 λK hK=>?_;go_simp;refine xN λhS=>?_;clear hK;refine aH ?_
   rotate_left
  rotate_left 3
  focus
   intro K hK;go_simp;have HP:=aj (Nm hS (G.heap.size) wv Zy);refine ip λhS=>?_;clear hK;refine aH ?_;refine ny (rs:=[8,15]) aI Zy ?_;refine dC.cons1 de ?_ (dC.cons1 de ?_ dC.nil)
   focus
    intro K hK;go_simp;refine(V _ (aq O hS)).q λw5 u hu z=>?_;obtain⟨rA,rn,rc',rfl⟩:=eW hu;refine Nn λHU=>?_;have HP:=aj (ai HP z);have C:=aq hS z;have mK:=C.size;try go_simp
    refine hK _ _ (by exact C) λhS=>?_;clear hK hu z C;refine aH ?_;refine bt 15 λK hK=>?_;go_simp;have HP:=aj (ai HP (ak (am _) (Zq (yY ln sn A) 3)));have HU:=aj (eI HU (ak (am _) (Zq (yY ln sn A) 3)));have y:=aj (rQ hS (w5.heap.size) w xl (yY ln sn A) 3 3 Zy fH rfl);refine ip λhS=>?_;clear hK;refine aH ?_;refine bt 16 λK hK=>?_;go_simp;refine xN λhS=>?_;clear hK;refine aH ?_
   rotate_left
   focus
    intro K hK;go_simp;have HP:=aj (ai HP (ak (am _) (Zq (yY ln sn A) 3)));have y:=aj (rQ hS (G+1) w xl (yY ln sn A) 3 3 Zy fH rfl);refine ip λhS=>?_;clear hK;refine aH ?_;refine bt 8 λK hK=>?_;go_simp;refine(V _ (aq O hS)).q λw5 u hu z=>?_;obtain⟨rA,rn,rc',rfl⟩:=eW hu;refine Nn λHU=>?_;have HP:=aj (ai HP z);have y:=aj (eI y z);have C:=aq hS z;have mK:=C.size;try go_simp
    refine hK _ _ (by exact C) λhS=>?_;clear hK hu z C;refine aH ?_;refine bt 16 λK hK=>?_;go_simp;refine xN λhS=>?_;clear hK;refine aH ?_
   rotate_left
  rotate_left 2;all_goals
   refine gg8 hS HU y HP ?_;intro Wf Y hu pg hp;have HU:=aj hu;have y:=aj pg;have HP:=aj hp;have N0:=aj Y;clear hS hu pg hp Y;obtain⟨d0,d1,d2,d3,d4,d5⟩:=dy HP.o;obtain⟨f0,f1,f2,f3,f4,f5⟩:=Cf HP.o;refine eA 18 λK hK=>?_;go_simp;refine fD ?_;clear hK;refine aH ?_;refine gc ?_;go_wp2_with fail
   go_meet;have key:=λv3=>bz9 (ah (5+(D:Int))) (X2 (bs NM)) (Zk rA rn rc') v3 (ah 0) (Zp XQ) HP.o;exact⟨_,_,_,rfl,(key _).1,by omega,qi HU HP aD (key _).2,qi y HP aD (key _).2,N0.t (((key _).2.below (fK (blk_lt HP))).mono Zv)⟩
 case rest=>
  obtain⟨g,rv,nv,rfl,hg,pe,fR,iy,I⟩:=hcut;obtain⟨rA,rn,rc',rfl⟩:=eW fR;obtain⟨nA,nm,nc,rfl⟩:=eW iy;have HG:=aj hg;have HR:=aj fR;have y:=aj iy;have jA:=aj I;have N8:=aj (ai Kk I);have hq7:=blk_lt hg;have ij:=I.size;obtain⟨y0,y1,y2,y3,y4,y5,y6⟩:=gM (ai Hf I);obtain⟨z0,z1,z2,z3,z4,z5⟩:=dy N8.o;obtain⟨d0,d1,d2,d3,d4,d5⟩:=dy hg;clear hg fR iy I;by_cases h1:D=1
  .have Vu:((D:Int)==1)=true:=by simp;omega
   have f3:=cO HG 3;have pp:=aj (show(if D=1 then[X]else[])++[ln,sn,A]=[X,ln,sn,A]by rw[if_pos h1];rfl);clear h1;go_upto_region 4 with(fail)
   refine ez (λW=>af W g #[ah (5+(D:Int)),bs NM,Zk rA rn rc',Zk (XL (wc 0 XM)) 4 4,ah 0,Zp XQ] 100/\aL wc g wc W/\W.ownsRow w 3 1 (Zk (XL (wc 0 XM)) 4 4) 4 [ah (X:Int),ah (ln:Int),ah (sn:Int),ah (A:Int)]) ⟨ai ((bf HG 3 _).t rfl) (ak (am _) _),((aL.refl wc g wc).set (.inl rfl) _).t (aL.of_below (ak (am _) _) Zy Zy),mA _ #[X1 .i64 (X:Int),X1 .i64 (ln:Int),X1 .i64 (sn:Int),X1 .i64 (A:Int)] 4 _ _ 3 Zy Zv fH rfl⟩ ?_;intro W4 ⟨tI,Z,Lq⟩;clear d0 d1 d2 d3 d4 d5 z0 z1 z2 z3 z4 z5 y0 y1 y2 y3 y4 y5 y6;have wD:=aj (qi HR HG aD Z);have S_:=aj Lq;have Vg:=tI;have F:=aj (Z.blk N8 (blk_lt N8) Zv);have bW:=aj (Below.t O (Below.t (jA.mono Zv) ((Z.below Zv).mono Zv)));have vX:=Z.size;obtain⟨d0,d1,d2,d3,d4,d5⟩:=dy Vg;obtain⟨z0,z1,z2,z3,z4,z5⟩:=dy F.o;obtain⟨f0,f1,f2,f3,f4,f5⟩:=Cf F.o;go_wp2_with fail
   refine Gr rfl rfl rfl F λW7 U=>?_;refine⟨Zk rA rn rc',Zk (XL (wc 0 XM)) 4 4,by rw[J.o];rfl,?_,?_,?_⟩
   .rw[J.o];exact qi wD F aD U
   .rw[J.o,pp.o];exact qi S_ F aD U
   .exact bW.t ((U.below (fK (blk_lt F))).mono Zv)
  .have Vu:((D:Int)==1)=false:=by simp;omega
   have pp:=aj (show(if D=1 then[X]else[])++[ln,sn,A]=[ln,sn,A]by rw[if_neg h1];rfl);clear h1;go_upto_region 4 with(fail)
   have tI:=HG.o;have Lq:=y.o;clear d0 d1 d2 d3 d4 d5 z0 z1 z2 z3 z4 z5 y0 y1 y2 y3 y4 y5 y6;have wD:=aj (HR);have S_:=aj Lq;have Vg:=tI;have F:=N8;have bW:=aj (Below.t O (jA.mono xl));obtain⟨d0,d1,d2,d3,d4,d5⟩:=dy Vg;obtain⟨z0,z1,z2,z3,z4,z5⟩:=dy F.o;obtain⟨f0,f1,f2,f3,f4,f5⟩:=Cf F.o;go_wp2_with fail
   refine Gr rfl rfl rfl F λW7 U=>?_;refine⟨Zk rA rn rc',Zk nA nm nc,by rw[J.o];rfl,?_,?_,?_⟩
   .rw[J.o];exact qi wD F aD U
   .rw[J.o,pp.o];exact qi S_ F aD U
   .exact bW.t ((U.below (fK (blk_lt F))).mono Zv)
def Gs{m:aU}{j:Nat}{y:fq}(h:m.items[j]?=XL y):nU m ((j:Int)+1)=y.name:=by unfold nU fw;rw[show((j:Int)+1 - 1).toNat=j by omega,X9,X5,h];rfl
def Gt{m:aU}{n:Int}(h:aF n m.items.length=XR):∃(j:Nat)(y:fq),n=(j:Int)+1/\m.items[j]?=XL y:=by have c:=jh.1 h;exact⟨(n - 1).toNat,m.items[(n - 1).toNat]' Zv,by omega,XT Zv⟩
def RM(m:aU)(x:cF)(refs:List ay)(nums:List Nat):Prop:=
 (x.kind=5/\refs=[]/\nums=[x.n.toNat])\/∃(j:Nat)(y:fq),x.item=(j:Int)+1/\m.items[j]?=XL y/\¬x.kind=5/\
   ((x.kind=3/\refs=[y.name]++ji m x.ms/\nums=[])\/(x.kind=4/\(∃(i:Nat)(z:fq),x.other=(i:Int)+1/\m.items[i]?=some z/\refs=[y.name]++[z.name])/\nums=[])\/
    (x.kind=0/\refs=[y.name]/\nums=[])\/((x.kind=1\/x.kind=2\/x.kind=6)/\refs=[y.name]/\nums=[x.n.toNat]))
def gh0{m:aU}{x:cF}(h:qr m x):RM m x (ch m x).refs (ch m x).nums:=by
 unfold RM;rw[be9,ZS];cases h with
 |disturb n c C=>exact .inl ⟨rfl,rfl,rfl⟩
 |order i o c C h3=>
  obtain⟨j,y,rfl,hy⟩:=Gt c;obtain⟨k,z,rfl,hz⟩:=Gt C;refine .inr ⟨j,y,rfl,hy,by simp,.inr (.inl ⟨rfl,⟨k,z,rfl,hz,?_⟩,rfl⟩)⟩;have A:(0:Int)<(j:Int)+1:=Zv;have D:(0:Int)<(k:Int)+1:=Zv;simp[rK,ji,A,D,Gs hy,Gs hz]
 |only i l c C=>
  obtain⟨j,y,rfl,hy⟩:=Gt c;have A:(0:Int)<(j:Int)+1:=Zv;exact .inr ⟨j,y,rfl,hy,by simp,.inl ⟨rfl,by simp[rK,A,Gs hy],rfl⟩⟩
 |quorum i c C=>
  obtain⟨j,y,rfl,hy⟩:=Gt c;have A:(0:Int)<(j:Int)+1:=Zv;exact .inr ⟨j,y,rfl,hy,by simp,.inr (.inr (.inl ⟨rfl,by simp[rK,ji,A,Gs hy],rfl⟩))⟩
 |keep i n a c C h3=>
  obtain⟨j,y,rfl,hy⟩:=Gt c;have A:(0:Int)<(j:Int)+1:=Zv;exact .inr ⟨j,y,rfl,hy,by simp,.inr (.inr (.inr ⟨.inl rfl,by simp[rK,ji,A,Gs hy],rfl⟩))⟩
 |spread i n b c C h3 h4 h5=>
  obtain⟨j,y,rfl,hy⟩:=Gt c;have A:(0:Int)<(j:Int)+1:=Zv;exact .inr ⟨j,y,rfl,hy,by simp,.inr (.inr (.inr ⟨.inr (.inl rfl),by simp[rK,ji,A,Gs hy],rfl⟩))⟩
 |silence i n c C h3=>obtain⟨j,y,rfl,hy⟩:=Gt c;have A:(0:Int)<(j:Int)+1:=Zv;exact .inr ⟨j,y,rfl,hy,by simp,.inr (.inr (.inr ⟨.inr (.inr rfl),by simp[rK,ji,A,Gs hy],rfl⟩))⟩
def gh1(m:aU)(mv:MV)(x:cF)(o:XP)(w:XO)(hm:m.In w w mv)(bA:ew m=XR)(hx:qr m x)(ho:aS w w o x.ms):
 X4 X3 74 #[Zr (m.cells mv),Zr #[x.kind,x.item,x.other,x.n,x.by_,Zp x.always,o]] w (ZU w (ch m x)):=by
 obtain⟨⟨k0,k6⟩,⟨i0,i8⟩,⟨o0,o8⟩,⟨n0,n8⟩,⟨y0,y4⟩,cz,yD⟩:=ZT hx;have hM:=wh bA;have xm:=hM.xn;have ha0:=hM.mn.2;have D4:=gh0 hx;have mM:=aj (show(((ch m x).kind:Nat):Int)=10+x.kind from by unfold ch;simp only;omega);have zy:=aj (show(ch m x).name=[]from rfl);have wz:=aj (show(((ch m x).by_:Nat):Int)=x.by_ from by unfold ch;simp only;omega);have wy:=aj (show(ch m x).always=x.always from rfl);refine DK λSa sc hs bZ bL Fa fc bS bM cj Ra rc hr cd cZ Ma mc gF cr co La lc ee cW dh Ia ic hi dg d' Ua uc hu dm dr=>?_;obtain⟨oA,on,oc,rfl,xc,_,_⟩:=ho.sk.form;have HS:=aj (nD m hs bS hr gF ee hi hu);have hI:=hm.is;rw[hi]at hI;have kI:=aj hI;have mN:=aj λW(hb:Below w w W)=>bz8 m mv (Zk oA on oc) x.ms W (hm.to hb (ar _) hb.size) ((ho.below hb (ar _)).more hb.size) Zv cz;rw[HS.o]at mN⊢
 generalize B5:ch m x=d at D4 mM zy wz wy⊢
 obtain⟨KD,I,O,N,Y,AL,MS⟩:=x;unfold RM at D4;simp only at k0 k6 i0 i8 o0 o8 n0 n8 y0 y4 cz yD D4 mM wz wy mN xc⊢
 clear hm hs bS hr gF ee hi hu bZ bL bM cj cd cZ cr co cW dh dg d' dm dr ho bA hx hI hM cz B5;have hd5:IntKind.i64.wrap (10+KD)=10+KD:=Yr _ Zv;go_enter func74,ntmps74;go_upto_region 1 with(fail)
 refine ca0 ?_;intro W1 ⟨bP,eH,pk,a_⟩;have bp:=aj bP;have xY:=aj eH;have Hf:=aj pk;have Kk:=aj a_;have IJ:=blk_lt a_;have xl:=bP.size;obtain⟨q0,q1,q2,q3,q4,q5,q6⟩:=gM pk;clear bP eH pk a_;go_upto_region 2 with(fail)
 refine df ?_;intro C ⟨au,uP⟩;have nq:=aj (ai xY au);have Hg:=aj (ai Hf au);have Hh:=aj (ai Kk au);have aX:=aj (aq bp au);have KZ:=blk_lt uP;have iO:=aj uP;generalize W1.heap.size=db at iO IJ KZ xl⊢
 clear au uP q0 q1 q2 q3 q4 q5 q6;obtain⟨q0,q1,q2,q3,q4,q5,q6⟩:=gM Hg.o;obtain⟨d0,d1,A,d3,d4,d5⟩:=dy iO.o;rcases D4 with⟨h5,G,F⟩|⟨j,y,rfl,hy,h5,D4⟩
 .have oK:=aj G;have zz:=aj F;have e5:(KD !=5)=false:=by simp[h5]
  have e3:(KD==3)=false:=by simp[h5]
  have e4:(KD==4)=false:=by simp[h5]
  have e0:(KD==0)=false:=by simp[h5]
  have f3:=cO iO 3;clear h5 G F;go_upto_region 11 with(fail)
  refine ez (λW=>af W db #[ah (10+KD),X2 ⟨#[]⟩,Zk XM 0 0,Zk (XL (C 0 XM)) 1 1,Y,Zp AL] 100/\aL C db C W/\W.ownsRow w 3 1 (Zk (XL (C 0 XM)) 1 1) 1 [X1 .i64 N]) ⟨ai ((bf iO 3 _).t rfl) (ak (am _) _),((aL.refl C db C).set (.inl rfl) _).t (aL.of_below (ak (am _) _) Zy Zy),mA _ #[X1 .i64 N] 1 _ _ 3 Zy Zv fH rfl⟩ ?_;intro W5 ⟨KY,V,qc⟩;have Ed:=aj KY;have uC:=aj (V.blk Hh (blk_lt Hh) Zv);have cT:=aj (aX.t ((V.below Zv).mono Zv));have NV:=aj qc;have mK:=V.size;clear KY V qc q0 q1 q2 q3 q4 q5 q6 d0 d1 A d3 d4 d5 f3;obtain⟨d0,d1,A,d3,d4,d5⟩:=dy Ed.o;obtain⟨z0,z1,z2,z3,z4,z5⟩:=dy uC.o;obtain⟨f0,f1,U,f3,f4,f5⟩:=Cf uC.o;go_wp2_with fail
  refine Gr rfl rfl rfl uC λW7 hk=>?_;refine⟨Zk XM 0 0,Zk (XL (C 0 XM)) 1 1,by rw[mM.o,zy.o,wz.o,wy.o];rfl,?_,?_,?_⟩
  .rw[oK.o];exact qi (Yc _ _ _ _) uC aD hk
  .exact ca2
  .exact cT.t ((hk.below (fK (blk_lt uC))).mono Zv)
 .have e5:(KD !=5)=true:=by simp[h5]
  have lA:=(List.getElem?_eq_some_iff.1 hy).1;have uR:(j:Int)<m.items.length:=Zv;have jK:(0:Int)<=j:=Zv;have nf:(j:Int)+1 - 1=j:=Zv;refine MN λsy=>?_;have HY:=aj hy;obtain⟨ib,io,ics,rfl,Vj,_,⟨_,rfl,_,_⟩,Le⟩:=kI.at_ hy;have ce:aa C ib (io+j*7) (X2 (bs y.name)):=(aX.cell (p:=⟨ib,io+j*7,XM⟩) Vj).t (Le 0 _ rfl);have c5:=ag (o:=5) nq rfl;have U:=cO iO 2;have H9:=aj D4;clear hy Le D4;go_upto_region 4 with(fail)
  refine ez (λW=>af W db #[ah (10+KD),X2 ⟨#[]⟩,Zk (XL (C 0 XM)) 1 1,Zk XM 0 0,Y,Zp AL] 100/\aL C db C W/\bR W (db+1) (Zk (XL (C 0 XM)) 1 1) [bs y.name]) ⟨ai ((bf iO 2 _).t rfl) (ak (am _) _),((aL.refl C db C).set (.inl rfl) _).t (aL.of_below (ak (am _) _) Zy Zy),mA _ #[bs y.name] 1 _ _ 9 Zy Zv fH rfl⟩ ?_;intro c ⟨KX,pG,yF⟩;have X:=aj KX;have xU:=aj yF;have jc:=aj (pG.blk nq (blk_lt nq) Zv);have Kj:=aj (pG.blk Hg (blk_lt Hg) Zv);have Z:=aj (pG.blk Hh (blk_lt Hh) Zv);have bE:=aj (aX.t ((pG.below Zv).mono Zv));have gJ:=pG.size;have hp7:db<c:=Zv;generalize C.heap.size=gr at X xU gJ KZ⊢
  clear KX pG yF q0 q1 q2 q3 q4 q5 q6 d0 d1 A d3 d4 d5 ce c5 U;obtain⟨q0,q1,q2,q3,q4,q5,q6⟩:=gM Kj.o;obtain⟨d0,d1,A,d3,d4,d5⟩:=dy X.o;rcases H9.o with⟨h3,G,F⟩|⟨h4,⟨i,z,rfl,hz,G⟩,F⟩|⟨h0,G,F⟩|⟨hk,G,F⟩
  .have oK:=aj G;have zz:=aj F;have e3:(KD==3)=true:=by simp[h3]
   clear h3 G F H9 d0 d1 A d3 d4 d5;go_upto_region 7 with(fail)
   clear q0 q1 q2 q3 q4 q5 q6;have cU:=aj λW(h:Below (db+1) c W)=>XU (dy (gl X h Zv)) (XU (bQ (gl jc h Zv)) (gM (gl Kj h Zv)));refine eT (S:=Below (db+1) c) 7 9 (FE ((am c).mono Zv)) λhS=>?_;iterate 5 refine da 9 35 ?_
   refine bt 5 λK hK=>?_;go_simp;refine(mN _ (aW bE)).q λw6 u hu cL=>?_;have q_:=aq (aW (am c)) cL;have Tq:=aj hu;obtain⟨uA,un,uc',rfl⟩:=eW hu;try go_simp
   refine hK _ _ (by exact q_.mono Zv) λhS=>?_;clear hK;refine aH ?_;refine bt 6 λK hK=>?_;have S9:=aj (show(ji m MS).length<=16 from by unfold ji;rw[XY];omega);refine xA rfl (Zt 36) (Zt 40) rfl (db+1) _ _ _ ((ji m MS).map bs) rfl rfl (xU.below q_) Tq.src (by have:=S9.o;simp;omega) (by have:=q_.size;omega) ?_;intro v' w7 BX gv;have sG:∀b,(Zk (XL (gr 0 XM)) 1 1).ownBlock=XL b->db+1<=b:=λb hb=>(X6 xU b hb).1;have D:=Below.grown (q_.mono (show db+1<=c by omega)) gv (by have:=q_.size;omega) sG;have J:=gl X D Zv;obtain⟨vA,vn,vc,rfl⟩:=eW BX;have tr:=aj BX;have Ki:=aj (gl jc D Zv);have Hi:=aj (gl Z D Zv);have iG:=aj (bE.t (D.mono Zv));have Dt:=D.size;have U_:=blk_lt J;refine hK _ _ (by exact D) λhS=>?_;clear hK;refine aH ?_;have U:=cO J 2;have A:=ag (o:=2) J rfl;have GL:=aj J;clear J;refine eA 7 λK hK=>?_;go_simp;refine fD ?_;clear hK;refine aH ?_;refine eA 8 λK hK=>?_;go_simp;refine fD ?_;clear hK;refine aH ?_;refine gc ?_;go_upto_region 11 with(fail)
   refine ca3 ?_;intro W8 ⟨E9,ox⟩;refine ca4 λvF pr xV iu Au=>?_;clear E9 ox U A hS D cU;obtain⟨d0,d1,A,d3,d4,d5⟩:=dy vF.o;obtain⟨z0,z1,z2,z3,z4,z5⟩:=dy pr.o;obtain⟨f0,f1,U,f3,f4,f5⟩:=Cf pr.o;go_wp2_with fail
   refine Gr rfl rfl rfl pr λW7 hk=>?_;refine⟨Zk vA vn vc,Zk XM 0 0,by rw[mM.o,zy.o,wz.o,wy.o];rfl,?_,?_,?_⟩
   .rw[oK.o];exact qi (tT (Ri (a:=[y.name]) (b:=ji m MS) xV) Zv) pr aD hk
   .rw[zz.o];exact qi (Yc _ _ _ _) pr aD hk
   .exact iu.t ((hk.below (fK (blk_lt pr))).mono Zv)
  .have oK:=aj G;have zz:=aj F;have e3:(KD==3)=false:=by simp[h4]
   have e4:(KD==4)=true:=by simp[h4]
   have d':=(List.getElem?_eq_some_iff.1 hz).1;have yx:(i:Int)<m.items.length:=Zv;refine MO λBP dg=>?_;refine MP λIl=>?_;obtain⟨ib',io',ics',Ut,gz1,_,⟨_,rfl,_,_⟩,cr5⟩:=kI.at_ hz;injection Ut with Ut;injection Ut with hA1 hA2;subst hA1;subst hA2;have ce:aa c ib (io+i*7) (X2 (bs z.name)):=(bE.cell (p:=⟨ib,io+i*7,XM⟩) gz1).t (cr5 0 _ rfl);clear h4 G F H9 hz cr5 d0 d1 A d3 d4 d5;go_upto_region 9 with(fail)
   clear q0 q1 q2 q3 q4 q5 q6;have cU:=aj (λW(h:Below (db+1) c W)=>XU (dy (gl X h Zv)) (XU (bQ (gl jc h Zv)) (XU (gM (gl Kj h Zv)) ((h.cell (p:=⟨ib,io+i*7,XM⟩) (show ib<db+1 by omega)).t ce))));clear ce;refine eT (S:=Below (db+1) c) 12 14 (FE ((am c).mono Zv)) λhS=>?_;iterate 10 refine da 14 45 ?_
   refine bt 10 λK hK=>?_;go_simp;refine hK _ _ (by exact(ak (aW (am c)) _).mono (show db+1<=c by omega)) λhS=>?_;clear hK;refine aH ?_;refine bt 11 λK hK=>?_;refine xA rfl (Zt 46) (Zt 55) rfl (db+1) _ _ _ [bs z.name] rfl rfl (bR.below (xU.below (aW (am c))) (ak (am _) _)) (bR.src (bR.lit _ 0 _ (bU _))) Zy bN ?_;intro v' w7 BX gv;have sG:∀b,(Zk (XL (gr 0 XM)) 1 1).ownBlock=XL b->db+1<=b:=λb hb=>(X6 xU b hb).1;have D:=Below.grown ((ak (aW (am c)) _).mono (show db+1<=c by omega)) gv (by have:=(ak (aW (am c)) (Zq #[bs z.name] 9)).size;omega) sG;have J:=gl X D Zv;obtain⟨vA,vn,vc,rfl⟩:=eW BX;have tr:=aj BX;have Ki:=aj (gl jc D Zv);have Hi:=aj (gl Z D Zv);have iG:=aj (bE.t (D.mono Zv));have Dt:=D.size;have U_:=blk_lt J;refine hK _ _ (by exact D) λhS=>?_;clear hK;refine aH ?_;have U:=cO J 2;have A:=ag (o:=2) J rfl;have GL:=aj J;clear J;refine eA 12 λK hK=>?_;go_simp;refine fD ?_;clear hK;refine aH ?_;refine eA 13 λK hK=>?_;go_simp;refine fD ?_;clear hK;refine aH ?_;refine gc ?_;go_upto_region 11 with(fail)
   refine ca3 ?_;intro W8 ⟨E9,ox⟩;refine ca4 λvF pr xV iu Au=>?_;clear E9 ox U A hS D cU;obtain⟨d0,d1,A,d3,d4,d5⟩:=dy vF.o;obtain⟨z0,z1,z2,z3,z4,z5⟩:=dy pr.o;obtain⟨f0,f1,U,f3,f4,f5⟩:=Cf pr.o;go_wp2_with fail
   refine Gr rfl rfl rfl pr λW7 hk=>?_;refine⟨Zk vA vn vc,Zk XM 0 0,by rw[mM.o,zy.o,wz.o,wy.o];rfl,?_,?_,?_⟩
   .rw[oK.o];exact qi (tT (Ri (a:=[y.name]) (b:=[z.name]) xV) Zv) pr aD hk
   .rw[zz.o];exact qi (Yc _ _ _ _) pr aD hk
   .exact iu.t ((hk.below (fK (blk_lt pr))).mono Zv)
  .have oK:=aj G;have zz:=aj F;have e3:(KD==3)=false:=by simp[h0]
   have e4:(KD==4)=false:=by simp[h0]
   have e0:(KD==0)=true:=by simp[h0]
   clear h0 G F H9;go_upto_region 11 with(fail)
   clear q0 q1 q2 q3 q4 q5 q6 d0 d1 A d3 d4 d5;obtain⟨d0,d1,A,d3,d4,d5⟩:=dy X.o;obtain⟨z0,z1,z2,z3,z4,z5⟩:=dy Z.o;obtain⟨f0,f1,U,f3,f4,f5⟩:=Cf Z.o;go_wp2_with fail
   refine Gr rfl rfl rfl Z λW7 hk=>?_;refine⟨Zk (XL (gr 0 XM)) 1 1,Zk XM 0 0,by rw[mM.o,zy.o,wz.o,wy.o];rfl,?_,?_,?_⟩
   .rw[oK.o];exact qi (tT (ca1 xU) Zv) Z aD hk
   .rw[zz.o];exact qi (Yc _ _ _ _) Z aD hk
   .exact bE.t ((hk.below (fK (blk_lt Z))).mono Zv)
  .have oK:=aj G;have zz:=aj F;have e3:(KD==3)=false:=by simp;omega
   have e4:(KD==4)=false:=bN;have e0:(KD==0)=false:=bN;have f3:=cO X 3;clear hk G F H9;go_upto_region 11 with(fail)
   refine ez (λW=>af W db #[ah (10+KD),X2 ⟨#[]⟩,Zk (XL (gr 0 XM)) 1 1,Zk (XL (c 0 XM)) 1 1,Y,Zp AL] 100/\aL c db c W/\W.ownsRow w 3 1 (Zk (XL (c 0 XM)) 1 1) 1 [X1 .i64 N]) ⟨ai ((bf X 3 _).t rfl) (ak (am _) _),((aL.refl c db c).set (.inl rfl) _).t (aL.of_below (ak (am _) _) Zy Zy),mA _ #[X1 .i64 N] 1 _ _ 3 Zy Zv fH rfl⟩ ?_;intro W5 ⟨KY,V,qc⟩;have Ed:=aj KY;have uC:=aj (V.blk Z (blk_lt Z) Zv);have cT:=aj (bE.t ((V.below Zv).mono Zv));have NV:=aj qc;have nN:=aj (qi xU X aD V);have mK:=V.size;clear KY V qc q0 q1 q2 q3 q4 q5 q6 d0 d1 A d3 d4 d5 f3;obtain⟨d0,d1,A,d3,d4,d5⟩:=dy Ed.o;obtain⟨z0,z1,z2,z3,z4,z5⟩:=dy uC.o;obtain⟨f0,f1,U,f3,f4,f5⟩:=Cf uC.o;go_wp2_with fail
   refine Gr rfl rfl rfl uC λW7 hk=>?_;refine⟨Zk (XL (gr 0 XM)) 1 1,Zk (XL (c 0 XM)) 1 1,by rw[mM.o,zy.o,wz.o,wy.o];rfl,?_,?_,?_⟩
   .rw[oK.o];exact qi (tT (ca1 nN) Zv) uC aD hk
   .exact ca2
   .exact cT.t ((hk.below (fK (blk_lt uC))).mono Zv)
def gh2(m:aU)(mv:MV)(w:XO)(hm:m.In w w mv)(F:ew m=XR):
 X4 X3 31 #[Zr (m.cells mv)] w λe w'=>∃v,e=YT v/\ci 6 mS w' w' v (jO m)/\Below w w w':=by
 have I:=wh F;have HEq:=aj (AR m);have oz:=I.mn.2;have gu0:=I.sn.1;have b0:=I.sn.2;have b1:=I.fn;have b2:=I.rn;have b4:=I.ln;have b5:=I.xn;have b6:=I.un;have Ti:=aj I.racks;have zx:=aj I.machs;have zu:=aj I.links;have Bg:=aj I.items;have bu2:=aj I.rules;obtain⟨dj,K7⟩:∃j:Nat,m.dark=(j:Int)+1:=⟨(m.dark - 1).toNat,by have:=(jh.1 I.dark).1;omega⟩;have U8:dj<m.sites.length:=by have:=(jh.1 I.dark).2;omega
 have JN:=aj K7;have tt:=aj I.slots;have wE:=aj I.reserve;have NN:=aj I.failures;clear K7;refine DK λSa sc hs bZ bL Fa fc bS bM cj Ra rc hr cd cZ Ma mc gF cr co La lc ee cW dh Ia ic hi dg d' Ua uc hu dm dr=>?_;have EA:=aj λW(hb:Below w w W)=>cc4 m mv W (hm.to hb (ar _) hb.size);rw[F]at EA;have HS:=aj (nD m hs bS hr gF ee hi hu);have br0:=aj λW(hb:Below w w W)x o(hx:dV m x=XR)(ho:aS W W o x.on)=>gg9 m mv x o W (hm.to hb (ar _) hb.size) F hx ho;have N6:=aj λW(hb:Below w w W)x o(hx:qr m x)(ho:aS W W o x.ms)=>gh1 m mv x o W (hm.to hb (ar _) hb.size) F hx ho;rw[HS.o]at EA br0 N6⊢
 have qS:=hm.ss;have qF:=hm.fs;have qR:=hm.rs;have qM:=hm.ms;have qL:=hm.ls;have qI:=hm.is;have qU:=hm.us;rw[hs]at qS;rw[bS]at qF;rw[hr]at qR;rw[gF]at qM;rw[ee]at qL;rw[hi]at qI;rw[hu]at qU;have pS:=aj qS;have zr:=aj qF;have pq:=aj qR;have jY:=aj qM;have tq:=aj qL;have kI:=aj qI;have xX:=aj qU;clear qS qF qR qM qL qI qU hm hs bS hr gF ee hi hu bZ bL bM cj cd cZ cr co cW dh dg d' dm dr I F;go_enter func31,ntmps31;go_upto_region 1 with(fail)
 refine df ?_;intro X ⟨bP,eH⟩;have bp:=aj bP;have xY:=aj eH;have Pe:=blk_lt eH;clear bP eH;go_upto_region 2 with(fail)
 refine ez (λW=>km w [] W (Zk (XL (X 0 XM)) 0 0)/\Below X X W) ⟨⟨[],World.ownsRow_made X #[] 0 Pe fH rfl,rfl,by simp⟩,ak (am X) _⟩ ?_;intro W2 ⟨lA,au⟩;have aX:=aj (aq bp au);have nq:=aj (ai xY au);have vG:=aj lA;generalize X.heap.size=g0 at vG⊢
 clear lA au;obtain⟨a0,a1,a2,a3,a4,a5,a6,a7,a8,a9,cN⟩:=bQ nq.o;go_upto_region 4 with(go_at_call 66;refine(EA _ aX).r λJ aM=>?_)
 clear a0 a1 a2 a3 a4 a5 a6 a7 a8 a9 cN;have jc:=aj (ai nq aM);have bE:=aj (aq aX aM);have CE:=aj (vG.later aM);have Aj:w.heap.size+1<=J:=blk_lt (ai nq aM);have up:=aj ((am J).mono Aj);clear aM;go_upto_region 5 with(fail)
 go_loopw [3,4] (λs i wr=>∃k:Nat,k<=m.sites.length/\i=ah k/\km w (([]:List aG)++(m.sites.take k).map (λs:ay=>({kind:=0,name:=s}:aG))) wr s/\Below (w+1) J wr) (λ_ i _=>m.sites.length - (X8 i).toNat)
 case atStart=>exact⟨0,bU _,rfl,CE.to Zy,up⟩
 case round=>
  obtain⟨k,hk,rfl,C,hb⟩:=hrel;obtain⟨A,nn,c,rfl⟩:=C.form;have fM:=aj C;have fC:=aj hb;refine Gu λbB eh fT a0 a1 a2 a3 a4 a5 a6 a7 a8 a9 cN=>?_;clear C hb;by_cases z:k<m.sites.length
  .obtain⟨kh,D⟩:=dt z;have fp:=aj z;obtain⟨x,hx⟩:=jd z;have HT:=aj (vz (f:=(λs:ay=>({kind:=0,name:=s}:aG))) (([]:List aG)) hx);have G:(([]:List aG)++(m.sites.take k).map (λs:ay=>({kind:=0,name:=s}:aG))).length<1000000:=by simp[dS,dF,dR,dM,dL,dI,dD,dX];omega
   obtain⟨xb,xo,rfl,fe,i'⟩:=bg.cell pS hx;have ck:=kc bB i';clear hx i' fe;go_upto_region 7 with(fail)
   refine wp_region_lit ?_;iterate 8
    refine yS λK hK=>?_;go_simp;refine hK _ _ ?_;clear hK;refine aH ?_
   refine RJ rfl (Zt 26) (Zt 33) rfl w.heap.size _ {kind:=0,name:=x} _ _ _ _ _ rfl rfl (cR _ _) rfl (fM.later (ak (am _) _)) G (wu.bare rfl rfl Zy) bN ?_;exact ca5
  .have D:=eS z;have CG:=aj (fM.to (show _=dS m from vB (f:=(λs:ay=>({kind:=0,name:=s}:aG))) (([]:List aG)) (Nat.le_of_not_lt z)));have tj:=fC;clear fM fC bB fT z hk CE up;go_upto_region 8 with(fail)
   clear D a0 a1 a2 a3 a4 a5 a6 a7 a8 a9 cN;go_upto_region 9 with(fail)
   go_loopw [3,5] (λs i wr=>∃k:Nat,k<=m.feeds.length/\i=ah k/\km w (dS m++(m.feeds.take k).map (λs:ay=>({kind:=1,name:=s}:aG))) wr s/\Below (w+1) J wr) (λ_ i _=>m.feeds.length - (X8 i).toNat)
   case atStart=>exact⟨0,bU _,rfl,CG.to Zy,tj⟩
   case round=>
    obtain⟨k,hk,rfl,C,hb⟩:=hrel;obtain⟨A,nn,c,rfl⟩:=C.form;have fM:=aj C;have fC:=aj hb;refine Gu λbB eh fT a0 a1 a2 a3 a4 a5 a6 a7 a8 a9 cN=>?_;clear C hb;by_cases z:k<m.feeds.length
    .obtain⟨kh,D⟩:=dt z;have fp:=aj z;obtain⟨x,hx⟩:=jd z;have HT:=aj (vz (f:=(λs:ay=>({kind:=1,name:=s}:aG))) (dS m) hx);have G:(dS m++(m.feeds.take k).map (λs:ay=>({kind:=1,name:=s}:aG))).length<1000000:=by simp[dS,dF,dR,dM,dL,dI,dD,dX];omega
     obtain⟨xb,xo,rfl,fe,i'⟩:=bg.cell zr hx;have ck:=kc bB i';clear hx i' fe;go_upto_region 11 with(fail)
     refine wp_region_lit ?_;iterate 8
      refine yS λK hK=>?_;go_simp;refine hK _ _ ?_;clear hK;refine aH ?_
     refine RJ rfl (Zt 42) (Zt 49) rfl w.heap.size _ {kind:=1,name:=x} _ _ _ _ _ rfl rfl (cR _ _) rfl (fM.later (ak (am _) _)) G (wu.bare rfl rfl Zy) bN ?_;exact ca5
    .have D:=eS z;have vG:=aj (fM.to (show _=dS m++dF m from vB (f:=(λs:ay=>({kind:=1,name:=s}:aG))) (dS m) (Nat.le_of_not_lt z)));have ik:=fC;clear fM fC bB fT z hk CG tj;go_upto_region 12 with(fail)
     clear D a0 a1 a2 a3 a4 a5 a6 a7 a8 a9 cN;go_upto_region 13 with(fail)
     go_loopw [3,6] (λs i wr=>∃k:Nat,k<=m.racks.length/\i=ah k/\km w (dS m++dF m++(m.racks.take k).map (mU m)) wr s/\Below (w+1) J wr) (λ_ i _=>m.racks.length - (X8 i).toNat)
     case atStart=>exact⟨0,bU _,rfl,vG.to Zy,ik⟩
     case round=>
      obtain⟨k,hk,rfl,C,hb⟩:=hrel;obtain⟨A,nn,c,rfl⟩:=C.form;have fM:=aj C;have fC:=aj hb;refine Gu λbB eh fT a0 a1 a2 a3 a4 a5 a6 a7 a8 a9 cN=>?_;clear C hb;by_cases z:k<m.racks.length
      .obtain⟨kh,D⟩:=dt z;have fp:=aj z;obtain⟨x,hx⟩:=jd z;have HT:=aj (vz (f:=(mU m)) (dS m++dF m) hx);have G:(dS m++dF m++(m.racks.take k).map (mU m)).length<1000000:=by simp[dS,dF,dR,dM,dL,dI,dD,dX];omega
       obtain⟨mb,mo,cs,rfl,gw,_,⟨rfl,_⟩,eG⟩:=pq.at_ hx;have F:=Ti x (eE hx);obtain⟨nm,st,fd⟩:=x;simp only at F eG HT;have C:=jh.1 F.1;have hi:=jh.1 F.2;obtain⟨j,vR⟩:∃j:Nat,st=(j:Int)+1:=⟨(st - 1).toNat,by omega⟩;subst vR;refine Rj λjK nf lA uR sy=>?_;obtain⟨i,Ff⟩:∃j:Nat,fd=(j:Int)+1:=⟨(fd - 1).toNat,by omega⟩;subst Ff;refine MO λBP dg=>?_;have d':(i:Int)<m.feeds.length:=Zv;have yx:i<m.feeds.length:=Zv;refine MP λIl=>?_;obtain⟨yj,ml⟩:∃y,m.sites[j]?=XL y:=⟨_,XT uR⟩;obtain⟨bj,oj,rfl,q',nH⟩:=bg.cell pS ml;have ej:=kc bB nH;obtain⟨yi,sI⟩:∃y,m.feeds[i]?=XL y:=⟨_,XT yx⟩;obtain⟨bi,oi,rfl,E4,uO⟩:=bg.cell zr sI;have ei:=kc bB uO;refine QJ λx0 x1 x2=>?_;have HD:=aj (show mU m ⟨nm,(j:Int)+1,(i:Int)+1⟩={kind:=2,name:=nm,refs:=[yj,yi]}from by unfold mU;simp only[xK ml,xK sI]);clear hx eG gw F z q' nH E4 uO;go_upto_region 16 with(fail)
       clear D a0 a1 a2 a3 a4 a5 a6 a7 a8 a9 cN;refine df ?_;intro Wx ⟨fE,kj⟩;refine RN λlh iN jL=>?_;refine QL λcU=>?_;clear fE kj x0 x1 x2 ej ei;refine eT (S:=Below Wx Wx) 20 22 (aW (am Wx)) λhS=>?_;iterate 17 refine nz 22 63 ?_
       refine bt 17 λK hK=>?_;go_simp;have lj:=aj (rQ hS (Wx.heap.size) (w+1) iN #[bs yj,bs yi] 2 9 Zy fH rfl);refine ip λhS=>?_;clear hK;refine aH ?_;refine gg7 hS lj ?_;clear hS lj;intro Wm hS O;refine bt 18 λK hK=>?_;go_simp;refine xN λhS=>?_;clear hK;refine aH ?_;refine bt 19 λK hK=>?_;go_simp;refine Jl λlV=>?_;clear hK;refine aH ?_;refine eA 20 λK hK=>?_;refine Jk rfl (Zt 63) (Zt 82) rfl w.heap.size _ {kind:=2,name:=nm,refs:=[yj,yi]} _ _ _ _ rfl rfl rfl (jL.later hS) G ⟨O,Yc _ _ _ _,by simp,by simp,by simp⟩ (bC iN hS.size) ?_;intro A' n' c' w4 sw aV;refine fD ?_;clear hK;refine aH ?_;refine eA 21 λK hK=>?_;go_simp;refine fD ?_;clear hK;refine aH ?_;refine gc ?_;go_wp2_with fail
       exact⟨⟨k+1,fp,by go_num,sw.to Og,(lh.t (hS.mono iN)).t aV⟩,by have:=fp.o;simp[X8];omega⟩
      .have D:=eS z;have CH:=aj (fM.to (show _=dS m++dF m++dR m from vB (f:=(mU m)) (dS m++dF m) (Nat.le_of_not_lt z)));have po:=fC;clear fM fC bB fT z hk vG ik;go_upto_region 17 with(fail)
       clear D a0 a1 a2 a3 a4 a5 a6 a7 a8 a9 cN;go_upto_region 18 with(fail)
       go_loopw [3,8] (λs i wr=>∃k:Nat,k<=m.machs.length/\i=ah k/\km w (dS m++dF m++dR m++(m.machs.take k).map (mV m)) wr s/\Below (w+1) J wr) (λ_ i _=>m.machs.length - (X8 i).toNat)
       case atStart=>exact⟨0,bU _,rfl,CH.to Zy,po⟩
       case round=>
        obtain⟨k,hk,rfl,C,hb⟩:=hrel;obtain⟨A,nn,c,rfl⟩:=C.form;have fM:=aj C;have fC:=aj hb;refine Gu λbB eh fT a0 a1 a2 a3 a4 a5 a6 a7 a8 a9 cN=>?_;clear C hb;by_cases z:k<m.machs.length
        .obtain⟨kh,D⟩:=dt z;have fp:=aj z;obtain⟨x,hx⟩:=jd z;have HT:=aj (vz (f:=(mV m)) (dS m++dF m++dR m) hx);have G:(dS m++dF m++dR m++(m.machs.take k).map (mV m)).length<1000000:=by simp[dS,dF,dR,dM,dL,dI,dD,dX];omega
         obtain⟨mb,mo,cs,rfl,gw,_,⟨rfl,_⟩,eG⟩:=jY.at_ hx;have F:=zx x (eE hx);obtain⟨nm,rk,cp⟩:=x;simp only at F eG HT;have C:=jh.1 F.1;have Ab:=F.2;obtain⟨j,vR⟩:∃j:Nat,rk=(j:Int)+1:=⟨(rk - 1).toNat,by omega⟩;subst vR;have jK:(0:Int)<=j:=Zv;have nf:(j:Int)+1 - 1=j:=Zv;have lA:(j:Int)<m.racks.length:=Zv;have uR:j<m.racks.length:=Zv;refine MN λsy=>?_;obtain⟨cq,ot⟩:∃j:Nat,cp=(j:Int):=⟨cp.toNat,by omega⟩;subst ot;have U5:cq<=1048576:=Zv;have E7:((cq:Int)).toNat=cq:=Zv;obtain⟨yj,ml⟩:∃y,m.racks[j]?=XL y:=⟨_,XT uR⟩;obtain⟨bj,oj,csj,rfl,q',_,⟨rfl,_⟩,nH⟩:=pq.at_ ml;have ej:aa wr bj (oj+j*3) (X2 (bs yj.name)):=(bB.cell (p:=⟨bj,oj+j*3,XM⟩) q').t (nH 0 _ rfl);refine QJ λx0 x1 x2=>?_;have HD:=aj (show mV m ⟨nm,(j:Int)+1,(cq:Int)⟩={kind:=3,name:=nm,refs:=[yj.name],nums:=[cq]}from by unfold mV;simp only[xK (bf2 ml),E7]);clear hx eG gw F z q' nH;go_upto_region 21 with(fail)
         clear D a0 a1 a2 a3 a4 a5 a6 a7 a8 a9 cN;refine df ?_;intro Wx ⟨fE,kj⟩;refine RN λlh iN jL=>?_;have cU:=aj λW(h:Below Wx Wx W)=>(XU (bQ (ai (ai fT fE) h)) (XU (IV (ai kj h)) (kc h (kc fE ej))));clear fE kj x0 x1 x2 ej;refine eT (S:=Below Wx Wx) 17 19 (aW (am Wx)) λhS=>?_;iterate 11 refine nz 19 96 ?_
         refine jC 12 108 ?_;refine jC 13 109 ?_;refine ny (rs:=[11,14]) aI Zy ?_;refine dC.cons1 de ?_ (dC.cons1 de ?_ dC.nil)
         focus
          intro K hK;go_simp;have lj:=aj (rQ hS (Wx.heap.size) (w+1) iN #[bs yj.name] 1 9 Zy fH rfl);refine ip λhS=>?_;clear hK;refine aH ?_;refine bt 14 λK hK=>?_;go_simp;refine ca6 λlj mO=>?_;refine ip λhS=>?_;clear hK;refine aH ?_
         rotate_left
         focus
          intro K hK;go_simp;have mO:=aj (rQ hS (Wx.heap.size) (w+1) iN #[X1 .i64 (cq:Int)] 1 3 Zy fH rfl);refine ip λhS=>?_;clear hK;refine aH ?_;refine bt 11 λK hK=>?_;go_simp;have mO:=aj (eI mO (ak (am _) (Zq #[bs yj.name] 9)));have lj:=aj (rQ hS (Wx+1) (w.heap.size+1) iN #[bs yj.name] 1 9 Zy fH rfl);refine ip λhS=>?_;clear hK;refine aH ?_
         rotate_left;all_goals
          refine RK hS lj mO ?_;clear hS lj mO;intro Wm hS O Z;refine bt 15 λK hK=>?_;go_simp;refine xN λhS=>?_;clear hK;refine aH ?_;refine bt 16 λK hK=>?_;go_simp;refine Jl λlV=>?_;clear hK;refine aH ?_;refine eA 17 λK hK=>?_;refine Jk rfl (Zt 96) (Zt 112) rfl w.heap.size _ {kind:=3,name:=nm,refs:=[yj.name],nums:=[cq]} _ _ _ _ rfl rfl rfl (jL.later hS) G ⟨O,Z,by simp,by simp,by simp;omega⟩ (bC iN hS.size) ?_;intro A' n' c' w4 sw aV;refine fD ?_;clear hK;refine aH ?_;refine eA 18 λK hK=>?_;go_simp;refine fD ?_;clear hK;refine aH ?_;refine gc ?_;go_wp2_with fail
          exact⟨⟨k+1,fp,by go_num,sw.to Og,(lh.t (hS.mono iN)).t aV⟩,by have:=fp.o;simp[X8];omega⟩
        .have D:=eS z;have CI:=aj (fM.to (show _=dS m++dF m++dR m++dM m from vB (f:=(mV m)) (dS m++dF m++dR m) (Nat.le_of_not_lt z)));have il:=fC;clear fM fC bB fT z hk CH po;go_upto_region 22 with(fail)
         clear D a0 a1 a2 a3 a4 a5 a6 a7 a8 a9 cN;go_upto_region 23 with(fail)
         go_loopw [3,10] (λs i wr=>∃k:Nat,k<=m.links.length/\i=ah k/\km w (dS m++dF m++dR m++dM m++(m.links.take k).map (oR m)) wr s/\Below (w+1) J wr) (λ_ i _=>m.links.length - (X8 i).toNat)
         case atStart=>exact⟨0,bU _,rfl,CI.to Zy,il⟩
         case round=>
          obtain⟨k,hk,rfl,C,hb⟩:=hrel;obtain⟨A,nn,c,rfl⟩:=C.form;have fM:=aj C;have fC:=aj hb;refine Gu λbB eh fT a0 a1 a2 a3 a4 a5 a6 a7 a8 a9 cN=>?_;clear C hb;by_cases z:k<m.links.length
          .obtain⟨kh,D⟩:=dt z;have fp:=aj z;obtain⟨x,hx⟩:=jd z;have HT:=aj (vz (f:=(oR m)) (dS m++dF m++dR m++dM m) hx);have G:(dS m++dF m++dR m++dM m++(m.links.take k).map (oR m)).length<1000000:=by simp[dS,dF,dR,dM,dL,dI,dD,dX];omega
           obtain⟨mb,mo,cs,rfl,gw,_,⟨rfl,_⟩,eG⟩:=tq.at_ hx;have F:=zu x (eE hx);obtain⟨sa,sb,cp⟩:=x;simp only at F eG HT;have C:=jh.1 F.1;have hi:=jh.1 F.2.1;have Ab:=F.2.2.2;obtain⟨j,vR⟩:∃j:Nat,sa=(j:Int)+1:=⟨(sa - 1).toNat,by omega⟩;subst vR;refine Rj λjK nf lA uR sy=>?_;obtain⟨i,Ff⟩:∃j:Nat,sb=(j:Int)+1:=⟨(sb - 1).toNat,by omega⟩;subst Ff;refine MO λBP dg=>?_;have d':(i:Int)<m.sites.length:=Zv;have yx:i<m.sites.length:=Zv;refine MP λIl=>?_;obtain⟨cq,ot⟩:∃j:Nat,cp=(j:Int):=⟨cp.toNat,by omega⟩;subst ot;have U5:cq<=1048576:=Zv;have E7:((cq:Int)).toNat=cq:=Zv;obtain⟨yj,ml⟩:∃y,m.sites[j]?=XL y:=⟨_,XT uR⟩;obtain⟨bj,oj,rfl,q',nH⟩:=bg.cell pS ml;have ej:=kc bB nH;obtain⟨yi,sI⟩:∃y,m.sites[i]?=XL y:=⟨_,XT yx⟩;obtain⟨bi,oi,ER,E4,uO⟩:=bg.cell pS sI;injection ER with ER;injection ER with hAi1 hAi2;subst hAi1;subst hAi2;refine bg0 λei x0 x1 x2=>?_;have HD:=aj (show oR m ⟨(j:Int)+1,(i:Int)+1,(cq:Int)⟩={kind:=4,refs:=[yj,yi],nums:=[cq]}from by unfold oR;simp only[xK ml,xK sI,E7]);clear hx eG gw F z q' nH E4 uO;go_upto_region 26 with(fail)
           clear D a0 a1 a2 a3 a4 a5 a6 a7 a8 a9 cN;refine df ?_;intro Wx ⟨fE,kj⟩;refine RN λlh iN jL=>?_;refine QL λcU=>?_;clear fE kj x0 x1 x2 ej ei;refine eT (S:=Below Wx Wx) 21 23 (aW (am Wx)) λhS=>?_;iterate 15 refine nz 23 126 ?_
           refine jC 16 142 ?_;refine jC 17 143 ?_;refine ny (rs:=[15,18]) aI Zy ?_;refine dC.cons1 de ?_ (dC.cons1 de ?_ dC.nil)
           focus
            intro K hK;go_simp;have lj:=aj (rQ hS (Wx.heap.size) (w+1) iN #[bs yj,bs yi] 2 9 Zy fH rfl);refine ip λhS=>?_;clear hK;refine aH ?_;refine bt 18 λK hK=>?_;go_simp;refine ca6 λlj mO=>?_;refine ip λhS=>?_;clear hK;refine aH ?_
           rotate_left
           focus
            intro K hK;go_simp;have mO:=aj (rQ hS (Wx.heap.size) (w+1) iN #[X1 .i64 (cq:Int)] 1 3 Zy fH rfl);refine ip λhS=>?_;clear hK;refine aH ?_;refine bt 15 λK hK=>?_;go_simp;have mO:=aj (eI mO (ak (am _) (Zq #[bs yj,bs yi] 9)));have lj:=aj (rQ hS (Wx+1) (w.heap.size+1) iN #[bs yj,bs yi] 2 9 Zy fH rfl);refine ip λhS=>?_;clear hK;refine aH ?_
           rotate_left;all_goals
            refine RK hS lj mO ?_;clear hS lj mO;intro Wm hS O Z;refine bt 19 λK hK=>?_;go_simp;refine xN λhS=>?_;clear hK;refine aH ?_;refine bt 20 λK hK=>?_;go_simp;refine Jl λlV=>?_;clear hK;refine aH ?_;refine eA 21 λK hK=>?_;refine Jk rfl (Zt 126) (Zt 146) rfl w.heap.size _ {kind:=4,refs:=[yj,yi],nums:=[cq]} _ _ _ _ rfl rfl rfl (jL.later hS) G ⟨O,Z,by simp,by simp,by simp;omega⟩ (bC iN hS.size) ?_;intro A' n' c' w4 sw aV;refine fD ?_;clear hK;refine aH ?_;refine eA 22 λK hK=>?_;go_simp;refine fD ?_;clear hK;refine aH ?_;refine gc ?_;go_wp2_with fail
            exact⟨⟨k+1,fp,by go_num,sw.to Og,(lh.t (hS.mono iN)).t aV⟩,by have:=fp.o;simp[X8];omega⟩
          .have D:=eS z;have CJ:=aj (fM.to (show _=dS m++dF m++dR m++dM m++dL m from vB (f:=(oR m)) (dS m++dF m++dR m++dM m) (Nat.le_of_not_lt z)));have gK:=fC;clear fM fC bB fT z hk CI il;go_upto_region 27 with(fail)
           clear D a0 a1 a2 a3 a4 a5 a6 a7 a8 a9 cN;go_upto_region 28 with(fail)
           go_loopw [3,12] (λs i wr=>∃k:Nat,k<=m.items.length/\i=ah k/\km w (dS m++dF m++dR m++dM m++dL m++(m.items.take k).map (kP m)) wr s/\Below (w+1) J wr) (λ_ i _=>m.items.length - (X8 i).toNat)
           case atStart=>exact⟨0,bU _,rfl,CJ.to Zy,gK⟩
           case round=>
            obtain⟨k,hk,rfl,C,hb⟩:=hrel;obtain⟨A,nn,c,rfl⟩:=C.form;have fM:=aj C;have fC:=aj hb;refine Gu λbB eh fT a0 a1 a2 a3 a4 a5 a6 a7 a8 a9 cN=>?_;clear C hb;by_cases z:k<m.items.length
            .obtain⟨kh,D⟩:=dt z;have fp:=aj z;obtain⟨x,hx⟩:=jd z;have HT:=aj (vz (f:=(kP m)) (dS m++dF m++dR m++dM m++dL m) hx);have G:(dS m++dF m++dR m++dM m++dL m++(m.items.take k).map (kP m)).length<1000000:=by simp[dS,dF,dR,dM,dL,dI,dD,dX];omega
             obtain⟨mb,mo,cs,rfl,gw,_,⟨ov,rfl,oB,_⟩,eG⟩:=kI.at_ hx;have Fh:=Bg x (eE hx);have H5:=aj (gg6 Fh);have Ey:=aj λW(hW:Below w w W)=>br0 W hW x ov Fh ((oB.below hW (ar _)).more hW.size);obtain⟨oA,on,oc,rfl,_,_,_⟩:=oB.sk.form;have x0:aa wr mb (mo+k*7) (X2 (bs x.name)):=(bB.cell (p:=⟨mb,mo+k*7,XM⟩) gw).t (eG 0 _ rfl);refine QM λx1 x2 x3 x4 x5 x6=>?_;refine ca7 λcA cU=>?_;clear hx eG gw oB Fh;go_upto_region 30 with(fail)
             clear D a0 a1 a2 a3 a4 a5 a6 a7 a8 a9 cN x0 x1 x2 x3 x4 x5 x6;refine eT (S:=Below wr wr) 9 11 (aW (am wr)) λhS=>?_;iterate 7 refine nz 11 155 ?_
             refine bt 7 λK hK=>?_;go_simp;refine(Ey _ (aq bB hS)).m ?_;rintro e w5 ⟨rv,nv,rfl,U,V,bx⟩;obtain⟨rA,rn,rc',rfl⟩:=eW U;obtain⟨nA,nm,nc,rfl⟩:=eW V;have mK:w.heap.size+1<=_:=bC eh hS.size;have lj:=aj (tT U mK);have mO:=aj (tT V mK);try go_simp
             refine hK _ _ (by exact aq hS bx) λhS=>?_;clear hK U V;refine aH ?_;refine bt 8 λK hK=>?_;go_simp;refine Jl λlV=>?_;clear hK;refine aH ?_;refine eA 9 λK hK=>?_;refine Jk rfl (Zt 155) (Zt 163) rfl w.heap.size _ (kP m x) _ _ _ _ rfl rfl rfl (fM.later hS) G ⟨lj,mO,H5⟩ (bC eh hS.size) ?_;exact ca8
            .have D:=eS z;have CK:=aj (fM.to (show _=dS m++dF m++dR m++dM m++dL m++dI m from vB (f:=(kP m)) (dS m++dF m++dR m++dM m++dL m) (Nat.le_of_not_lt z)));have nL:=fC;clear fM fC bB fT z hk CJ gK;go_upto_region 31 with(fail)
             clear D a0 a1 a2 a3 a4 a5 a6 a7 a8 a9 cN;refine ez (λW=>km w (dS m++dF m++dR m++dM m++dL m++dI m) W (Zk A nn c)/\Below (w+1) J W) ⟨CK,nL⟩ ?_;intro Wx ⟨C,hb⟩;clear CK nL;have jL:=aj C;have lh:=aj hb;have oz:=gl jc hb (YU _);have iN:=bC Aj hb.size;have jA:=aj (Below.t bE (hb.mono (Y5 _)));clear C hb;obtain⟨s1,bZ⟩:∃j:Nat,m.slots=(j:Int):=⟨m.slots.toNat,by have:=tt.o;omega⟩;obtain⟨Y,cd⟩:∃j:Nat,m.reserve=(j:Int):=⟨m.reserve.toNat,by have:=wE.o;omega⟩;have nh:s1<=16/\Y<=16:=by have:=tt.o;have:=wE.o;omega
             obtain⟨yj,ml⟩:∃y,m.sites[dj]?=XL y:=⟨_,XT U8⟩;have wA:=aj (show dD m=[{kind:=8,refs:=[yj],nums:=[s1,Y]}]from by unfold dD;rw[JN.o,xK ml,bZ,cd];rfl);rw[JN.o,bZ,cd]at oz;obtain⟨bj,oj,rfl,q',nH⟩:=bg.cell pS ml;refine bg3 λej jK nf lA sy=>?_;have G:(dS m++dF m++dR m++dM m++dL m++dI m).length<1000000:=by simp[dS,dF,dR,dM,dL,dI,dD,dX];omega
             clear bZ cd ml q' nH;have cU:=aj λW(h:Below Wx Wx W)=>XU (bQ (ai oz h)) (kc h ej);clear oz ej;go_cut [3] (λs wx=>km w (dS m++dF m++dR m++dM m++dL m++dI m++dD m) wx s/\Below (w+1) J wx)
             case first=>
              refine eT (S:=Below Wx Wx) 16 18 (aW (am Wx)) λhS=>?_;iterate 8 refine nz 18 165 ?_
              refine jC 9 174 ?_;refine jC 10 175 ?_;refine jC 11 176 ?_;refine jC 12 177 ?_;refine ny (rs:=[8,13]) aI Zy ?_;refine dC.cons1 de ?_ (dC.cons1 de ?_ dC.nil)
              focus
               intro K hK;go_simp;have lj:=aj (rQ hS (Wx.heap.size) (w+1) iN #[bs yj] 1 9 Zy fH rfl);refine ip λhS=>?_;clear hK;refine aH ?_;refine bt 13 λK hK=>?_;go_simp;have lj:=aj (eI lj (ak (am _) (Zq #[X1 .i64 (s1:Int),X1 .i64 (Y:Int)] 3)));have mO:=aj (rQ hS (Wx+1) (w.heap.size+1) iN #[X1 .i64 (s1:Int),X1 .i64 (Y:Int)] 2 3 Zy fH rfl);refine ip λhS=>?_;clear hK;refine aH ?_
              rotate_left
              focus
               intro K hK;go_simp;have mO:=aj (rQ hS (Wx.heap.size) (w+1) iN #[X1 .i64 (s1:Int),X1 .i64 (Y:Int)] 2 3 Zy fH rfl);refine ip λhS=>?_;clear hK;refine aH ?_;refine bt 8 λK hK=>?_;go_simp;have mO:=aj (eI mO (ak (am _) (Zq #[bs yj] 9)));have lj:=aj (rQ hS (Wx+1) (w.heap.size+1) iN #[bs yj] 1 9 Zy fH rfl);refine ip λhS=>?_;clear hK;refine aH ?_
              rotate_left;all_goals
               refine RK hS lj mO ?_;clear hS lj mO;intro Wm hS O Z;refine bt 14 λK hK=>?_;go_simp;refine xN λhS=>?_;clear hK;refine aH ?_;refine bt 15 λK hK=>?_;go_simp;refine Jl λlV=>?_;clear hK;refine aH ?_;refine eA 16 λK hK=>?_;refine Jk rfl (Zt 165) (Zt 180) rfl w.heap.size _ {kind:=8,refs:=[yj],nums:=[s1,Y]} _ _ _ _ rfl rfl rfl (jL.later hS) G ⟨O,Z,by simp,by simp,by simp;omega⟩ (bC iN hS.size) ?_;intro A' n' c' w4 sw aV;refine fD ?_;clear hK;refine aH ?_;refine eA 17 λK hK=>?_;go_simp;refine fD ?_;clear hK;refine aH ?_;refine gc ?_;go_wp2_with fail
               go_meet;exact⟨sw.to (by rw[<-wA.o]),(lh.t (hS.mono iN)).t aV⟩
             case rest=>
              obtain⟨C,hb⟩:=hcut;clear cU jL lh jA wA G;obtain⟨A,nn,c,rfl⟩:=C.form;have Bh:=aj C;have j':=aj hb;have iN:=bC Aj hb.size;obtain⟨a0,a1,a2,a3,a4,a5,a6,a7,a8,a9,cN⟩:=bQ (gl jc hb (YU _));clear C hb;by_cases hf:0<m.failures
              focus
               obtain⟨f1,bM⟩:∃j:Nat,m.failures=(j:Int):=⟨m.failures.toNat,by omega⟩;have gy0:f1<=7:=by have:=NN.o;omega
               have xR:=aj (show dX m=[{kind:=9,by_:=f1}]from by unfold dX;rw[if_pos hf,bM];rfl);rw[bM]at hf a9;have bS:((f1:Int)!=0)=true:=bN;have cj:¬(f1:Int)=0:=Zv;have G:(dS m++dF m++dR m++dM m++dL m++dI m++dD m).length<1000000:=by simp[dS,dF,dR,dM,dL,dI,dD,dX];omega
               clear bM hf;go_upto_region 33 with(fail)
               refine wp_region_lit ?_;iterate 5
                refine yS λK hK=>?_;go_simp;refine hK _ _ ?_;clear hK;refine aH ?_
               refine RJ rfl (Zt 185) (Zt 189) rfl w.heap.size _ {kind:=9,by_:=f1} _ _ _ _ _ rfl rfl (cR _ _) rfl (Bh.later (ak (am _) _)) G (wu.bare rfl rfl bN) bN ?_;intro A9 n9 c9 w4 sw aV;refine yS λK hK=>?_;go_simp;refine hK _ _ ?_;clear hK;refine aH ?_;refine _root_.Go.wpList_nil ?_;clear a0 a1 a2 a3 a4 a5 a6 a7 a8 a9 cN;have GQ:=aj (sw.to (show _=dS m++dF m++dR m++dM m++dL m++dI m++dD m++dX m from by rw[xR.o]));have Bi:=aj (j'.t (((ak (am _) _).mono iN).t aV));clear sw aV Bh j' bS cj xR G
              rotate_left
              focus
               have xR:=aj (show dX m=[]from by unfold dX;rw[if_neg hf]);have bS:(m.failures !=0)=false:=by
                have gx9:m.failures=0:=by have:=NN.o;omega
                rw[gx9];rfl
               clear hf;go_upto_region 34 with(fail)
               clear a0 a1 a2 a3 a4 a5 a6 a7 a8 a9 cN bS;have GQ:=aj (Bh.to (show _=dS m++dF m++dR m++dM m++dL m++dI m++dD m++dX m from by rw[xR.o,Zd]));have Bi:=j';clear Bh j' xR
              all_goals
               go_upto_region 35 with(fail)
               go_loopw [3,13] (λs i wr=>∃k:Nat,k<=m.rules.length/\i=ah k/\km w (dS m++dF m++dR m++dM m++dL m++dI m++dD m++dX m++(m.rules.take k).map (ch m)) wr s/\Below (w+1) J wr) (λ_ i _=>m.rules.length - (X8 i).toNat)
               case atStart=>exact⟨0,bU _,rfl,GQ.to Zy,Bi⟩
               case round=>
                obtain⟨k,hk,rfl,C,hb⟩:=hrel;obtain⟨A,nn,c,rfl⟩:=C.form;have fM:=aj C;have fC:=aj hb;refine Gu λbB eh fT a0 a1 a2 a3 a4 a5 a6 a7 a8 a9 cN=>?_;clear C hb GQ Bi;by_cases z:k<m.rules.length
                .obtain⟨kh,D⟩:=dt z;have fp:=aj z;obtain⟨x,hx⟩:=jd z;have HT:=aj (vz (f:=(ch m)) (dS m++dF m++dR m++dM m++dL m++dI m++dD m++dX m) hx);have G:(dS m++dF m++dR m++dM m++dL m++dI m++dD m++dX m++(m.rules.take k).map (ch m)).length<1000000:=by simp[dS,dF,dR,dM,dL,dI,dD,dX];split<;>simp<;>omega
                 obtain⟨mb,mo,cs,rfl,gw,_,⟨ov,rfl,oB,_⟩,eG⟩:=xX.at_ hx;refine ca9 λBZ H5 Ey=>?_;obtain⟨oA,on,oc,rfl,_,_,_⟩:=oB.sk.form;have x0:aa wr mb (mo+k*7) (ah x.kind):=(bB.cell (p:=⟨mb,mo+k*7,XM⟩) gw).t (eG 0 _ rfl);refine QM λx1 x2 x3 x4 x5 x6=>?_;refine ca7 λcA cU=>?_;clear hx eG gw oB BZ;go_upto_region 37 with(fail)
                 clear D a0 a1 a2 a3 a4 a5 a6 a7 a8 a9 cN x0 x1 x2 x3 x4 x5 x6;refine eT (S:=Below wr wr) 9 11 (aW (am wr)) λhS=>?_;iterate 7 refine nz 11 198 ?_
                 refine bt 7 λK hK=>?_;go_simp;refine(Ey _ (aq bB hS)).m ?_;rintro e w5 ⟨rv,nv,rfl,U,V,bx⟩;obtain⟨rA,rn,rc',rfl⟩:=eW U;obtain⟨nA,nm,nc,rfl⟩:=eW V;have mK:w.heap.size+1<=_:=bC eh hS.size;have lj:=aj (tT U mK);have mO:=aj (tT V mK);try go_simp
                 refine hK _ _ (by exact aq hS bx) λhS=>?_;clear hK U V;refine aH ?_;refine bt 8 λK hK=>?_;go_simp;refine Jl λlV=>?_;clear hK;refine aH ?_;refine eA 9 λK hK=>?_;refine Jk rfl (Zt 198) (Zt 206) rfl w.heap.size _ (ch m x) _ _ _ _ rfl rfl rfl (fM.later hS) G ⟨lj,mO,H5⟩ (bC eh hS.size) ?_;exact ca8
                .have D:=eS z;have HE:=aj (fM.to (show _=jO m from by rw[vB (f:=(ch m)) (dS m++dF m++dR m++dM m++dL m++dI m++dD m++dX m) (Nat.le_of_not_lt z),HEq.o];simp only[uJ,List.append_assoc]));go_wp2_with fail
                 go_ret;exact⟨_,rfl,HE.sl,bB⟩
end
end Go.Proofs.YtihhpjmclebfpaaGreatDoor
