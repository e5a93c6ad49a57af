/- A part of the proof. -/
import Derived.Test.YtklfdkdebgfmiaaGreatDoorQbv
import Derived.Test.YtklfdkdebgfmiaaGreatDoorQbw
import Derived.Test.YtklfdkdebgfmiaaGreatDoorRows
set_option linter.defProp false
set_option linter.unusedVariables false
set_option linter.unusedSimpArgs false
set_option maxRecDepth 100000
set_option maxHeartbeats 32000000
open Option renaming none->Wr,some->Ws
open Decidable renaming decide->Wt
open Go renaming World->Wu,Value->Wv,Calls->WJ,TypeId->WQ
open Bool renaming false->Ww,true->Wz
open Go.RowKit renaming Hid->WA
open Go.Proofs.Tryz renaming prog->WH
open Go.Value renaming int->WK,string->WM,slice->Yb,bool->Yc,agg->Ye
open Go.IntKind renaming i64->Xr
open Go.Ending renaming returned->Xz
open Go.OpenSpec renaming ofChange->XY
open Go.Obj renaming cells->Yd
namespace Go.Proofs.YtklfdkdebgfmiaaGreatDoor
section
open Go Go.RowKit Go.MapKept Go.Proofs.Tryz
def ge0 (t:ak) (w:Wu) (y:fD w) (h:4000<t.length):
 aQ 3 #[bs t] w (Yc Wz):=by
 have c:=aa (ZM w y.g);have g:(4000:Int)<((bs t).size:Int):=xy;have z:Wt ((4000:Int)<((bs t).size:Int))=true:=by rw[decide_eq_true_eq];exact g
 clear h;go_enter func3,ntmps3;go_wp2_with(go_at_call 4;refine c.out.m ?_;rintro e A ⟨rfl,j⟩)
 go_ret;exact⟨rfl,j⟩
def Ro:MV:=⟨Yb Wr 0 0,Yb Wr 0 0,Yb Wr 0 0,Yb Wr 0 0,Yb Wr 0 0,Yb Wr 0 0,Yb Wr 0 0⟩
def bt1 (w:Wu) (B:Nat):({}:aM).In w B Ro:=
 ⟨bG.nil_ _ _,bG.nil_ _ _,bW.nil_ _ _,bW.nil_ _ _,bW.nil_ _ _,bW.nil_ _ _,bW.nil_ _ _,aK.zero,aK.zero,aK.zero,aK.zero⟩
def ge1:({}:aM).cells Ro++ #[Yb Wr 0 0,WK Xr 0,Yb Wr 0 0]= #[Yb Wr 0 0,Yb Wr 0 0,Yb Wr 0 0,Yb Wr 0 0,Yb Wr 0 0,Yb Wr 0 0,WK Xr 0,WK Xr 0,WK Xr 0,WK Xr 0,Yb Wr 0 0,Yb Wr 0 0,WK Xr 0,Yb Wr 0 0]:=aC
def ge2 (W:Wu):aQ 7 #[Ye #[Yb Wr 0 0,Yb Wr 0 0,Yb Wr 0 0,Yb Wr 0 0,Yb Wr 0 0,Yb Wr 0 0,WK Xr 0,WK Xr 0,WK Xr 0,WK Xr 0,Yb Wr 0 0,Yb Wr 0 0,WK Xr 0,Yb Wr 0 0],Ye #[Yb Wr 0 0,Yb Wr 0 0,Yb Wr 0 0,Yb Wr 0 0,Yb Wr 0 0,Yb Wr 0 0,WK Xr 0,WK Xr 0,WK Xr 0,WK Xr 0,Yb Wr 0 0,Yb Wr 0 0,WK Xr 0,Yb Wr 0 0]] W (Yc Wz):=by have h:=bu8 {} [] 0 [] Ro Ro (Yb Wr 0 0) (Yb Wr 0 0) (Yb Wr 0 0) (Yb Wr 0 0) W (bt1 W _) (bt1 W _) (aW.nil_ _ _) (aW.nil_ _ _) (bW.nil_ _ _) (bW.nil_ _ _);rw[ge1] at h;exact h
def ge3 (t:ak) (c A:Nat) (w:Wu) (U:fD w) (h:t.length<=4000) (y:ox t= .error (c,A)):
 aQ 3 #[bs t] w (Yc Wz):=by
 obtain⟨g,fL⟩:=fp8 y;have Jj:=aa (λW (h:cH W)=>ZM W h);have D:=aa U;have a_:(bs t).size<=2000000:=xy;have yV:=aa (λW=>br4 (bs t) W a_);have Tn:=aa (gI t);obtain⟨L,hL⟩: ∃q,bB t=q:=⟨_,rfl⟩;have G:L.length<=2000000:=by have:=gd9 t;rw[hL] at this;omega
 have Z:=aa G;have HL:=aa hL;rw[hL] at fL;have J_:=aa (show c<=L.length+1 from fL);have C:=aa (λW (h:fD W)=>RU t W h);rw[y] at C;have Y:=aa ge2;have e2:(((A:Nat):Int)!=0)=true:=by have: ¬A=0:=g;simp;omega
 have LN: ¬(4000:Int)<((bs t).size:Int):=xy;have i1:Wt ((4000:Int)<((bs t).size:Int))=false:=by rw[decide_eq_false_iff_not];exact LN
 have g1:(0:Int)<=(c:Int):=Yi;have ha1:Wt ((0:Int)<=(c:Int))=true:=by rw[decide_eq_true_eq];exact g1
 clear hL U G fL g y h;go_enter func3,ntmps3
 go_upto_region 4 with (first
  |(go_at_call 5;refine(C.out _ D.out).m ?_;rintro e X ⟨J,rfl⟩;simp only[ZR];have bf:=aa J;clear J))
 refine cP (λW=>W.heap[X.heap.size]? =Ws (Yd #[Yb Wr 0 0,Yb Wr 0 0,Yb Wr 0 0,Yb Wr 0 0,Yb Wr 0 0,Yb Wr 0 0,WK Xr 0,WK Xr 0,WK Xr 0,WK Xr 0,Yb Wr 0 0,Yb Wr 0 0,WK Xr 0,Yb Wr 0 0] 34 (0,0))/\Below w w W) ⟨bQ X _,ae bf.out _⟩ ?_;intro wx ⟨V,F⟩;have uk:=aa V;have kH:=aa F;clear V F
 go_upto_region 5 with (first
  |(go_at_call 6;refine(yV.out _).m ?_;rintro e w2 ⟨v1,rfl,z,j⟩;rw[Tn.out,HL.out] at z;obtain⟨lA,ln,lc,rfl,mi⟩:=Rn z;have aR:=aa (ai kH.out j);have g:=aq uk.out j;obtain⟨a0,a1,a2,a3,a4,a5,a6,a7,a8,a9,fN,rS,xB,xC⟩:=jt g;have e5:IntKind.i64.wrap ((ln:Int)+1)=(ln:Int)+1:=IntWalk.i64_in _ (by have:=Z.out;omega);have g2:(c:Int)<=(ln:Int)+1:=by have:=J_.out;omega
    have ha2:Wt ((c:Int)<=(ln:Int)+1)=true:=by rw[decide_eq_true_eq];exact g2
    clear z j mi g))
 go_wp2_with(first
  |(go_at_call 7;refine(Y.out _).m ?_;rintro e w3 ⟨rfl,I⟩;have O:=aa (ai aR.out I);clear I)
  |(go_at_call 4;refine(Jj.out _ (D.out.g.step O.out)).m ?_;rintro e w9 ⟨rfl,fA⟩))
 go_ret;exact⟨rfl,ai O.out fA⟩
def BO.later {w w':Wu} {s:lB} {v:MV} {j g:Wv} (h:BO w s v j g) (c:Below w w w'):BO w' s v j g:=
 ⟨h.1.to c (ag _) c.size,(h.2.1.below c (ag _)).more c.size,h.2.2.to ue.ab c (ag _) c.size⟩
def ge4 (t:ak) (m:aM) (c:List Int) (g:Int) (acts:List aP) (w:Wu) (hG:fD w) (h:t.length<=4000) (hp:ox t= .ok ⟨m,c,g,acts⟩):
 aQ 3 #[bs t] w (Yc Wz):=by
 obtain⟨bN,hN,hl,Bz,ci1⟩:=fp9 h hp;obtain⟨p1,p2,p3,p4,p5⟩:=Nl bN;have Jj:=aa (λW (h:cH W)=>ZM W h);have Y:=aa hG;have a_:(bs t).size<=2000000:=xy;have yV:=aa (λW=>br4 (bs t) W a_);have CM:c.length<=100000:=ca2;have Ci:=aa (λW (h:fD W)=>RU t W h);rw[hp] at Ci;have Tj:=aa (λW (h:fD W)=>RU (wP ⟨m,c,g,acts⟩) W h);rw[ci1] at Tj;have HF:=aa (λv A z W (O:fD W) (j:BO W ⟨m,c,g,acts⟩ v A z)=>fu6 ⟨m,c,g,acts⟩ v A z W O j.1 j.2.1 j.2.2 bN hl Bz);generalize wP ⟨m,c,g,acts⟩=U at Tj HF;have N4:=aa (λv A z W (j:BO W ⟨m,c,g,acts⟩ v A z)=>gc7 m c g acts v A z W j.1 j.2.1 j.2.2 CM (by unfold pR;simp only[WC,vb];exact⟨⟨p1,p2⟩,p3⟩) p4 p5);have AQ:=aa (λv A z v' I D W (O:BO W ⟨m,c,g,acts⟩ v A z) (j:BO W ⟨m,c,g,acts⟩ v' I D)=>bu8 m c g acts v v' A I z D W O.1 j.1 O.2.1 j.2.1 O.2.2 j.2.2);have LN: ¬(4000:Int)<((bs t).size:Int):=xy;have i1:Wt ((4000:Int)<((bs t).size:Int))=false:=by rw[decide_eq_false_iff_not];exact LN
 clear hG h hp bN hN hl Bz ci1 p1 p2 p3 p4 p5 CM;go_enter func3,ntmps3
 go_upto_region 4 with (first
  |(go_at_call 5
    skip
    refine(Ci.out _ Y.out).m ?_;rintro e V ⟨ap,vx,cx,ax,rfl,y,_⟩;have J:=y.1;obtain⟨⟨Sx,sx,q',dh,bS⟩,⟨Fx,fx,cB,cr,cL⟩,⟨Rx,rx,iu,cM,cV⟩,⟨Mx,mx,nU,dd,cz⟩,⟨Lx,lx,eX,dt,di⟩,⟨Ix,ix,zE,ed,ez⟩,⟨Ux,ux,zO,dP,dq⟩⟩:=J.cells;have DV:=aa (show m.cells vx= #[Yb Sx m.sites.length sx,Yb Fx m.feeds.length fx,Yb Rx m.racks.length rx,Yb Mx m.machs.length mx,Yb Lx m.links.length lx,Yb Ix m.items.length ix,WK Xr m.dark,WK Xr m.slots,WK Xr m.reserve,WK Xr m.failures,Yb Ux m.rules.length ux] from by rw[aM.cells_def,q',cB,iu,nU,eX,zE,zO]);obtain⟨Cax,Cnx,Ccx,rfl,_,_,_⟩:=y.2.1.form;obtain⟨Aax,Anx,Acx,rfl,_,_,_⟩:=y.2.2.form;have Z:=aa (show m.cells vx++ #[Yb Cax Cnx Ccx,WK Xr g,Yb Aax Anx Acx]= #[Yb Sx m.sites.length sx,Yb Fx m.feeds.length fx,Yb Rx m.racks.length rx,Yb Mx m.machs.length mx,Yb Lx m.links.length lx,Yb Ix m.items.length ix,WK Xr m.dark,WK Xr m.slots,WK Xr m.reserve,WK Xr m.failures,Yb Ux m.rules.length ux,Yb Cax Cnx Ccx,WK Xr g,Yb Aax Anx Acx] from by rw[DV.out];rfl);rw[Z.out];have Tk:=aa y;clear J y q' cB iu nU eX zE zO dh bS cr cL cM cV dd cz dt di ed ez dP dq;have bf:=aa (ap);clear ap))
 refine cP (λW=>W.heap[V.heap.size]? =Ws (Yd #[Yb Sx m.sites.length sx,Yb Fx m.feeds.length fx,Yb Rx m.racks.length rx,Yb Mx m.machs.length mx,Yb Lx m.links.length lx,Yb Ix m.items.length ix,m.dark,m.slots,m.reserve,m.failures,Yb Ux m.rules.length ux,Yb Cax Cnx Ccx,g,Yb Aax Anx Acx] 34 (0,0))/\Below V V W) ⟨bQ V _,ae (af V) _⟩ ?_;intro wx ⟨lg,Hp⟩;have uk:=aa lg;have pw:=aa Hp;have kH:=aa (ai bf.out Hp);clear lg Hp
 go_upto_region 5 with (first
  |(go_at_call 6;refine(yV.out _).m ?_;rintro e w2 ⟨vl,rfl,_,am⟩;have aR:=aa (ai kH.out am);have gH:=aa (ai pw.out am);have cQ:=aq uk.out am;have qN:=aa cQ;obtain⟨a0,a1,a2,a3,a4,a5,a6,a7,a8,a9,fN,rS,xB,xC⟩:=jt cQ;clear am cQ))
 have Gj:=aa (HF.out _ _ _ w2 (Y.out.step aR.out) (Tk.out.later gH.out));rw[Z.out] at Gj
 go_upto_region 8 with (first
  |(go_at_call 8;refine Gj.out.m ?_;rintro e w3 ⟨rfl,aL⟩;have bg:=aa (ai aR.out aL);have mJ:=aa (ai gH.out aL);have jT:=aq qN.out aL;have lo:=aa jT;clear aL jT)
  |(go_at_call 5
    skip
    refine(Tj.out _ (Y.out.step bg.out)).m ?_;rintro e X ⟨aS,vy,cy,ay,rfl,y,_⟩;have J:=y.1;obtain⟨⟨Sy,sy,q',dh,bS⟩,⟨Fy,fy,cB,cr,cL⟩,⟨Ry,ry,iu,cM,cV⟩,⟨My,my,nU,dd,cz⟩,⟨Ly,ly,eX,dt,di⟩,⟨Iy,iy,zE,ed,ez⟩,⟨Uy,uy,zO,dP,dq⟩⟩:=J.cells;have da2:=aa (show m.cells vy= #[Yb Sy m.sites.length sy,Yb Fy m.feeds.length fy,Yb Ry m.racks.length ry,Yb My m.machs.length my,Yb Ly m.links.length ly,Yb Iy m.items.length iy,WK Xr m.dark,WK Xr m.slots,WK Xr m.reserve,WK Xr m.failures,Yb Uy m.rules.length uy] from by rw[aM.cells_def,q',cB,iu,nU,eX,zE,zO]);obtain⟨Cay,Cny,Ccy,rfl,_,_,_⟩:=y.2.1.form;obtain⟨Aay,Any,Acy,rfl,_,_,_⟩:=y.2.2.form;have G:=aa (show m.cells vy++ #[Yb Cay Cny Ccy,WK Xr g,Yb Aay Any Acy]= #[Yb Sy m.sites.length sy,Yb Fy m.feeds.length fy,Yb Ry m.racks.length ry,Yb My m.machs.length my,Yb Ly m.links.length ly,Yb Iy m.items.length iy,WK Xr m.dark,WK Xr m.slots,WK Xr m.reserve,WK Xr m.failures,Yb Uy m.rules.length uy,Yb Cay Cny Ccy,WK Xr g,Yb Aay Any Acy] from by rw[da2.out];rfl);rw[G.out];have dd4:=aa y;clear J y q' cB iu nU eX zE zO dh bS cr cL cM cV dd cz dt di ed ez dP dq;have bE:=aa (ai bg.out aS);have eN:=aa (ai mJ.out aS);have zh:=aa (aq lo.out aS);clear aS))
 refine cP (λW=>W.heap[X.heap.size]? =Ws (Yd #[Yb Sy m.sites.length sy,Yb Fy m.feeds.length fy,Yb Ry m.racks.length ry,Yb My m.machs.length my,Yb Ly m.links.length ly,Yb Iy m.items.length iy,m.dark,m.slots,m.reserve,m.failures,Yb Uy m.rules.length uy,Yb Cay Cny Ccy,g,Yb Aay Any Acy] 34 (0,0))/\Below X X W) ⟨bQ X _,ae (af X) _⟩ ?_;intro wy ⟨VS,C⟩;have sR:=aa (ai bE.out C);have eI:=aa (ai eN.out C);have cy6:=aa C;have nr:=aq zh.out C;have Ea:=aa nr;have J':=aa VS;obtain⟨a0,a1,a2,a3,a4,a5,a6,a7,a8,a9,fN,rS,xB,xC⟩:=jt nr;obtain⟨b0,b1,b2,b3,b4,b5,b6,b7,b8,b9,xD,Kp,Kq,Kr⟩:=jt VS;clear nr VS C;have Ck:=aa (N4.out _ _ _ wy (Tk.out.later eI.out));have ui:=aa (λW (hb:Below wy wy W)=>AQ.out _ _ _ _ _ _ W (Tk.out.later (ai eI.out hb)) (dd4.out.later (ai cy6.out hb)));rw[Z.out] at Ck;rw[Z.out,G.out] at ui
 go_wp2_with(first
  |(go_at_call 9;refine Ck.out.m ?_;rintro e w6 ⟨rfl,F⟩;have cK:=aa (ai sR.out F);have cy7:=aa F;have LJ:=aq Ea.out F;have LK:=aq J'.out F;obtain⟨c0,c1,c2,c3,c4,c5,c6,c7,c8,c9,gg4,KG,gz8,gz9⟩:=jt LJ;obtain⟨d0,d1,d2,d3,d4,d5,d6,d7,d8,d9,Cs,GZ,G0,G3⟩:=jt LK;clear F LJ LK)
  |(go_at_call 7;refine(ui.out _ cy7.out).m ?_;rintro e w7 ⟨rfl,gB⟩;have iL:=aa (ai cK.out gB);clear gB)
  |(go_at_call 4;refine(Jj.out _ (Y.out.g.step iL.out)).m ?_;rintro e w9 ⟨rfl,fA⟩))
 go_ret;exact⟨rfl,ai iL.out fA⟩
def ge5 (t:ak) (w:Wu) (c:fD w):aQ 3 #[bs t] w (Yc Wz):=by
 by_cases h:4000<t.length
 .exact ge0 t w c h
 .cases hp:ox t with
  |error x=>exact ge3 t x.1 x.2 w c Yi hp
  |ok s=>exact ge4 t s.m s.control s.clients s.acts w c Yi hp
end
section
open Go Go.RowKit Go.ChangeShapes Go.WideShapes Go.ChangeAt Go.Proofs.Tryz
open Go.ChangeMaps (open_string shut_string)
section
variable {H:Type} {enc:WQ×Wv->H}
def ge6 {a:Assume} {C:Checked} {os:Os} {f:FuncId} {fn:Func} {s:ChangeSpec} {conds:List PathCond} {apart fresh handsOn again:Bool} {X:Wu->Array Wv->Prop}
 (G: ∀(w w':Wu) (args:Array Wv),w.heap=w'.heap->X w args->X w' args)
 (z:ownKnob C.prog.godebug=Wr) (started:os.Started) (noInit:C.prog.inits.idxOf? f=Wr) (D:C.prog.funcs[f]? =Ws fn)
 (witness: ∃(w:Wu) (tape:Tape) (i:Input),w.os=os/\(w.forCall tape i).Shaped C.prog/\i.vars=[]/\Input.okWide C.prog (w.forCall tape i) .any w.heap.size f i/\
   ((s.pre enc C.prog fn conds apart (w.forCall tape i).memory i.args/\X (w.forCall tape i).memory i.args)/\sizedMet enc C.prog fn (XY s) apart (w.forCall tape i).memory i.args)/\a.holds C.prog (lone (Frame.enter C.prog f i.args .normal) [] (w.forCall tape i)))
 (contract: ∀(W:Wu) (base:Nat) (args:Array Wv) (ds y:List (DataW H)) (before:List MemPlace),
   (∀(j:Nat) t v,fn.params[j]? =Ws t->args[j]? =Ws v->Value.okWide C.prog W .any base t v)->
   DataW.Whole enc C.prog fn.params.toList s.vars apart W args.toList ds y before->
   W.ShapedOpen C.prog->X W args->
   WJ C.prog f args W λe A=> ∃v,e=Xz v/\s.post enc C.prog fn apart fresh handsOn again W args v A):
 ReturnsInHanded a C os f .any (λw args=>(s.pre enc C.prog fn conds apart w args/\X w args)/\sizedMet enc C.prog fn (XY s) apart w args) (s.post enc C.prog fn apart fresh handsOn again):=by
 refine returnsInHanded_of_calls z started noInit witness ?_;intro w tape i _ O _ F c hholds;obtain⟨_,_,_,fn',gm0,_,_,_,_,yh⟩:=F;have e:fn'=fn:=Xv (gm0.symm.trans D);subst e;obtain⟨⟨⟨ds,y,before,hw,hc⟩,hx⟩,hz⟩:=c;have g:=DataW.Whole.of_heap (w':=w.forCall tape i) cA hw;refine(contract (w.forCall tape i) w.heap.size i.args ds y before yh g O (G _ _ _ cA hx)).mono λe A ⟨v,I,J⟩=> ?_;subst I;exact ChangeSpec.post_blind J
end
def fz7:Tryz.prog.globalNamed "internal/strconv.uint64pow10" =Ws 1:=aC
def fz8:(Tryz.prog.globals[1]?).map (·.type)=Ws 294:=aC
def bt2:Tryz.prog.globalNamed "strconv.ErrRange" =Ws 6:=aC
def fz9:(Tryz.prog.globals[6]?).map (·.type)=Ws 70:=aC
def bt3:Tryz.prog.globalNamed "strconv.ErrSyntax" =Ws 5:=aC
def ga0:(Tryz.prog.globals[5]?).map (·.type)=Ws 70:=aC
def ga1:Tryz.prog.globalNamed "strings.asciiSpace" =Ws 4:=aC
def ga2:(Tryz.prog.globals[4]?).map (·.type)=Ws 300:=aC
def bt4:Tryz.prog.cellsOf 9=1:=aC
def bt5:Tryz.prog.cellsOf 343=1:=aC
def ga3:Tryz.prog.cellsOf 268=1:=aC
def ga4:Tryz.prog.cellsOf 294=20:=aC
def ga5:Tryz.prog.cellsOf 5=1:=aC
def ga6:Tryz.prog.cellsOf 300=256:=aC
def bt6: "*" ++ "errors.errorString" = "*errors.errorString" :=az
def bt7 (u:WQ) (h:Tryz.prog.typeName? 3 u=Ws "*errors.errorString"):u=341:=
 typeName_ptr_named (nm:= "errors.errorString") (by rw[bt6];kernel_rfl) aC az u (by rw[bt6];exact h)
def ga7 {W:Wu} (h:laidMetH WH Rows.scenarioReadsRow.laid W) (G:W.ShapedOpen WH):fD W:=by
 rw[MakeChecks.laidMetH_plain _ _ _ aC] at h;have j:=laidMet.tail (laidMet.tail h);have y:=laidMet.tail (laidMet.tail j);have z:=laidMet.tail y;have C:=laidMet.tail (laidMet.tail z);have F:Lib.TabIs WH W "internal/strconv.uint64pow10" .u64 Lib.pow10Tab:=Lib.tabIs_of_head fz7 fz8 underlying294 underlying268 ga3 ga4 j;have D:Lib.TabIs WH W "strings.asciiSpace" .u8 Lib.asciiSpaceTab:=Lib.tabIs_of_head ga1 ga2 underlying300 underlying5 ga5 ga6 C;obtain⟨a1,s1,gN,_⟩:=laid_sentinel y bt2 fz9 underlying70 bt7 underlying341 underlying343 rfl rfl Xw bt5 bt4;obtain⟨a2,s2,kf,_⟩:=laid_sentinel z bt3 ga0 underlying70 bt7 underlying341 underlying343 rfl rfl Xw bt5 bt4;have c: ∃m,W.cell? ⟨0,0,Wr⟩=Ws (WK Xr m):=cell_of_shapedOpen_int G (by decide+kernel) (zero:= #[WK Xr 0]) (t:=3) aC rfl aC aC WI;have A:9<W.heap.size:=by
  obtain⟨ps,⟨g,t,cs,fuel,p,q,hg,ht,hv,_⟩,_⟩:=laidMet.tail h;obtain rfl:=Xv ((show Tryz.prog.globalNamed "math/bits.deBruijn64tab" =Ws 9 by kernel_rfl).symm.trans hg);unfold World.var? at hv;rw[hg] at hv;simp only[Option.bind_some] at hv;rcases Xk 9 W.heap.size with h|h
  .exact h
  .rw[Array.getElem?_eq_none h] at hv;cases hv
 exact⟨⟨F,c,⟨_,_,by simpa using World.var?_cell bt3 kf 0⟩,⟨_,_,by simpa using World.var?_cell bt2 gN 0⟩,by have:=A;omega⟩,D⟩
def ga8:ownKnob Tryz.prog.godebug=none:=aC
def ga9 (H:Type) (enc:WQ×Wv->H) (W:Wu) (base:Nat) (args:Array Wv) (ds D:List (DataW H)) (before:List MemPlace)
 (C: ∀(j:Nat) t v,Tryz.f3.params[j]? =Ws t->args[j]? =Ws v->Value.okWide WH W .any base t v)
 (z:DataW.Whole enc WH Tryz.f3.params.toList Rows.scenarioReadsSpec.vars Ww W args.toList ds D before) (G:laidMetH WH Rows.scenarioReadsRow.laid W) (O:W.ShapedOpen WH):
 WJ WH 3 args W λe g=> ∃v,e=Xz v/\Rows.scenarioReadsSpec.post enc WH Tryz.f3 Ww Wz Ww Ww W args v g:=by
 have A: ∀(j:Nat) t v,Tryz.f3.params[j]? =Ws t->args[j]? =Ws v->Value.okWide WH W .any base t v:=C;have c:=z;obtain⟨p,q,gh3,hV,rfl,_,_⟩:=z;have y:DataW.TrodAll enc WH W 0 (λ_=>Wz) Wz Tryz.f3.params.toList args.toList ds p:=gh3;rw[Tryz.params3] at y A;obtain⟨v0,d0,rfl,rfl,h0⟩:=trodAll_one y;obtain⟨rfl,rfl⟩:=trodVars_none hV;obtain⟨s,rfl,rfl,rfl,hs⟩:=open_string Xw (A 0 9 v0 rfl rfl) h0;simp only[XT] at c;have F:fD W:=ga7 G O;obtain⟨t,rfl⟩: ∃t,s=bs t:=⟨s.data.toList,(nB s).symm⟩;refine(ge5 t W F).mono λe g ⟨J,I⟩=> ?_;subst J;exact⟨_,rfl,_,_,_,[],[],[],c,trodAll_mk1 (shut_bool underlying4 _),trodAll_mk1 (shut_string Xw hs),rfl,I.frame _,λh=>by cases h⟩
def gb0 (os:Os) (started:os.Started) (H:Type) (enc:WQ×Wv->H):
 ReturnsInHanded {} Tryz.checked os 3 .any (λw args=>(Rows.scenarioReadsSpec.pre enc WH Tryz.f3 [] Ww w args/\laidMetH WH Rows.scenarioReadsRow.laid w)/\sizedMet enc WH Tryz.f3 (XY Rows.scenarioReadsSpec) Ww w args)
  (Rows.scenarioReadsSpec.post enc WH Tryz.f3 Ww Wz Ww Ww):=by
 refine ge6 (C:=Tryz.checked) (X:=λw _=>laidMetH WH Rows.scenarioReadsRow.laid w) (λ_ _ _ z h=>h.of_heap z) ga8 started aC func3
  (ChangeSpec.witness_shaped (enc:=enc) (C:=Tryz.checked) (os:=os) (X:=λw _=>laidMetH WH Rows.scenarioReadsRow.laid w) Ww (World.laidAll WH os Rows.scenarioReadsRow.laid) #[WM ⟨#[]⟩] 8 (World.laidAll_os _ _ _)
    (World.shaped_of_ZipB aC aC) aC aC aC
    (by rw[MakeChecks.laidMetH_plain _ _ _ aC];exact laidMet_laidAll _ aC aC)) ?_
 intro W base args ds g before c y A j;exact ga9 H enc W base args ds g before c y j A
end
end Go.Proofs.YtklfdkdebgfmiaaGreatDoor
