/- A part of the proof. -/
import Derived.Test.YtihhpjmclebfpaaGreatDoorQbl
set_option linter.defProp false
set_option linter.unusedVariables false
set_option linter.unusedSimpArgs false
set_option maxRecDepth 100000
set_option maxHeartbeats 32000000
open Option renaming some->XL,none->XM
open Decidable renaming decide->XN
open Go renaming World->XO,Value->XP,Calls->X4,TypeId->Ya,maxLen->Yd,Ending->Zb,Addr->Zf
open Bool renaming false->XQ,true->XR
open Go.Lib renaming split->Yv,countB->Y3
open And renaming intro->XU
open Go.RowKit renaming Hid->XV
open Go.Proofs renaming intOf->X8
open Go.Proofs.Tryz renaming prog->X3
open Go.Value renaming int->X1,string->X2,oneCell'->YH,slice->Zk,bool->Zp,agg->Zr,pointer->Zs
open Go.World renaming setCell->YS
open Go.IntKind renaming i64->Yo
open Go.Ending renaming returned->YT
open Go.Obj renaming cells->Zq
open Go.Operand renaming tmp->Zt
namespace Go.Proofs.YtihhpjmclebfpaaGreatDoor
open Go Go.RowKit Go.Proofs.Tryz
section
open Go.MapKept
def gY.nil_(w:XO):gY w [] (w.alloc (Zq #[Zk XM 0 0] 59)):=
 ⟨Zk XM 0 0,[],cR w _,Yc _ _ _ _,⟨_,_,_,rfl⟩,rfl,by simp⟩
def gY.lt{ob:Nat}{l:List aG}{W:XO}(h:gY ob l W):ob<W:=by obtain⟨u,rows,h1,_⟩:=h;exact blk_lt h1
def gY.to{ob:Nat}{l c:List aG}{W:XO}(h:gY ob l W)(e:l=c):gY ob c W:=e▸h
def gY.later{ob:Nat}{l:List aG}{w w':XO}(h:gY ob l w)(c:Below w w w'):gY ob l w':=by obtain⟨u,rows,h1,h2,h3,h4⟩:=h;exact⟨u,rows,ai h1 c,eI h2 c,h3,h4.kp (aL.of_below c (ar _) c.size)⟩
def gY.push{ob D:Nat}{l:List aG}{rows:List (List XP)}{u:XP}{W c:XO}{o:Obj}{j:Option Zf}{z y:Nat}(d:aG)(rv nv:XP)(J:af W ob #[u] 59)(G:W.ownsRow ob 100 6 u l.length rows.flatten)(pB:rH W ob rows l)(I:ob<D)
 (hr:W.ownsRow D 9 1 rv d.refs.length (d.refs.map λs=>X2 (bs s)))(hn:W.ownsRow D 3 1 nv d.nums.length (d.nums.map fun(k:Nat)=>X1 .i64 k))(h5:d.kind<=1000000/\d.by_<=1000000/\∀k∈d.nums,k<=2000000)
 (U:c.ownsRow ob 100 6 (Zk j z y) (l.length+1) (rows.flatten++tQ d rv nv))(A:(W.alloc o).grownBy c u.ownBlock):
 gY ob (l++[d]) (c.setCell ob (Zk j z y))/\Below ob W (c.setCell ob (Zk j z y)):=by
 have Z:=blk_lt J;have F:=World.ownsRow.alloc G o;have O:=jD (ai J (ak (am W) o)) A (yR G J aD);have V:=yR U O aD;have bE:Below ob W c:=((ak (am W) o).mono (fK Z)).grown A bN λk C=>(X6 G k C).1;have qA:=(pB.kp (aL.of_below (pb:=ob) (ak (am W) o) (ar _) Zy)).grown F A;have Y:=Js F A (eI hr (ak (am W) o)) aD;have X:=Js F A (eI hn (ak (am W) o)) aD;have C:aL c ob c (c.setCell ob (Zk j z y)):=(aL.refl _ ob _).set (.inl rfl) _;refine⟨⟨Zk j z y,rows++[tQ d rv nv],(bf O 0 _).t rfl,?_,⟨_,_,_,rfl⟩,(qA.kp C).snoc I (qu Y C (ar _) I) (qu X C (ar _) I) h5⟩,bE.setCell (p:=ob) (ar _) _⟩;have h:=be8 (o:=0) (u:=Zk j z y) U V;rw[List.flatten_append,X0,Yl];simpa using h
def fn5(m:aU)(mv:MV)(w:XO)(hG:iC w)(hm:m.In w w mv)(C:ew m=XR):
 X4 X3 18 #[Zr (m.cells mv)] w λe w'=>∃v,e=YT v/\ci 6 mS w' w' v (jO m)/\Below w w w':=by
 have F:=wh C;have HEq:=aj (AR m);have oz:=F.mn.2;have gu0:=F.sn.1;have b0:=F.sn.2;have b1:=F.fn;have b2:=F.rn;have b4:=F.ln;have b5:=F.xn;have b6:=F.un;have Ti:=aj F.racks;have zx:=aj F.machs;have zu:=aj F.links;have Bg:=aj F.items;have bu2:=aj F.rules;obtain⟨dj,K7⟩:∃j:Nat,m.dark=(j:Int)+1:=⟨(m.dark - 1).toNat,by have:=(jh.1 F.dark).1;omega⟩;have U8:dj<m.sites.length:=by have:=(jh.1 F.dark).2;omega
 have JN:=aj K7;have tt:=aj F.slots;have wE:=aj F.reserve;have NN:=aj F.failures;clear K7;refine DK λSa sc hs bZ bL Fa fc bS bM cj Ra rc hr cd cZ Ma mc gF cr co La lc ee cW dh Ia ic hi dg d' Ua uc hu dm dr=>?_;have EA:=aj λW(hb:Below w w W)=>ZI m mv W (hG.below hb hG.g.size) (hm.to hb (ar _) hb.size);rw[C]at EA;have HS:=aj (nD m hs bS hr gF ee hi hu);have mN:=aj λW(hb:Below w w W)u l(hu:aS W W u l)(U:l.length<=100)(h2:∀n∈l,1<=n/\n<=m.machs.length)=>bf6 m mv u l W (hm.to hb (ar _) hb.size) hu U h2;have N6:=aj λW(hb:Below w w W)x o(hx:qr m x)(ho:aS W W o x.ms)=>fn4 m mv x o W (hm.to hb (ar _) hb.size) C hx ho;rw[HS.o]at EA mN N6⊢
 have qS:=hm.ss;have qF:=hm.fs;have qR:=hm.rs;have qM:=hm.ms;have qL:=hm.ls;have qI:=hm.is;have qU:=hm.us;rw[hs]at qS;rw[bS]at qF;rw[hr]at qR;rw[gF]at qM;rw[ee]at qL;rw[hi]at qI;rw[hu]at qU;have pS:=aj qS;have zr:=aj qF;have pq:=aj qR;have jY:=aj qM;have tq:=aj qL;have kI:=aj qI;have xX:=aj qU;clear qS qF qR qM qL qI qU hm hs bS hr gF ee hi hu bZ bL bM cj cd cZ cr co cW dh dg d' dm dr hG F C;obtain⟨i0,hi,cA,a_,he3⟩:=Y0 (show(Tryz.prog.info? 3).map (λi=>(i.zero,i.size,i.bytes))=XL (XL (ah 0),1,8)by kernel_rfl);obtain⟨j0,rd,cr8,cr9,cs0⟩:=Y0 ZR;go_enter func18,ntmps18;go_upto_region 1 with(fail)
 refine df ?_;intro W1 ⟨bP,eH⟩;have bp:=aj bP;have xY:=aj eH;obtain⟨a0,a1,a2,a3,a4,a5,a6,a7,a8,a9,cN⟩:=bQ eH;clear bP eH;go_upto_region 4 with(go_at_call 23;refine(EA _ bp).r λw2 au=>?_;have aX:=aj (aq bp au);have nq:=aj (ai xY au);clear au)
 clear a0 a1 a2 a3 a4 a5 a6 a7 a8 a9 cN;refine ez (λW=>gY w2 [] W/\Below w2 w2 W) ⟨gY.nil_ w2,ak (am w2) _⟩ ?_;intro W3 ⟨hJ,aM⟩;have CE:=aj hJ;have up:=aj ((am W3).mono (fK hJ.lt));have bE:=aj (aq aX aM);have jc:=aj (ai nq aM);have bd:=blk_lt nq.o;generalize w2.heap.size=ob at CE up bd⊢
 clear hJ aM;obtain⟨a0,a1,a2,a3,a4,a5,a6,a7,a8,a9,cN⟩:=bQ (gl jc up bd);go_upto_region 6 with(fail)
 clear a0 a1 a2 a3 a4 a5 a6 a7 a8 a9 cN;go_loopw [27] (λi wr=>∃k:Nat,k<=m.sites.length/\i=ah k/\gY ob (([]:List aG)++(m.sites.take k).map (λs:ay=>({kind:=0,name:=s}:aG))) wr/\Below ob W3 wr) (λi _=>m.sites.length - (X8 i).toNat)
 case atStart=>exact⟨0,bU _,rfl,CE.to Zy,up⟩
 case round=>
  obtain⟨k,hk,rfl,hj,hb⟩:=hrel;have fM:=aj hj;have fC:=aj hb;refine Jt λbB eh dG fT=>?_;clear hj hb;by_cases ap:k<m.sites.length
  .obtain⟨kh,bh⟩:=dt ap;have fp:=aj ap;obtain⟨x,hx⟩:=jd ap;have HT:=aj (vz (f:=(λs:ay=>({kind:=0,name:=s}:aG))) (([]:List aG)) hx);have bG:(([]:List aG)++(m.sites.take k).map (λs:ay=>({kind:=0,name:=s}:aG))).length<1000000:=by simp[dS,dF,dR,dM,dL];omega
   obtain⟨xb,xo,rfl,fe,i'⟩:=bg.cell pS hx;have ck:=kc bB i';have nJ:=aj (show X4 X3 48 #[ah 0,bs x,Zk XM 0 0,Zk XM 0 0,az ob] wr _ from F4 ob (ob+1) _ {kind:=0,name:=x} (Zk XM 0 0) (Zk XM 0 0) wr fM bG ⟨rfl,rfl⟩ (YU _) (Yc _ _ _ _) (Yc _ _ _ _) ⟨by simp,by simp,by simp⟩);exact bf9
  .have bh:=eS ap;have CG:=aj (fM.to (vB (f:=(λs:ay=>({kind:=0,name:=s}:aG))) (([]:List aG)) (Nat.le_of_not_lt ap)));have tj:=fC;clear fM bB dG fT ap eh hk CE up;go_upto_region 10 with(fail)
   clear bh;refine ez (λW=>gY ob (dS m) W/\Below ob W3 W) ⟨CG,tj⟩ ?_;intro Kp ⟨hj,hb⟩;clear CG tj;have CG:=aj hj;have tj:=aj hb;clear hj hb;obtain⟨a0,a1,a2,a3,a4,a5,a6,a7,a8,a9,cN⟩:=bQ (gl jc tj bd);go_upto_region 11 with(fail)
   clear a0 a1 a2 a3 a4 a5 a6 a7 a8 a9 cN;go_loopw [38] (λi wr=>∃k:Nat,k<=m.feeds.length/\i=ah k/\gY ob (dS m++(m.feeds.take k).map (λs:ay=>({kind:=1,name:=s}:aG))) wr/\Below ob W3 wr) (λi _=>m.feeds.length - (X8 i).toNat)
   case atStart=>exact⟨0,bU _,rfl,CG.to Zy,tj⟩
   case round=>
    obtain⟨k,hk,rfl,hj,hb⟩:=hrel;have fM:=aj hj;have fC:=aj hb;refine Jt λbB eh dG fT=>?_;clear hj hb;by_cases ap:k<m.feeds.length
    .obtain⟨kh,bh⟩:=dt ap;have fp:=aj ap;obtain⟨x,hx⟩:=jd ap;have HT:=aj (vz (f:=(λs:ay=>({kind:=1,name:=s}:aG))) (dS m) hx);have bG:(dS m++(m.feeds.take k).map (λs:ay=>({kind:=1,name:=s}:aG))).length<1000000:=by simp[dS,dF,dR,dM,dL];omega
     obtain⟨xb,xo,rfl,fe,i'⟩:=bg.cell zr hx;have ck:=kc bB i';have nJ:=aj (show X4 X3 48 #[ah 1,bs x,Zk XM 0 0,Zk XM 0 0,az ob] wr _ from F4 ob (ob+1) _ {kind:=1,name:=x} (Zk XM 0 0) (Zk XM 0 0) wr fM bG ⟨rfl,rfl⟩ (YU _) (Yc _ _ _ _) (Yc _ _ _ _) ⟨by simp,by simp,by simp⟩);exact bf9
    .have bh:=eS ap;have vG:=aj (fM.to (vB (f:=(λs:ay=>({kind:=1,name:=s}:aG))) (dS m) (Nat.le_of_not_lt ap)));have V:=fC;clear fM bB dG fT ap eh hk CG tj;go_upto_region 15 with(fail)
     clear bh;refine ez (λW=>gY ob (dS m++dF m) W/\Below ob W3 W) ⟨vG,V⟩ ?_;intro gl1 ⟨hj,hb⟩;clear vG V;have vG:=aj hj;have V:=aj hb;clear hj hb;obtain⟨a0,a1,a2,a3,a4,a5,a6,a7,a8,a9,cN⟩:=bQ (gl jc V bd);go_upto_region 16 with(fail)
     clear a0 a1 a2 a3 a4 a5 a6 a7 a8 a9 cN;go_loopw [49] (λi wr=>∃k:Nat,k<=m.racks.length/\i=ah k/\gY ob (dS m++dF m++(m.racks.take k).map (mU m)) wr/\Below ob W3 wr) (λi _=>m.racks.length - (X8 i).toNat)
     case atStart=>exact⟨0,bU _,rfl,vG.to Zy,V⟩
     case round=>
      obtain⟨k,hk,rfl,hj,hb⟩:=hrel;have fM:=aj hj;have fC:=aj hb;refine Jt λbB eh dG fT=>?_;clear hj hb;by_cases ap:k<m.racks.length
      .obtain⟨kh,bh⟩:=dt ap;have fp:=aj ap;obtain⟨x,hx⟩:=jd ap;have HT:=aj (vz (f:=(mU m)) (dS m++dF m) hx);have bG:(dS m++dF m++(m.racks.take k).map (mU m)).length<1000000:=by simp[dS,dF,dR,dM,dL];omega
       obtain⟨mb,mo,cs,rfl,gw,_,⟨rfl,_⟩,eG⟩:=pq.at_ hx;have C:=Ti x (eE hx);obtain⟨nm,st,fd⟩:=x;simp only at C eG HT;have hj:=jh.1 C.1;have hi:=jh.1 C.2;obtain⟨j,vR⟩:∃j:Nat,st=(j:Int)+1:=⟨(st - 1).toNat,by omega⟩;subst vR;refine Rj λjK nf lA uR sy=>?_;obtain⟨i,Ff⟩:∃j:Nat,fd=(j:Int)+1:=⟨(fd - 1).toNat,by omega⟩;subst Ff;refine MO λBP dg=>?_;have d':(i:Int)<m.feeds.length:=Zv;have yx:i<m.feeds.length:=Zv;refine MP λIl=>?_;obtain⟨yj,ml⟩:∃y,m.sites[j]?=XL y:=⟨_,XT uR⟩;obtain⟨bj,oj,rfl,q',nH⟩:=bg.cell pS ml;have ej:=kc bB nH;obtain⟨yi,sI⟩:∃y,m.feeds[i]?=XL y:=⟨_,XT yx⟩;obtain⟨bi,oi,rfl,E4,uO⟩:=bg.cell zr sI;have ei:=kc bB uO;refine QJ λx0 x1 x2=>?_;have HD:=aj (show mU m ⟨nm,(j:Int)+1,(i:Int)+1⟩={kind:=2,name:=nm,refs:=[yj,yi]}from by unfold mU;simp only[xK ml,xK sI]);have nJ:=aj (λrv nv W(hj:gY ob (dS m++dF m++(m.racks.take k).map (mU m)) W)(hr:W.ownsRow (ob+1) 9 1 rv 2 [X2 (bs yj),X2 (bs yi)])(z:W.ownsRow (ob+1) 3 1 nv 0 [])=>(show X4 X3 48 #[ah 2,bs nm,rv,nv,Zs (XL ob)] W _ from F4 ob (ob+1) _ {kind:=2,name:=nm,refs:=[yj,yi]} rv nv W hj bG ⟨rfl,rfl⟩ (YU _) hr z ⟨by simp,by simp,by simp⟩));clear hx eG gw C dG q' nH E4 uO ap;go_upto_region 18 with(fail)
       clear bh;refine df ?_;intro Wx ⟨fE,kj⟩;refine QK λlh ij jL=>?_;have I:ob+1<=Wx:=jL.lt;refine QL λcU=>?_;clear fE kj x0 x1 x2 ej ei;refine eT (S:=Below Wx Wx) 18 19 (aW (am Wx)) λhS=>?_;iterate 17 refine nz 19 53 ?_
       refine bt 17 λK hK=>?_;go_simp;refine ip λhS=>?_;clear hK;refine aH ?_;refine eA 18 λK hK=>?_;go_simp;refine(nJ _ _ _ (jL.later hS) (mA _ #[bs yj,bs yi] 2 _ _ _ Zy Zv fH rfl) (Yc _ _ _ _)).mono ?_;exact MQ
      .have bh:=eS ap;have CH:=aj (fM.to (vB (f:=(mU m)) (dS m++dF m) (Nat.le_of_not_lt ap)));have Y:=fC;clear fM bB dG fT ap eh hk vG V;go_upto_region 20 with(fail)
       clear bh;refine ez (λW=>gY ob (dS m++dF m++dR m) W/\Below ob W3 W) ⟨CH,Y⟩ ?_;intro hk1 ⟨hj,hb⟩;clear CH Y;have CH:=aj hj;have Y:=aj hb;clear hj hb;obtain⟨a0,a1,a2,a3,a4,a5,a6,a7,a8,a9,cN⟩:=bQ (gl jc Y bd);go_upto_region 21 with(fail)
       clear a0 a1 a2 a3 a4 a5 a6 a7 a8 a9 cN;go_loopw [76] (λi wr=>∃k:Nat,k<=m.machs.length/\i=ah k/\gY ob (dS m++dF m++dR m++(m.machs.take k).map (mV m)) wr/\Below ob W3 wr) (λi _=>m.machs.length - (X8 i).toNat)
       case atStart=>exact⟨0,bU _,rfl,CH.to Zy,Y⟩
       case round=>
        obtain⟨k,hk,rfl,hj,hb⟩:=hrel;have fM:=aj hj;have fC:=aj hb;refine Jt λbB eh dG fT=>?_;clear hj hb;by_cases ap:k<m.machs.length
        .obtain⟨kh,bh⟩:=dt ap;have fp:=aj ap;obtain⟨x,hx⟩:=jd ap;have HT:=aj (vz (f:=(mV m)) (dS m++dF m++dR m) hx);have bG:(dS m++dF m++dR m++(m.machs.take k).map (mV m)).length<1000000:=by simp[dS,dF,dR,dM,dL];omega
         obtain⟨mb,mo,cs,rfl,gw,_,⟨rfl,_⟩,eG⟩:=jY.at_ hx;have C:=zx x (eE hx);obtain⟨nm,rk,cp⟩:=x;simp only at C eG HT;have hj:=jh.1 C.1;have Ab:=C.2;obtain⟨j,vR⟩:∃j:Nat,rk=(j:Int)+1:=⟨(rk - 1).toNat,by omega⟩;subst vR;have jK:(0:Int)<=j:=Zv;have nf:(j:Int)+1 - 1=j:=Zv;have lA:(j:Int)<m.racks.length:=Zv;have uR:j<m.racks.length:=Zv;refine MN λsy=>?_;obtain⟨D,ot⟩:∃j:Nat,cp=(j:Int):=⟨cp.toNat,by omega⟩;subst ot;have U5:D<=1048576:=Zv;have E7:((D:Int)).toNat=D:=Zv;obtain⟨yj,ml⟩:∃y,m.racks[j]?=XL y:=⟨_,XT uR⟩;obtain⟨bj,oj,csj,rfl,q',_,⟨rfl,_⟩,nH⟩:=pq.at_ ml;have ej:aa wr bj (oj+j*3) (X2 (bs yj.name)):=(bB.cell (p:=⟨bj,oj+j*3,XM⟩) q').t (nH 0 _ rfl);refine QJ λx0 x1 x2=>?_;have HD:=aj (show mV m ⟨nm,(j:Int)+1,(D:Int)⟩={kind:=3,name:=nm,refs:=[yj.name],nums:=[D]}from by unfold mV;simp only[xK (bf2 ml),E7]);have nJ:=aj (λrv nv W(hj:gY ob (dS m++dF m++dR m++(m.machs.take k).map (mV m)) W)(hr:W.ownsRow (ob+1) 9 1 rv 1 [X2 (bs yj.name)])(z:W.ownsRow (ob+1) 3 1 nv 1 [X1 .i64 (D:Int)])=>(show X4 X3 48 #[ah 3,bs nm,rv,nv,Zs (XL ob)] W _ from F4 ob (ob+1) _ {kind:=3,name:=nm,refs:=[yj.name],nums:=[D]} rv nv W hj bG ⟨rfl,rfl⟩ (YU _) hr z ⟨by simp,by simp,by simp;omega⟩));clear hx eG gw C dG q' nH ap;go_upto_region 23 with(fail)
         clear bh;refine df ?_;intro Wx ⟨fE,kj⟩;refine QK λlh ij jL=>?_;have I:ob+1<=Wx:=jL.lt;have cU:=aj λW(h:Below Wx Wx W)=>(XU (bQ (ai (ai fT fE) h)) (XU (IV (ai kj h)) (kc h (kc fE ej))));clear fE kj x0 x1 x2 ej;refine eT (S:=Below Wx Wx) 15 16 (aW (am Wx)) λhS=>?_;iterate 11 refine nz 16 80 ?_
         refine jC 12 92 ?_;refine jC 13 93 ?_;refine ny (rs:=[11,14]) aI Zy ?_;refine dC.cons1 de ?_ (dC.cons1 de ?_ dC.nil)
         .intro K hK;go_simp;refine ip λhS=>?_;clear hK;refine aH ?_;refine bt 14 λK hK=>?_;go_simp;refine ip λhS=>?_;clear hK;refine aH ?_;refine eA 15 λK hK=>?_;go_simp;refine(nJ _ _ _ (jL.later hS) (World.ownsRow.alloc (mA _ #[bs yj.name] 1 _ _ _ Zy Zv fH rfl) _) (mA _ #[X1 .i64 (D:Int)] 1 _ _ _ Zy Zv fH rfl)).mono ?_;exact MQ
         .intro K hK;go_simp;refine ip λhS=>?_;clear hK;refine aH ?_;refine bt 11 λK hK=>?_;go_simp;refine ip λhS=>?_;clear hK;refine aH ?_;refine eA 15 λK hK=>?_;go_simp;refine(nJ _ _ _ (jL.later hS) (mA _ #[bs yj.name] 1 _ _ _ Zy Zv fH rfl) (World.ownsRow.alloc (mA _ #[X1 .i64 (D:Int)] 1 _ _ _ Zy Zv fH rfl) _)).mono ?_;exact MQ
        .have bh:=eS ap;have CI:=aj (fM.to (vB (f:=(mV m)) (dS m++dF m++dR m) (Nat.le_of_not_lt ap)));have X:=fC;clear fM bB dG fT ap eh hk CH Y;go_upto_region 25 with(fail)
         clear bh;refine ez (λW=>gY ob (dS m++dF m++dR m++dM m) W/\Below ob W3 W) ⟨CI,X⟩ ?_;intro hk2 ⟨hj,hb⟩;clear CI X;have CI:=aj hj;have X:=aj hb;clear hj hb;obtain⟨a0,a1,a2,a3,a4,a5,a6,a7,a8,a9,cN⟩:=bQ (gl jc X bd);go_upto_region 26 with(fail)
         clear a0 a1 a2 a3 a4 a5 a6 a7 a8 a9 cN;go_loopw [100] (λi wr=>∃k:Nat,k<=m.links.length/\i=ah k/\gY ob (dS m++dF m++dR m++dM m++(m.links.take k).map (oR m)) wr/\Below ob W3 wr) (λi _=>m.links.length - (X8 i).toNat)
         case atStart=>exact⟨0,bU _,rfl,CI.to Zy,X⟩
         case round=>
          obtain⟨k,hk,rfl,hj,hb⟩:=hrel;have fM:=aj hj;have fC:=aj hb;refine Jt λbB eh dG fT=>?_;clear hj hb;by_cases ap:k<m.links.length
          .obtain⟨kh,bh⟩:=dt ap;have fp:=aj ap;obtain⟨x,hx⟩:=jd ap;have HT:=aj (vz (f:=(oR m)) (dS m++dF m++dR m++dM m) hx);have bG:(dS m++dF m++dR m++dM m++(m.links.take k).map (oR m)).length<1000000:=by simp[dS,dF,dR,dM,dL];omega
           obtain⟨mb,mo,cs,rfl,gw,_,⟨rfl,_⟩,eG⟩:=tq.at_ hx;have C:=zu x (eE hx);obtain⟨sa,sb,cp⟩:=x;simp only at C eG HT;have hj:=jh.1 C.1;have hi:=jh.1 C.2.1;have Ab:=C.2.2.2;obtain⟨j,vR⟩:∃j:Nat,sa=(j:Int)+1:=⟨(sa - 1).toNat,by omega⟩;subst vR;refine Rj λjK nf lA uR sy=>?_;obtain⟨i,Ff⟩:∃j:Nat,sb=(j:Int)+1:=⟨(sb - 1).toNat,by omega⟩;subst Ff;refine MO λBP dg=>?_;have d':(i:Int)<m.sites.length:=Zv;have yx:i<m.sites.length:=Zv;refine MP λIl=>?_;obtain⟨D,ot⟩:∃j:Nat,cp=(j:Int):=⟨cp.toNat,by omega⟩;subst ot;have U5:D<=1048576:=Zv;have E7:((D:Int)).toNat=D:=Zv;obtain⟨yj,ml⟩:∃y,m.sites[j]?=XL y:=⟨_,XT uR⟩;obtain⟨bj,oj,rfl,q',nH⟩:=bg.cell pS ml;have ej:=kc bB nH;obtain⟨yi,sI⟩:∃y,m.sites[i]?=XL y:=⟨_,XT yx⟩;obtain⟨bi,oi,ER,E4,uO⟩:=bg.cell pS sI;injection ER with ER;injection ER with hAi1 hAi2;subst hAi1;subst hAi2;refine bg0 λei x0 x1 x2=>?_;have HD:=aj (show oR m ⟨(j:Int)+1,(i:Int)+1,(D:Int)⟩={kind:=4,refs:=[yj,yi],nums:=[D]}from by unfold oR;simp only[xK ml,xK sI,E7]);have nJ:=aj (λrv nv W(hj:gY ob (dS m++dF m++dR m++dM m++(m.links.take k).map (oR m)) W)(hr:W.ownsRow (ob+1) 9 1 rv 2 [X2 (bs yj),X2 (bs yi)])(z:W.ownsRow (ob+1) 3 1 nv 1 [X1 .i64 (D:Int)])=>(show X4 X3 48 #[ah 4,X2 (⟨#[]⟩),rv,nv,Zs (XL ob)] W _ from F4 ob (ob+1) _ {kind:=4,refs:=[yj,yi],nums:=[D]} rv nv W hj bG ⟨rfl,rfl⟩ (YU _) hr z ⟨by simp,by simp,by simp;omega⟩));clear hx eG gw C dG q' nH E4 uO ap;go_upto_region 28 with(fail)
           clear bh;refine df ?_;intro Wx ⟨fE,kj⟩;refine QK λlh ij jL=>?_;have I:ob+1<=Wx:=jL.lt;refine QL λcU=>?_;clear fE kj x0 x1 x2 ej ei;refine eT (S:=Below Wx Wx) 19 20 (aW (am Wx)) λhS=>?_;iterate 15 refine nz 20 104 ?_
           refine jC 16 120 ?_;refine jC 17 121 ?_;refine ny (rs:=[15,18]) aI Zy ?_;refine dC.cons1 de ?_ (dC.cons1 de ?_ dC.nil)
           .intro K hK;go_simp;refine ip λhS=>?_;clear hK;refine aH ?_;refine bt 18 λK hK=>?_;go_simp;refine ip λhS=>?_;clear hK;refine aH ?_;refine eA 19 λK hK=>?_;go_simp;refine(nJ _ _ _ (jL.later hS) (World.ownsRow.alloc (mA _ #[bs yj,bs yi] 2 _ _ _ Zy Zv fH rfl) _) (mA _ #[X1 .i64 (D:Int)] 1 _ _ _ Zy Zv fH rfl)).mono ?_;exact MQ
           .intro K hK;go_simp;refine ip λhS=>?_;clear hK;refine aH ?_;refine bt 15 λK hK=>?_;go_simp;refine ip λhS=>?_;clear hK;refine aH ?_;refine eA 19 λK hK=>?_;go_simp;refine(nJ _ _ _ (jL.later hS) (mA _ #[bs yj,bs yi] 2 _ _ _ Zy Zv fH rfl) (World.ownsRow.alloc (mA _ #[X1 .i64 (D:Int)] 1 _ _ _ Zy Zv fH rfl) _)).mono ?_;exact MQ
          .have bh:=eS ap;have CJ:=aj (fM.to (vB (f:=(oR m)) (dS m++dF m++dR m++dM m) (Nat.le_of_not_lt ap)));have O:=fC;clear fM bB dG fT ap eh hk CI X;go_upto_region 30 with(fail)
           clear bh;refine ez (λW=>gY ob (dS m++dF m++dR m++dM m++dL m) W/\Below ob W3 W) ⟨CJ,O⟩ ?_;intro hk3 ⟨hj,hb⟩;clear CJ O;have CJ:=aj hj;have O:=aj hb;clear hj hb;obtain⟨a0,a1,a2,a3,a4,a5,a6,a7,a8,a9,cN⟩:=bQ (gl jc O bd);go_upto_region 31 with(fail)
           clear a0 a1 a2 a3 a4 a5 a6 a7 a8 a9 cN;go_loopw [128] (λi wr=>∃k:Nat,k<=m.items.length/\i=ah k/\gY ob (dS m++dF m++dR m++dM m++dL m++(m.items.take k).map (kP m)) wr/\Below ob W3 wr) (λi _=>m.items.length - (X8 i).toNat)
           case atStart=>exact⟨0,bU _,rfl,CJ.to Zy,O⟩
           case round=>
            obtain⟨k,hk,rfl,hj,hb⟩:=hrel;have fM:=aj hj;have fC:=aj hb;refine Jt λbB eh dG fT=>?_;clear hj hb;by_cases ap:k<m.items.length
            .obtain⟨kh,bh⟩:=dt ap;have fp:=aj ap;obtain⟨x,hx⟩:=jd ap;have HT:=aj (vz (f:=(kP m)) (dS m++dF m++dR m++dM m++dL m) hx);have bG:(dS m++dF m++dR m++dM m++dL m++(m.items.take k).map (kP m)).length<1000000:=by simp[dS,dF,dR,dM,dL];omega
             obtain⟨mb,mo,cs,rfl,gw,_,⟨ov,rfl,oB,_⟩,eG⟩:=kI.at_ hx;have Fh:=Bg x (eE hx);obtain⟨pG,cz,Ll,bm,pJ⟩:=DB Fh;have wW:0<=x.count/\x.count<=8:=ZW Fh;have xc:=λn z=>jh.1 ((Cj cz).2.2.1 n z);have Ai:=Mg cz;obtain⟨oA,on,oc,rfl,_,_,_⟩:=oB.sk.form;obtain⟨nm,kd,ct,ld,sz,sh,ons⟩:=x;simp only at pG Ll bm pJ wW xc Ai oB eG HT;obtain⟨G,Aa⟩:∃j:Nat,ct=(j:Int):=⟨ct.toNat,by omega⟩;subst Aa;obtain⟨ln,p_⟩:∃j:Nat,ld=(j:Int):=⟨ld.toNat,by omega⟩;subst p_;obtain⟨sn,B3⟩:∃j:Nat,sz=(j:Int):=⟨sz.toNat,by omega⟩;subst B3;obtain⟨z,gy9⟩:∃j:Nat,sh=(j:Int):=⟨sh.toNat,by omega⟩;subst gy9;have x0:aa wr mb (mo+k*7) (X2 (bs nm)):=(bB.cell (p:=⟨mb,mo+k*7,XM⟩) gw).t (eG 0 _ rfl);refine QM λx1 x2 x3 x4 x5 x6=>?_;have zw:=aj λW(hW:Below wr wr W)=>mN W (aq bB hW) (Zk oA on oc) ons ((oB.below (aq bB hW) (ar _)).more (aq bB hW).size) Zv xc;have HD:=aj (fun(kn:Nat)(hk:kd=(kn:Int))=>(show kP m ⟨nm,kd,(G:Int),(ln:Int),(sn:Int),(z:Int),ons⟩={kind:=5+kn,name:=nm,refs:=ji m ons,nums:=(if kn=1 then[G]else[])++[ln,sn,z]}from by subst hk;rw[zg kn rfl];simp[ji]));have aV:ln<=1048576/\sn<=1048576/\z<=1048576/\G<=1048576:=Zv;have nJ:=aj (fun(kn:Nat)(pf:kn<=2)(N:List Nat)(hN:∀q∈N,q<=1048576)rv nv W(hj:gY ob (dS m++dF m++dR m++dM m++dL m++(m.items.take k).map (kP m)) W)(hr:W.ownsRow (ob+1) 9 1 rv (ji m ons).length ((ji m ons).map λs=>X2 (bs s)))(z:W.ownsRow (ob+1) 3 1 nv N.length (N.map fun(k:Nat)=>X1 .i64 k))=>(show X4 X3 48 #[ah (5+(kn:Int)),bs nm,rv,nv,Zs (XL ob)] W _ from F4 ob (ob+1) _ {kind:=5+kn,name:=nm,refs:=ji m ons,nums:=N} rv nv W hj bG ⟨rfl,rfl⟩ (YU _) hr z ⟨bN,by simp,λq hq=>by have:=hN q hq;omega⟩));clear hx eG gw Fh cz oB dG ap xc wW;go_upto_region 33 with(fail)
             clear bh;refine df ?_;intro Wx ⟨fE,kj⟩;refine QK λlh ij jL=>?_;have wL:=aj kj;have jA:=aj fE;have I:ob+1<=Wx:=jL.lt;have he0:=blk_lt kj;obtain⟨y0,y1,y2,y3,y4,y5,y6⟩:=gM kj;clear fE kj x0 x1 x2 x3 x4 x5 x6;obtain⟨kn,pf⟩:∃kn:Nat,kd=(kn:Int):=⟨kd.toNat,by omega⟩;subst pf;have Vw:kn<=2:=Zv;have hd6:IntKind.i64.wrap (5+(kn:Int))=5+(kn:Int):=Yr _ Zv;clear pG;by_cases U:kn=1
             .have Vu:((kn:Int)==1)=true:=by simp;omega
              have pp:=aj (show(if kn=1 then[G]else[])++[ln,sn,z]=[G,ln,sn,z]by rw[if_pos U];rfl);clear U;go_upto_region 35 with(fail)
              refine wp_region_lit ?_;iterate 4
               refine yS λK hK=>?_;go_simp;refine hK _ _ ?_;clear hK;refine aH ?_
              refine YV _ rfl (Zt 144) (Zt 145) _ rfl Wx.heap.size 3 i0 _ 1 8 underlying30 hi cA a_ he3 rfl aD (Zk (XL ⟨Wx+1,0,XM⟩) 1 1) 1 [ah (G:Int)] rfl (mA (Wx.alloc _) #[X1 .i64 (G:Int)] 1 _ _ 3 Zy Zv fH rfl) (Wx 0 XM) 3 3 [ah (ln:Int),ah (sn:Int),ah (z:Int)] rfl rfl (bf1 (ai (cR Wx _) (ak (am _) _))) uF fH Zv bN ?_;intro v' w4 VW gv _;obtain⟨vA,vn,vc,rfl⟩:=eW VW;have cp2:=(ak (ak (am Wx) _) _).grown gv bN (λb hb=>by have h9:XL (Wx.heap.size+1)=XL b:=hb;injection h9 with h9;omega);refine yS λK hK=>?_;go_simp;refine hK _ _ ?_;clear hK;refine aH ?_;refine _root_.Go.wpList_nil ?_;go_upto_region 36 with(fail)
              clear y0 y1 y2 y3 y4 y5 y6;refine ez (λW=>W.ownsRow (ob+1) 3 1 (Zk vA vn vc) 4 ([G,ln,sn,z].map fun(k:Nat)=>X1 .i64 k)/\Below Wx Wx W) ⟨tT VW I,cp2⟩ ?_;clear VW gv cp2;intro wc ⟨iy,BL⟩;refine bg1 λEj lG cU=>?_;clear iy BL;refine eT (S:=Below wc wc) 11 12 (aW (am wc)) λhS=>?_;iterate 9 refine nz 12 147 ?_
              refine jC 10 157 ?_;refine bt 9 λK hK=>?_;go_simp;refine(zw _ (aq (aq jA lG) hS)).q λw5 u hu bx=>?_;obtain⟨uA,un,uc',rfl⟩:=eW hu;have HU:=aj (tT (ZV hu) (show ob+1<=_ from bC I (aq lG hS).size));try go_simp
              refine hK _ _ (aq hS bx) λhS=>?_;clear hK hu;refine aH ?_;refine eA 11 λK hK=>?_;go_simp;refine(nJ kn Vw [G,ln,sn,z] bN _ _ _ (jL.later (aq lG hS)) HU (eI Ej hS)).mono ?_;exact bg2
             .have Vu:((kn:Int)==1)=false:=by simp;omega
              have pp:=aj (show(if kn=1 then[G]else[])++[ln,sn,z]=[ln,sn,z]by rw[if_neg U];rfl);clear U;go_upto_region 36 with(fail)
              clear y0 y1 y2 y3 y4 y5 y6;refine ez (λW=>W.ownsRow (ob+1) 3 1 (Zk (XL (Wx 0 XM)) 3 3) 3 ([ln,sn,z].map fun(k:Nat)=>X1 .i64 k)/\Below Wx Wx W) ⟨mA Wx #[X1 .i64 (ln:Int),X1 .i64 (sn:Int),X1 .i64 (z:Int)] 3 _ _ 3 rfl I fH rfl,ak (am Wx) _⟩ ?_;intro wc ⟨iy,BL⟩;refine bg1 λEj lG cU=>?_;clear iy BL;refine eT (S:=Below wc wc) 11 12 (aW (am wc)) λhS=>?_;iterate 9 refine nz 12 147 ?_
              refine jC 10 157 ?_;refine bt 9 λK hK=>?_;go_simp;refine(zw _ (aq (aq jA lG) hS)).q λw5 u hu bx=>?_;obtain⟨uA,un,uc',rfl⟩:=eW hu;have HU:=aj (tT (ZV hu) (show ob+1<=_ from bC I (aq lG hS).size));try go_simp
              refine hK _ _ (aq hS bx) λhS=>?_;clear hK hu;refine aH ?_;refine eA 11 λK hK=>?_;go_simp;refine(nJ kn Vw [ln,sn,z] bN _ _ _ (jL.later (aq lG hS)) HU (eI Ej hS)).mono ?_;exact bg2
            .have bh:=eS ap;have CK:=aj (fM.to (vB (f:=(kP m)) (dS m++dF m++dR m++dM m++dL m) (Nat.le_of_not_lt ap)));have nL:=fC;clear fM bB dG fT ap eh hk CJ O;go_upto_region 38 with(fail)
             clear bh;refine ez (λW=>gY ob (dS m++dF m++dR m++dM m++dL m++dI m) W/\Below ob W3 W) ⟨CK,nL⟩ ?_;intro hk4 ⟨hj,hb⟩;clear CK nL;have CK:=aj hj;have nL:=aj hb;clear hj hb;refine ez (λW=>gY ob (dS m++dF m++dR m++dM m++dL m++dI m) W/\Below ob W3 W) ⟨CK,nL⟩ ?_;intro Wx ⟨hj,hb⟩;clear CK nL;have jL:=aj hj;have lh:=aj hb;have oz:=gl jc hb bd;have ij:=hb.size;have I:ob+1<=Wx:=hj.lt;have B6:=fK hj.lt;have jA:=aj (Below.t bE (hb.mono (fK bd)));clear hj hb;obtain⟨s1,bZ⟩:∃j:Nat,m.slots=(j:Int):=⟨m.slots.toNat,by have:=tt.o;omega⟩;obtain⟨Z,cd⟩:∃j:Nat,m.reserve=(j:Int):=⟨m.reserve.toNat,by have:=wE.o;omega⟩;have nh:s1<=16/\Z<=16:=by have:=tt.o;have:=wE.o;omega
             obtain⟨yj,ml⟩:∃y,m.sites[dj]?=XL y:=⟨_,XT U8⟩;have wA:=aj (show dD m=[{kind:=8,refs:=[yj],nums:=[s1,Z]}]from by unfold dD;rw[JN.o,xK ml,bZ,cd];rfl);rw[JN.o,bZ,cd]at oz;obtain⟨bj,oj,rfl,q',nH⟩:=bg.cell pS ml;refine bg3 λej jK nf lA sy=>?_;have nJ:=aj (λrv nv W(hj:gY ob (dS m++dF m++dR m++dM m++dL m++dI m) W)(hr:W.ownsRow (ob+1) 9 1 rv 1 [X2 (bs yj)])(z:W.ownsRow (ob+1) 3 1 nv 2 [X1 .i64 (s1:Int),X1 .i64 (Z:Int)])=>(show X4 X3 48 #[ah 8,X2 ⟨#[]⟩,rv,nv,Zs (XL ob)] W _ from F4 ob (ob+1) _ {kind:=8,refs:=[yj],nums:=[s1,Z]} rv nv W hj (by simp[dS,dF,dR,dM,dL,dI];omega) ⟨rfl,rfl⟩ (YU _) hr z ⟨by simp,by simp,by simp;omega⟩));clear bZ cd ml q' nH;have cU:=aj λW(h:Below Wx Wx W)=>XU (bQ (ai oz h)) (kc h ej);clear oz ej;go_cut [] (λwx=>gY ob (dS m++dF m++dR m++dM m++dL m++dI m++dD m) wx/\Below ob W3 wx)
             case first=>
              refine eT (S:=Below Wx Wx) 14 15 (aW (am Wx)) λhS=>?_;iterate 8 refine nz 15 160 ?_
              refine jC 9 169 ?_;refine jC 10 170 ?_;refine jC 11 171 ?_;refine jC 12 172 ?_;refine ny (rs:=[8,13]) aI Zy ?_;refine dC.cons1 de ?_ (dC.cons1 de ?_ dC.nil)
              .intro K hK;go_simp;refine ip λhS=>?_;clear hK;refine aH ?_;refine bt 13 λK hK=>?_;go_simp;refine ip λhS=>?_;clear hK;refine aH ?_;refine eA 14 λK hK=>?_;go_simp;refine(nJ _ _ _ (jL.later hS) (World.ownsRow.alloc (mA _ #[bs yj] 1 _ _ _ Zy Zv fH rfl) _) (mA _ #[X1 .i64 (s1:Int),X1 .i64 (Z:Int)] 2 _ _ _ Zy Zv fH rfl)).mono ?_;exact bg4
              .intro K hK;go_simp;refine ip λhS=>?_;clear hK;refine aH ?_;refine bt 8 λK hK=>?_;go_simp;refine ip λhS=>?_;clear hK;refine aH ?_;refine eA 14 λK hK=>?_;go_simp;refine(nJ _ _ _ (jL.later hS) (mA _ #[bs yj] 1 _ _ _ Zy Zv fH rfl) (World.ownsRow.alloc (mA _ #[X1 .i64 (s1:Int),X1 .i64 (Z:Int)] 2 _ _ _ Zy Zv fH rfl) _)).mono ?_;exact bg4
             case rest=>
              obtain⟨hj,hb⟩:=hcut;clear nJ cU jL lh jA wA;have Bh:=aj hj;have j':=aj hb;have cz3:=fK hj.lt;obtain⟨a0,a1,a2,a3,a4,a5,a6,a7,a8,a9,cN⟩:=bQ (gl jc hb bd);clear hj hb;by_cases J:0<m.failures
              .have bS:m.failures>0:=J;obtain⟨f1,bM⟩:∃j:Nat,m.failures=(j:Int):=⟨m.failures.toNat,by omega⟩;have gy0:f1<=7:=by have:=NN.o;omega
               have xR:=aj (show dX m=[{kind:=9,by_:=f1}]from by unfold dX;rw[if_pos J,bM];rfl);have bq3:=aj bM;rw[bM]at J bS a9;clear bM;obtain⟨u,rows,jw,bD,⟨A,nn,c,rfl⟩,pB⟩:=Bh.o;have c0:=ag (o:=0) jw rfl;have uu:=aj jw;have HO:=aj bD;have uv:=aj pB;have hs6:=blk_lt jw;have ht5:¬ob=wc:=Zv;clear jw bD pB;go_upto_region 40 with(fail)
               refine wp_region_lit ?_;iterate 5
                refine yS λK hK=>?_;go_simp;refine hK _ _ ?_;clear hK;refine aH ?_
               refine YV _ rfl (Zt 178) (Zt 182) _ rfl ob 100 j0 _ 6 88 underlying59 rd cr8 cr9 cs0 rfl aD (Zk A nn c) (dS m++dF m++dR m++dM m++dL m++dI m++dD m).length rows.flatten rfl (World.ownsRow.alloc HO _) (wc 0 XM) 1 1 [ah 9,X2 ⟨#[]⟩,Zk XM 0 0,Zk XM 0 0,ah (f1:Int),Zp XQ] rfl rfl (pA rfl) uF (by simp[Yd,dS,dF,dR,dM,dL,dI,dD];omega) (by simp[dS,dF,dR,dM,dL,dI,dD];omega) bN ?_;intro v' w3 jX bF _;obtain⟨A',n',c',rfl⟩:=eW jX;have hP:=gY.push {kind:=9,by_:=f1} (Zk XM 0 0) (Zk XM 0 0) uu HO uv (YU ob) (Yc _ _ _ _) (Yc _ _ _ _) ⟨by simp,by simp;omega,by simp⟩ jX bF;have gQ:=jD (ai uu (ak (am wc) _)) bF (yR HO uu aD);have f0:=cO gQ 0;have d0:=ag (o:=0) gQ rfl;have HP:=aj hP;clear hP jX bF gQ c0;refine yS λK hK=>?_;go_simp;refine hK _ _ ?_;clear hK f0 d0;refine aH ?_;refine _root_.Go.wpList_nil ?_;clear a0 a1 a2 a3 a4 a5 a6 a7 a8 a9 cN;go_upto_region 41 with(fail)
               refine ez (λW=>gY ob (dS m++dF m++dR m++dM m++dL m++dI m++dD m++dX m) W/\Below ob W3 W) ⟨HP.1.to (by rw[xR.o]),j'.t HP.2⟩ ?_;clear HP uu HO uv Bh j' J bS xR;exact bg5
              .have bS:¬m.failures>0:=J;have xR:=aj (show dX m=[]from by unfold dX;rw[if_neg J]);go_upto_region 41 with(fail)
               clear a0 a1 a2 a3 a4 a5 a6 a7 a8 a9 cN J bS;refine ez (λW=>gY ob (dS m++dF m++dR m++dM m++dL m++dI m++dD m++dX m) W/\Below ob W3 W) ⟨Bh.to (by rw[xR.o,Zd]),j'⟩ ?_;clear Bh j' xR;exact bg5
end
def ac3(a:ay)(c:ByteArray):Lib.splitB c 0 (Y3 (bs a) c) (bs a)=(Yv a c.data.toList).map bs:=by have h:=Lib.splitB_data c 0 (Y3 (bs a) c) (bs a);have j:(Lib.splitB c 0 (Y3 (bs a) c) (bs a)).map (·.data.toList)=Yv a c.data.toList:=h;rw[<-j,YM];exact(List.map_id _).symm.t (List.map_congr_left λx _=>(nY x).symm)
def bl4(c:ay):∀(k:Nat)(s:ay),∀x∈Lib.splitK c 0 k s,x.length<=s.length
 |0,s,x,hx=>by
  have:x=s:=by simpa[Lib.splitK]using hx
  rw[this];exact ar _
 |k+1,s,x,hx=>by
  unfold Lib.splitK at hx;split at hx
  .have:x=s:=by simpa using hx
   rw[this];exact ar _
  .rcases List.mem_cons.1 hx with rfl|hx
   .rw[YK];omega
   .have:=bl4 c k _ x hx;rw[Ym]at this;omega
def bl5{s y:ay}{a b:ay}{f:Bool}(h:Lib.cut s y=(a,b,f)):a.length<=s.length/\b.length<=s.length:=by
 unfold Lib.cut at h;split at h
 .injection h with j c;injection c with c z;subst j c;exact⟨by rw[YK];omega,by rw[Ym];omega⟩
 .injection h with j c;injection c with c z;subst j c;exact⟨ar _,bU _⟩
def fy3{l:ay}(h:rL l=XR):Lib.trimPrefix l sP=l.drop 8:=by unfold Lib.trimPrefix;have:Lib.hasPrefix l sP=true:=h;rw[if_pos this];rfl
def ac4(w:XO)(b:Nat)(t:Ya)(cs:Array XP)(line:ay)(e:Zb)(w':XO):Prop:=
 w.grownBy w' (XL b)/\match xD line with
  |some (l,n)=>e=YT (Zp XR)/\∃bl nn c,af w' b ((cs.setIfInBounds 12 (ah n)).setIfInBounds 11 (Zk (XL ⟨bl,0,XM⟩) nn c)) t/\aS w' w' (Zk (XL ⟨bl,0,XM⟩) nn c) l/\w.heap.size<=bl
  |none=>e=YT (Zp XQ)
def fy4(v:XP)(l:List ByteArray)(z:List Int)(w:XO)(C:dd w)(h:cP w w v l)(A:∀s∈l,s.size<=1000000)(D:l.length<=100000)(F:eU l=XL z):
 X4 X3 96 #[v] w λe w'=>∃j y c,e=YT (.tuple #[Zk (XL ⟨j,0,XM⟩) y c,Zp XR])/\aS w' w' (Zk (XL ⟨j,0,XM⟩) y c) z/\w.heap.size<=j/\Below w w w':=by
 refine(Mw v l w C h A D).mono λe w' hm=>?_;unfold F8 at hm;rw[F]at hm;obtain⟨hb,j,y,c,h1,h2,h3⟩:=hm;exact⟨j,y,c,h1,h2,h3,hb⟩
def bl6{line:ay}{a b:ay}{f:Bool}(h:Lib.cut (line.drop 8) gB=(a,b,f)):
 xD line=if f then(bX (bs b)).bind λn=>(eU ((Yv a [44,32]).map bs)).map λl=>(l,n)else none:=by
 unfold xD;rw[h]
def fy5(line:ay)(b:Nat)(t:Ya)(O:Array XP)(w:XO)(hG:dd w)(hp:rL line=XR)(bm:line.length<=90000)(gm:8<=b)
 (jm:af w b O t)(fj:O.size=14)(y:List Int×Int)(jx:xD line=XL y):
 X4 X3 41 #[bs line,Zs (XL b)] w (ac4 w b t O line):=by
 have oq:b<w:=by exact PW
 have hm9:=hG.size;have zG:=aj λW=>(fy2 (bs line) ⟨#[99,111,110,116,114,111,108,32]⟩ W).mono λe w'(h:e=YT (X2 (bs (Lib.trimPrefix line sP)))/\w'=W)=>(fy3 hp▸h:e=YT (X2 (bs (line.drop 8)))/\w'=W);obtain⟨a,c,f,hcut⟩:∃a c f,Lib.cut (line.drop 8) gB=(a,c,f):=⟨_,_,_,rfl⟩;have cW:=bl5 hcut;have Ll:(line.drop 8).length<=90000:=by rw[Ym];omega
 have Vy:a.length<=90000:=Zv;have hr9:c.length<=90000:=Zv;have SE:=aj (λW(h:dd W)=>(fy1 (bs (line.drop 8)) ⟨#[32,99,108,105,101,110,116,115,32]⟩ W h (by rw[eM];omega)).mono λe w'(h:e=YT (.tuple #[X2 (bs (Lib.cut (line.drop 8) gB).1),X2 (bs (Lib.cut (line.drop 8) gB).2.1),Zp (Lib.cut (line.drop 8) gB).2.2])/\Below W W w')=>(by rw[hcut]at h;exact h:e=YT (.tuple #[bs a,bs c,Zp f])/\Below W W w'));have Kc:=aj (bl6 hcut);have mP:=aj (Kc.symm.t jx);have D:=aj hG;have HB:=aj jm;have tg:=aj fj;clear hcut cW Ll hG hp jm fj bm jx;unfold ac4;rw[Kc.o];clear Kc;cases f with
 |false=>exact nomatch (show(XM:Option (List Int×Int))=XL y from mP)
 |true=>
  cases hpn:bX (bs c)with
  |none=>have h:=mP.o;rw[if_pos rfl,hpn]at h;exact nomatch (show(XM:Option (List Int×Int))=XL y from h)
  |some n=>
   have Y:=aj hpn;have tq:=aj (show ∀s∈(Yv a [44,32]).map bs,s.size<=1000000 from λs hs=>by obtain⟨x,hx,rfl⟩:=List.mem_map.1 hs;have:=bl4 _ _ _ x hx;rw[eM];omega);clear hpn;cases vT:eU ((Yv a [44,32]).map bs)with
   |none=>have h:=mP.o;rw[if_pos rfl,Y.o,Option.bind_some,vT]at h;exact nomatch (show(XM:Option (List Int×Int))=XL y from h)
   |some l=>
    have Te:=aj vT;clear vT;go_enter func41,ntmps41
    go_wp2_with(first
     |(go_at_call 94;refine(zG _).r λw1 hw=>?_;obtain rfl:=hw.symm)
     |(go_at_call 93;refine(SE _ D).r λw2 I=>?_;have z:=aj I;have dc5:=aj ((I.block b oq).t HB);have bd:=I.size;clear I)
     |(go_at_call 95;refine(fy0 (bs c) _ 12 _ _ _ b t O _ (D.step (ak (ak z _) _)) jM EG EG Zy (by rw[eM];omega) jM EG EG gm ((Below.heap_alloc _ _ _ EG).t ((Below.heap_alloc _ _ _ Zv).t dc5)) (by rw[tg.o];decide)).m ?_;rintro e w3 ⟨BN,kF,C3,oo,uM,B0⟩;rw[Y.o]at BN;subst BN;have SQ:=aj kF;have po:=aj oo;have rU:=aj (B0 n Y);have dd0:=aj (uM.t tg);clear kF oo B0 uM;have Z:Hid (w.grownBy w3 (XL b)):=aj (by have g:=SQ.o;exact⟨g.os.t z.os,g.tape.t z.tape,g.output.t z.output,by have:=g.size;simp at this<;>omega,λi hi aT=>(g.block i EG aT).t ((Below.heap_alloc _ _ _ EG).t ((Below.heap_alloc _ _ _ Zv).t (z.block i hi)))⟩))
     |(go_at_call 34;refine(bl3 (bs a) ⟨#[44,32]⟩ _ (D.grown Z gm) (by rw[eM];omega) (by decide)).m ?_;rintro e w4 ⟨v,rfl,hv,X,G⟩;have A:b<w3:=bJ oq Z.size;have gw6:b<w4:=bJ A G.size;rw[ac3]at hv X;have tt:=aj hv;have F:=aj (AC Z G);have SR:=aj (D.grown F gm);have il:=aj ((G.block b A).t po)
       have li:=aj (show((Yv a [44,32]).map bs).length<=100000 by
        have:=Lib.countB_le ⟨#[44,32]⟩ aD (bs a).size (bs a) (ar _);rw[eM]at this;have U:=X;simp only[XY]at U⊢
        have h3:(Yv a [44,32]).length=Y3 (bs a) ⟨#[44,32]⟩+1:=U;omega)
       clear hv X G)
     |(go_at_call 96;refine(fy4 _ ((Yv a [44,32]).map bs) l _ (SR) tt tq li Te).m ?_;rintro e w5 ⟨bl,nn,y,rfl,j9,jG,J⟩;have cT:=aj J;have dl3:=aj j9;have mK:=J.size;have V:=(J.block b gw6).t il.o;have OS:=lR V (o:=11) (by rw[dd0.o];decide);have hq3:=py V 11;have gK:=aj V;clear J j9 V))
    go_ret;refine⟨xw (AC F cT) 11 _,rfl,bl,nn,y,?_,?_,by have:=F.size;omega⟩
    .rw[ku gK.o];rw[rU.o]
    .have fL:bl≠b:=by have:=F.size;omega
     obtain⟨⟨A1,c1,fS,h1,U,h3⟩,KC⟩:=dl3.o;refine⟨⟨A1,c1,fS,h1,U,λaT=>?_⟩,KC⟩;obtain⟨b',o',hA,gC,nd⟩:=h3 aT;have e:b'=bl:=by rw[hA]at fS;injection fS with C;injection C with C;injection C with C;exact C.symm
     refine⟨b',o',hA,by simpa[YS]using gC,λj u hj=>?_⟩;rw[Y1 (Below.heap_setCell w5 (b 11 XM) _ b' (by rw[e];exact fL))];exact nd j u hj
section
open Go.MapKept
def fu5(c:ay):∀(k:Nat)(s:ay),1<=(Lib.splitK c 0 k s).length
 |0,s=>by simp[Lib.splitK]
 |k+1,s=>by unfold Lib.splitK;split<;>simp
def Sl.dropLast{w:XO}{B n c:Nat}{A:Option Zf}{xs:List XP}(h:Sl w B (Zk A n c) xs):Sl w B (Zk A (n - 1) c) xs.dropLast:=by
 obtain⟨A',c',he,h1,h2,h3⟩:=h;injection he with C D F;subst C D F;refine⟨A,c,by rw[List.length_dropLast],by rw[List.length_dropLast];omega,h2,λz=>?_⟩;have hx:xs≠[]:=λe=>z (by rw[e];rfl);obtain⟨b,o,hA,hb,hc⟩:=h3 hx;refine⟨b,o,hA,hb,λj u y=>hc j u ?_⟩;rw[List.getElem?_dropLast]at y;split at y
 .exact y
 .cases y
def fu6(t:ay)(w:XO)(I:dd w)(V:t.length<=65536):
 X4 X3 34 #[bs t,X2 ⟨#[10]⟩] w λe w'=>∃b o n c z,e=YT (Zk (XL ⟨b,o,XM⟩) n c)/\Sl w' w' (Zk (XL ⟨b,o,XM⟩) n c) ((Yv t [10]).map oT)/\1<=n/\n<=65537/\n<=c/\(Yv t [10]).length=n/\(Yv t [10])[n - 1]?=XL z/\aa w' b (o+(n - 1)) (oT z)/\Below w w w':=by
 refine(bl3 (bs t) ⟨#[10]⟩ w I (by rw[eM];omega) aD).mono λe w'⟨v,F,j,y,J⟩=>?_;have G:=Lib.countB_le ⟨#[10]⟩ aD (bs t).size (bs t) (ar _);rw[eM]at G;rw[ac3]at j y;have D:Sl w' w' v ((Yv t [10]).map oT):=by unfold cP at j;rw[YM]at j;exact j
 have O:(Yv t [10]).length=Y3 (bs t) ⟨#[10]⟩+1:=by rw[XY]at y;exact y
 obtain⟨A,c,rfl,h1,h2,h3⟩:=id D;have U:=fu5 [10] (Lib.count t [10]) t;have C:1<=(Yv t [10]).length:=U;obtain⟨b,o,rfl,gC,hc⟩:=h3 (λe=>by have:=congrArg List.length e;rw[XY]at this;simp at this;rw[this]at C;simp at C);rw[XY]at h1 D F;obtain⟨z,hz⟩:∃z,(Yv t [10])[(Yv t [10]).length - 1]?=XL z:=⟨_,XT Zv⟩;exact⟨b,o,(Yv t [10]).length,c,z,F,D,C,by omega,h1,rfl,hz,hc _ _ (by rw[X5,hz];rfl),J⟩
def bj6:∀(n:Nat)(p:PS)(out:List aG),p.ts.length<=n->out.length<=1024->(∀x,nG p out= .error x->x.2≠0)/\(∀l,nG p out= .ok l->l.length<=1024)
 |n,p,out,hn,ho=>by
  have j:∀q:PS×List aG,q.1.ts.length<p.ts.length->q.2.length<=1024->(∀x,nG q.1 q.2= .error x->x.2≠0)/\(∀l,nG q.1 q.2= .ok l->l.length<=1024):=λq A c=>by
   cases n with
   |zero=>omega
   |succ n=>exact bj6 n q.1 q.2 Zv c
  rw[nG];split
  .exact⟨(λx h=>by cases h),λl h=>by injection h with h;subst h;exact ho⟩
  .simp only
   have c:(if out.length=1024 then(p.fail p.beyond,out)else(p.decl.1,out++[p.decl.2])).2.length<=1024:=by
    split
    .exact ho
    .simp;omega
   generalize (if out.length=1024 then(p.fail p.beyond,out)else(p.decl.1,out++[p.decl.2]))=q at c;split
   .rename_i z;exact⟨(λx h=>by injection h with h;subst h;exact z),λl h=>by cases h⟩
   .split
    .rename_i y;exact j q y c
    .exact⟨(λx h=>by cases h),λl h=>by injection h with h;subst h;exact c⟩
def fv3{s:ay}{l:List aG}(h:pD s= .ok l):l.length<=1024:=by
 unfold pD at h;cases hs:tY s with
 |error y=>rw[hs]at h;cases h
 |ok ts=>rw[hs]at h;exact(bj6 _ _ [] (ar _) Zy).2 l h
def ac8(L:List ay)(k:Nat):(aJ (L.take k)).length<=(aJ L).length:=by have e:aJ L=aJ (L.take k)++aJ (L.drop k):=cg6;rw[e,X0];omega
def ac9{L:List ay}{x:ay}(h:x∈L):x.length+1<=(aJ L).length:=by
 induction L with
 |nil=>cases h
 |cons a l ih=>
  have e:aJ (a::l)=a++[10]++aJ l:=EH;rw[e,X0,X0];rcases List.mem_cons.1 h with rfl|h
  .simp<;>omega
  .have:=ih h;simp<;>omega
def fv4{line:ay}{c:List Int×Int}(h:xD line=XL c):c.1.length<=line.length+1:=by
 obtain⟨a,b,f,hcut⟩:∃a b f,Lib.cut (line.drop 8) gB=(a,b,f):=⟨_,_,_,rfl⟩;rw[bl6 hcut]at h;split at h
 .obtain⟨n,_,h⟩:=Option.bind_eq_some_iff.1 h;obtain⟨l,hl,rfl⟩:=Option.map_eq_some_iff.1 h;have j:=DT hl;rw[XY]at j;have y:=Lib.countB_le ⟨#[44,32]⟩ aD (bs a).size (bs a) (ar _);have z:(Lib.splitB ⟨#[44,32]⟩ 0 (Y3 (bs a) ⟨#[44,32]⟩) (bs a)).length<=Y3 (bs a) ⟨#[44,32]⟩+1:=Lib.splitB_length_le ⟨#[44,32]⟩ 0 _ _;rw[ac3,XY]at z;have A:=(bl5 hcut).1;rw[Ym]at A;rw[eM]at y;show l.length<=_;have e:Yv a [44,32]=Yv a ((⟨#[44,32]⟩:ByteArray).data.toList):=rfl;rw[e]at j;omega
 .cases h
def fv5(L:List ay){k:Nat}{x:ay}(h:L[k]?=XL x):aJ (L.take (k+1))=aJ (L.take k)++(x++[10]):=by rw[YE,h];exact fv2 _ _
def M0(v m:XP)(l:List Int):Prop:=l≠[]->∀a n c,m=Zk (XL a) n c->v.ownBlock≠XL a.block
def bj7(w:XO)(B:Nat)(v:XP)(x:aQ)(m s:XP):Prop:=
 x.In w w m s/\kO B m/\kO B s/\M0 v m x.ms/\M0 v s x.ss/\x.ms.length<=1000000/\x.ss.length<=1000000
def xM(w:XO)(B:Nat)(v:XP)(rows:List (List XP))(l:List aQ):Prop:=
 rows.length=l.length/\∀(j:Nat)x,l[j]?=XL x->∃m s,rows[j]?=XL (x.cells m s).toList/\bj7 w B v x m s
def aS.at_blk{w w':XO}{v:XP}{l:List Int}(h:aS w w v l)(F:w.heap.size<=w')(z:l≠[]->∀a n c,v=Zk (XL a) n c->a.block<w->w'.heap[a.block]?=w.heap[a.block]?):aS w' w' v l:=by obtain⟨⟨A,c',rfl,h1,h2,h3⟩,hI⟩:=h;refine⟨⟨_,_,rfl,h1,h2,λy=>?_⟩,hI⟩;obtain⟨b',o',rfl,hb,hc⟩:=h3 y;exact⟨_,_,rfl,by omega,λj D C=>(show w'.cell? ⟨b',o'+j,XM⟩=w.cell? ⟨b',o'+j,XM⟩from Y1 (z (λe=>y (by rw[e];rfl)) (b' o' XM) _ _ rfl hb)).t (hc j D C)⟩
def aS.blk_lt{w:XO}{B:Nat}{v:XP}{l:List Int}(h:aS w B v l)(j:l≠[]){a:Zf}{n c:Nat}(e:v=Zk (XL a) n c):a.block<B:=by obtain⟨⟨A,c',rfl,h1,h2,h3⟩,hI⟩:=h;obtain⟨b',o',rfl,hb,hc⟩:=h3 (by simpa using j);injection e with e;injection e with e;subst e;exact hb
def In.at_blk{x:aQ}{w w':XO}{m s:XP}(h:x.In w w m s)(j:w.heap.size<=w')(hm:x.ms≠[]->∀a n c,m=Zk (XL a) n c->a.block<w->w'.heap[a.block]?=w.heap[a.block]?)(y:x.ss≠[]->∀a n c,s=Zk (XL a) n c->a.block<w->w'.heap[a.block]?=w.heap[a.block]?):x.In w' w' m s:=
 ⟨h.kind,h.a,h.b,h.c,h.ok,h.key,h.val,h.old,h.ms.at_blk j hm,h.ss.at_blk j y⟩
section
variable {w w':XO} {B sb:Nat} {v v':XP} {rows:List (List XP)} {l:List aQ}
theorem xM.kp(h:xM w B v rows l)(z:aL w sb w w')(A:sb<B):xM w' B v rows l:=
 ⟨h.1,λj x hx=>by obtain⟨m,s,h1,h2,h3,h4,h5,h6,h7⟩:=h.2 j x hx;exact⟨m,s,h1,In.at_blk h2 z.size (λ_ a n c e y=>z.block _ y (by have:=h3 a n c e;omega)) (λ_ a n c e y=>z.block _ y (by have:=h4 a n c e;omega)),h3,h4,h5,h6,h7⟩⟩
theorem M0.turn{m:XP}{ys:List Int}(h:M0 v m ys)(A:aS w w m ys)(j:v'.ownBlock=v.ownBlock\/v'.ownBlock=XL w.heap.size):M0 v' m ys:=by
 intro z a n c e y;rcases j with j|j
 .exact h z a n c e (j▸y)
 .have:=A.blk_lt z e;rw[j]at y;injection y with y;omega
theorem xM.grown(h:xM w B v rows l)(A:w.grownBy w' v.ownBlock)(D:v'.ownBlock=v.ownBlock\/v'.ownBlock=XL w.heap.size):xM w' B v' rows l:=
 ⟨h.1,λj x hx=>by obtain⟨m,s,h1,h2,h3,h4,h5,h6,h7⟩:=h.2 j x hx;exact⟨m,s,h1,In.at_blk h2 A.size (λC a n c e y=>A.block _ y λz=>h5 C a n c e z.symm) (λC a n c e y=>A.block _ y λz=>h6 C a n c e z.symm),h3,h4,h5.turn h2.ms D,h6.turn h2.ss D,h7⟩⟩
theorem xM.snoc{x:aQ}{m s:XP}(h:xM w B v rows l)(hx:bj7 w B v x m s):xM w B v (rows++[(x.cells m s).toList]) (l++[x]):=by
 refine⟨by simp[h.1],λj y c=>?_⟩;rcases Yt j l.length with hj|hj
 .rw[YN hj]at c;obtain⟨m',s',g1,g⟩:=h.2 j y c;exact⟨m',s',by rw[YN Hl];exact g1,g⟩
 .rw[List.getElem?_append_right hj]at c;have z:j - l.length=0:=by
   have:=(List.getElem?_eq_some_iff.1 c).1;simp at this;omega
  rw[z]at c;simp at c;subst c;refine⟨m,s,?_,hx⟩;rw[Za Hl,h.1,z];rfl
theorem xM.sl{base:Nat}(h:xM w B v rows l)(ho:w.ownsRow base 45 10 v l.length rows.flatten):ci 10 sX w w v l:=by
 refine ci.of_own rows (λr y=>?_) h.1 ho (λj r x y hx=>?_)
 .obtain⟨j,hj⟩:=List.mem_iff_getElem?.1 y;have z:=(List.getElem?_eq_some_iff.1 hj).1;obtain⟨d,hd⟩:∃d,l[j]?=XL d:=⟨_,XT (by rw[<-h.1];exact z)⟩;obtain⟨m,s,c,_⟩:=h.2 j d hd;rw[hj]at c;injection c with c;subst c;rfl
 .obtain⟨m,s,c,g2,_,_,_,_,g3⟩:=h.2 j x hx;rw[y]at c;injection c with c;subst c;exact⟨m,s,rfl,g2,g3⟩
end
def fv6{s:ByteArray}{y:aQ}(h:qq (eP s)=XL y)(A:s.size<=100000):y.ms.length<=1000000/\y.ss.length<=1000000:=by
 have C:=ZD s A;obtain⟨w,r,e,_⟩:=Qt s;have c:qq (eP s)=(sN (aK (eP s) 0)).bind λk=>(iR k ((eP s).drop 1)).bind λy=>if ea y then XL y else none:=by rw[e];rfl
 rw[c]at h;obtain⟨k,_,h⟩:=Option.bind_eq_some_iff.1 h;obtain⟨z,hz,h⟩:=Option.bind_eq_some_iff.1 h;split at h
 .injection h with h;subst h;have j:=az6 hz;rw[Ym]at j;omega
 .cases h
end
def yW(w:XO)(B:Nat)(cs:List XP)(x:aQ):Prop:=∃m s,cs=(x.cells m s).toList/\x.In w B m s
def yW.ab:jQ yW:=λ_ _ _ _ _ _ _⟨m,s,c,h⟩y j z=>⟨m,s,c,(h.below y j).more z⟩
section
open Go.MapKept
def cd4(d:aG)(rv nv:XP)(w:XO)(U:bg w w rv d.refs)(O:aS w w nv (d.nums.map λx:Nat=>(x:Int)))(z:bK d=XR):
 aR 71 #[Zr #[d.kind,bs d.name,rv,nv,d.by_,Zp d.always]] w (Zp XR):=by
 obtain⟨p1,p2,p3,p4⟩:=F3 z;have J:=(mX z).1;rw[Qi d d.kind Zv rfl]at p4;simp only[XW,decide_eq_true_eq,YX,YZ]at p4;obtain⟨q1,q2,q3,q4,q5,q6⟩:=p4;have dx:∀x∈d.refs,bI x=true:=by unfold bK at z;simp only[XW,Yn]at z;exact z.1.2
 obtain⟨rA,rn,rc,rfl,dz,_,_⟩:=U.sk.form;obtain⟨nA,nn,nc,rfl,cS,_,_⟩:=O.form;rw[XY]at cS;rw[dz]at q1 q2;rw[cS]at q3;have G:(!XN (d.name=[]))=(pL d.kind).name/\(d.name≠[]->bI d.name=XR):=by
  split at q6
  .rename_i h;rw[h];refine⟨?_,λ_=>q6⟩;rw[YZ,decide_eq_false_iff_not];intro e;rw[e]at q6;revert q6;decide
  .rename_i h;have e:=of_decide_eq_true q6;have h':(pL d.kind).name=false:=by simpa using h
   rw[h',e];exact⟨rfl,λh=>absurd rfl h⟩
 have I:=aj λW=>ga1 d.kind Zv d.name d.by_ d.always rA nA rn rc nn nc W G.1 q1 q2 q3 q4 q5;have nk:=aj G.2;have HI:=aj λs W=>RX s W;have pq:=aj U;have CL:=aj O;have Et:=aj dz;have pp:=aj cS;have qz:=aj dx;have mp:=aj p2;clear p1 p2 p3 q1 q2 q3 q4 q5 q6 J U O z dx dz cS G;have hE:((bs d.name).toList==[])=XN (d.name=[]):=by rw[je,ie,Yf,beq_iff_eq,decide_eq_true_eq]
 have HE:=aj hE;go_enter func71,ntmps71;go_upto_region 1 with(fail)
 refine df ?_;intro c ⟨hB,hx⟩;have V:=aj hB;have C:=aj hx;clear hB hx;obtain⟨x0,x1,x2,x3,x4,x5⟩:=dy C.o;have X:=aj (show XN (d.name=[])=XQ->bI d.name=XR from λh=>nk (by rw[decide_eq_false_iff_not]at h;exact h));generalize XN (d.name=[])=e0 at hE X;clear HE nk;cases e0;all_goals
  go_upto_region 3 with(first
   |(go_at_call 178;refine(I _).r λw1 Z=>?_;have bP:=Z;obtain⟨y0,y1,y2,y3,y4,y5⟩:=dy (ai C Z))
   |(go_at_call 179;refine(HI _ _).r λw2 au=>?_;rw[X wP];have aZ:=aq bP au))
  first
   |refine ez (λW=>Below c c W) aZ ?_
   |refine ez (λW=>Below c c W) bP ?_
  intro Wn Y;have D_:=aj Y;clear Y;go_upto_region 4 with(fail)
  go_loopw [3] (λi wr=>∃k:Nat,k<=rn/\i=ah k/\Below c c wr) (λi _=>rn - (X8 i).toNat)
  case atStart=>exact⟨0,bU _,rfl,D_⟩
  case round=>
   obtain⟨k,J,rfl,hb⟩:=hrel;have F:=aj hb;have D:=aj (aq V hb);obtain⟨z0,z1,z2,z3,z4,z5⟩:=dy (ai C hb);clear hb;by_cases y:k<rn
   .obtain⟨kh,bh⟩:=dt y;obtain⟨x,hx⟩:=iT Et y;obtain⟨b,o,rfl,fL,bo⟩:=bg.cell pq hx;have cx:=kc D bo;have A:=aj λW=>RX x W;rw[qz x (eE hx)]at A;clear hx bo;go_wp2_with(go_at_call 179;refine(A _).r λw4 aV=>?_)
    exact⟨⟨k+1,by omega,by go_num,aq F aV⟩,by simp[X8];omega⟩
   .have bh:=eS y;go_upto_region 9 with(fail)
    clear z0 z1 z2 z3 z4 z5;go_loopw [4] (λi wr=>∃k:Nat,k<=nn/\i=ah k/\Below c c wr) (λi _=>nn - (X8 i).toNat)
    case atStart=>exact⟨0,bU _,rfl,F⟩
    case round=>
     obtain⟨k,J,rfl,hb⟩:=hrel;have F:=aj hb;have D:=aj (aq V hb);obtain⟨z0,z1,z2,z3,z4,z5⟩:=dy (ai C hb);clear hb;by_cases y:k<nn
     .obtain⟨kh,BG⟩:=dt y;obtain⟨x,hx⟩:=iT pp y;have Pr:=mp x (eE hx);obtain⟨b,o,rfl,fL,bo⟩:=aS.cell CL (j:=k) (x:=x) (by rw[List.getElem?_map,hx];rfl);have cx:=kc D bo;have n1:decide ((x:Int)<0)=false:=by rw[decide_eq_false_iff_not];omega
      have n2:XN ((1048576:Int)<(x:Int))=false:=by rw[decide_eq_false_iff_not];omega
      have n3:¬(x:Int)<0:=Zv;have n4:¬(1048576:Int)<(x:Int):=Zv;clear hx bo Pr;go_wp2_with fail
      exact⟨⟨k+1,by omega,by go_num,F⟩,by simp[X8];omega⟩
     .have BG:=eS y;go_wp2_with fail
      go_ret;exact⟨rfl,D⟩
def gk7(d:aG)(rv nv:XP)(w:XO)(I:bg w w rv d.refs)(G:aS w w nv (d.nums.map λx:Nat=>(x:Int)))(J:bK d=XR)
 (Z:∀W,Below w w W->aR 181 #[Zr #[d.kind,bs d.name,rv,nv,d.by_,Zp d.always]] W (X2 (bs (c_ [32] (b_ d)))))(F:(cH d).length<=1000000):
 aR 72 #[Zr #[d.kind,bs d.name,rv,nv,d.by_,Zp d.always]] w (X2 (bs (cH d))):=by
 have hk:=(mX J).1;have gi:=aj λW(c:Below w w W)=>cd4 d rv nv W ((I.below c (ar _)).more c.size) ((G.below c (ar _)).more c.size) J;have V:=aj λW=>fz6 d.kind Zv W;have O:=aj Z;obtain⟨rA,rn,rc,rfl,_⟩:=I.sk.form;obtain⟨nA,nn,nc,rfl,_⟩:=G.form;have z:(yX d.kind).length+(c_ [32] (b_ d)).length+2<=1000000:=by unfold cH at F;simp only[X0,Yl]at F;unfold yX;omega
 have j:=aj (show bs (cH d)=bs (yX d.kind)++⟨#[32]⟩++bs (c_ [32] (b_ d))++⟨#[59]⟩from by show _=bs _++bs [32]++bs _++bs [59];rw[fU,fU,fU];rfl);rw[<-eM,<-eM]at z;generalize bs (yX d.kind)=s0 at V j z;generalize bs (c_ [32] (b_ d))=s1 at O j z;have z1:¬9223372036854775807<s0.size+1:=Zv;have z2:¬9223372036854775807<s0.size+1+s1.size:=Zv;have z3:¬9223372036854775807<s0.size+1+s1.size+1:=Zv;clear I G J Z F hk;go_enter func72,ntmps72;go_upto_region 1 with(fail)
 refine df ?_;intro W1 ⟨Y,hx⟩;have U:=aj Y;have y:=aj hx;clear Y hx;obtain⟨x0,x1,x2,x3,x4,x5⟩:=dy y.o;go_upto_region 3 with(go_at_call 71;refine(gi _ U).r λw1 A=>?_;have bP:=aq U A;obtain⟨y0,y1,y2,y3,y4,y5⟩:=dy (ai y A))
 have hy:w.heap.size<w1:=blk_lt (ai y A);go_region_held3 (λw'=>ae w' w (ah d.kind)/\aa w' w 1 (X2 (bs d.name))/\aa w' w 2 (Zk rA rn rc)/\aa w' w 3 (Zk nA nn nc)/\aa w' w 4 (ah d.by_)/\aa w' w 5 (Zp d.always)) (go_simp)
  (first
    |(go_at_call 180;refine(V _).r λw2 D=>?_;have X:=aq (aW bP) D;have tO:w.heap.size<w2:=dQ D hy;obtain⟨cM,cj⟩:=oQ D)
    |(go_at_call 181;refine(O _ X).r λw3 C=>?_;have du:=aq X C;have nj:w.heap.size<w3:=dQ C tO;obtain⟨kE,pF⟩:=dE C))
 go_wp2_with fail
 go_ret;exact⟨mQ j.symm,du⟩
def gk8(v:XP)(l:List aG)(w:XO)(F:ci 6 mS w w v l)(U:∀d∈l,bK d=XR)(J:(aJ (l.map cH)).length<=100000000)
 (X:∀d rv nv W,bg W W.heap.size rv d.refs->aS W W.heap.size nv (d.nums.map λx:Nat=>(x:Int))->bK d=XR->aR 72 #[Zr #[ah d.kind,bs d.name,rv,nv,ah d.by_,Zp d.always]] W (X2 (bs (cH d)))):
 aR 30 #[v] w (X2 (bs (aJ (l.map cH)))):=by
 obtain⟨A,n,c,rfl,hn,hc,fQ⟩:=F.form;have HV:=aj F;have G:=aj hn;have qz:=aj U;have Tp:=aj X;have Y:=aj λk=>show(aJ ((l.map cH).take k)).length<=100000000 from bC bf4 J;clear F hn U X J;go_enter func30,ntmps30;go_wp2_with fail
 go_loopw [3,4] (λs i wr=>∃k:Nat,k<=n/\i=ah k/\s=X2 (bs (aJ ((l.map cH).take k)))/\Below w w wr) (λ_ i _=>n - (X8 i).toNat)
 case atStart=>exact⟨0,bU _,rfl,rfl,am w⟩
 case round=>
  obtain⟨k,hk,rfl,rfl,hb⟩:=hrel;have j:=aj hb;by_cases C:k<n
  .obtain⟨kh,bh⟩:=dt C;obtain⟨d,hd⟩:=iT G C;obtain⟨b,o,cs,rfl,fL,_,⟨rv,nv,rfl,hr,cS,_⟩,oZ⟩:=HV.at_ hd;have V:=kc j (oZ 0 _ rfl);rw[Nat.add_zero]at V;have e1:=kc j (oZ 1 _ rfl);have e2:=kc j (oZ 2 _ rfl);have e3:=kc j (oZ 3 _ rfl);have e4:=kc j (oZ 4 _ rfl);have e5:=kc j (oZ 5 _ rfl);obtain⟨rA,rn,rc,rfl,_⟩:=hr.sk.form;obtain⟨nA,nn,nc,rfl,_⟩:=cS.form;have z:=qz d (eE hd);have gi:=aj λW(y:Below w w W)=>cd4 d _ _ W ((hr.below y (ar _)).more y.size) ((cS.below y (ar _)).more y.size) z;have D:=aj λW(y:Below w w W)=>Tp d _ _ W ((hr.below y (ar _)).more y.size) ((cS.below y (ar _)).more y.size) z;have Z:=aj (show bs (aJ ((l.map cH).take (k+1)))=bs (aJ ((l.map cH).take k))++bs (cH d)++⟨#[10]⟩from by show _=_++_++bs [10];rw[ZX hd,fU,fU,List.append_assoc]);have z1:(bs (aJ ((l.map cH).take k))).size<=100000000:=by rw[eM];exact Y k
   have z2:(bs (cH d)).size<=100000000:=by have h:=Y (k+1);rw[ZX hd,X0,X0]at h;rw[eM];omega
   have z3:¬9223372036854775807<(bs (aJ ((l.map cH).take k))).size+(bs (cH d)).size:=Zv;have z4:¬9223372036854775807<(bs (aJ ((l.map cH).take k))).size+(bs (cH d)).size+1:=Zv;have cU:=aj λW(h:Below wr wr W)=>XU (kc h V) (XU (kc h e1) (XU (kc h e2) (XU (kc h e3) (XU (kc h e4) (kc h e5)))));clear hd oZ hr cS z hb
   go_wp2_with(first
    |(go_at_call 71;refine(gi _ j).r λw1 I=>?_;have O:=aq j I;obtain⟨f0,f1,f2,f3,f4,f5⟩:=cU _ I)
    |(go_at_call 72;refine(D _ O).r λw2 au=>?_;have aZ:=aq O au))
   exact⟨⟨k+1,by omega,by go_num,by rw[Z.o],aZ⟩,by simp[X8];omega⟩
  .have bh:=eS C;go_wp2_with fail
   go_ret;exact⟨mQ (by rw[Ye (by rw[XY,G.o];omega)]),j⟩
end
end Go.Proofs.YtihhpjmclebfpaaGreatDoor
