/- A part of the proof. -/
import Derived.Test.YtihhpjmclebfpaaGreatDoorQbk
set_option linter.defProp false
set_option linter.unusedVariables false
set_option linter.unusedSimpArgs false
set_option maxRecDepth 100000
set_option maxHeartbeats 32000000
open Option renaming some->XL,none->XM
open Decidable renaming decide->XN
open Go renaming World->XO,Value->XP,Calls->X4,TypeId->Ya,maxLen->Yd,Oper->YO,undef->YQ,execOp->Y7,Ending->Zb,Addr->Zf
open Bool renaming false->XQ,true->XR
open And renaming intro->XU
open Go.RowKit renaming Hid->XV
open Go.Proofs renaming intOf->X8
open Go.Proofs.Tryz renaming prog->X3,underlying22->Zo
open Go.Value renaming int->X1,string->X2,oneCell'->YH,slice->Zk,bool->Zp,agg->Zr,pointer->Zs
open Go.IntKind renaming i64->Yo
open Go.Region renaming wanted->YB
open Go.Ending renaming returned->YT
open Go.Oper renaming wp->Zm
open Go.Obj renaming cells->Zq
open Go.Operand renaming tmp->Zt,const->Zu
namespace Go.Proofs.YtihhpjmclebfpaaGreatDoor
open Go Go.RowKit Go.Proofs.Tryz
section
open Go.MapKept
def ZY{w w':XO}{ob:Option Nat}(j:w.grownBy w' ob){b o:Nat}(h:b<w)(c:ob≠XL b):w'.cell? (b o XM)=w.cell? (b o XM):=
 Y1 (j.block b h λe=>c e.symm)
def gY(ob:Nat)(l:List aG)(W:XO):Prop:=
 ∃u rows,af W ob #[u] 59/\W.ownsRow ob 100 6 u l.length rows.flatten/\(∃A n c,u=Zk A n c)/\rH W ob rows l
def F4(ob I:Nat)(l:List aG)(d:aG)(rv nv:XP)(W:XO)(hJ:gY ob l W)(hl:l.length<1000000)(U:d.by_=0/\d.always=XQ)(J:ob<I)
 (X:W.ownsRow I 9 1 rv d.refs.length (d.refs.map λs=>X2 (bs s)))(V:W.ownsRow I 3 1 nv d.nums.length (d.nums.map fun(k:Nat)=>X1 .i64 k))(h5:d.kind<=1000000/\d.by_<=1000000/\∀k∈d.nums,k<=2000000):
 X4 X3 48 #[d.kind,bs d.name,rv,nv,az ob] W λe Z=>e=YT (.tuple #[])/\gY ob (l++[d]) Z/\Below ob W Z:=by
 obtain⟨u,rows,jw,bD,⟨A,nn,c,rfl⟩,pB⟩:=hJ;obtain⟨rA,rn,rc,rfl⟩:=eW X;obtain⟨nA,nm,nc,rfl⟩:=eW V;have ap:=blk_lt jw;have c0:=ag (o:=0) jw rfl;obtain⟨i0,hi,cA,a_,bd⟩:=Y0 ZR;have uu:=aj jw;have HO:=aj bD;have uv:=aj pB;have HR:=aj X;have HN:=aj V;have H5:=aj h5;have aT:¬ob=W:=Zv;have O:=aj (show tQ d (Zk rA rn rc) (Zk nA nm nc)=[ah d.kind,X2 (bs d.name),Zk rA rn rc,Zk nA nm nc,ah 0,Zp XQ]from by unfold tQ;rw[U.1,U.2];rfl);have Y:=aj (ai jw (ak (am W) (Zq #[d.kind,bs d.name,Zk rA rn rc,Zk nA nm nc,ah 0,Zp XQ] 100)));have y:=aj (bD.alloc (Zq #[d.kind,bs d.name,Zk rA rn rc,Zk nA nm nc,ah 0,Zp XQ] 100));have Dn:(Zk A nn c).ownBlock≠XL ob:=λe=>by have:=yR HO uu aD ob e;exact this rfl
 simp only[az];go_enter func48,ntmps48;refine wp_region_lit ?_;iterate 7
  refine yS λK z=>?_;go_simp;refine z _ _ ?_;refine aH ?_
 refine YV _ rfl (Zt 9) (Zt 15) _ rfl ob 100 i0 _ 6 88 underlying59 hi cA a_ bd rfl aD (Zk A nn c) l.length rows.flatten rfl y (W 0 XM) 1 1 [ah d.kind,X2 (bs d.name),Zk rA rn rc,Zk nA nm nc,ah 0,Zp XQ] rfl rfl (pA rfl) uF uE Zv bN ?_;intro v' G F j _;obtain⟨A',n',c',rfl⟩:=eW F;have D:=jD Y j (yR y Y aD);have f0:=cO D 0;have d0:=ag (o:=0) D rfl;have ko:=aj F;have Lr:=yR F D aD;have St:=aj D;have bE:=aj ((((ak (am W) _).mono (fK ap)).grown j bN λk C=>(X6 y k C).1):Below ob W G);have qA:=aj ((uv.kp (aL.of_below (pb:=ob) (ak (am W) _) (ar _) Zy)).grown y j);have Tx:=aj (Js y j (eI HR (ak (am W) _)) aD);have Tv:=aj (Js y j (eI HN (ak (am W) _)) aD);refine yS λK z=>?_;go_simp;refine z _ _ ?_;refine _root_.Go.wpList_nil ?_
 go_end0
 have C:aL G ob G (G.setCell ob (Zk A' n' c')):=(aL.refl _ ob _).set (.inl rfl) _;refine⟨rfl,⟨Zk A' n' c',rows++[tQ d (Zk rA rn rc) (Zk nA nm nc)],(bf St 0 _).t rfl,?_,⟨_,_,_,rfl⟩,?_⟩,bE.setCell (p:=ob) (ar _) _⟩
 .have h:=be8 (o:=0) (u:=Zk A' n' c') ko Lr;rw[List.flatten_append,X0,Yl];rw[<-O.o]at h;simpa using h
 .exact(qA.kp C).snoc J (qu Tx C (ar _) J) (qu Tv C (ar _) J) H5.o
section
variable {W:XO} {rt:Nat} {T:Ya} {u0 u1 u2 u3 u4 u5:XP}
def bf8{a:Act}{R:Zb->XO->Prop}{c j y z A C:XP}(h4:a.tmps.getD 4 YQ=Zs (XL rt))(U:a.defers=[])
 (O:af W rt #[u0,u1,u2,u3,u4,u5] T)(J:∀D,aL W rt W D->R (YT (Zr #[c,j,y,z,A,C])) D):
 bodyPost X3 Tryz.f50 R .ret a ((((((W.setCell rt c).setCell (rt 1 XM) j).setCell (rt 2 XM) y).setCell (rt 3 XM) z).setCell (rt 4 XM) A).setCell (rt 5 XM) C):=by
 have F:((((((W.setCell rt c).setCell (rt 1 XM) j).setCell (rt 2 XM) y).setCell (rt 3 XM) z).setCell (rt 4 XM) A).setCell (rt 5 XM) C).heap[rt]?=XL (Zq #[c,j,y,z,A,C] T (0,0)):=
  (bf (bf (bf (bf (bf (bf O 0 c) 1 j) 2 y) 3 z) 4 A) 5 C).t aI
 have G:aL W rt W ((((((W.setCell rt c).setCell (rt 1 XM) j).setCell (rt 2 XM) y).setCell (rt 3 XM) z).setCell (rt 4 XM) A).setCell (rt 5 XM) C):=
  aL.set (aL.set (aL.set (aL.set (aL.set (aL.set (aL.refl _ _ _) (.inl rfl) _) (.inl rfl) _) (.inl rfl) _) (.inl rfl) _) (.inl rfl) _) (.inl rfl) _
 generalize ((((((W.setCell rt c).setCell (rt 1 XM) j).setCell (rt 2 XM) y).setCell (rt 3 XM) z).setCell (rt 4 XM) A).setCell (rt 5 XM) C)=D at F G⊢
 obtain⟨f0,f1,f2,f3,f4,f5⟩:=dy F;refine bodyPost_ret (v:=Zr #[c,j,y,z,A,C]) ?_ U (J D G);have I:a.tmps[4]?.getD YQ=Zs (XL rt):=oL;simp[results,Tryz.f50,go_sem,I,f0,f1,f2,f3,f4,f5]
end
def fn4(m:aU)(mv:MV)(x:cF)(o:XP)(w:XO)(hm:m.In w w mv)(bA:ew m=XR)(hx:qr m x)(ho:aS w w o x.ms):
 X4 X3 50 #[Zr (m.cells mv),Zr #[x.kind,x.item,x.other,x.n,x.by_,Zp x.always,o]] w (ZU w (ch m x)):=by
 obtain⟨⟨k0,k6⟩,⟨i0,i8⟩,⟨o0,o8⟩,⟨n0,n8⟩,⟨y0,y4⟩,cz,yD⟩:=ZT hx;have hM:=wh bA;have xm:=hM.xn;have ha0:=hM.mn.2;have nO:=aj (be9 m x);have nk:=aj (ZS m x);have gv3:Hid (∀l:List Int,(∀n∈l,0<=n/\n<=m.items.length)->True):=λ_ _=>trivial;have mM:=aj (show(((ch m x).kind:Nat):Int)=10+x.kind from by unfold ch;simp only;omega);have zy:=aj (show(ch m x).name=[]from rfl);have wz:=aj (show(((ch m x).by_:Nat):Int)=x.by_ from by unfold ch;simp only;omega);have wy:=aj (show(ch m x).always=x.always from rfl);refine DK λSa sc hs bZ bL Fa fc bS bM cj Ra rc hr cd cZ Ma mc gF cr co La lc ee cW dh Ia ic hi dg d' Ua uc hu dm dr=>?_;obtain⟨OA,on,oc,rfl,xc,_,_⟩:=ho.sk.form;have HS:=aj (nD m hs bS hr gF ee hi hu);have hI:=hm.is;rw[hi]at hI;have mN:=aj λW(z:Below w w W)=>bf6 m mv (Zk OA on oc) x.ms W (hm.to z (ar _) z.size) ((ho.below z (ar _)).more z.size) Zv cz;rw[HS.o]at mN⊢
 have kI:=aj hI;have Ec:=aj λW B u(h:aS W B u [1,2,5,6])=>Qh u [1,2,5,6] x.kind W B h;have bq8:Hid (Rh x.kind=XN (x.kind∈([1,2,5,6]:List Int))):=rfl;rw[<-bq8.o]at Ec;have HN:Hid (∀n,n∈[x.item,x.other]->0<=n/\n<=m.items.length):=λn hn=>by
  rcases List.mem_cons.1 hn with rfl|hn
  .exact⟨i0,i8⟩
  .rw[List.mem_singleton.1 hn];exact⟨o0,o8⟩
 generalize B5:ch m x=d at nO nk mM zy wz wy⊢
 obtain⟨KD,I,O,N,Y,AL,MS⟩:=x;simp only at k0 k6 i0 i8 o0 o8 n0 n8 y0 y4 cz yD nO nk mM wz wy mN Ec HN xc⊢
 generalize Rh KD=hn at nk Ec;go_enter func50,ntmps50;go_upto_region 1 with(fail)
 refine ez (λW=>Below w w W/\af W w.heap.size #[Zk Sa m.sites.length sc,Zk Fa m.feeds.length fc,Zk Ra m.racks.length rc,Zk Ma m.machs.length mc,Zk La m.links.length lc,Zk Ia m.items.length ic,m.dark,m.slots,m.reserve,m.failures,Zk Ua m.rules.length uc] 29/\af W (w.heap.size+1) #[KD,I,O,N,Y,Zp AL,Zk OA on oc] 88/\af W (w.heap.size+2) #[ah 0,X2 ⟨#[]⟩,Zk XM 0 0,Zk XM 0 0,ah 0,Zp XQ] 100) (bf0 w _ _ _ _ _ _) ?_;intro W1 ⟨bP,eH,pk,a_⟩;have bp:=aj bP;have xY:=aj eH;have Hf:=aj pk;have Kk:=aj a_;obtain⟨q0,q1,q2,q3,q4,q5,q6⟩:=gM pk;have IJ:=blk_lt a_;have hd5:IntKind.i64.wrap (10+KD)=10+KD:=Yr _ Zv;go_upto_region 2 with(fail)
 refine df ?_;intro W2 ⟨au,uP⟩;have nq:=aj (ai xY au);have Hg:=aj (ai Hf au);have Hh:=aj (ai Kk au);have aX:=aj (aq bp au);have KZ:=blk_lt uP;have iO:=aj uP;generalize W1.heap.size=db at iO IJ KZ⊢
 obtain⟨q0,q1,q2,q3,q4,q5,q6⟩:=gM Hg.o;go_upto_region 3 with(fail)
 refine df ?_;intro W3 ⟨aM,UK⟩;have jc:=aj (ai nq aM);have Kj:=aj (ai Hg aM);have wM:=aj (ai Hh aM);have bE:=aj (aq aX aM);have th:=aj (ai iO aM);have vO:=blk_lt UK;have JI:=aj UK;generalize W2.heap.size=ab at JI KZ vO⊢
 go_loopw [22] (λi wr=>∃(k:Nat)(rv:XP),k<=2/\i=ah k/\af wr db #[ah (10+KD),X2 ⟨#[]⟩,rv,Zk XM 0 0,Y,Zp AL] 100/\af wr ab #[I,O] 3/\bR wr (ab+1) rv ((rK m ([I,O].take k)).map bs)/\Below db W3 wr) (λi _=>2 - (X8 i).toNat)
 case atStart=>exact⟨0,Zk XM 0 0,bU _,rfl,th,JI,bR.nil_ _ _,(am W3).mono Zv⟩
 case round=>
  obtain⟨k,rv,X,rfl,hd,ha,bD,z⟩:=hrel;obtain⟨rA,rn,rc',rfl⟩:=eW bD;have zp:=aj hd;have GB:=aj ha;have J:=aj bD;have fC:=aj z;have mj:=gl jc z Zv;have He:=aj mj;have bB:=aj (Below.t bE (z.mono Zv));have eh:=blk_lt ha;by_cases ap:k<2
  .obtain⟨kh,bh⟩:=dt ap;obtain⟨n,iE⟩:∃n,[I,O][k]?=some n:=⟨_,List.getElem?_eq_getElem (by simpa using ap)⟩;have fG:=HN n (eE iE);have ca:=fn2 GB iE;have HT:=aj (fn1 m iE);by_cases h0:0<n
   .obtain⟨j,vR⟩:∃j:Nat,n=(j:Int)+1:=⟨(n - 1).toNat,by omega⟩;subst vR;have jK:(0:Int)<=j:=by omega
    have nf:(j:Int)+1 - 1=j:=Zv;have lA:(j:Int)<m.items.length:=Zv;refine MN λsy=>?_;obtain⟨y,hy⟩:∃y,m.items[j]?=XL y:=⟨_,XT Zv⟩;obtain⟨ib,io,ics,rfl,Vj,_,⟨_,rfl,_,_⟩,Le⟩:=kI.at_ hy;have ce:aa wr ib (io+j*7) (X2 (bs y.name)):=(bB.cell (p:=⟨ib,io+j*7,XM⟩) Vj).t (Le 0 _ rfl);have c5:=ag (o:=5) mj rfl;have d2:=ag (o:=2) zp rfl;have di1:=aj (show nU m ((j:Int)+1)=y.name from by unfold nU fw;rw[show((j:Int)+1 - 1).toNat=j by omega,X9,X5,hy];rfl);have oH:=aj (show(rK m ([I,O].take k)).length<=100 from by unfold rK;rw[XY];refine bC (List.length_filter_le _ _) ?_;rw[YK];simp;omega);have G:∀b,(Zk rA rn rc').ownBlock=XL b->ab+1<=b:=λb z=>(X6 J b z).1;have mK:w.heap.size<ab:=Zv;go_upto_region 6 with(fail)
    refine eT (S:=λw'=>aa w' db 2 (Zk rA rn rc')/\aa w' w 5 (Zk (XL (ib io XM)) m.items.length ic)/\aa w' ib (io+j*7) (X2 (bs y.name))) 11 13 (by exact⟨d2,c5,ce⟩) λhS=>?_;iterate 9 refine da 13 28 ?_
    refine bt 9 λK hK=>?_;go_simp;refine hK _ _ (by exact⟨((ak (am _) _).cell (p:=db 2 XM) (bY _ _ hS.1)).t hS.1,((ak (am _) _).cell (p:=w 5 XM) (bY _ _ hS.2.1)).t hS.2.1,((ak (am _) _).cell (p:=⟨ib,io+j*7,XM⟩) (bY _ _ hS.2.2)).t hS.2.2⟩) λhS=>?_;refine aH ?_;refine bt 10 λK hK=>?_;refine xA rfl (Zt 29) (Zt 37) rfl (ab+1) _ _ _ [bs y.name] rfl rfl (bR.below (J.below (aW (am wr))) (ak (am _) _)) (bR.src (bR.lit _ 0 _ (bU _))) (by have:=oH.o;simp;omega) bN ?_;intro v' w3 jX F;refine hK _ _ (by exact⟨(ZY F (bY _ _ hS.1) (λe=>by have h9:=G _ e;dsimp only at h9;omega)).t hS.1,(ZY F (bY _ _ hS.2.1) (λe=>by have h9:=G _ e;dsimp only at h9;omega)).t hS.2.1,(ZY F (bY _ _ hS.2.2) (λe=>by have h9:=G _ e;dsimp only at h9;omega)).t hS.2.2⟩) λhS=>?_;refine aH ?_;obtain⟨vA,vn,vc,rfl⟩:=eW jX;have OP:=jD (ai zp (ak (aW (am wr)) _)) F (λb z e=>by have:=G b z;omega);have gw7:=jD (ai GB (ak (aW (am wr)) _)) F (λb z e=>by have:=G b z;omega);have po:=aj ((fC.t ((ak (aW (am wr)) _).mono Zv)).grown F bN (λb z=>by have:=G b z;omega));have SQ:=aj (X6 jX);have f2:=cO OP 2;refine eA 11 λK hK=>?_;go_simp;refine fD ?_;refine aH ?_;refine eA 12 λK hK=>?_;go_simp;refine fD ?_;refine aH ?_;refine gc ?_;go_wp2_with fail
    refine⟨⟨k+1,Zk vA vn vc,by omega,by go_num,(bf OP 2 _).t rfl,mT gw7 Zv,?_,po.setCell (p:=db 2 XM) (ar _) _⟩,by simp[X8];omega⟩;rw[HT.o,if_pos Zv,Yp,di1.o];exact qu jX ((aL.refl w3 db w3).set (.inl rfl) _) (ar _) Zv
   .have cj0:¬n>0:=h0;go_wp2_with fail
    refine⟨⟨k+1,_,by omega,by go_num,zp,GB,?_,fC⟩,by simp[X8];omega⟩;rw[HT.o,if_neg h0,Zd];exact J
  .have bh:=eS ap;have gD:k=2:=by omega
   subst gD;have CN:=aj (show bR wr (ab+1) (Zk rA rn rc') ((rK m [I,O]).map bs)from J);have bv0:=aj (gl Kj fC Zv);have bv2:=aj (gl wM fC Zv);go_upto_region 8 with(fail)
   refine ez (λW=>Below wr wr W) (am wr) ?_;intro W5 V;have Ed:=aj (ai zp V);have Kh:=aj (ai He V);have Tt:=aj (ai bv0 V);have uC:=aj (ai bv2 V);have Ep:=aj (CN.below V);have mK:ab<W5:=bJ eh V.size;have gK:=aj (fC.t (V.mono Zv));have cT:=aj (aq bB V);have oH:=aj (show(rK m [I,O]).length<=2 from by unfold rK;rw[XY];exact List.length_filter_le _ _);have S9:=aj (show(ji m MS).length<=16 from by unfold ji;rw[XY];omega);have G:∀b,(Zk rA rn rc').ownBlock=XL b->ab+1<=b:=λb z=>(X6 Ep b z).1;have cU:=aj fun(W:XO)(h:af W db #[ah (10+KD),X2 ⟨#[]⟩,(Zk rA rn rc'),Zk XM 0 0,Y,Zp AL] 100/\af W w.heap.size #[Zk Sa m.sites.length sc,Zk Fa m.feeds.length fc,Zk Ra m.racks.length rc,Zk Ma m.machs.length mc,Zk La m.links.length lc,Zk Ia m.items.length ic,m.dark,m.slots,m.reserve,m.failures,Zk Ua m.rules.length uc] 29/\af W (w.heap.size+1) #[KD,I,O,N,Y,Zp AL,Zk OA on oc] 88)=>XU (dy h.1) (XU (bQ h.2.1) (gM h.2.2));refine eT (S:=λW=>af W db #[ah (10+KD),X2 ⟨#[]⟩,(Zk rA rn rc'),Zk XM 0 0,Y,Zp AL] 100/\af W w.heap.size #[Zk Sa m.sites.length sc,Zk Fa m.feeds.length fc,Zk Ra m.racks.length rc,Zk Ma m.machs.length mc,Zk La m.links.length lc,Zk Ia m.items.length ic,m.dark,m.slots,m.reserve,m.failures,Zk Ua m.rules.length uc] 29/\af W (w.heap.size+1) #[KD,I,O,N,Y,Zp AL,Zk OA on oc] 88) 7 9 (by exact⟨Ed,Kh,Tt⟩) λhS=>?_;iterate 5 refine da 9 41 ?_
   refine bt 5 λK hK=>?_;go_simp;refine(mN _ (aW cT)).q λw6 u hu cL=>?_;have U:=aq (aW (am W5)) cL;have Tq:=aj hu;obtain⟨uA,un,uc',rfl⟩:=eW hu;try go_simp
   refine hK _ _ (by exact⟨ai Ed U,ai Kh U,ai Tt U⟩) λhS=>?_;refine aH ?_;have qg:=U.size;refine bt 6 λK hK=>?_;refine xA rfl (Zt 42) (Zt 46) rfl (ab+1) _ _ _ ((ji m MS).map bs) rfl rfl (Ep.below U) Tq.src (by have:=oH.o;have:=S9.o;simp;omega) Zv ?_;intro v' w7 BX F;have p8:=jD (ai Ed U) F (λb z e=>by have:=G b z;omega);have cy2:=jD (ai Kh U) F (λb z e=>by have:=G b z;omega);have Pt:=jD (ai Tt U) F (λb z e=>by have:=G b z;omega);have Hi:=aj (jD (ai uC U) F (λb z e=>by have:=G b z;omega));have j':=aj ((gK.t (U.mono Zv)).grown F Zv (λb z=>by have:=G b z;omega));refine hK _ _ (by exact⟨p8,cy2,Pt⟩) λhS=>?_;refine aH ?_;obtain⟨vA,vn,vc,rfl⟩:=eW BX;have tr:=aj BX;have f2:=cO p8 2;have d2:=ag (o:=2) p8 rfl;refine eA 7 λK hK=>?_;go_simp;refine fD ?_;refine aH ?_;refine eA 8 λK hK=>?_;go_simp;refine fD ?_;refine aH ?_;refine gc ?_;have Dt:w.heap.size+2<w7:=blk_lt Hi.o;have U_:db<w7:=blk_lt p8;go_upto_region 9 with(fail)
   refine ez (fun(W:XO)=>af W db #[ah (10+KD),X2 ⟨#[]⟩,(Zk vA vn vc),Zk XM 0 0,Y,Zp AL] 100/\aL w7 db w7 W) ⟨(bf p8 2 _).t rfl,(aL.refl w7 db w7).set (.inl rfl) _⟩ ?_;intro D ⟨E9,ox⟩;have do2:=aj (ox.blk Pt (blk_lt Pt) Zv);have pr:=aj (ox.blk Hi Dt Zv);have xV:=aj (qu tr ox (ar _) Zv);have vF:=aj E9;have Bi:=aj (j'.t (ox.below (fK U_)));have Au:=ox.size;have ho4:ab<D:=bJ vO (bC j'.size Au);have hz0:w.heap.size+1<D:=Zv;have hp9:db<D:=Zv;obtain⟨q0,q1,q2,q3,q4,q5,q6⟩:=gM do2.o;cases hn with
   |false=>
    go_upto_region 11 with(go_at_call 63;refine(Ec _ _ _ (aS.lits _ [1,2,5,6] (by simp[aN]) Zy _)).m ?_;rintro e w9 ⟨rfl,rfl⟩)
    refine ez (λW=>Below D D W) (ak (am D) _) ?_;intro W9 jW;have Z:=ai vF jW;have Kl:=aj (ai pr jW);have Tc:=aj (bR.below xV jW);have GU:=aj (Bi.t (jW.mono Zv));have IH:=jW.size;have dd5:=aj Z;obtain⟨d0,d1,d2,d3,d4,d5⟩:=dy Z;have C:=Kl.o;obtain⟨z0,z1,z2,z3,z4,z5⟩:=dy C;have f0:=cO C 0;have f1:=cO C 1;have f2:=cO C 2;have f3:=cO C 3;have f4:=cO C 4;have f5:=cO C 5;go_wp2_with fail
    refine bf8 rfl rfl Kl λW7 X=>?_;refine⟨Zk vA vn vc,Zk XM 0 0,by rw[mM.o,zy.o,wz.o,wy.o];rfl,?_,?_,?_⟩
    .rw[nO.o];exact tT (Ri (qu Tc X (ar _) Zv)) Zv
    .rw[nk.o];exact Yc _ _ _ _
    .exact(bE.t (GU.mono Zv)).t ((X.below Zv).mono Zv)
   |true=>
    go_upto_region 11 with(go_at_call 63;refine(Ec _ _ _ (aS.lits _ [1,2,5,6] (by simp[aN]) Zy _)).z ?_;have f3:=cO vF 3;have d3:=ag (o:=3) vF rfl)
    refine ez (fun(W:XO)=>∃nv,af W db #[ah (10+KD),X2 ⟨#[]⟩,(Zk vA vn vc),nv,Y,Zp AL] 100/\W.ownsRow (ab+1) 3 1 nv 1 [X1 .i64 N]/\(∃A n c,nv=Zk A n c)/\aL D db D W) ⟨Zk (XL ⟨D+1,0,XM⟩) 1 1,ai ((bf vF 3 _).t rfl) (ak (ak (am _) _) _),by simpa using World.ownsRow_lit (base:=ab+1) ((D.setCell (db 3 XM) (Zk (XL ⟨D+1,0,XM⟩) 1 1)).alloc (Zq #[ah 1,ah 2,ah 5,ah 6] 3)) #[X1 .i64 N] 1 (size:=1) (e:=3) bN fH rfl,⟨_,_,_,rfl⟩,((aL.refl D db D).set (.inl rfl) _).t (aL.of_below (ak (ak (am _) _) _) Zy bN)⟩ ?_;rintro W9 ⟨nv,Z,pg,⟨nA,nn,nc,rfl⟩,wY⟩;have dh8:=aj pg;have Kl:=aj (wY.blk pr (blk_lt pr) Zv);have Tc:=aj (qu xV wY (ar _) Zv);have GU:=aj (Bi.t (wY.below Zv));have IH:=wY.size;have dd5:=aj Z;obtain⟨d0,d1,d2,d3,d4,d5⟩:=dy Z;have C:=Kl.o;obtain⟨z0,z1,z2,z3,z4,z5⟩:=dy C;have f0:=cO C 0;have f1:=cO C 1;have f2:=cO C 2;have f3:=cO C 3;have f4:=cO C 4;have f5:=cO C 5;go_wp2_with fail
    refine bf8 rfl rfl Kl λW7 X=>?_;refine⟨Zk vA vn vc,Zk nA nn nc,by rw[mM.o,zy.o,wz.o,wy.o];rfl,?_,?_,?_⟩
    .rw[nO.o];exact tT (Ri (qu Tc X (ar _) Zv)) Zv
    .rw[nk.o];have h:=tT (qu dh8 X (ar _) (by omega)) (show w.heap.size<=ab+1 by omega);have e:((N.toNat:Nat):Int)=N:=by omega
     simpa[e]using h
    .exact(bE.t (GU.mono Zv)).t ((X.below Zv).mono Zv)
def A8{a b:Bool}(h:a=b):YT (Value.bool a)=YT (Zp b):=by rw[h]
def fj1(n:Nat)(w:XO):aR 231 #[n] w (Zp (XN (n=0))):=by go_enter func231,ntmps231;exact QQ
def fj2(n:Nat)(w:XO):aR 244 #[n] w (Zp (XN (1<=n)&&XN (n<=7))):=by
 by_cases j:1<=n
 .have c:decide ((1:Int)<=(n:Int))=true:=by simp;omega
  go_enter func244,ntmps244;exact QQ
 .have c:decide ((1:Int)<=(n:Int))=false:=by simp;omega
  go_enter func244,ntmps244;exact QQ
def ae7:Int->Option Value:=aY (aY (aY (λ_=>XM) 2 (X2 ⟨#[114,97,99,107]⟩)) 3 (X2 ⟨#[102,101,101,100]⟩)) 4 (X2 ⟨#[115,105,116,101]⟩)
def Cs(n:Nat):ay:=if n=2 then[114,97,99,107]else if n=3 then[102,101,101,100]else if n=4 then[115,105,116,101]else[]
def fj3(n:Nat):(ae7 n).getD (X2 ⟨#[]⟩)=X2 (bs (Cs n)):=by
 unfold ae7 Cs aY;by_cases c:n=2
 .subst c;rfl
 by_cases j:n=3
 .subst j;rfl
 by_cases y:n=4
 .subst y;rfl
 have z:¬(n:Int)=2:=Zv;have A:¬(n:Int)=3:=Zv;have C:¬(n:Int)=4:=Zv;simp[c,j,y,z,A,C,bs]
def bn1(n:Nat)(w:XO):aR 249 #[n] w (X2 (bs (Cs n))):=by
 refine vg λmG=>?_;have c:=aj (fj3 n);generalize Cs n=sd at c;go_enter func249,ntmps249;go_wp2_with first
  |(refine fh rfl (Zt 3) (Zu (ah 2)) (Zu (X2 ⟨#[114,97,99,107]⟩)) 285 (.inr rfl) 3 9 (.int Yo) underlying285 XZ cJ w (λ_=>XM) rfl (dN.made ju w) 2 (X2 ⟨#[114,97,99,107]⟩) rfl rfl ?_;intro I A j)
  |(refine fh rfl (Zt 3) (Zu (ah 3)) (Zu (X2 ⟨#[102,101,101,100]⟩)) 285 (.inr rfl) 3 9 (.int Yo) underlying285 XZ cJ w _ rfl A 3 (X2 ⟨#[102,101,101,100]⟩) rfl rfl ?_;intro J C y)
  |(refine fh rfl (Zt 3) (Zu (ah 4)) (Zu (X2 ⟨#[115,105,116,101]⟩)) 285 (.inr rfl) 3 9 (.int Yo) underlying285 XZ cJ w _ rfl C 4 (X2 ⟨#[115,105,116,101]⟩) rfl rfl ?_;intro O D z;have F:=aj (z.1 _ _ (y.1 _ _ (j.1 _ _ (ak (am w) _) (ar _)) (ar _)) (ar _));have G:=aj D)
  |(at_lookup;refine Cn rfl (.tmp 4) (.tmp 5) 285 false rfl 3 9 (.int .i64) underlying285 underlying3 cJ w ae7 rfl G n (.string ⟨#[]⟩) rfl (zeroValue9 _) ?_
    rw[c.o];simp only[Yh,if_false])
 go_ret;exact⟨rfl,F⟩
def fj4(n:Nat)(w:XO):aR 248 #[n] w (Zp (XN (2<=n)&&XN (n<=4))):=by
 have c:=aj (bn1 n w)
 have j:=aj (show(!(bs (Cs n)).toList.isEmpty)=(XN (2<=n)&&XN (n<=4))from by
  rw[je,ie];unfold Cs;by_cases y:n=2
  .subst y;rfl
  by_cases z:n=3
  .subst z;rfl
  by_cases A:n=4
  .subst A;rfl
  rw[if_neg y,if_neg z,if_neg A];have:XN (2<=n)=XQ\/XN (n<=4)=false:=bN;rcases this with e|e<;>rw[e]<;>simp)
 generalize Cs n=sd at c j;go_enter func248,ntmps248;go_wp2_with(go_at_call 249;refine c.r λD C=>?_)
 go_ret;exact⟨A8 j,C⟩
def ae8(n:Nat)(w:XO):aR 228 #[n] w (Zp (!XN (n<=1048576))):=by have c:XN ((n:Int)<0)=false:=Zy;go_enter func228,ntmps228;exact QQ
def ae9(s:ay)(w:XO)(y:iC w):aR 230 #[bs s] w (Zp (!bI s)):=by
 have c:=aj (ZG s w y);generalize bI s=r at c;go_enter func230,ntmps230;go_wp2_with(go_at_call 56;refine c.r λz j=>?_)
 go_ret;exact⟨rfl,j⟩
def gG(m:aU)(k:Int)(b:List Int):Bool:=aF k m.machs.length&&(match b.getLast? with|none=>XR|some p=>XN (p<k))&& !XN (rC m k=m.dark)
def bl7(m:aU)(l:List Int)(c:Int)(acts:List aQ):kb ⟨m,l,c,acts⟩=(eV (fJ (gG m) [] l) l.length&&(XN (l.length=1)||XN (l.length=3)||XN (l.length=5))):=by rw[<-xI];rfl
def bl8{l:List Int}{k:Nat}{p:Int}(y:0<k)(h:l[k - 1]?=XL p):(l.take k).getLast?=XL p:=by obtain⟨j,rfl⟩:∃j,k=j+1:=⟨k - 1,by omega⟩;have c:l[j]?=XL p:=h;rw[YE,c];simp
def bl9{m:aU}{x:Int}{y:rq}{z:nC}{j c:Nat}(h:(x - 1).toNat=j)(A:m.machs[j]?=XL y)(D:(y.rack - 1).toNat=c)(C:m.racks[c]?=XL z):rC m x=z.site:=by unfold rC;rw[h,A];show((m.racks[(y.rack - 1).toNat]?).map (·.site)).getD 0=_;rw[D,C];rfl
def fy6(m:aU)(v:MV)(l:List Int)(C:Int)(acts:List aQ)(cv G:XP)(w:XO)(X:m.In w w v)(hc:aS w w cv l)(hl:l.length<=100000)
 (I:∀x∈m.machs,aF x.rack m.racks.length=XR):
 aR 24 #[Zr (m.cells v++ #[cv,ah C,G])] w (Zp (kb ⟨m,l,C,acts⟩)):=by
 obtain⟨⟨Sa,sc,hs,bZ,bL⟩,⟨Fa,fc,bS,bM,cj⟩,⟨Ra,rc,hr,cd,cZ⟩,⟨Ma,mc,hm,cr,co⟩,⟨La,lc,ee,cW,dh⟩,⟨Ia,ic,hi,dg,d'⟩,⟨Ua,uc,hu,dm,dr⟩⟩:=X.cells;obtain⟨A,n,c,rfl,hn,Aa,fQ⟩:=hc.form;have HS:=aj (show m.cells v++ #[Zk A n c,ah C,G]= #[Zk Sa m.sites.length sc,Zk Fa m.feeds.length fc,Zk Ra m.racks.length rc,Zk Ma m.machs.length mc,Zk La m.links.length lc,Zk Ia m.items.length ic,ah m.dark,ah m.slots,ah m.reserve,ah m.failures,Zk Ua m.rules.length uc,Zk A n c,ah C,G]from by rw[aU.cells_def,hs,bS,hr,hm,ee,hi,hu];rfl);have hR:=X.ms;rw[hm]at hR;have jY:=aj hR;have E0:=X.rs;rw[hr]at E0;have pq:=aj E0;have HV:=aj hc;have HN:=aj hn;have wC:=aj I;rw[hn]at hl;clear hR E0 hc hn I;rw[HS.o];clear X hs bS hr hm ee hi hu;have HO:=aj (bl7 m l C acts);obtain⟨r,rj⟩:∃r,kb ⟨m,l,C,acts⟩=r:=⟨_,rfl⟩;rw[rj]at HO⊢
 clear rj;have iz:=aj (λk x(h:l[k]?=XL x)=>(FD (c:=gG m) (b:=[]) h));obtain⟨F,hF⟩:∃F,fJ (gG m) [] l=F:=⟨_,rfl⟩;rw[hF]at HO iz;clear hF;obtain⟨P,hP⟩:∃P,eV F l.length=P:=⟨_,rfl⟩;have Em:=aj hP.symm;rw[hP]at HO;clear hP;go_enter func24,ntmps24;go_upto_region 2 with(fail)
 refine ez (λW=>Below w w W/\af W w.heap.size #[Zk Sa m.sites.length sc,Zk Fa m.feeds.length fc,Zk Ra m.racks.length rc,Zk Ma m.machs.length mc,Zk La m.links.length lc,Zk Ia m.items.length ic,m.dark,m.slots,m.reserve,m.failures,Zk Ua m.rules.length uc,Zk A n c,C,G] 33/\af W (w.heap.size+1) #[Zk Sa m.sites.length sc,Zk Fa m.feeds.length fc,Zk Ra m.racks.length rc,Zk Ma m.machs.length mc,Zk La m.links.length lc,Zk Ia m.items.length ic,m.dark,m.slots,m.reserve,m.failures,Zk Ua m.rules.length uc] 29) ⟨ak (ak (am w) _) _,?_,?_⟩ ?_
 .exact ai (cR w _) (ak (am _) _)
 .have:=cR (w.alloc (Zq #[Zk Sa m.sites.length sc,Zk Fa m.feeds.length fc,Zk Ra m.racks.length rc,Zk Ma m.machs.length mc,Zk La m.links.length lc,Zk Ia m.items.length ic,m.dark,m.slots,m.reserve,m.failures,Zk Ua m.rules.length uc,Zk A n c,C,G] 33)) (Zq #[Zk Sa m.sites.length sc,Zk Fa m.feeds.length fc,Zk Ra m.racks.length rc,Zk Ma m.machs.length mc,Zk La m.links.length lc,Zk Ia m.items.length ic,m.dark,m.slots,m.reserve,m.failures,Zk Ua m.rules.length uc] 29);simpa using this
 intro W1 ⟨bc,Z,dU⟩;have ba:=aj bc;have EC:=aj Z;have iI:=aj dU;have hf4:=blk_lt Z;have uX:=blk_lt dU;have nr:=ag (o:=11) Z rfl;clear bc Z dU;go_wp2_with fail
 go_loopw [11] (λi wr=>∃k:Nat,k<=n/\i=ah k/\(∀j,j<k->F j=XR)/\Below W1 W1 wr) (λi _=>n - (X8 i).toNat)
 case atStart=>exact⟨0,bU _,rfl,λj D=>by omega,am W1⟩
 case round=>
  obtain⟨k,hk,rfl,I,hB⟩:=hrel;have gi:=aj I;have HB:=aj hB;have nh:=ai EC hB;have U:=ai iI hB;refine oV λbq=>?_;have Hs:=ag (o:=11) nh rfl;have c2:=ag (o:=2) U rfl;have c3:=ag (o:=3) U rfl;have c6:=ag (o:=6) U rfl;have eh:w.heap.size<wr:=bJ hf4 hB.size;clear I hB nh U;by_cases ap:k<n
  .obtain⟨eC,bh⟩:=dt ap;obtain⟨x,hx⟩:=iT HN ap;obtain⟨b,o,rfl,fL,bo⟩:=aS.cell HV hx;have cx:=kc bq bo;have EU:aN x:=HV.2 x (eE hx);have Vm:=EU.1;have Vn:=EU.2;have HF:=aj (iz k x hx);have HX:=aj hx;clear bo EU hx;by_cases q1:x<1
   .have hF:F k=false:=by rw[HF.o];unfold gG aF aE;simp;omega
    have d1:XN (x<1)=true:=bN;clear Vm Vn;exact Q4
   .by_cases q2:(m.machs.length:Int)<x
    .have hF:F k=false:=by rw[HF.o];unfold gG aF aE;simp;omega
     have d1:XN (x<1)=false:=bN;have d2:XN ((m.machs.length:Int)<x)=true:=bN;clear Vm Vn;exact Q4
    .have D:∃j:Nat,(x - 1).toNat=j:=⟨_,rfl⟩;obtain⟨j,D⟩:=D;have yA:j<m.machs.length:=by omega
     obtain⟨y,hy⟩:=jd yA;have J:=wC y (eE hy);have he1:1<=y.rack/\y.rack<=m.racks.length:=by simpa[aF,aE]using J
     obtain⟨pk,tO⟩:=he1;obtain⟨Y,lA⟩:∃Y:Nat,(y.rack - 1).toNat=Y:=⟨_,rfl⟩;have gz2:Y<m.racks.length:=Zv;obtain⟨z,hz⟩:=jd gz2;have pT:=aj (bl9 D hy lA hz);obtain⟨mb,mo,mcs,rfl,gw,_,⟨rfl,VI⟩,hmcell⟩:=jY.at_ hy;have e1:=(bq.cell (p:=⟨mb,mo+j*3+1,XM⟩) gw).t (hmcell 1 _ rfl);obtain⟨rb,ro,rcs,rfl,bk,_,⟨rfl,hb9⟩,hrcell⟩:=pq.at_ hz;have e2:=(bq.cell (p:=⟨rb,ro+Y*3+1,XM⟩) bk).t (hrcell 1 _ rfl);have i1:IntKind.i64.wrap (x - 1)=x - 1:=Yr _ Zv;have i2:(0:Int)<=x - 1:=Zv;have i3:x - 1<(m.machs.length:Int):=Zv;have i4:IntKind.i64.wrap (y.rack - 1)=y.rack - 1:=Yr _ (by have:=VI.1.1;have:=VI.1.2;omega);have i5:(0:Int)<=y.rack - 1:=Zv;have i6:y.rack - 1<(m.racks.length:Int):=Zv;have HE:=aj (show aF x m.machs.length=XR by simp[aF,aE];omega);have d1:XN (x<1)=false:=bN;have d2:XN ((m.machs.length:Int)<x)=false:=bN;clear J hmcell hrcell VI hb9 hy hz Vm Vn;by_cases k0:0<k
     .have kd:decide (0<k)=true:=by simp;omega
      obtain⟨p,hp⟩:∃p,l[k - 1]?=XL p:=⟨_,XT Hk⟩;obtain⟨b2,o2,O,_,hcell2⟩:=aS.cell HV hp;injection O with O;injection O with O BN;subst O BN;have cp:=kc bq hcell2;have i7:IntKind.i64.wrap ((k:Int) - 1)=(k:Int) - 1:=Yr _ Zv;have i8:((k:Int) - 1).toNat=k - 1:=Zv;have i9:(0:Int)<=(k:Int) - 1:=Zv;have cz4:(k:Int) - 1<(n:Int):=Zv;have V:=aj (bl8 k0 hp);clear hcell2 hp;by_cases q3:x<=p
      .have d3:decide (x<=p)=true:=by simp;omega
       have hF:F k=false:=by rw[HF.o];unfold gG;rw[YA,V.o];have:XN (p<x)=false:=bN;simp[this]
       clear q1 q2 q3 k0;exact Q4
      .have oH:=aj (show decide (p<x)=true by simp;omega);have d3:decide (x<=p)=false:=by simp;omega
       by_cases q4:z.site=m.dark
       .exact bm0
       .have hF:F k=true:=by
         rw[HF.o];unfold gG;rw[YA,V.o,pT.o,HE.o];show(XR&&XN (p<x)&& !XN (z.site=m.dark))=XR;rw[oH.o];simp[q4]
        have lf:=aj hF;have q5:(z.site==m.dark)=false:=by simpa using q4
        clear q1 q2 q3 q4 k0 hF;exact bm1
     .have iw:k=0:=by omega
      have kd:XN (0<k)=false:=bN;have V:=aj (show(l.take k).getLast?=XM by rw[iw];simp);clear iw;by_cases q4:z.site=m.dark
      .exact bm0
      .have hF:F k=true:=by
        rw[HF.o];unfold gG;rw[YA,V.o,pT.o,HE.o];simp[q4]
       have lf:=aj hF;have q5:(z.site==m.dark)=false:=by simpa using q4
       clear q1 q2 q4 k0 hF;exact bm1
  .have bh:=eS ap;have dj7:=aj (show P=true by rw[Em.o];exact AU λj D=>gi j (by rw[HN.o]at D;omega));have HC:=aj (λW B u(h:aS W B u [1,3,5])=>Qh u [1,3,5] (n:Int) W B h);go_wp2_with(go_at_call 63;refine(HC _ _ _ (aS.lits _ [1,3,5] (by simp[aN]) (by simp) _)).m ?_;rintro e w3 ⟨rfl,rfl⟩)
   go_ret;refine⟨?_,ak bq _⟩;rw[HO.o,dj7.o,HN.o];have e:(XN ((n:Int)=1)||(XN ((n:Int)=3)||XN ((n:Int)=5)))=(XR&&(XN (n=1)||XN (n=3)||XN (n=5))):=by have z1:XN ((n:Int)=1)=XN (n=1):=TJ;have z3:XN ((n:Int)=3)=XN (n=3):=TJ;have z5:XN ((n:Int)=5)=XN (n=5):=TJ;rw[z1,z3,z5,Bool.true_and,Bool.or_assoc]
   exact congrArg (λq=>YT (Zp q)) e
def sX(w:XO)(B:Nat)(cs:List XP)(x:aQ):Prop:=∃m s,cs=(x.cells m s).toList/\x.In w B m s/\x.ms.length<=1000000/\x.ss.length<=1000000
def sX.ab:jQ sX:=λ_ _ _ _ _ _ _⟨m,s,c,h,j⟩z y A=>⟨m,s,c,(h.below z y).more A,j⟩
def fy7{m:aU}(h:ew m=XR):∀x∈m.machs,aF x.rack m.racks.length=true:=by
 intro x hx;have z:eD (vY m) [] m.machs=true:=by have y:fO m=true:=cg7;unfold fO at y;simp only[XW]at y;exact y.1.2
 rw[xI]at z;obtain⟨j,hj,rfl⟩:=List.getElem_of_mem hx;have c:=List.all_eq_true.1 z j (List.mem_range.2 hj);rw[FD (XT hj)]at c;unfold vY at c;rw[XW]at c;exact c.1
def fy8(x:aQ)(m s:XP)(w:XO)(hx:x.In w w m s)(A:x.ms.length<=1000000)(C:x.ss.length<=1000000):
 aR 26 #[Zr (x.cells m s)] w (Zp (!ea x)):=by
 obtain⟨Am,nm,cm,rfl,_,_,_⟩:=hx.ms.form;obtain⟨As,ns,cs,rfl,_,_,_⟩:=hx.ss.form;have c:=aj λW(y:Below w w W)=>Q8 x _ _ W ((hx.below y (ar _)).more y.size) A C;simp only[aQ.cells_def]at c⊢
 go_enter func26,ntmps26;go_wp2_with(go_at_call 27;refine(c _ (ak (am w) _)).r λD j=>?_;have z:=aj (aq (ak (am w) _) j))
 go_ret;exact⟨rfl,z⟩
def Q5(s:iM)(v:MV)(X U:XP)(w:XO)(G:iC w)(C:s.m.In w w v)(F:aS w w X s.control)(D:ci 10 sX w w U s.acts)(Y:s.control.length<=100000):
 aR 7 #[Zr (s.m.cells v++ #[X,ah s.clients,U])] w (Zp (eF s)):=by
 obtain⟨m,l,cl,acts⟩:=s;simp only at C F D Y⊢
 obtain⟨⟨Sa,sc,hs,bZ,bL⟩,⟨Fa,fc,bS,bM,cj⟩,⟨Ra,rc,hr,cd,cZ⟩,⟨Ma,mc,hm,cr,co⟩,⟨La,lc,ee,cW,dh⟩,⟨Ia,ic,hi,dg,d'⟩,⟨Ua,uc,hu,dm,dr⟩⟩:=C.cells;obtain⟨A,n,c,rfl,hn,Aa,fQ⟩:=F.form;obtain⟨A2,n2,c2,rfl,lC,U4,cq0⟩:=D.form;refine ac5 λHM HS=>?_;have JL:=aj λW(y:Below w w W)=>ZI m v W (G.below y G.g.size) (C.to y (ar _) y.size);have J6:=aj fun(bA:ew m=XR)W(y:Below w w W)=>fy6 m v l cl acts _ (Zk A2 n2 c2) W (C.to y (ar _) y.size) ((F.below y (ar _)).more y.size) Y (fy7 bA);have z:=aj (λW(y:Below w w W)=>eh1 sX sX.ab _ acts 26 #[] (kg acts λx=> !ea x) W (D.to sX.ab y (ar _) y.size) (XX func26 aI rfl) (λj x cs W2 hx au⟨ma,sa,fj,kG,h1,h2⟩bG=>by rw[fW hx,fj];exact fy8 x ma sa W2 kG h1 h2));rw[HM.o]at JL;rw[HS.o]at J6⊢
 have Z:=aj lC;have wF:Hid (eF ⟨m,l,cl,acts⟩=(ew m&&kb ⟨m,l,cl,acts⟩&&aE cl 0 8&&XN (acts.length<=1024)&&acts.all ea)):=rfl;generalize rj:eF ⟨m,l,cl,acts⟩=r at wF⊢
 generalize Di:kb ⟨m,l,cl,acts⟩=b2 at wF J6;generalize tG:ew m=b1 at wF JL J6;have J:=ak (am w) (Zq #[Zk Sa m.sites.length sc,Zk Fa m.feeds.length fc,Zk Ra m.racks.length rc,Zk Ma m.machs.length mc,Zk La m.links.length lc,Zk Ia m.items.length ic,m.dark,m.slots,m.reserve,m.failures,Zk Ua m.rules.length uc,Zk A n c,cl,Zk A2 n2 c2] 33);go_enter func7,ntmps7;go_upto_region 1 with(fail)
 refine ez (λW=>Below w w W/\af W w.heap.size #[Zk Sa m.sites.length sc,Zk Fa m.feeds.length fc,Zk Ra m.racks.length rc,Zk Ma m.machs.length mc,Zk La m.links.length lc,Zk Ia m.items.length ic,m.dark,m.slots,m.reserve,m.failures,Zk Ua m.rules.length uc,Zk A n c,cl,Zk A2 n2 c2] 33) ⟨J,cR w _⟩ ?_;intro W1 ⟨V,I⟩;have ba:=aj V;have EC:=aj I;obtain⟨a0,a1,a2,a3,a4,a5,a6,a7,a8,a9,cN,nr,pU,pV⟩:=js I;cases b1 with
 |false=>
  have HR:=aj (show r=XQ by rw[wF.o];rfl)
  go_wp2_with(first
   |(go_at_call 23;refine(JL _ ba).r λw2 au=>?_;have bL:=ai EC au;have g0:ae w2 w (Zk Sa m.sites.length sc):=ag bL rfl;have g1:aa w2 w 1 (Zk Fa m.feeds.length fc):=ag bL rfl;have g2:aa w2 w 2 (Zk Ra m.racks.length rc):=ag bL rfl;have g3:aa w2 w 3 (Zk Ma m.machs.length mc):=ag bL rfl;have g4:aa w2 w 4 (Zk La m.links.length lc):=ag bL rfl;have g5:aa w2 w 5 (Zk Ia m.items.length ic):=ag bL rfl;have g6:aa w2 w 6 (ah m.dark):=ag bL rfl;have g7:aa w2 w 7 (ah m.slots):=ag bL rfl;have g8:aa w2 w 8 (ah m.reserve):=ag bL rfl;have g9:aa w2 w 9 (ah m.failures):=ag bL rfl;have C6:aa w2 w 10 (Zk Ua m.rules.length uc):=ag bL rfl;have Hu:aa w2 w 11 (Zk A n c):=ag bL rfl;have Ow:aa w2 w 12 (ah cl):=ag bL rfl;have EO:aa w2 w 13 (Zk A2 n2 c2):=ag bL rfl;have aX:=aj (aq ba au);have EB:=aj bL))
  go_ret;exact⟨by rw[HR.o];rfl,aX⟩
 |true=>
  cases b2 with
  |false=>have HR:=aj (show r=XQ by rw[wF.o];rfl);exact ac6
  |true=>
   by_cases q1:cl<0
   .exact bm2
   .by_cases q2:8<cl
    .exact bm2
    .have HI:=aj (show aE cl 0 8=true by simp[aE];omega);by_cases q3:(1024:Int)<(n2:Int)
     .have HR:=aj (show r=false by
       rw[wF.o];have:XN (acts.length<=1024)=false:=by have:=Z.o;simp;omega
       rw[this];simp)
      exact ac6
     .have HR:=aj (show r=acts.all ea by
       rw[wF.o,HI.o];have:XN (acts.length<=1024)=true:=by have:=Z.o;simp;omega
       rw[this];simp)
      rw[DE]at z
      go_wp2_with(first
       |(go_at_call 23;refine(JL _ ba).r λw2 au=>?_;have bL:=ai EC au;have g0:ae w2 w (Zk Sa m.sites.length sc):=ag bL rfl;have g1:aa w2 w 1 (Zk Fa m.feeds.length fc):=ag bL rfl;have g2:aa w2 w 2 (Zk Ra m.racks.length rc):=ag bL rfl;have g3:aa w2 w 3 (Zk Ma m.machs.length mc):=ag bL rfl;have g4:aa w2 w 4 (Zk La m.links.length lc):=ag bL rfl;have g5:aa w2 w 5 (Zk Ia m.items.length ic):=ag bL rfl;have g6:aa w2 w 6 (ah m.dark):=ag bL rfl;have g7:aa w2 w 7 (ah m.slots):=ag bL rfl;have g8:aa w2 w 8 (ah m.reserve):=ag bL rfl;have g9:aa w2 w 9 (ah m.failures):=ag bL rfl;have C6:aa w2 w 10 (Zk Ua m.rules.length uc):=ag bL rfl;have Hu:aa w2 w 11 (Zk A n c):=ag bL rfl;have Ow:aa w2 w 12 (ah cl):=ag bL rfl;have EO:aa w2 w 13 (Zk A2 n2 c2):=ag bL rfl;have aX:=aj (aq ba au);have EB:=aj bL)
       |(go_at_call 24;refine(J6 wP _ aX).r λw3 aM=>?_;have kZ:=ai EB aM;have IL:aa w3 w 12 (ah cl):=ag kZ rfl;have hf6:aa w3 w 13 (Zk A2 n2 c2):=ag kZ rfl;have bE:=aj (aq aX aM))
       |(go_at_call 25;refine(z _ bE).r λw4 O=>?_;have bW:=aj (aq bE O)))
      go_ret;refine⟨?_,bW⟩;rw[HR.o];have e:(!acts.any λx=> !ea x)=acts.all ea:=TH;first
       |exact congrArg (λq=>YT (Zp q)) e.symm
       |exact congrArg (λq=>YT (Zp q)) e
       |(trace_state;fail "x")
def fy9(x:ay)(w:XO):aR 36 #[bs x] w (Zp (rL x)):=by
 have c:=aj λW=>(strings_HasPrefix (bs x) ⟨#[99,111,110,116,114,111,108,32]⟩ W).mono λe w'(h:e=YT (Zp (rL x))/\w'=W)=>h;go_enter func36,ntmps36;go_wp2_with(go_at_call 37;refine(c _).r λy j=>?_;obtain rfl:=j.symm)
 go_ret;exact⟨rfl,YI _ _⟩
def fz0(v:XP)(l:List ay)(w:XO)(h:Sl w w v (l.map oT)):
 aR 35 #[v,bH 36 #[]] w (ah (ac1 l)):=by
 refine(aw4 (R1 oT) (R1.ab oT) v l 36 #[] (kg l rL) w (Sl.k1 h) (XX func36 aI rfl) (λj x z W hx y A D=>by have c:z=[oT x]:=A;rw[fW hx,c];exact fy9 x W)).mono λe w'⟨C,y⟩=>⟨?_,y⟩;rw[C,aw3];rfl
def fw6(n:Int)(k:Nat)(w:XO):X4 X3 175 #[n,k] w λe w'=>e=YT (Zp (aF n k))/\w'=w:=by
 go_enter func175,ntmps175
 go_wp2
 all_goals (go_ret;exact⟨cD (by simp[aF,aE];try omega),rfl⟩)
def Q6(n:Int)(w:XO):X4 X3 289 #[n] w λe w'=>e=YT (Zp (aE n 0 1048576))/\w'=w:=by
 go_enter func289,ntmps289
 go_wp2
 all_goals (go_ret;exact⟨cD Kw,rfl⟩)
def fw7{m:aU}{k:Nat}{x:nC}(h:m.racks[k]?=XL x):fJ (jI m) [] m.racks k=(aF x.site m.sites.length&&aF x.feed m.feeds.length&& !(m.racks.take k).any λy=>XN (y.feed=x.feed)&& !XN (y.site=x.site)):=Ky
def Cu{c:Nat->Bool}{n k:Nat}{b:Bool}(j:b=eV c n)(y:k<n)(h:c k=XQ):b=false:=by rw[j];exact wj y h
def fw8(m:aU)(v:MV)(w:XO)(hv:m.In w w v):
 aR 290 #[Zr (m.cells v)] w (Zp (eD (jI m) [] m.racks)):=by
 refine sV λSa sc hs bZ bL Fa fc bS bM cj Ra rc hr cd cZ Ma mc hm cr co La lc hl cW dh Ia ic hi dg d' Ua uc hu dm dr HS=>?_;have Y:=hv.rs;rw[hr]at Y;have pq:=aj Y;have jr:=aj (xI (jI m) m.racks []);have iz:=aj (λk x(h:m.racks[k]?=XL x)=>fw7 h);generalize eD (jI m) [] m.racks=res at jr;generalize fJ (jI m) [] m.racks=F at jr iz;have hn:m.racks.length<=9223372036854775807:=bC cd cZ;clear Y;rw[HS.o];clear hv hs bS hr hm hl hi hu;go_enter func290,ntmps290;go_upto_region 1 with(fail)
 refine df ?_;intro O ⟨bc,X⟩;have ba:=aj bc;have iI:=aj X;have uX:=blk_lt X;clear bc X;go_wp2_with fail
 go_loopw [3] (λi wr=>∃k:Nat,k<=m.racks.length/\i=ah k/\(∀j,j<k->F j=XR)/\Below O O wr) (λi _=>m.racks.length - (X8 i).toNat)
 case atStart=>exact⟨0,bU _,rfl,λj hj=>by omega,am O⟩
 case round=>
  obtain⟨k,hk,rfl,bA,hB⟩:=hrel;have gi:=aj bA;have HB:=aj hB;have V:=ai iI hB;have fT:=aj V;obtain⟨c0,c1,c2⟩:=IV V;refine oV λbq=>?_;clear bA hB V;by_cases ap:k<m.racks.length
  .obtain⟨eC,bh⟩:=dt ap;obtain⟨x,hx⟩:=jd ap;have HF:=aj (iz k x hx);obtain⟨b,o,cs,rfl,hb,_,⟨rfl,B5⟩,bo⟩:=pq.at_ hx;have e0:=(bq.cell (p:=⟨b,o+k*3+0,none⟩) hb).t (bo 0 _ rfl);refine ad2 λe1 e2=>?_;simp only[Nat.add_zero]at e0;clear bo;obtain⟨xb,fe⟩:∃xb,wr.heap.size=xb:=⟨_,rfl⟩;have Bo:=aj fe;obtain⟨b1,aC⟩:∃q,aF x.site m.sites.length=q:=⟨_,rfl⟩;obtain⟨b2,au⟩:∃q,aF x.feed m.feeds.length=q:=⟨_,rfl⟩;rw[aC,au]at HF;have em:=aj aC;have gT:=aj au;clear aC au fe hx B5;go_upto_region 5 with(fail)
   refine ez (λW=>Below wr wr W/\af W wr.heap.size #[bs x.name,ah x.site,ah x.feed] 82) ⟨by first|exact cV (ak (am wr) _) (ar _) _|exact ak (am wr) _,by first|exact Yy wr _|exact(bf (bf (bf (Yy wr _) _ _) _ _) _ _).t rfl⟩ ?_;intro U ⟨G,I⟩;rw[Bo.o]at I⊢
   have d0:=kc G c0;have d1:=kc G c1;have d2:=kc G c2;have EM:=ag (o:=1) I rfl;have EN:=ag (o:=2) I rfl;have aX:=aj G;clear G I c0 c1 c2 e0 e1 e2;cases b1 with
   |false=>exact bw1
   |true=>
    cases b2 with
    |false=>exact bw1
    |true=>
     go_wp2_with first
      |(go_at_call 175;refine rN ?_;rintro e w4 ⟨rfl,hw⟩;obtain rfl:=hw.symm;first|rw[em.o]|rw[gT.o])
     go_loopw [5] (λi wx=>∃j:Nat,j<=k/\i=ah j/\(∀q y,q<j->m.racks[q]?=XL y->(XN (y.feed=x.feed)&& !XN (y.site=x.site))=XQ)/\Below U U wx) (λi _=>k - (X8 i).toNat)
     case atStart=>exact⟨0,bU _,rfl,λq y hq=>by omega,am U⟩
     case round=>
      obtain⟨j,hj,rfl,Ls,pY⟩:=hrel;have jA:=aj pY;have d2:=kc pY d2;have EM:=kc pY EM;have EN:=kc pY EN;have xP:Hid (Below w w wr):=aq (aq bq aX) pY;clear pY;have G3:=aj Ls;clear Ls;by_cases Z:j<k
      .obtain⟨OE,Hz⟩:=dt Z;have UB:(j:Int)<m.racks.length:=by omega
       obtain⟨y,hy⟩:∃y,m.racks[j]?=XL y:=⟨_,XT Zv⟩;obtain⟨yb,yo,cs,J,_,_,⟨rfl,_⟩,E8⟩:=pq.at_ hy;injection J with J;injection J with pk tO _;subst pk tO;have y1:=kc xP (E8 1 _ rfl);have y2:=kc xP (E8 2 _ rfl);clear E8;by_cases C:y.feed=x.feed
       .have ef:(y.feed==x.feed)=true:=by simp[C]
        by_cases D:y.site=x.site
        .have es:(y.site==x.site)=true:=by simp[D]
         have CM:=aj (show ∀q z,q<j+1->m.racks[q]?=XL z->(XN (z.feed=x.feed)&& !XN (z.site=x.site))=XQ from λq z hq A=>by
          rcases Yt q j with h|h
          .exact G3 q z h A
          .have:q=j:=by omega
           subst this;rw[hy]at A;injection A with A;subst A;simp[D])
         clear C D hy;go_upto_region 10 with(fail)
         refine ad3 λhS=>?_;iterate 20 refine da 20 39 ?_
         exact Q7
        .have es:(y.site==x.site)=false:=by simp[D]
         have HR:=aj (Cu jr ap (by rw[HF.o];have:((m.racks.take k).any λy=>XN (y.feed=x.feed)&& !XN (y.site=x.site))=true:=List.any_eq_true.2 ⟨y,eE (by rw[List.getElem?_take,if_pos Z];exact hy),by simp[C,D]⟩;rw[this];rfl));clear C D hy;go_upto_region 10 with(fail)
         refine ad3 λhS=>?_;iterate 20 refine da 20 39 ?_
         refine gc ?_;go_wp2_with fail
         go_ret;exact⟨by rw[HR.o];rfl,aW xP⟩
       .have ef:(y.feed==x.feed)=false:=by simp[C]
        have CM:=aj (show ∀q z,q<j+1->m.racks[q]?=XL z->(XN (z.feed=x.feed)&& !XN (z.site=x.site))=XQ from λq z hq A=>by
         rcases Yt q j with h|h
         .exact G3 q z h A
         .have:q=j:=by omega
          subst this;rw[hy]at A;injection A with A;subst A;simp[C])
        clear C hy;go_upto_region 10 with(fail)
        refine ad3 λhS=>?_;iterate 10 refine da 20 39 ?_
        iterate 9 refine ta 20 39 ?_
        refine ke 19 58 ?_;exact Q7
      .have Hz:=eS Z
       have lf:=aj (show F k=XR from by
        rw[HF.o];have:((m.racks.take k).any λy=>XN (y.feed=x.feed)&& !XN (y.site=x.site))=false:=by exact bw2
        rw[this];rfl)
       exact bw3
  .exact ad4
def ft6{m:aU}{k:Nat}{x:t5}(h:m.links[k]?=XL x):fJ (jJ m) [] m.links k=(XN (1<=x.a)&&XN (x.a<x.b)&&XN (x.b<=m.sites.length)&&aE x.cap 0 1048576&& !(m.links.take k).any λy=>XN (y.a=x.a)&&XN (y.b=x.b)):=Ky
def ft7(m:aU)(v:MV)(w:XO)(hv:m.In w w v):
 aR 291 #[Zr (m.cells v)] w (Zp (eD (jJ m) [] m.links)):=by
 refine sV λSa sc hs bZ bL Fa fc bS bM cj Ra rc hr cd cZ Ma mc hm cr co La lc hl cW dh Ia ic hi dg d' Ua uc hu dm dr HS=>?_;have hR:=hv.ls;rw[hl]at hR;have pq:=aj hR;have jr:=aj (xI (jJ m) m.links []);have iz:=aj (λk x(h:m.links[k]?=XL x)=>ft6 h);generalize eD (jJ m) [] m.links=res at jr;generalize fJ (jJ m) [] m.links=F at jr iz;have hn:m.links.length<=9223372036854775807:=bC cW dh;clear hR;rw[HS.o];clear hv hs bS hr hm hl hi hu;go_enter func291,ntmps291;go_upto_region 1 with(fail)
 refine df ?_;intro V ⟨bc,Y⟩;have ba:=aj bc;have iI:=aj Y;have uX:=blk_lt Y;clear bc Y;go_wp2_with fail
 go_loopw [3] (λi wr=>∃k:Nat,k<=m.links.length/\i=ah k/\(∀j,j<k->F j=XR)/\Below V V wr) (λi _=>m.links.length - (X8 i).toNat)
 case atStart=>exact⟨0,bU _,rfl,λj hj=>by omega,am V⟩
 case round=>
  obtain⟨k,hk,rfl,bA,hB⟩:=hrel;have gi:=aj bA;have HB:=aj hB;have O:=ai iI hB;have fT:=aj O;have c0:=ag (o:=0) O rfl;have c1:=ag (o:=1) O rfl;have c2:=ag (o:=4) O rfl;refine oV λbq=>?_;clear bA hB O;by_cases ap:k<m.links.length
  .obtain⟨eC,bh⟩:=dt ap;obtain⟨x,hx⟩:=jd ap;have C:=aj (iz k x hx);obtain⟨b,o,cs,rfl,hb,_,⟨rfl,B5⟩,bo⟩:=pq.at_ hx;have e0:=(bq.cell (p:=⟨b,o+k*3+0,none⟩) hb).t (bo 0 _ rfl);refine ad2 λe1 e2=>?_;simp only[Nat.add_zero]at e0;clear bo;obtain⟨xb,fe⟩:∃xb,wr.heap.size=xb:=⟨_,rfl⟩;have Bo:=aj fe;obtain⟨b4,aV⟩:∃q,aE x.cap 0 1048576=q:=⟨_,rfl⟩;rw[aV]at C;have ul:=aj aV;clear aV fe hx B5;go_upto_region 5 with(fail)
   refine ez (λW=>Below wr wr W/\af W wr.heap.size #[ah x.a,ah x.b,ah x.cap] 104) ⟨by first|exact cV (ak (am wr) _) (ar _) _|exact ak (am wr) _,by first|exact Yy wr _|exact(bf (bf (bf (Yy wr _) _ _) _ _) _ _).t rfl⟩ ?_;intro X ⟨J,Z⟩;rw[Bo.o]at Z⊢
   have d0:=kc J c0;have d1:=kc J c1;have d2:=kc J c2;obtain⟨EM,EN,Ou⟩:=IV Z;have aX:=aj J;clear J Z c0 c1 c2 e0 e1 e2;by_cases q1:x.a<1
   .have D:decide (1<=x.a)=false:=by simp;omega
    have HR:=aj (Cu jr ap (by rw[C.o];rw[D];rfl));clear D;exact Rp
   .by_cases q2:x.b<=x.a
    .have D:decide (x.a<x.b)=false:=by simp;omega
     have HR:=aj (Cu jr ap (by rw[C.o];rw[D];simp));clear D;exact Rp
    .by_cases q3:(m.sites.length:Int)<x.b
     .have D:decide (x.b<=(m.sites.length:Int))=false:=by simp;omega
      have HR:=aj (Cu jr ap (by rw[C.o];rw[D];simp));clear D;exact Rp
     .cases b4 with
      |false=>have HR:=aj (Cu jr ap (by rw[C.o];simp));exact Rp
      |true=>
       have KW:XN (1<=x.a)=true:=bN;have uP:XN (x.a<x.b)=true:=bN;have KX:XN (x.b<=(m.sites.length:Int))=true:=bN
       rw[KW,uP,KX]at C;clear KW uP KX;go_wp2_with first
        |(go_at_call 289;refine(Q6 _ _).m ?_;rintro e w4 ⟨rfl,hw⟩;obtain rfl:=hw.symm;rw[ul.o])
       go_loopw [5] (λi wx=>∃j:Nat,j<=k/\i=ah j/\(∀q y,q<j->m.links[q]?=XL y->(XN (y.a=x.a)&&XN (y.b=x.b))=XQ)/\Below X X wx) (λi _=>k - (X8 i).toNat)
       case atStart=>exact⟨0,bU _,rfl,λq y hq=>by omega,am X⟩
       case round=>
        obtain⟨j,hj,rfl,Ls,pY⟩:=hrel;have jA:=aj pY;have d2:=kc pY d2;have EM:=kc pY EM;have EN:=kc pY EN;have xP:Hid (Below w w wr):=aq (aq bq aX) pY;clear pY;have G3:=aj Ls;clear Ls;by_cases uS:j<k
        .obtain⟨OE,Hz⟩:=dt uS;have UB:(j:Int)<m.links.length:=by omega
         obtain⟨y,hy⟩:∃y,m.links[j]?=XL y:=⟨_,XT Zv⟩;obtain⟨yb,yo,cs,U,_,_,⟨rfl,_⟩,E8⟩:=pq.at_ hy;injection U with U;injection U with pk tO _;subst pk tO;have y1:aa wr b (o+j*3) (ah y.a):=(xP.cell (p:=⟨b,o+j*3,XM⟩) hb).t (E8 0 _ rfl);have y2:=kc xP (E8 1 _ rfl);clear E8;by_cases G:y.a=x.a
         .have ef:(y.a==x.a)=true:=by simp[G]
          by_cases I:y.b=x.b
          .have es:(y.b==x.b)=true:=by simp[I]
           have HR:=aj (Cu jr ap (by rw[C.o];have:((m.links.take k).any λy=>XN (y.a=x.a)&&XN (y.b=x.b))=true:=List.any_eq_true.2 ⟨y,eE (by rw[List.getElem?_take,if_pos uS];exact hy),by simp[G,I]⟩;rw[this];rfl));clear G I hy;go_upto_region 10 with(fail)
           refine ad5 λhS=>?_;iterate 20 refine da 20 47 ?_
           refine gc ?_;go_wp2_with fail
           go_ret;exact⟨by rw[HR.o];rfl,aW xP⟩
          .have es:(y.b==x.b)=false:=by simp[I]
           have CM:=aj (show ∀q z,q<j+1->m.links[q]?=XL z->(XN (z.a=x.a)&&XN (z.b=x.b))=XQ from λq z hq A=>by
            rcases Yt q j with h|h
            .exact G3 q z h A
            .have:q=j:=by omega
             subst this;rw[hy]at A;injection A with A;subst A;simp[I])
           clear G I hy;go_upto_region 10 with(fail)
           refine ad5 λhS=>?_;iterate 20 refine da 20 47 ?_
           exact Q7
         .have ef:(y.a==x.a)=false:=by simp[G]
          have CM:=aj (show ∀q z,q<j+1->m.links[q]?=XL z->(XN (z.a=x.a)&&XN (z.b=x.b))=XQ from λq z hq A=>by
           rcases Yt q j with h|h
           .exact G3 q z h A
           .have:q=j:=by omega
            subst this;rw[hy]at A;injection A with A;subst A;simp[G])
          clear G hy;go_upto_region 10 with(fail)
          refine ad5 λhS=>?_;iterate 10 refine da 20 47 ?_
          iterate 9 refine ta 20 47 ?_
          refine ke 19 66 ?_;exact Q7
        .have Hz:=eS uS
         have lf:=aj (show F k=XR from by
          rw[C.o];have:((m.links.take k).any λy=>XN (y.a=x.a)&&XN (y.b=x.b))=false:=by exact bw2
          rw[this];rfl)
         exact bw3
  .exact ad4
def fu0(x:UInt8)(w:XO):X4 X3 296 #[.int .u8 x.toNat] w λe w'=>e=YT (Zp (XN (97<=x.toNat)&&XN (x.toNat<=122)))/\w'=w:=by
 obtain⟨n,hn⟩:∃n:Nat,x.toNat=n:=⟨_,rfl⟩;rw[hn];by_cases j:(97:Int)<=n
 .have c:decide (97<=n)=true:=by simp;omega
  rw[c];go_enter func296,ntmps296;go_wp2_with fail
  go_ret;refine⟨?_,rfl⟩;have:XN ((n:Int)<=122)=(XR&&XN (n<=122)):=by rw[Bool.true_and];apply decide_eq_decide.2;omega
  exact congrArg (λq=>YT (Zp q)) this
 .have c:decide (97<=n)=false:=by simp;omega
  rw[c];go_enter func296,ntmps296;exact Dv
def fu1(x:UInt8)(w:XO):X4 X3 298 #[.int .u8 x.toNat] w λe w'=>e=YT (Zp (XN (48<=x.toNat)&&XN (x.toNat<=57)))/\w'=w:=by
 obtain⟨n,hn⟩:∃n:Nat,x.toNat=n:=⟨_,rfl⟩;rw[hn];by_cases j:(48:Int)<=n
 .have c:decide (48<=n)=true:=by simp;omega
  rw[c];go_enter func298,ntmps298;go_wp2_with fail
  go_ret;refine⟨?_,rfl⟩;have:XN ((n:Int)<=57)=(XR&&XN (n<=57)):=by rw[Bool.true_and];apply decide_eq_decide.2;omega
  exact congrArg (λq=>YT (Zp q)) this
 .have c:decide (48<=n)=false:=by simp;omega
  rw[c];go_enter func298,ntmps298;exact Dv
def RV(l:List ByteArray)(s:ByteArray)(e:Zb):Prop:=∃r:Bool,e=YT (Zp r)/\(r=XR↔s∈l)
def fu2(v:XP)(l:List ByteArray)(s:ByteArray)(w:XO)(B:Nat)(h:cP w B v l)(V:l.length<=1000000000):
 X4 X3 293 #[v,s] w λe w'=>RV l s e/\w'=w:=by
 obtain⟨A,n,c,rfl,hn,hc,hm⟩:=h.form;have H:=aj h;have D:=aj hn;rw[hn]at V;clear h hn;go_enter func293,ntmps293;go_wp2_with fail
 go_loopw [5] (λi wr=>∃k:Nat,k<=n/\i=ah k/\(∀x∈l.take k,x≠s)/\wr=w) (λi _=>n - (X8 i).toNat)
 case atStart=>exact⟨0,bU _,rfl,λx hx=>by simp at hx,rfl⟩
 case round=>
  obtain⟨k,hk,rfl,sA,hw⟩:=hrel;obtain rfl:=hw.symm;have I:=aj sA;clear sA;by_cases j:k<n
  .obtain⟨eC,U⟩:=dt j;obtain⟨b,o,rfl,hb,bo⟩:=H.at_ k j;have Y:=bo k j;have G:aK l k∈l:=Cb (by rw[D.o];exact j);have O:=aj (WW l k (by rw[D.o];exact j));clear bo;generalize aK l k=x at*
   by_cases z:x=s
   .have F:=aj (show s∈l by rw[<-z];exact G);have q:(x.toList==s.toList)=true:=by rw[z];simp
    clear z G;go_wp2_with fail
    go_ret;exact⟨(⟨XR,rfl,by simp[F.o]⟩:RV l s _),rfl⟩
   .have J:=aj z;have q:(x.toList==s.toList)=false:=by
     rw[beq_eq_false_iff_ne];intro h;exact z (by rw[<-nY x,<-je,h,je,nY])
    clear z G;go_wp2_with fail
    exact⟨⟨k+1,by omega,by go_num,λy C=>by
     rw[O.o]at C;rcases List.mem_append.1 C with C|C
     .exact I y C
     .rw[List.mem_singleton.1 C];exact J,by trivial⟩,by simp[X8];omega⟩
  .have U:=eS j;have F:=aj (show ¬s∈l by have h:=I.o;rw[List.take_of_length_le (by rw[D.o];omega)]at h;exact λX=>h s X rfl);go_wp2_with fail
   go_ret;exact⟨(⟨XQ,rfl,by simp[F.o]⟩:RV l s _),rfl⟩
def bw4(w:XO):
 X4 X3 297 #[] w λe w'=>∃v,e=YT v/\bg w' w' v eL/\Below w w w':=by
 go_enter func297,ntmps297;go_wp2_with fail
 go_ret;refine⟨_,rfl,?_,ak (am w) _⟩;refine⟨_,28,rfl,by decide,by decide,λ_=>⟨w.heap.size,0,rfl,by simp,λj u c=>?_⟩⟩;rw[Yj,Y9,<-Array.getElem?_toList];exact c
def bw5(v:XP)(l:List ay)(s:ay)(w:XO)(B:Nat)(h:bg w B v l)(j:l.length<=1000000000):
 X4 X3 293 #[v,bs s] w λe w'=>e=YT (Zp (XN (s∈l)))/\w'=w:=by
 refine(fu2 v (l.map bs) (bs s) w B h (by simpa using j)).mono λe w'⟨⟨r,c,y⟩,z⟩=>⟨?_,z⟩;rw[c];refine cD ?_;rw[Yf,y,decide_eq_true_eq,List.mem_map];exact⟨λ⟨x,hx,e⟩=>Mn e▸hx,λhx=>⟨s,hx,rfl⟩⟩
def RW{s:ay}{k:Nat}{x:UInt8}(h:s[k]?=XL x)(c:k<(bs s).size):(bs s)[k]=x:=bj5 (by simpa[bs]using h) c
def bw6{s:ay}{k:Nat}{x:UInt8}(h:s[k]?=XL x)(c:k<(bs s).size)(W:XO):X4 X3 296 #[.int .u8 (bs s)[k].toNat] W λe w'=>e=YT (Zp (lQ x))/\w'=W:=by rw[RW h c];exact fu0 x W
def gc8{s:ay}{k:Nat}{x:UInt8}(h:s[k]?=XL x)(c:k<(bs s).size)(W:XO):X4 X3 298 #[.int .u8 (bs s)[k].toNat] W λe w'=>e=YT (Zp (cy x))/\w'=W:=by rw[RW h c];exact fu1 x W
def gc9{x:UInt8}:((x.toNat:Int)==95)=(x==95):=by
 rw[Yf,beq_iff_eq,beq_iff_eq]
 exact⟨λh=>UInt8.toNat_inj.1 (by have:x.toNat=95:=by omega
                                 rw[this];rfl),λh=>by rw[h];rfl⟩
def RX(s:ay)(w:XO):
 aR 179 #[bs s] w (Zp (bI s)):=by
 have c:(bs s).size=s.length:=eM s;have HZ:=aj c;have V:=aj (λW v B(h:bg W B v eL)=>bw5 v eL s W B h aD);have J:=aj (fun(h:0<(bs s).size)W=>bw6 (k:=0) (x:=s.headD 0) (by
  cases s with
  |nil=>rw[eM]at h;simp at h
  |cons a l=>rfl) h W)
 have z:Hid (s.all di=eV (kg s di) (bs s).size):=aj (by rw[c,Z5]);have Y:=aj (λk x(h:s[k]?=XL x)=>(fW h:kg s di k=di x));unfold bI;generalize s.all di=al at z;generalize kg s di=F at z Y;generalize XN (s∈eL)=kw at V;generalize lQ (s.headD 0)=low at J;obtain⟨n,hn⟩:∃n,s.length=n:=⟨_,rfl⟩;rw[hn]at c⊢
 have HN:=aj hn;clear hn;by_cases y:1<=n;rotate_left
 .have k1:((bs s).size:Int)<1:=by omega
  have O:=aj y;clear y c;go_enter func179,ntmps179;go_wp2_with fail
  go_ret;exact⟨cD (by simp[O.o]),am w⟩
 by_cases G:n<=31;rotate_left
 .have k1:¬((bs s).size:Int)<1:=by omega
  have k2:(31:Int)<((bs s).size:Int):=Zv;have U:=aj G;clear y G c;go_enter func179,ntmps179;go_wp2_with fail
  go_ret;exact⟨cD (by simp[U.o]),am w⟩
 have k1:¬((bs s).size:Int)<1:=Zv;have k2:¬(31:Int)<((bs s).size:Int):=Zv;have k0:0<(bs s).size:=Zv;have O:=aj y;have U:=aj G;clear y G c;cases low with
 |false=>
  go_enter func179,ntmps179;go_wp2_with(go_at_call 296;refine(J k0 _).m ?_;rintro e w1 ⟨rfl,hw⟩;obtain rfl:=hw.symm)
  go_ret;exact⟨cD Zy,am _⟩
 |true=>
  cases kw with
  |true=>
   go_enter func179,ntmps179
   go_wp2_with(first
    |(go_at_call 296;refine(J k0 _).m ?_;rintro e w1 ⟨rfl,hw⟩;obtain rfl:=hw.symm)
    |(go_at_call 297;refine(bw4 _).m ?_;rintro e w2 ⟨v,rfl,I,D⟩)
    |(go_at_call 293;refine(V _ _ _ I).m ?_;rintro e w3 ⟨rfl,hw⟩;obtain rfl:=hw.symm))
   go_ret;exact⟨cD Zy,D⟩
  |false=>
   go_enter func179,ntmps179
   go_wp2_with(first
    |(go_at_call 296;refine(J k0 _).m ?_;rintro e w1 ⟨rfl,hw⟩;obtain rfl:=hw.symm)
    |(go_at_call 297;refine(bw4 _).m ?_;rintro e w2 ⟨v,rfl,I,D⟩;have Z:=aj D;clear D)
    |(go_at_call 293;refine(V _ _ _ I).m ?_;rintro e w3 ⟨rfl,hw⟩;obtain rfl:=hw.symm;clear I))
   go_loopw [3] (λi wr=>∃k:Nat,k<=(bs s).size/\i=ah k/\(∀j,j<k->F j=XR)/\wr=w2) (λi _=>(bs s).size - (X8 i).toNat)
   case atStart=>exact⟨0,bU _,rfl,λj hj=>by omega,rfl⟩
   case round=>
    obtain⟨k,hk,rfl,bA,hw⟩:=hrel;obtain rfl:=hw.symm;have gi:=aj bA;clear bA;by_cases C:k<(bs s).size
    .have eC:(0:Int)<=k:=by omega
     have bh:(k:Int)<(bs s).size:=Zv;obtain⟨x,hx⟩:∃x,s[k]?=XL x:=⟨_,XT Br⟩;have lf:=aj (Y k x hx);have zu:=aj (λW=>bw6 hx C W);have Ee:=aj (λW=>gc8 hx C W);have A:(((bs s)[k].toNat:Int)==95)=(x==95):=by rw[RW hx C];exact gc9
     have X:(((bs s)[k].toNat:Int)!=95)= !(x==95):=by rw[bne,A]
     unfold di at lf;generalize lQ x=b1 at lf zu;generalize cy x=b2 at lf Ee;generalize (x==95)=b3 at lf A X;clear hx;cases b1 with
     |true=>
      clear A X
      have HR:=aj (show ∀j,j<k+1->F j=XR from λq hq=>by
       rcases Yt q k with h|h
       .exact gi q h
       .have:q=k:=by omega
        subst this;rw[lf.o];rfl)
      go_wp2_with(go_at_call 296;refine(zu _).m ?_;rintro e w1 ⟨rfl,hw⟩;obtain rfl:=hw.symm)
      exact⟨⟨k+1,by omega,by go_num,HR,by trivial⟩,by simp[X8];omega⟩
     |false=>
      cases b2 with
      |true=>clear A X;exact bw7
      |false=>
       cases b3 with
       |true=>exact bw7
       |false=>
        have HR:=aj (show al=XQ by rw[z.o];exact wj C (by rw[lf.o];rfl))
        go_wp2_with(first
         |(go_at_call 296;refine(zu _).m ?_;rintro e w1 ⟨rfl,hw⟩;obtain rfl:=hw.symm)
         |(go_at_call 298;refine(Ee _).m ?_;rintro e w1 ⟨rfl,hw⟩;obtain rfl:=hw.symm))
        go_ret;exact⟨cD (by rw[HR.o];simp),Z⟩
    .have bh:¬(k:Int)<(bs s).size:=by omega
     have HR:=aj (show al=XR by rw[z.o];exact AU λj hj=>gi j Zv);go_wp2_with fail
     go_ret;exact⟨cD (by rw[HR.o];simp[O.o,U.o]),Z⟩
def RY(W:XO)(s:ByteArray):IT (W.alloc (Zq #[s] 9)) (Zk (XL (W 0 XM)) 1 1) [s]:=
 .inr ⟨W.heap.size,0,1,rfl,λj u c=>by
  match j,c with
  |0,c=>simp at c;subst c;exact ag (cR W _) rfl⟩
def RZ{α β:Type}{f:α->β}{l:List α}{k:Nat}{x:α}(h:l[k]?=XL x):(l.take (k+1)).map f=(l.take k).map f++[f x]:=by rw[YE,h,Yp];rfl
def World.ownsRow.grownB{a w w':XO}{e:Ya}{size n:Nat}{v:XP}{xs:List XP}(h:w.ownsRow a e size v n xs)(c:Below a a w)(j:w.grownBy w' v.ownBlock):Below a a w':=AI h c (ar _) j
def bx0{w:XO}{o:YO}{a:Act}{K:Act->XO->Prop}{Q:Exit->Act->XO->Prop}(s x:Operand)
 (ho:o.op= .call {callee:= .builtin .append,args:= #[s,x],argTypes:= #[22,22]})(base B:Nat)(v u:XP)(l z:List ay)
 (hs:a.eval s=v)(hx:a.eval x=u)(bD:bR w base v (l.map bs))(O:bg w B u z)(C:l.length+z.length<=1000000)(J:base<=w)
 (h:∀v' w',bR w' base v' ((l++z).map bs)->w.grownBy w' v.ownBlock->K (a.put o.dst v') w'):o.wp X3 a w K Q:=by
 obtain⟨i0,hi,cA,a_,bd⟩:=Y0 FH;by_cases I:z=[]
 .subst I;obtain⟨A,n,c,rfl,hn,_,_⟩:=cP.form O;simp at hn;subst hn;cases A with
  |none=>
   have fB:(Builtin.append_ #[22,22] o.type #[v,Zk XM 0 c]).run X3 w= .ok v w:=by
    rcases bD.2 with⟨rfl,_⟩|⟨g,cap,U,rfl,_,_,X,_⟩
    .simp[Builtin.append_,run_underlying Zo,sizeOf,typeInfo,hi,Builtin.lenOf,Builtin.firstCells]
    .have D:l.length<=cap:=by simpa using X
     simp[Builtin.append_,run_underlying Zo,sizeOf,typeInfo,hi,Builtin.lenOf,Builtin.firstCells,D,storeCells]
   exact ak1
  |some ad=>refine wp_append_own w s x 22 ho base 9 i0 _ 1 16 Zo hi cA a_ bd rfl aD v (l.map bs).length _ hs bD ad 0 c [] hx Zy (λj y V=>by simp at V) Zy (by simp[Yd];simp at C;omega) (by simp at C⊢;omega) J λv' w' F G _=>h v' w' ?_ G;show w'.ownsRow _ _ _ _ _ _;simpa using F
 .refine Xa s x ho base v u (l.map bs) (z.map bs) hs hx bD (cP.src O (by simpa using I)) (by simpa using C) J λv' w' F G=>h v' w' (by rw[Yp];exact F) G
def bx1{w:XO}{ops:Array YO}{o:YO}{a:Act}{K:Act->XO->Prop}{Q:Exit->Act->XO->Prop}{E:Prop}(C:o.guard=XM)(s x:Operand)
 (ho:o.op= .call {callee:= .builtin .append,args:= #[s,x],argTypes:= #[22,22]})(base B:Nat)(v u:XP)(l c:List ay)
 (z:a.eval s=v)(hx:a.eval x=u)(j:bR w base v (l.map bs))(F:bg w B u c)(y:l.length+c.length<=1000000)(D:base<=w)
 (h:∀v' w',bR w' base v' ((l++c).map bs)->w.grownBy w' v.ownBlock->K (a.put o.dst v') w'):
 if YB o (yielded ops a.tmps)=XR then Zm X3 o a w K Q else E:=by
 have A:YB o (yielded ops a.tmps)=true:=by simp[YB,C]
 rw[if_pos A];exact bx0 s x ho base B v u l c z hx j F y D h
def gd0(m:aU)(v:MV)(w:XO)(hv:m.In w w v)(j9:m.sites.length<=100)(Va:m.feeds.length<=100)(Dk:m.racks.length<=100)(yD:m.machs.length<=100)(Lf:m.items.length<=100):
 X4 X3 292 #[Zr (m.cells v)] w λe w'=>∃u,e=YT u/\bR w' w u ((dp m).map bs)/\Below w w w':=by
 refine sV λSa sc hs bZ bL Fa fc bS bM cj Ra rc hr cd cZ Ma mc hm cr co La lc hl cW dh Ia ic hi dg d' Ua uc hu dm dr HS=>?_;have dB:=hv.ss;have Vc:=hv.fs;have Pi:=hv.rs;have cz:=hv.ms;have yz:=hv.is;rw[hs]at dB;rw[bS]at Vc;rw[hr]at Pi;rw[hm]at cz;rw[hi]at yz;have lg:=aj (show(∀W,Below w w W->bg W w (Zk Sa m.sites.length sc) m.sites)/\(∀W,Below w w W->bg W w (Zk Fa m.feeds.length fc) m.feeds)from⟨λW h=>dB.below h (ar _),λW h=>Vc.below h (ar _)⟩);have pq:=aj Pi;have jY:=aj cz;have kI:=aj yz;rw[HS.o];go_enter func292,ntmps292;go_upto_region 1 with(fail)
 refine df ?_;intro c ⟨bc,y⟩;have ba:=aj bc;have Y:=aj y;have uX:=blk_lt y;have y:=Y.o;have c0:=ag (o:=0) y rfl;have c1:=ag (o:=1) y rfl;have cU:=aj (show ∀W,Below c c W->W.cell? w=XL (Zk Sa m.sites.length sc)/\aa W w 1 (Zk Fa m.feeds.length fc)/\Below c c W from λW h=>⟨ag (ai y h) rfl,ag (ai y h) rfl,h⟩);go_wp2_with fail
 go_upto_region 1 with(fail)
 refine tz (S:=λw'=>ae w' w (Zk Sa m.sites.length sc)/\aa w' w 1 (Zk Fa m.feeds.length fc)/\Below c c w') 8 (by exact cU _ (aW (am _))) λhS=>?_;iterate 2 refine oO 9 7 ?_
 iterate 2 refine oO 10 7 ?_
 refine fg 0 λK z=>?_;go_simp;refine z _ _ (by exact cU _ (ak hS.2.2 _)) λhS=>?_;refine aH ?_;refine fg 3 λK z=>?_;have Z:bR (c.alloc (Zq #[] 9)).drew c (Zk (XL (c 0 XM)) 0 0) (([]:List ay).map bs):=(World.ownsRow_made c #[] 0 (ar _) fH rfl:(c.alloc (Zq #[] 9)).ownsRow c 9 1 (Zk (XL (c 0 XM)) 0 0) 0 []);refine bx1 rfl (Zt 7) (Zt 9) rfl c.heap.size w.heap.size _ _ [] m.sites rfl rfl Z (lg.1 _ (aq ba hS.2.2)) bN Zy ?_;intro u1 w2 BV ir;have F:=aj BV;have D:=aj (World.ownsRow.grownB (a:=c) Z hS.2.2 ir);refine z _ _ (by exact cU _ D) λhS=>?_;refine aH ?_;refine fg 6 λK z=>?_;refine bx1 rfl (Zt 10) (Zt 12) rfl c.heap.size w.heap.size _ _ m.sites m.feeds rfl rfl F (lg.2 _ (aq ba D)) Zv D.size ?_;intro u2 w3 vS pe;have O:=aj vS;have U:=aj (World.ownsRow.grownB (a:=c) F D pe);refine z _ _ (by exact cU _ U) λhS=>?_;refine aH ?_;refine cQ 7 3 ?_;refine rY ?_;go_wp2_with fail
 go_loopw [3,4] (λu i wr=>∃(k:Nat)(l:List ay),k<=m.racks.length/\i=ah k/\l=(m.sites++m.feeds)++(m.racks.take k).map (·.name)/\bR wr c u (l.map bs)/\Below c c wr) (λ_ i _=>m.racks.length - (X8 i).toNat)
 case atStart=>exact⟨0,(m.sites++m.feeds),bU _,rfl,by simp,O,U⟩
 case round=>
  obtain⟨k1,L1,hk,rfl,hl,ho,hB⟩:=hrel;have zt:=aj hl;have F:=aj ho;have D:=aj hB;have hs0:L1.length<=100+200:=by rw[hl];simp;omega
  have cf:=ag (o:=2) (ai Y hB) rfl;refine oV λbq=>?_;have hz:=hB.size;by_cases j:k1<m.racks.length
  .obtain⟨eC,V⟩:=dt j;obtain⟨x,hx⟩:=jd j
   obtain⟨b,o,cs,rfl,hb,_,⟨rfl,_⟩,bo⟩:=pq.at_ hx;have X:=(bq.cell (p:=⟨b,o+k1*3+0,XM⟩) hb).t (bo 0 _ rfl);simp only[X7]at X;have J:=aj (RZ (f:=λx=>x.name) hx);go_wp2_with first
    |(at_builtin;refine IU rfl (.tmp 21) (.tmp 28) rfl c.heap.size _ _ (L1.map bs) [bs x.name] rfl rfl (F.alloc _) (RY _ _) (by simp;omega) (by simp;omega) ?_
      intro u3 w3 C A;have G:=aj C;have I:=aj (World.ownsRow.grownB (a:=c) (F.alloc _) (ak D _) A))
   exact⟨⟨k1+1,L1++[x.name],by omega,by go_num,by rw[J.o,zt.o,Yi],by rw[Yp];exact G,I⟩,by simp[X8];omega⟩
  .have V:=eS j;have Bk:=aj (show L1=(m.sites++m.feeds)++m.racks.map (·.name)by rw[zt.o,List.take_of_length_le (by omega)]);go_wp2_with fail
   go_loopw [3,5] (λu i wr=>∃(k:Nat)(l:List ay),k<=m.machs.length/\i=ah k/\l=L1++(m.machs.take k).map (·.name)/\bR wr c u (l.map bs)/\Below c c wr) (λ_ i _=>m.machs.length - (X8 i).toNat)
   case atStart=>exact⟨0,L1,bU _,rfl,by simp,F,D⟩
   case round=>
    obtain⟨k2,L2,hk,rfl,hl,ho,hB⟩:=hrel;have J0:=aj hl;have O:=aj ho;have U:=aj hB;have hs1:L2.length<=200+200:=by rw[hl];simp;omega
    have cf:=ag (o:=3) (ai Y hB) rfl;refine oV λbq=>?_;have hz:=hB.size;by_cases j:k2<m.machs.length
    .obtain⟨eC,V⟩:=dt j;obtain⟨x,hx⟩:=jd j
     obtain⟨b,o,cs,rfl,hb,_,⟨rfl,_⟩,bo⟩:=jY.at_ hx;have X:=(bq.cell (p:=⟨b,o+k2*3+0,XM⟩) hb).t (bo 0 _ rfl);simp only[X7]at X;have J:=aj (RZ (f:=λx=>x.name) hx);go_wp2_with first
      |(at_builtin;refine IU rfl (.tmp 37) (.tmp 44) rfl c.heap.size _ _ (L2.map bs) [bs x.name] rfl rfl (O.alloc _) (RY _ _) (by simp;omega) (by simp;omega) ?_
        intro u3 w3 C A;have G:=aj C;have I:=aj (World.ownsRow.grownB (a:=c) (O.alloc _) (ak U _) A))
     exact⟨⟨k2+1,L2++[x.name],by omega,by go_num,by rw[J.o,J0.o,Yi],by rw[Yp];exact G,I⟩,by simp[X8];omega⟩
    .have V:=eS j;have iH:=aj (show L2=L1++m.machs.map (·.name)by rw[J0.o,List.take_of_length_le (by omega)]);go_wp2_with fail
     go_loopw [3,6] (λu i wr=>∃(k:Nat)(l:List ay),k<=m.items.length/\i=ah k/\l=L2++(m.items.take k).map (·.name)/\bR wr c u (l.map bs)/\Below c c wr) (λ_ i _=>m.items.length - (X8 i).toNat)
     case atStart=>exact⟨0,L2,bU _,rfl,by simp,O,U⟩
     case round=>
      obtain⟨k3,L3,hk,rfl,hl,ho,hB⟩:=hrel;have tl:=aj hl;have xU:=aj ho;have bE:=aj hB;have hs2:L3.length<=300+200:=by rw[hl];simp;omega
      have cf:=ag (o:=5) (ai Y hB) rfl;refine oV λbq=>?_;have hz:=hB.size;by_cases j:k3<m.items.length
      .obtain⟨eC,V⟩:=dt j;obtain⟨x,hx⟩:=jd j
       obtain⟨b,o,cs,rfl,hb,_,⟨yo,rfl,_⟩,bo⟩:=kI.at_ hx;have X:=(bq.cell (p:=⟨b,o+k3*7+0,XM⟩) hb).t (bo 0 _ rfl);simp only[X7]at X;have J:=aj (RZ (f:=λx=>x.name) hx);go_wp2_with first
        |(at_builtin;refine IU rfl (.tmp 53) (.tmp 60) rfl c.heap.size _ _ (L3.map bs) [bs x.name] rfl rfl (xU.alloc _) (RY _ _) (by simp;omega) (by simp;omega) ?_
          intro u3 w3 C A;have G:=aj C;have I:=aj (World.ownsRow.grownB (a:=c) (xU.alloc _) (ak bE _) A))
       exact⟨⟨k3+1,L3++[x.name],by omega,by go_num,by rw[J.o,tl.o,Yi],by rw[Yp];exact G,I⟩,by simp[X8];omega⟩
      .have V:=eS j;have Ek:=aj (show L3=L2++m.items.map (·.name)by rw[tl.o,List.take_of_length_le (by omega)]);go_wp2_with fail
       go_ret;refine⟨_,rfl,?_,bq⟩;rw[dp,<-Bk.o,<-iH.o,<-Ek.o];exact vZ xU ba.size
def bz8(m:aU)(mv:MV)(v:XP)(l:List Int)(w:XO)(hm:m.In w w mv)(F:aS w w v l)(hl:l.length<=100)(C:∀n∈l,1<=n/\n<=m.machs.length):
 X4 X3 182 #[Zr (m.cells mv),v] w (fY w ((ji m l).map bs)):=by
 refine DK λSa sc hs bZ bL Fa fc bS bM cj Ra rc hr cd cZ Ma mc gF cr co La lc ee cW dh Ia ic hi dg d' Ua uc hu dm dr=>?_;obtain⟨A,n,c,rfl,hn,ph,_⟩:=F.sk.form;obtain⟨i0,Dh,cA,a_,bd⟩:=Y0 FH;have O:=aj (nD m hs bS hr gF ee hi hu);have D:=hm.ms;rw[gF]at D;have jY:=aj D;have V:=aj F;have HN:=aj hn;have lg:=aj C;have gR:n<=100:=Zv;clear D F C hn hl;rw[O.o];have ht0:=bC cr co;clear hm hs bS hr gF ee hi hu bZ bL bM cj cd cZ cr co cW dh dg d' dm dr;go_enter func182,ntmps182;go_upto_region 1 with(fail)
 refine df ?_;intro z ⟨G,hx⟩;have ba:=aj G;have X:=aj hx;clear G hx;go_wp2_with fail
 go_loopw [5,6] (λs i wr=>∃k:Nat,k<=n/\i=ah k/\bR wr z s ((ji m (l.take k)).map bs)/\Below z z wr) (λ_ i _=>n - (X8 i).toNat)
 case atStart=>exact⟨0,bU _,rfl,World.ownsRow_made z #[] 0 (ar _) fH rfl,ak (am z) _⟩
 case round=>
  obtain⟨k,hk,rfl,bD,hb⟩:=hrel;have HO:=aj bD;have bB:=aj hb;have I:=ai X hb;have J:=ag (o:=3) I rfl;clear bD hb I;by_cases ap:k<n
  .obtain⟨kh,hI⟩:=dt ap;obtain⟨x,hx⟩:=iT HN ap;obtain⟨xb,xo,rfl,fe,i'⟩:=aS.cell V hx;have C:=lg x (eE hx);obtain⟨j,hj⟩:∃j:Nat,x=(j:Int)+1:=⟨(x - 1).toNat,by omega⟩;subst hj;have yA:j<m.machs.length:=by omega
   obtain⟨y,hy⟩:=jd yA;obtain⟨mb,mo,mcs,rfl,gw,_,⟨rfl,_⟩,eG⟩:=jY.at_ hy;refine bf7 λjA ck ce=>?_;have U:=aj (be7 hx (by rw[show((j:Int)+1 - 1).toNat=j by omega];exact hy));have nf:(j:Int)+1 - 1=j:=Zv;have lA:(j:Int)<m.machs.length:=Zv;have jK:(0:Int)<=j:=Zv;refine MN λsy=>?_;have oH:=aj (show(ji m (l.take k)).length<=100 by unfold ji;rw[XY,YK];omega);clear hx i' C hy eG;have cU:=aj (λW(h:Below wr wr W)=>XU (kc h J) (XU (kc h ck) (kc h ce)));clear J ck ce;go_upto_region 5 with(fail)
   refine eT (S:=Below wr wr) 12 14 (aW (am wr)) λhS=>?_;iterate 11 refine nz 14 14 ?_
   refine bt 11 λK hK=>?_;go_simp;have Z:=hS;refine ip λhS=>?_;clear hK;refine aH ?_;refine eA 12 λK hK=>?_;refine xA rfl (Zt 14) (Zt 25) rfl z.heap.size _ _ _ [bs y.name] rfl rfl (HO.below hS) (bR.src (mA _ #[bs y.name] 1 _ 0 _ rfl (bU _) fH rfl)) (by have:=oH.o;simp;omega) (bC bB.size hS.size) ?_;intro v' w4 ii Y;refine fD ?_;clear hK;refine aH ?_;refine eA 13 λK hK=>?_;go_simp;refine fD ?_;clear hK;refine aH ?_;refine gc ?_;go_wp2_with fail
   refine⟨⟨k+1,by omega,by go_num,?_,(HO.below hS).grown (aq bB hS) Y⟩,by simp[X8];omega⟩;rw[U.o,Yp];exact ii
  .exact ZZ
end
end Go.Proofs.YtihhpjmclebfpaaGreatDoor
