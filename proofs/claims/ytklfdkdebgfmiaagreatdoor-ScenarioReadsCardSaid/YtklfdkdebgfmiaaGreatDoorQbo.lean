/- A part of the proof. -/
import Derived.Test.YtklfdkdebgfmiaaGreatDoorQbl
import Derived.Test.YtklfdkdebgfmiaaGreatDoorQbm
import Derived.Test.YtklfdkdebgfmiaaGreatDoorQbn
set_option linter.defProp false
set_option linter.unusedVariables false
set_option linter.unusedSimpArgs false
set_option maxRecDepth 100000
set_option maxHeartbeats 32000000
open Option renaming none->Wr,some->Ws
open Decidable renaming decide->Wt
open Go renaming World->Wu,Value->Wv,Calls->WJ,TypeId->WQ,maxLen->Xe,undef->XE,Oper->XH,execOp->XX,Ending->X0,Addr->X8
open Bool renaming false->Ww,true->Wz
open List renaming range->Xs
open Go.RowKit renaming Hid->WA
open Go.Proofs renaming intOf->WS
open And renaming intro->WE
open Go.Proofs.Tryz renaming prog->WH
open Go.Value renaming int->WK,string->WM,oneCell'->Xp,ownBlock->Xq,slice->Yb,bool->Yc,agg->Ye,pointer->Yf
open Go.Instr renaming lookup->WT
open Go.World renaming cell?->X3
open Go.IntKind renaming i64->Xr
open Go.Region renaming wanted->Xy
open Go.Ending renaming returned->Xz
open Go.Obj renaming cells->Yd
open Go.Operand renaming tmp->Yg,const->Yh
namespace Go.Proofs.YtklfdkdebgfmiaaGreatDoor
section
open Go Go.RowKit Go.MapKept Go.Proofs.Tryz
def Zi {w w':Wu} {ob:Option Nat} (h:w.grownBy w' ob) {b o:Nat} (g:b<w.heap.size) (c:ob≠Ws b):w'.cell? (b o Wr)=w.cell? (b o Wr):=
 XN (h.block b g (λe=>c e.symm))
def zT {w:Wu} {base e:Nat} {size:Nat} {v:Wv} {n:Nat} {xs:List Wv} (h:w.ownsRow base e size v n xs) {b:Nat} {C:Array Wv} {t:WQ} {f:Nat×Nat} (hb:w.heap[b]? =Ws (Yd C t f)) (ht: ¬t=e): ∀k,v.ownBlock=Ws k->¬b=k:=λk hk e'=>by exact ar9
def PY {w w':Wu} {base:Nat} {v:Wv} {n:Nat} {xs:List Wv} {B e:Nat} {u:Wv} {m:Nat} {ys:List Wv} (ho:w.ownsRow base 96 6 v n xs) (D:w.grownBy w' v.ownBlock) (j:w.ownsRow B e 1 u m ys) (C: ¬e=96):w'.ownsRow B e 1 u m ys:=by refine⟨j.1,j.2.imp id ?_⟩;rintro ⟨g,cap,c,y,z,h,A⟩;exact⟨g,cap,c,y,z,iY h D (zT ho h C),A⟩
def as0 {w:Wu} {base e:Nat} {size:Nat} {v:Wv} {n:Nat} {xs:List Wv} {ob o:Nat} {u:Wv} (h:w.ownsRow base e size v n xs) (c: ∀k,v.ownBlock=Ws k->¬ob=k):(w.setCell (ob o Wr) u).ownsRow base e size v n xs:=
 ⟨h.1,h.2.imp id λ⟨g,cap,cur,e1,hb,hg,hr⟩=>⟨g,cap,cur,e1,hb,lY hg (λj=>c g (by rw[e1];rfl) j.symm),hr⟩⟩
def gh (ob:Nat) (l:List au) (W:Wu):Prop:=
 ∃u rows,W.heap[ob]? =Ws (Yd #[u] 54 (0,0))/\W.ownsRow ob 96 6 u l.length rows.flatten/\(∃A n c,u=Yb A n c)/\rr W ob rows l
def as1:(Tryz.prog.info? 96).map (λi=>(i.zero,i.size,i.bytes))=Ws (Ws (Ye #[WK Xr 0,WM ⟨#[]⟩,Yb Wr 0 0,Yb Wr 0 0,WK Xr 0,Yc Ww]),6,88):=aC
def FQ (ob G:Nat) (l:List au) (d:au) (rv nv:Wv) (W:Wu) (hJ:gh ob l W) (hl:l.length<1000000) (O:d.by_=0/\d.always=Ww) (I:ob<G)
 (V:W.ownsRow G 9 1 rv d.refs.length (d.refs.map λs=>WM (bs s))) (U:W.ownsRow G 3 1 nv d.nums.length (d.nums.map fun(k:Nat)=>WK .i64 k)) (Z:d.kind<=1000000/\d.by_<=1000000/\∀k∈d.nums,k<=2000000):
 WJ WH 62 #[d.kind,bs d.name,rv,nv,aj ob] W λe Y=>e=Xz (.tuple #[])/\gh ob (l++[d]) Y/\Below ob W Y:=by
 obtain⟨u,rows,iT,bA,⟨A,nn,c,rfl⟩,pi⟩:=hJ;obtain⟨rA,rn,rc,rfl⟩:=eH V;obtain⟨nA,nm,nc,rfl⟩:=eH U;have ar:=blk_lt iT;have c0:W.cell? ob=Ws (Yb A nn c):=ah iT rfl;obtain⟨i0,hi,cJ,ba,bd⟩:=XU as1;have sW:=aa iT;have HO:=aa bA;have sY:=aa pi;have HR:=aa V;have HN:=aa U;have H5:=aa Z;have aO: ¬ob=W.heap.size:=Yi;have J:=aa (show Dm d (Yb rA rn rc) (Yb nA nm nc)=[WK Xr d.kind,WM (bs d.name),Yb rA rn rc,Yb nA nm nc,WK Xr 0,Yc Ww] from by unfold Dm;rw[O.1,O.2];rfl);have X:=aa (aq iT (ae (af W) (Yd #[d.kind,bs d.name,Yb rA rn rc,Yb nA nm nc,WK Xr 0,Yc Ww] 96)));have j:=aa (bA.alloc (Yd #[d.kind,bs d.name,Yb rA rn rc,Yb nA nm nc,WK Xr 0,Yc Ww] 96));clear iT bA pi V U Z O;have Pf:(Value.slice A nn c).ownBlock≠Ws ob:=λe=>by have:=zT HO.out sW.out az ob e;exact this rfl
 simp only[aj];go_enter func62,ntmps62;refine wp_region_lit ?_;iterate 7
  refine _root_.Go.wpList_step λK y=> ?_;go_simp;refine y _ _ ?_;clear y;refine aG ?_
 refine Xu _ rfl (Yg 9) (Yg 15) _ rfl ob 96 i0 _ 6 88 underlying54 hi cJ ba bd rfl az (Yb A nn c) l.length rows.flatten rfl j.out (W 0 Wr) 1 1 [WK Xr d.kind,WM (bs d.name),Yb rA rn rc,Yb nA nm nc,WK Xr 0,Yc Ww] rfl rfl (mw rfl) ti ul Yi bI ?_;intro v' F D g _;obtain⟨A',n',c',rfl⟩:=eH D;have C:=iY X.out g (zT j.out X.out az);have f0:=cd C 0;have d0:=ah (o:=0) C rfl;have iX:=aa D;have Ls:=zT D C az;have Sw:=aa C;have bg:=aa ((((ae (af W) _).mono (eJ ar)).grown g bI (λk z=>(WL j.out k z).1)):Below ob W F);have mM:=aa ((sY.out.kp (aF.of_below (pb:=ob) (ae (af W) _) (ag _) Yl)).grown j.out g);have Tx:=aa (PY j.out g (fS HR.out (ae (af W) _)) az);have Tv:=aa (PY j.out g (fS HN.out (ae (af W) _)) az);clear D g;refine _root_.Go.wpList_step λK y=> ?_;go_simp;refine y _ _ ?_;clear y;refine _root_.Go.wpList_nil ?_
 go_end0
 have z:aF F.heap.size ob F (F.setCell ob (Yb A' n' c')):=(aF.refl _ ob _).set (.inl rfl) _;refine⟨rfl,⟨Yb A' n' c',rows++[Dm d (Yb rA rn rc) (Yb nA nm nc)],(aZ Sw.out 0 _).trans rfl,?_,⟨_,_,_,rfl⟩,?_⟩,bg.out.setCell (p:=ob) (ag _) _⟩
 .have h:=as0 (o:=0) (u:=Yb A' n' c') iX.out Ls;rw[List.flatten_append,WG,XF];rw[<-J.out] at h;simpa using h
 .exact(mM.out.kp z).snoc I (oS Tx.out z (ag _) I) (oS Tv.out z (ag _) I) H5.out
def ey3 (rb mb B ab J qb Z:Nat) (d:au) (RA NA A:Option X8) (rn rc nn nc nl n c:Nat) (k0 k1 Y:Int) (C:Array Wv) (T:WQ) (v:Wv) (xs:List Wv) (w:Wu) (hr:w.heap[rb]? =Ws (Yd C T (0,0))) (z:C[1]? =Ws v)
 (hm:w.heap[mb]? =Ws (Yd #[Yf (Ws (rb 1 Wr))] 182 (0,0))) (zL:rb<B) (I:mb<B) (U:B<=w.heap.size) (y:w.ownsRow B 9 1 v n xs) (X:n<=1000000):
 WJ WH 127 #[Ye #[d.kind,bs d.name,Yb RA rn rc,Yb NA nn nc,d.by_,Yc d.always],Yb A nl c,aj mb] w λe w'=>(∃u,e=Xz u)/\nK w rb B T C 1 9 1 v n xs [WM (bs d.name)] w':=by
 refine MX λi0 hi cJ ba bd=> ?_;have g:=WL y;have iU:v.ownBlock≠Ws rb:=λe=>by have:=(g rb e).1;omega
 have uO:v.ownBlock≠Ws mb:=λe=>by have:=(g mb e).1;omega
 have ee:v.ownBlock≠Ws w.heap.size:=λe=>by have:=(g _ e).2;omega
 simp only[aj];go_enter func127,ntmps127;go_upto_region 1 with (fail)
 refine Z1 ?_;intro W1 ⟨aU,cS⟩;refine No λqc x1=> ?_;refine B7 λgE c0=> ?_;have F:W1.cell? (rb 1 Wr)=Ws v:=ah gE z;have D:=aa (fS y aU);have iX:Hid (W1.drew.ownsRow B 9 1 v n xs):=D.out;have aT:=aa aU;have pB:=aa gE;clear D aU cS gE hr hm z y g;go_wp2_with fail
 refine fC (S:=λw'=>w'.cell? mb=Ws (Yf (Ws (rb 1 Wr)))/\w'.cell? (rb 1 Wr)=Ws (v)/\w'.cell? (w 1 Wr)=Ws (WM (bs d.name))) 9 12 (by exact⟨c0,F,x1⟩) λhS=> ?_;iterate 7 refine cI 12 5 ?_
 refine bF 7 λK hK=> ?_;go_simp;refine hK.out _ _ (by exact⟨((ae (af _) _).cell (p:=mb) (bP _ _ (hS.1))).trans (hS.1),((ae (af _) _).cell (p:=rb 1 Wr) (bP _ _ (hS.2.1))).trans (hS.2.1),((ae (af _) _).cell (p:=w 1 Wr) (bP _ _ (hS.2.2))).trans (hS.2.2)⟩) (λhS=> ?_);clear hK;refine aG ?_;refine bF 8 λK hK=> ?_;refine ba1 ?_;intro V cap G jo bh iq g;refine ba2 λhS=> ?_;clear hK;refine aG ?_;refine eC 9 λK hK=> ?_;go_simp;refine iZ ?_;clear hK;refine aG ?_;refine eC 10 λK hK=> ?_;go_simp;refine iZ ?_;clear hK;refine aG ?_;have O:G.frozen? (rb 1 Wr)=false:=cd (iY (aq pB.out (ae (aX (af _)) _)) bh (λj hj e=>iU Co)) 1;refine eC 11 λK hK=> ?_;exact Np
def ey4 (rb mb B ab J qb Z:Nat) (d:au) (RA NA A:Option X8) (rn rc nn nc nl n c:Nat) (k0 k1 Y:Int) (C:Array Wv) (T:WQ) (v:Wv) (xs:List Wv) (w:Wu) (hr:w.heap[rb]? =Ws (Yd C T (0,0))) (z:C[2]? =Ws v)
 (hm:w.heap[mb]? =Ws (Yd #[Yf (Ws (rb 1 Wr))] 182 (0,0))) (zL:rb<B) (I:mb<B) (U:B<=w.heap.size) (y:w.ownsRow B 9 1 v n xs) (X:n<=1000000):
 WJ WH 128 #[Ye #[d.kind,bs d.name,Yb RA rn rc,Yb NA nn nc,d.by_,Yc d.always],Yb A nl c,aj mb] w λe w'=>(∃u,e=Xz u)/\nK w rb B T C 2 9 1 v n xs [WM (bs d.name)] w':=by
 refine MX λi0 hi cJ ba bd=> ?_;have g:=WL y;have iU:v.ownBlock≠Ws rb:=λe=>by have:=(g rb e).1;omega
 have uO:v.ownBlock≠Ws mb:=λe=>by have:=(g mb e).1;omega
 have ee:v.ownBlock≠Ws w.heap.size:=λe=>by have:=(g _ e).2;omega
 simp only[aj];go_enter func128,ntmps128;go_upto_region 1 with (fail)
 refine Z1 ?_;intro W1 ⟨aU,cS⟩;refine No λqc x1=> ?_;refine B7 λgE c0=> ?_;have F:W1.cell? (rb 2 Wr)=Ws v:=ah gE z;have D:=aa (fS y aU);have iX:Hid (W1.drew.ownsRow B 9 1 v n xs):=D.out;have aT:=aa aU;have pB:=aa gE;clear D aU cS gE hr hm z y g;go_wp2_with fail
 refine fC (S:=λw'=>w'.cell? mb=Ws (Yf (Ws (rb 1 Wr)))/\w'.cell? (rb 2 Wr)=Ws (v)/\w'.cell? (w 1 Wr)=Ws (WM (bs d.name))) 9 12 (by exact⟨c0,F,x1⟩) λhS=> ?_;iterate 7 refine cI 12 5 ?_
 refine bF 7 λK hK=> ?_;go_simp;refine hK.out _ _ (by exact⟨((ae (af _) _).cell (p:=mb) (bP _ _ (hS.1))).trans (hS.1),((ae (af _) _).cell (p:=rb 2 Wr) (bP _ _ (hS.2.1))).trans (hS.2.1),((ae (af _) _).cell (p:=w 1 Wr) (bP _ _ (hS.2.2))).trans (hS.2.2)⟩) (λhS=> ?_);clear hK;refine aG ?_;refine bF 8 λK hK=> ?_;refine ba1 ?_;intro V cap G jo bh iq g;refine ba2 λhS=> ?_;clear hK;refine aG ?_;refine eC 9 λK hK=> ?_;go_simp;refine iZ ?_;clear hK;refine aG ?_;refine eC 10 λK hK=> ?_;go_simp;refine iZ ?_;clear hK;refine aG ?_;have O:G.frozen? (rb 2 Wr)=false:=cd (iY (aq pB.out (ae (aX (af _)) _)) bh (λj hj e=>iU Co)) 2;refine eC 11 λK hK=> ?_;exact Np
def ey5 (rb mb B ab g qb qo:Nat) (d:au) (RA NA A:Option X8) (rn rc nn nc nl n c:Nat) (k0 k1 k2:Int) (C:Array Wv) (T:WQ) (v:Wv) (xs:List Wv) (w:Wu) (hr:w.heap[rb]? =Ws (Yd C T (0,0))) (D:C[3]? =Ws v)
 (hm:w.heap[mb]? =Ws (Yd #[Yf (Ws (rb 1 Wr))] 182 (0,0))) (zL:rb<B) (EP:mb<B) (gS:B<=w.heap.size) (z:w.ownsRow B 132 3 v n xs) (hn:n<=1000000) (G:v.ownBlock≠Ws ab) (U:w.cell? (ab g Wr)=Ws (WK Xr k0)) (Y:w.cell? (ab (g+1) Wr)=Ws (WK Xr k1)):
 WJ WH 129 #[Ye #[d.kind,bs d.name,Yb RA rn rc,Yb NA nn nc,d.by_,Yc d.always],Yb (Ws (ab g Wr)) (nl+2) c,aj mb] w λe w'=>(∃u,e=Xz u)/\nK w rb B T C 3 132 3 v n xs [WM (bs d.name),WK Xr k0,WK Xr k1] w':=by
 obtain⟨i0,hi,cJ,ba,bd⟩:=XU (show(Tryz.prog.info? 132).map (λi=>(i.zero,i.size,i.bytes))=Ws (Ws (Ye #[WM ⟨#[]⟩,WK Xr 0,WK Xr 0]),3,32) by kernel_rfl);have y:=WL z;have iU:v.ownBlock≠Ws rb:=λe=>by have:=(y rb e).1;omega
 have Z:v.ownBlock≠Ws mb:=λe=>by have:=(y mb e).1;omega
 have J:v.ownBlock≠Ws w.heap.size:=λe=>by have:=(y _ e).2;omega
 simp only[aj];go_enter func129,ntmps129;go_upto_region 1 with (fail)
 refine Z1 ?_;intro W1 ⟨aU,cS⟩;refine No λqc x1=> ?_;refine B7 λgE c0=> ?_;have I:W1.cell? (rb 3 Wr)=Ws v:=ah gE D;have V:=kc aU U;have X:=kc aU Y;have F:=aa (fS z aU);have O:Hid (W1.drew.ownsRow B 132 3 v n xs):=F.out;have aT:=aa aU;have pB:=aa gE;have uD:(0:Int)<(nl:Int)+2:=Yi;have ap:(1:Int)<(nl:Int)+2:=Yi;clear F aU cS gE hr hm D z y;go_wp2_with fail
 refine fC (S:=λw'=>w'.cell? mb=Ws (Yf (Ws (rb 1 Wr)))/\w'.cell? (rb 3 Wr)=Ws (v)/\w'.cell? (w 1 Wr)=Ws (WM (bs d.name))/\w'.cell? (ab g Wr)=Ws (WK Xr k0)/\w'.cell? (ab (g+1) Wr)=Ws (WK Xr k1)) 16 19 (by exact⟨c0,I,x1,V,X⟩) λhS=> ?_;iterate 14 refine cI 19 5 ?_
 refine bF 14 λK hK=> ?_;go_simp;refine hK.out _ _ (by exact⟨((ae (af _) _).cell (p:=mb) (bP _ _ (hS.1))).trans (hS.1),((ae (af _) _).cell (p:=rb 3 Wr) (bP _ _ (hS.2.1))).trans (hS.2.1),((ae (af _) _).cell (p:=w 1 Wr) (bP _ _ (hS.2.2.1))).trans (hS.2.2.1),((ae (af _) _).cell (p:=ab g Wr) (bP _ _ (hS.2.2.2.1))).trans (hS.2.2.2.1),((ae (af _) _).cell (p:=ab (g+1) Wr) (bP _ _ (hS.2.2.2.2))).trans (hS.2.2.2.2)⟩) (λhS=> ?_);clear hK;refine aG ?_;refine bF 15 λK hK=> ?_;refine step_append_lies _ cA _ _ _ cA B 132 i0 _ 3 32 underlying24 hi cJ ba bd rfl Yi _ _ _ cA ((O.out).alloc _) ⟨_,0,Wr⟩ 1 1 [WM (bs d.name),WK Xr k0,WK Xr k1] cA cA (mw rfl) ti Yi ul lr lr _ rfl ?_;intro gg cap w3 jo bh iq y;refine hK.out _ _ (by exact⟨(eZ bh (bP _ _ (hS.1)) Z).trans (hS.1),(eZ bh (bP _ _ (hS.2.1)) iU).trans (hS.2.1),(eZ bh (bP _ _ (hS.2.2.1)) J).trans (hS.2.2.1),(eZ bh (bP _ _ (hS.2.2.2.1)) G).trans (hS.2.2.2.1),(eZ bh (bP _ _ (hS.2.2.2.2)) G).trans (hS.2.2.2.2)⟩) (λhS=> ?_);clear hK;refine aG ?_;refine eC 16 λK hK=> ?_;go_simp;refine iZ ?_;clear hK;refine aG ?_;refine eC 17 λK hK=> ?_;go_simp;refine iZ ?_;clear hK;refine aG ?_;have f1:w3.frozen? (rb 3 Wr)=false:=cd (iY (aq pB.out (ae (aX (af _)) _)) bh (λj hj e=>iU Co)) 3;refine eC 18 λK hK=> ?_;exact Np
def ey6 (rb mb B ab y qb qo:Nat) (d:au) (RA NA A:Option X8) (rn rc nn nc nl n c:Nat) (k0 k1 z:Int) (C:Array Wv) (T:WQ) (v:Wv) (xs:List Wv) (w:Wu) (hr:w.heap[rb]? =Ws (Yd C T (0,0))) (G:C[4]? =Ws v)
 (hm:w.heap[mb]? =Ws (Yd #[Yf (Ws (rb 1 Wr))] 182 (0,0))) (zL:rb<B) (EP:mb<B) (gS:B<=w.heap.size) (D:w.ownsRow B 134 3 v n xs) (hn:n<=1000000) (wH:v.ownBlock≠Ws ab) (V:w.cell? (ab y Wr)=Ws (WK Xr k0)) (LB:qb<B) (hq:w.cell? (qb qo Wr)=Ws (WK Xr z)):
 WJ WH 130 #[Ye #[d.kind,bs d.name,Yb RA rn rc,Yb (Ws (qb qo Wr)) (nn+1) nc,d.by_,Yc d.always],Yb (Ws (ab y Wr)) (nl+1) c,aj mb] w λe w'=>(∃u,e=Xz u)/\nK w rb B T C 4 134 3 v n xs [WM (bs d.name),WK Xr k0,WK Xr z] w':=by
 obtain⟨i0,hi,cJ,ba,bd⟩:=XU (show(Tryz.prog.info? 134).map (λi=>(i.zero,i.size,i.bytes))=Ws (Ws (Ye #[WM ⟨#[]⟩,WK Xr 0,WK Xr 0]),3,32) by kernel_rfl);have g:=WL D;have iU:v.ownBlock≠Ws rb:=λe=>by have:=(g rb e).1;omega
 have Z:v.ownBlock≠Ws mb:=λe=>by have:=(g mb e).1;omega
 have F:v.ownBlock≠Ws w.heap.size:=λe=>by have:=(g _ e).2;omega
 have J:v.ownBlock≠Ws qb:=λe=>by have:=(g qb e).1;omega
 simp only[aj];go_enter func130,ntmps130;go_upto_region 1 with (fail)
 refine ba3 ?_;intro W1 ⟨aU,cS⟩;refine No λqc x1=> ?_;have x3:W1.cell? (w 3 Wr)=Ws (Yb (Ws (qb qo Wr)) (nn+1) nc):=ah cS rfl;have Y:=kc aU hq;refine B7 λgE c0=> ?_;have O:W1.cell? (rb 4 Wr)=Ws v:=ah gE G;have X:=kc aU V;have I:=aa (fS D aU);have U:Hid (W1.drew.ownsRow B 134 3 v n xs):=I.out;have aT:=aa aU;have pB:=aa gE;have uD:(0:Int)<(nl:Int)+1:=Yi;have am:(0:Int)<(nn:Int)+1:=Yi;clear I aU cS gE hr hm G D g;go_wp2_with fail
 refine fC (S:=λw'=>w'.cell? mb=Ws (Yf (Ws (rb 1 Wr)))/\w'.cell? (rb 4 Wr)=Ws (v)/\w'.cell? (w 1 Wr)=Ws (WM (bs d.name))/\w'.cell? (w 3 Wr)=Ws (Yb (Ws (qb qo Wr)) (nn+1) nc)/\w'.cell? (qb qo Wr)=Ws (WK Xr z)/\w'.cell? (ab y Wr)=Ws (WK Xr k0)) 17 20 (by exact⟨c0,O,x1,x3,Y,X⟩) λhS=> ?_;iterate 15 refine cI 20 5 ?_
 refine bF 15 λK hK=> ?_;go_simp;refine hK.out _ _ (by exact⟨((ae (af _) _).cell (p:=mb) (bP _ _ (hS.1))).trans (hS.1),((ae (af _) _).cell (p:=rb 4 Wr) (bP _ _ (hS.2.1))).trans (hS.2.1),((ae (af _) _).cell (p:=w 1 Wr) (bP _ _ (hS.2.2.1))).trans (hS.2.2.1),((ae (af _) _).cell (p:=w 3 Wr) (bP _ _ (hS.2.2.2.1))).trans (hS.2.2.2.1),((ae (af _) _).cell (p:=qb qo Wr) (bP _ _ (hS.2.2.2.2.1))).trans (hS.2.2.2.2.1),((ae (af _) _).cell (p:=ab y Wr) (bP _ _ (hS.2.2.2.2.2))).trans (hS.2.2.2.2.2)⟩) (λhS=> ?_);clear hK;refine aG ?_;refine bF 16 λK hK=> ?_;refine step_append_lies _ cA _ _ _ cA B 134 i0 _ 3 32 underlying25 hi cJ ba bd rfl Yi _ _ _ cA ((U.out).alloc _) ⟨_,0,Wr⟩ 1 1 [WM (bs d.name),WK Xr k0,WK Xr z] cA cA (mw rfl) ti Yi ul lr lr _ rfl ?_;intro gg cap w3 jo bh iq g;refine hK.out _ _ (by exact⟨(eZ bh (bP _ _ (hS.1)) Z).trans (hS.1),(eZ bh (bP _ _ (hS.2.1)) iU).trans (hS.2.1),(eZ bh (bP _ _ (hS.2.2.1)) F).trans (hS.2.2.1),(eZ bh (bP _ _ (hS.2.2.2.1)) F).trans (hS.2.2.2.1),(eZ bh (bP _ _ (hS.2.2.2.2.1)) J).trans (hS.2.2.2.2.1),(eZ bh (bP _ _ (hS.2.2.2.2.2)) wH).trans (hS.2.2.2.2.2)⟩) (λhS=> ?_);clear hK;refine aG ?_;refine eC 17 λK hK=> ?_;go_simp;refine iZ ?_;clear hK;refine aG ?_;refine eC 18 λK hK=> ?_;go_simp;refine iZ ?_;clear hK;refine aG ?_;have f1:w3.frozen? (rb 4 Wr)=false:=cd (iY (aq pB.out (ae (aX (af _)) _)) bh (λj hj e=>iU Co)) 4;refine eC 19 λK hK=> ?_;exact Np
def ey7 (rb mb B ab g qb qo:Nat) (d:au) (RA NA A:Option X8) (rn rc nn nc nl n c:Nat) (k0 k1 z:Int) (C:Array Wv) (T:WQ) (v:Wv) (xs:List Wv) (w:Wu) (hr:w.heap[rb]? =Ws (Yd C T (0,0))) (G:C[5]? =Ws v)
 (hm:w.heap[mb]? =Ws (Yd #[Yf (Ws (rb 1 Wr))] 182 (0,0))) (zL:rb<B) (EP:mb<B) (gS:B<=w.heap.size) (D:w.ownsRow B 136 3 v n xs) (hn:n<=1000000) (J:v.ownBlock≠Ws ab) (X:w.cell? (ab g Wr)=Ws (WK Xr k0)) (rW:w.cell? (ab (g+1) Wr)=Ws (WK Xr k1)) (LB:qb<B) (hq:w.cell? (qb qo Wr)=Ws (WK Xr z)):
 WJ WH 131 #[Ye #[d.kind,bs d.name,Yb RA rn rc,Yb (Ws (qb qo Wr)) (nn+1) nc,d.by_,Yc d.always],Yb (Ws (ab g Wr)) (nl+2) c,aj mb] w λe w'=>(∃u,e=Xz u)/\nK w rb B T C 5 136 3 v n xs [WK Xr (min k0 k1),WK Xr (max k0 k1),WK Xr z] w':=by
 obtain⟨i0,hi,cJ,ba,bd⟩:=XU (show(Tryz.prog.info? 136).map (λi=>(i.zero,i.size,i.bytes))=Ws (Ws (Ye #[WK Xr 0,WK Xr 0,WK Xr 0]),3,24) by kernel_rfl);have y:=WL D;have iU:v.ownBlock≠Ws rb:=λe=>by have:=(y rb e).1;omega
 have uO:v.ownBlock≠Ws mb:=λe=>by have:=(y mb e).1;omega
 have F:v.ownBlock≠Ws w.heap.size:=λe=>by have:=(y _ e).2;omega
 have O:v.ownBlock≠Ws qb:=λe=>by have:=(y qb e).1;omega
 simp only[aj];go_enter func131,ntmps131;go_upto_region 1 with (fail)
 refine ba3 ?_;intro W1 ⟨aU,cS⟩;refine No λqc x1=> ?_;have x3:W1.cell? (w 3 Wr)=Ws (Yb (Ws (qb qo Wr)) (nn+1) nc):=ah cS rfl;have q0:=kc aU hq;refine B7 λgE c0=> ?_;have U:W1.cell? (rb 5 Wr)=Ws v:=ah gE G;have Y:=kc aU X;have Z:=kc aU rW;have I:=aa (fS D aU);have V:Hid (W1.drew.ownsRow B 136 3 v n xs):=I.out;have aT:=aa aU;have pB:=aa gE;have uD:(0:Int)<(nl:Int)+2:=Yi;have ap:(1:Int)<(nl:Int)+2:=Yi;have am:(0:Int)<(nn:Int)+1:=Yi;clear I aU cS gE hr hm G D y;go_wp2_with fail
 refine fC (S:=λw'=>w'.cell? mb=Ws (Yf (Ws (rb 1 Wr)))/\w'.cell? (rb 5 Wr)=Ws (v)/\w'.cell? (w 1 Wr)=Ws (WM (bs d.name))/\w'.cell? (w 3 Wr)=Ws (Yb (Ws (qb qo Wr)) (nn+1) nc)/\w'.cell? (qb qo Wr)=Ws (WK Xr z)/\w'.cell? (ab g Wr)=Ws (WK Xr k0)/\w'.cell? (ab (g+1) Wr)=Ws (WK Xr k1)) 26 29 (by exact⟨c0,U,x1,x3,q0,Y,Z⟩) λhS=> ?_;iterate 24 refine cI 29 5 ?_
 refine bF 24 λK hK=> ?_;go_simp;refine hK.out _ _ (by exact⟨((ae (af _) _).cell (p:=mb) (bP _ _ (hS.1))).trans (hS.1),((ae (af _) _).cell (p:=rb 5 Wr) (bP _ _ (hS.2.1))).trans (hS.2.1),((ae (af _) _).cell (p:=w 1 Wr) (bP _ _ (hS.2.2.1))).trans (hS.2.2.1),((ae (af _) _).cell (p:=w 3 Wr) (bP _ _ (hS.2.2.2.1))).trans (hS.2.2.2.1),((ae (af _) _).cell (p:=qb qo Wr) (bP _ _ (hS.2.2.2.2.1))).trans (hS.2.2.2.2.1),((ae (af _) _).cell (p:=ab g Wr) (bP _ _ (hS.2.2.2.2.2.1))).trans (hS.2.2.2.2.2.1),((ae (af _) _).cell (p:=ab (g+1) Wr) (bP _ _ (hS.2.2.2.2.2.2))).trans (hS.2.2.2.2.2.2)⟩) (λhS=> ?_);clear hK;refine aG ?_;refine bF 25 λK hK=> ?_;refine step_append_lies _ cA _ _ _ cA B 136 i0 _ 3 24 underlying26 hi cJ ba bd rfl Yi _ _ _ cA ((V.out).alloc _) ⟨_,0,Wr⟩ 1 1 [WK Xr (min k0 k1),WK Xr (max k0 k1),WK Xr z] cA cA (mw rfl) ti Yi ul lr lr _ rfl ?_;intro gg cap w3 jo bh iq y;refine hK.out _ _ (by exact⟨(eZ bh (bP _ _ (hS.1)) uO).trans (hS.1),(eZ bh (bP _ _ (hS.2.1)) iU).trans (hS.2.1),(eZ bh (bP _ _ (hS.2.2.1)) F).trans (hS.2.2.1),(eZ bh (bP _ _ (hS.2.2.2.1)) F).trans (hS.2.2.2.1),(eZ bh (bP _ _ (hS.2.2.2.2.1)) O).trans (hS.2.2.2.2.1),(eZ bh (bP _ _ (hS.2.2.2.2.2.1)) J).trans (hS.2.2.2.2.2.1),(eZ bh (bP _ _ (hS.2.2.2.2.2.2)) J).trans (hS.2.2.2.2.2.2)⟩) (λhS=> ?_);clear hK;refine aG ?_;refine eC 26 λK hK=> ?_;go_simp;refine iZ ?_;clear hK;refine aG ?_;refine eC 27 λK hK=> ?_;go_simp;refine iZ ?_;clear hK;refine aG ?_;have f1:w3.frozen? (rb 5 Wr)=false:=cd (iY (aq pB.out (ae (aX (af _)) _)) bh (λj hj e=>iU Co)) 5;refine eC 28 λK hK=> ?_;exact Np
def gv (b:List au) (s:Nat):Nat:=(b.filter λx=>Wt (bD x.kind=s)).length
def BK (b:List au) (k:Int):Option Value:=if 0<=k/\gv b k.toNat≠0 then Ws (WK Xr (gv b k.toNat)) else Wr
def kh (b:List au) (k:Nat):Bool:=b.any λx=>Wt (x.kind=k)
def BL (b:List au) (k:Int):Option Value:=if 0<=k/\kh b k.toNat=Wz then Ws (Yc Wz) else Wr
def ba5 (b:List au) (s:Nat):(BK b s).getD (WK Xr 0)=WK Xr (gv b s):=by
 unfold BK;simp only[Int.toNat_natCast];by_cases h:gv b s=0
 .rw[if_neg Yi,h];rfl
 .rw[if_pos ⟨by omega,h⟩];rfl
def ey8 (b:List au) (s:Nat):(BL b s).getD (Yc Ww)=Yc (kh b s):=by
 unfold BL;simp only[Int.toNat_natCast];by_cases h:kh b s=Wz
 .rw[if_pos ⟨by omega,h⟩,h];rfl
 .rw[if_neg (λe=>h e.2)];simp only[Bool.not_eq_true] at h;rw[h];rfl
def QE (b:List au) (d:au) (s:Nat):gv (b++[d]) s=if bD d.kind=s then gv b s+1 else gv b s:=by
 unfold gv;rw[List.filter_append,WG];by_cases h:bD d.kind=s
 .simp[h]
 .simp[h]
def ba6 (b:List au) (d:au) (s:Nat):kh (b++[d]) s=(kh b s||Wt (d.kind=s)):=by unfold kh;simp
def ey9 (b:List au) (d:au) (x:Int):aY (BK b) ((bD d.kind:Nat):Int) (WK Xr ((gv b (bD d.kind):Int)+1)) x=BK (b++[d]) x:=by
 rw[zV];unfold BK;by_cases h:x=(bD d.kind:Nat)
 .subst h;simp only[Int.toNat_natCast,QE,if_true];rw[if_pos ⟨by omega,by omega⟩];simp
 .rw[if_neg h];by_cases c:0<=x
  .have: ¬bD d.kind=x.toNat:=by omega
   rw[QE,if_neg this]
  .rw[if_neg Yi,if_neg Yi]
def ez0 (b:List au) (d:au) (x:Int):aY (BL b) (d.kind:Int) (Yc Wz) x=BL (b++[d]) x:=by
 rw[zV];unfold BL;by_cases h:x=(d.kind:Int)
 .subst h;simp only[Int.toNat_natCast,ba6,if_true];rw[if_pos ⟨by omega,by simp⟩]
 .rw[if_neg h,ba6];by_cases c:0<=x
  .have:decide (d.kind=x.toNat)=false:=by simp;omega
   rw[this,Bool.or_false]
  .rw[if_neg Yi,if_neg Yi]
def ez1 {t:cO} {s:ak} (x:Nat×Nat) (h:cY t s=Wr) (y:ak):cY (t++[(s,x.1,x.2)]) y=if y=s then Ws x else cY t y:=by
 unfold cY at h⊢
 rw[List.find?_append];by_cases c:y=s
 .subst c;rw[if_pos rfl];have:t.find? (λz=>decide (z.1=y))=none:=by
   cases hq:t.find? (λz=>Wt (z.1=y)) with
   |none=>rfl
   |some q=>rw[hq] at h;cases h
  rw[this];simp
 .rw[if_neg c];cases hq:t.find? (λz=>decide (z.1=y)) with
  |some q=>rfl
  |none=>have: ¬s=y:=λe=>c e.symm;simp[this]
def ez2 {t:cO} {s:ak} (x:Nat×Nat) (h:cY t s=Wr) (y:ak):aY (ks t) s (QD x) y=ks (t++[(s,x.1,x.2)]) y:=by
 rw[zV];unfold ks;rw[ez1 x h y];by_cases c:y=s
 .rw[if_pos c,if_pos c];rfl
 .rw[if_neg c,if_neg c]
def FB (t:cO) (b:List au) (d:au):Bool:=(!Wt (d.name=[])&&(cY t d.name).isSome)||((Wt (d.kind=8)||Wt (d.kind=9))&&kh b d.kind)
def ba7 {b r:List au} {t:cO} {d:au} (h:bx d=Ww):iN b t (d::r)= .error (b.length,1):=by rw[iN,h];rfl
def ba8 {b r:List au} {t:cO} {d:au} (h:bx d=Wz) (c:FB t b d=Wz):iN b t (d::r)= .error (b.length,5):=by unfold FB kh at c;rw[iN,h,c];rfl
def ba9 {b r:List au} {t:cO} {d:au} (h:bx d=Wz) (c:FB t b d=Ww):
 iN b t (d::r)=iN (b++[d]) (if d.name=[] then t else t++[(d.name,d.kind,gv (b++[d]) (bD d.kind))]) r:=by
 unfold FB kh at c;rw[iN,h,c];rfl
def QF {b:List au} {t:cO}:iN b t []= .ok t:=rfl
def oD.kp {w w':Wu} {B B' M:Nat} {c:List Wv} {d:au} (h:oD w B c d) (y:aF B' M w w') (g:B<=B') (j: ∀o,w.cell? (M o Wr)=Wr):oD w' B c d:=by obtain⟨r,n,h1,h2,h3,h4⟩:=h;exact⟨r,n,h1,Sl.kp h2 y g j,⟨Sl.kp h3.1 y g j,h3.2⟩,h4⟩
def DeclS.kp {w w':Wu} {B B' M:Nat} {v:Wv} {l:List au} (h:bW 6 oD w B v l) (C:aF B' M w w') (y:B<=B') (z: ∀o,w.cell? (M o Wr)=Wr):bW 6 oD w' B v l:=by
 obtain⟨A,c,rfl,h1,h2,h3⟩:=h;refine⟨A,c,rfl,h1,h2,λD=> ?_⟩;obtain⟨b,o,rfl,hb,hc⟩:=h3 D;have F: ¬b=M:=λe=>by subst e;obtain⟨x,hx⟩: ∃x,l[0]? =Ws x:=⟨_,Wy (List.length_pos_iff.2 D)⟩;obtain⟨cs,hl,_,bk⟩:=hc 0 x hx;obtain⟨u,g⟩: ∃u,cs[0]? =Ws u:=⟨_,Wy Yi⟩;have:=bk 0 u g;rw[z] at this;cases this
 refine⟨b,o,rfl,hb,λj x hx=> ?_⟩;obtain⟨cs,hl,hR,bk⟩:=hc j x hx;exact⟨cs,hl,hR.kp C y z,λi u g=>(C.cell _ (bq hb y) F).trans (bk i u g)⟩
def ez3 {κ:Type} [DecidableEq κ] {enc:κ->Wv} {w:Wu} {b:Nat} {f:κ->Option Wv} (h:de enc w b f) (o:Nat):w.cell? (b o Wr)=none:=by obtain⟨l,hl,_⟩:=h;have c:w.heap[b]? =Ws (.map (bK 0 (da enc l)).toArray (da enc l).length):=hl;simp[X3,c]
def aa3 (d:au) (rv nv:Wv) (w:Wu) (C:fD w) (j z L M N:Nat) (y c g:Bool) (wd:ByteArray) (A:dp j) (G:bG w w rv d.refs) (F:aW w w nv (d.nums.map λx:Nat=>(x:Int)))
 (D: ∀pb,∃cap,yG pb d.kind=Ws (Ye #[wd,Yc y,L,M,N,.func (.func j) #[] #[],Yc c,.func (.func z) #[] cap])) (I: ∀W,Below w w W->aQ j #[d.by_] W (Yc g)):
 aQ 125 #[Ye #[d.kind,bs d.name,rv,nv,d.by_,Yc d.always]] w (Yc ((Wt (L<=d.refs.length)&&(Wt (d.refs.length<=M)&&(Wt (d.nums.length=N)&&(g&&((c|| !d.always)&&(if y then br d.name else Wt (d.name=[])))))))
  &&d.refs.all br&&d.nums.all λn=>Wt (n<=1048576))):=by
 cases Ex:(Wt (L<=d.refs.length)&&(Wt (d.refs.length<=M)&&(Wt (d.nums.length=N)&&(g&&(c|| !d.always)))))
 .exact ew7 d rv nv w C j z L M N y c g wd A G F D I Ex
 .simp only[Bool.and_eq_true,decide_eq_true_eq,Bool.or_eq_true,Bool.not_eq_true'] at Ex;obtain⟨h1,h2,h3,h4,h5⟩:=Ex;cases ha:d.always with
  |false=>
   have h:=ew9 d rv nv w C j z L M N y c g wd A G F D I ha h1 h2 h3 h4
   rwa [ha] at h
  |true=>
   rw[ha] at h5;have h:=ew8 d rv nv w C j z L M N y c g wd A G F D I ha pC h1 h2 h3 h4
   rwa [ha] at h
def bb6 (d:au) (rv nv:Wv) (w:Wu) (hG:fD w) (hr:bG w w rv d.refs) (hn:aW w w nv (d.nums.map λx:Nat=>(x:Int))):
 aQ 125 #[Ye #[d.kind,bs d.name,rv,nv,d.by_,Yc d.always]] w (Yc (bx d)):=by
 by_cases c:d.kind<=16
 .obtain⟨k,eV⟩: ∃k,d.kind=k:=⟨_,rfl⟩;unfold bx;rw[Z4 d k (by omega) eV];have kT: ∀pb,yG pb d.kind=some (nL pb k):=λpb=>by rw[eV];exact bb0 pb (by omega)
  rcases vJ (show k<=16 by omega) with rfl|rfl|rfl|rfl|rfl|rfl|rfl|rfl|rfl|rfl|rfl|rfl|rfl|rfl|rfl|rfl|rfl
  .exact sK
  .exact sK
  .exact sK
  .exact sK
  .exact sK
  .exact sK
  .exact sK
  .exact sK
  .exact sK
  .exact aa3 d rv nv w hG _ _ _ _ _ _ _ _ _ (WD func251 aC rfl) hr hn (λpb=>⟨_,kT pb⟩) (λW _=>ew3 d.by_ W)
  .exact sK
  .exact sK
  .exact aa3 d rv nv w hG _ _ _ _ _ _ _ _ _ (WD func255 aC rfl) hr hn (λpb=>⟨_,kT pb⟩) (λW _=>ew5 d.by_ W)
  .exact sK
  .exact sK
  .exact sK
  .exact sK
 .obtain⟨RA,rn,rc,rfl,_,_,_⟩:=hr.sk.form;obtain⟨NA,nn,nc,rfl,_,_,_⟩:=hn.sk.form;have:bx d=false:=by unfold bx;rw[ez6 d (by omega)];rfl
  rw[this];exact ew6 d d.always RA NA rn rc nn nc w Yi
def bh9 (fn:Fn) (caps:Array Wv) (w:Wu):(Instr.buildSlice 184 1 #[(0,.func fn #[] caps)]).run WH w= .ok (Yb (Ws (w 0 Wr)) 1 1) (w.alloc (Yd #[.func fn #[] caps] 186 (0,0))):=jJ
def bi0 (fn c:Fn) (caps caps':Array Wv) (w:Wu):(Instr.buildSlice 184 2 #[(0,.func fn #[] caps),(1,.func c #[] caps')]).run WH w= .ok (Yb (Ws (w 0 Wr)) 2 2) (w.alloc (Yd #[.func fn #[] caps,.func c #[] caps'] 186 (0,0))):=jJ
def t_.form {w:Wu} {u:Wv} {o:Option Nat} (h:t_ w u o): ∃fn caps,u= .func fn #[] caps:=by
 cases o with
 |none=>exact⟨_,_,h⟩
 |some k=>obtain⟨b,rfl,_⟩:=h;exact⟨_,_,rfl⟩
def j_.made1 {w:Wu} {B:Nat} {u:Wv} {o:Option Nat} (g:B<=w.heap.size) (h:t_ w u o):j_ (w.alloc (Yd #[u] 186 (0,0))) B (Yb (Ws (w 0 Wr)) 1 1) [o]:=
 ⟨[u],⟨rfl,.inr ⟨w.heap.size,1,#[u],rfl,g,bQ w _,ag _,by simp[maxLen],rfl,rfl⟩⟩,λi j o' c ho=>by
   match i with
   |0=>simp at c ho;subst c ho;exact h.keep (ua.of_below (ae (af w) _))
   |i+1=>simp at c⟩
def j_.made2 {w:Wu} {B:Nat} {u g:Wv} {o o':Option Nat} (z:B<=w.heap.size) (h:t_ w u o) (j:t_ w g o'):j_ (w.alloc (Yd #[u,g] 186 (0,0))) B (Yb (Ws (w 0 Wr)) 2 2) [o,o']:=
 ⟨[u,g],⟨rfl,.inr ⟨w.heap.size,2,#[u,g],rfl,z,bQ w _,ag _,by simp[maxLen],rfl,rfl⟩⟩,λi x y c ho=>by
   match i with
   |0=>simp at c ho;subst c ho;exact h.keep (ua.of_below (ae (af w) _))
   |1=>simp at c ho;subst c ho;exact j.keep (ua.of_below (ae (af w) _))
   |i+2=>simp at c⟩
def yJ {a:Act} {s:Nat} {v:Wv} (h:a.tmps[s]? =Ws v):a.eval (Yg s)=v:=by simp[Act.eval,Array.getD_eq_getD_getElem?,h]
section
variable {Q:Exit->Act->Wu->Prop} {ops:Array XH} {W0:Wu} {B xb kd:Nat} {t0 t1 t2:Wv} {ds:List Deferred} {i:Nat} {o:XH}
def vj (ops:Array XH) (i s:Nat):Bool:=(Xs 33).all λj=>Wt (j=i)||h_ .any ops j i|| !(Rr (wd j)).contains s
def bi1 (ops:Array XH) (i k:Nat):Bool:=(Xs 33).all λj=>Wt (j=i)||h_ .any ops j i||Rs k (wd j)
def ZD {s j:Nat} (h:vj ops i s=Wz) (z:ops.size=33) (c:j≠i) (y:j<ops.size) (g:h_ .any ops j i=Ww):(Rr (wd j)).contains s=false:=by have:=List.all_eq_true.1 h j (List.mem_range.2 Yi);simp only[g,decide_eq_false c,Bool.false_or,X2] at this;exact this
def fd3 {k j:Nat} (h:bi1 ops i k=Wz) (z:ops.size=33) (c:j≠i) (y:j<ops.size) (g:h_ .any ops j i=Ww):Rs k (wd j)=true:=by have:=List.all_eq_true.1 h j (List.mem_range.2 Yi);simp only[g,decide_eq_false c,Bool.false_or] at this;exact this
def ud (Q:Exit->Act->Wu->Prop) (ops:Array XH) (W0:Wu) (B xb kd:Nat) (t0 t1 t2:Wv) (ds:List Deferred) (i:Nat) (o:XH):Prop:=
 ∀a w,Dv W0 B xb kd t0 t1 t2 ds a w->(∀j,h_ .any ops i j=true->YD B xb kd (wd j) a w)->
  wpOp WH ops Q i (λa' w'=>Dv W0 B xb kd t0 t1 t2 ds a' w'/\YD B xb kd (wd i) a' w'/\∀j,j≠i->j<ops.size->h_ .any ops j i=Ww->YD B xb kd (wd j) a w->YD B xb kd (wd j) a' w') a w
def bi2 {s:Nat} {v:Wv} {a:Act} {w w':Wu} (ho:ops[i]? =Ws o) (C:o.guard=Wr) (A:o.dst=Ws s) (I:vj ops i s=Wz) (G:ops.size=33) (J: ¬s=0/\¬s=1/\¬s=2/\¬s=4) (y:Dv W0 B xb kd t0 t1 t2 ds a w)
 (h:(XX a.eval o).run WH w= .ok (.value v) w') (g:Below w w w') (z:YD B xb kd (wd i) (a.put (Ws s) v) w'):
 wpOp WH ops Q i (λc w'=>Dv W0 B xb kd t0 t1 t2 ds c w'/\YD B xb kd (wd i) c w'/\∀j,j≠i->j<ops.size->h_ .any ops j i=Ww->YD B xb kd (wd j) a w->YD B xb kd (wd j) c w') a w:=by
 refine ab3 ho C h ?_;rw[A];exact⟨y.put g v J,z,λj D F O U=>U.other g v (ZD I G D F O)⟩
def fd4 (ho:ops[i]? =Ws o) (D:o.guard=Wr) (C:o.dst=Ws 4) (dg:o.op= .makeMap 235 Wr) (g:wd i= .mk) (J:vj ops i 4=Wz) (I:ops.size=33):ud Q ops W0 B xb kd t0 t1 t2 ds i o:=by intro a w hF U;have A:(XX a.eval o).run WH w= .ok (.value (.map (Ws w.heap.size))) (w.alloc (.map #[] 0)):=bz5;refine ab3 ho D A ?_;have z:=ae (af w) (.map #[] 0);rw[C,g];have y:=yI (a:=a) (s:=4) (.map (Ws w.heap.size)) GO;refine⟨⟨by simp[Act.put,hF.size],(Du _ az).trans hF.s0,(Du _ az).trans hF.s1,(Du _ az).trans hF.s2,hF.defers,ai hF.below z,hF.big,λM c=> ?_⟩,⟨_,y⟩,λj F G g O=>O.other z _ (ZD J I F G g)⟩;rw[y] at c;injection c with c;injection c with c;injection c with c;subst c;exact⟨hF.below.size,_,de.made iO w,λ_ _=>rfl⟩
def FG {s k:Nat} (ho:ops[i]? =Ws o) (C:o.guard=Wr) (A:o.dst=Ws s) (y:o.op= .call {callee:= .value (.func 203),args:= #[Yh (WK Xr k)],argTypes:= #[3]}) (c:wd i= .ex s k) (I:vj ops i s=Wz) (G:ops.size=33)
 (hs:s<37/\¬s=0/\¬s=1/\¬s=2/\¬s=4):ud Q ops W0 B xb kd t0 t1 t2 ds i o:=by
 intro a w hF V;have z:(XX a.eval o).run WH w= .ok (.enter 203 #[k]) w:=by simp only[XX,y];go_simp
 refine dn7 ho C z ?_;refine(az7 k w).m ?_;rintro e w' ⟨b,rfl,U,O,g⟩;refine⟨_,rfl,?_⟩;rw[A,c];exact⟨hF.put g _ hs.2,⟨_,yI _ Km,b,rfl,O⟩,λj D F c J=>J.other g _ (ZD I G D F c)⟩
def ZE {s k0 s0 j0:Nat} (ho:ops[i]? =Ws o) (hg:o.guard=Wr) (hd:o.dst=Ws s) (j:o.op= .buildSlice 184 1 #[(0,Yg s0)]) (z:wd i= .sl s [Ws k0]) (hp:vj ops i s=Wz) (hn:ops.size=33)
 (hs:s<37/\¬s=0/\¬s=1/\¬s=2/\¬s=4) (y:h_ .any ops i j0=Wz) (C:wd j0= .ex s0 k0):ud Q ops W0 B xb kd t0 t1 t2 ds i o:=by
 intro a w hF A;have g:=A j0 y;rw[C] at g;obtain⟨u,hu,hv⟩:=g;obtain⟨fn,caps,rfl⟩:=hv.form;have eG:(XX a.eval o).run WH w= .ok (.value (Yb (Ws (w 0 Wr)) 1 1)) (w.alloc (Yd #[.func fn #[] caps] 186 (0,0))):=by simp only[XX,j,List.map_toArray,WO,XS,yJ hu,Sem.run_bind,bh9,Result.andThen_ok,Sem.run_pure]
 refine Rt ?_;rw[z];exact⟨_,yI _ Km,j_.made1 (bo hF.big hF.below.size) hv⟩
def bi3 {s k0 k1 s0 s1 j0 j1:Nat} (ho:ops[i]? =Ws o) (hg:o.guard=Wr) (hd:o.dst=Ws s) (A:o.op= .buildSlice 184 2 #[(0,Yg s0),(1,Yg s1)]) (F:wd i= .sl s [Ws k0,Ws k1]) (hp:vj ops i s=Wz) (hn:ops.size=33)
 (hs:s<37/\¬s=0/\¬s=1/\¬s=2/\¬s=4) (C:h_ .any ops i j0=Wz) (G:wd j0= .ex s0 k0) (D:h_ .any ops i j1=Wz) (g:wd j1= .ex s1 k1):ud Q ops W0 B xb kd t0 t1 t2 ds i o:=by
 intro a w hF j;have z:=j j0 C;rw[G] at z;obtain⟨u,hu,hv⟩:=z;obtain⟨fn,caps,rfl⟩:=hv.form;have y:=j j1 D;rw[g] at y;obtain⟨u',zO,np⟩:=y;obtain⟨fn',caps',rfl⟩:=np.form;have eG:(XX a.eval o).run WH w= .ok (.value (Yb (Ws (w 0 Wr)) 2 2)) (w.alloc (Yd #[.func fn #[] caps,.func fn' #[] caps'] 186 (0,0))):=by simp only[XX,A,List.map_toArray,WO,XS,yJ hu,yJ zO,Sem.run_bind,bi0,Result.andThen_ok,Sem.run_pure]
 refine Rt ?_;rw[F];exact⟨_,yI _ Km,j_.made2 (bo hF.big hF.below.size) hv np⟩
def Ru {s:Nat} (ho:ops[i]? =Ws o) (hg:o.guard=Wr) (hd:o.dst=Ws s) (g:o.op= .buildSlice 184 1 #[(0,.func 204)]) (j:wd i= .sl s [Wr]) (hp:vj ops i s=Wz) (hn:ops.size=33)
 (hs:s<37/\¬s=0/\¬s=1/\¬s=2/\¬s=4):ud Q ops W0 B xb kd t0 t1 t2 ds i o:=by
 intro a w hF y;have eG:(XX a.eval o).run WH w= .ok (.value (Yb (Ws (w 0 Wr)) 1 1)) (w.alloc (Yd #[.func (.func 204) #[] #[]] 186 (0,0))):=by simp only[XX,g,List.map_toArray,WO,XS,Act.eval,Sem.run_bind,bh9,Result.andThen_ok,Sem.run_pure]
 refine Rt ?_;rw[j];exact⟨_,yI _ Km,j_.made1 (o:=Wr) (bo hF.big hF.below.size) rfl⟩
def fd5 {s:Nat} (ho:ops[i]? =Ws o) (hg:o.guard=Wr) (hd:o.dst=Ws s) (g:o.op= .buildSlice 184 2 #[(0,.func 204),(1,.func 204)]) (j:wd i= .sl s [Wr,Wr]) (hp:vj ops i s=Wz) (hn:ops.size=33)
 (hs:s<37/\¬s=0/\¬s=1/\¬s=2/\¬s=4):ud Q ops W0 B xb kd t0 t1 t2 ds i o:=by
 intro a w hF y;have eG:(XX a.eval o).run WH w= .ok (.value (Yb (Ws (w 0 Wr)) 2 2)) (w.alloc (Yd #[.func (.func 204) #[] #[],.func (.func 204) #[] #[]] 186 (0,0))):=by simp only[XX,g,List.map_toArray,WO,XS,Act.eval,Sem.run_bind,bi0,Result.andThen_ok,Sem.run_pure]
 refine Rt ?_;rw[j];exact⟨_,yI _ Km,j_.made2 (o:=Wr) (o':=Wr) (bo hF.big hF.below.size) rfl rfl⟩
def Ab {k s j0:Nat} {fs:List (Option Nat)} (ho:ops[i]? =Ws o) (X:o.guard=Wr) (V:o.dst=Wr) (I:o.op= .insert 235 (Yg 4) (Yh (WK Xr k)) (Yg s)) (z:wd i= .ins k s fs) (hp:bi1 ops i k=Wz) (hn:ops.size=33)
 (Z:k∈FF) (hm:h_ .any ops i 0=Wz) (O:h_ .any ops i j0=Wz) (uR:wd j0= .sl s fs):ud Q ops W0 B xb kd t0 t1 t2 ds i o:=by
 intro a w c D;have G:YD B xb kd .mk a w:=D 0 hm;obtain⟨M,hM⟩:=G;obtain⟨Es,f,hf,kT⟩:=c.map M hM;have F:=D j0 O;rw[uR] at F;obtain⟨v,hv,hW⟩:=F;obtain⟨ob,hr,cB⟩:=P2 (P:=WH) underlying235 WI co hf (k:Int) v;have h:=IW w M ob;have J:(XX a.eval o).run WH w= .ok .skip (ChangeMaps.setBlock w M ob):=by have iu:(Instr.mapUpdate 235 (.map (Ws M)) (WK Xr k) v).run WH w= .ok () (ChangeMaps.setBlock w M ob):=hr;have U:a.eval (Yh (WK Xr k))=WK Xr k:=rfl;simp only[XX,I,U,yJ hM,yJ hv,Sem.run_bind,iu,Result.andThen_ok,Sem.run_pure]
 refine dn6 ho X J ?_;rw[V,z];generalize ChangeMaps.setBlock w M ob=w' at cB h;have y:a.put Wr XE=a:=rfl;rw[y];refine⟨⟨c.size,c.s0,c.s1,c.s2,c.defers,h.1 _ _ c.below Es,c.big,λM' g=> ?_⟩,⟨M,_,v,hM,cB,eg0 _ _ _,hW.keep (ua.of_turns hf h)⟩,λj Y hl z hy=>hy.stored hM hf cB h (fd3 hp hn Y hl z)⟩;rw[hM] at g;injection g with g;injection g with g;injection g with g;subst g;refine⟨Es,_,cB,λC A=> ?_⟩
 rw[ao1 _ _ (λe=>by have:C=k:=by omega
                    exact A (this▸Z))]
 exact kT C A
def M5:List (Nat×Nat×Nat):=[(2,4,7),(3,7,9),(4,11,12),(8,14,14),(10,17,16),(11,19,17),(12,21,18),(16,23,19),(13,25,20),(14,27,21)]
def fd6: ∀p∈M5,wd p.2.1= .ins p.1 p.2.2 (fT p.1):=by intro p c;simp only[M5,Xj,Xi,or_false] at c;rcases c with rfl|rfl|rfl|rfl|rfl|rfl|rfl|rfl|rfl|rfl<;>rfl
def fd7 {k:Nat} (h:k∈FF): ∃p∈M5,p.1=k:=by simp only[FF,Xj,Xi,or_false] at h;rcases h with rfl|rfl|rfl|rfl|rfl|rfl|rfl|rfl|rfl|rfl<;>simp[M5]
def fd8 {k:Nat} (h:k∉FF):fT k=[]:=by simp only[FF,Xj,Xi,or_false,not_or] at h;unfold fT;repeat rw[if_neg Yi]
def fd9 (ho:ops[i]? =Ws o) (hg:o.guard=Wr) (hd:o.dst=Ws 22) (D:o.op= .move (Yg 4)) (F:wd i= .mv) (hp:vj ops i 22=Wz) (hn:ops.size=33)
 (j:((M5.all λp=>h_ .any ops i p.2.1)&&h_ .any ops i 0)=Wz):ud Q ops W0 B xb kd t0 t1 t2 ds i o:=by
 intro a w hF A;simp only[WC,Xo] at j;have C:YD B xb kd .mk a w:=A 0 j.2;obtain⟨M,hM⟩:=C;obtain⟨Es,f,hf,kT⟩:=hF.map M hM;have eG:(XX a.eval o).run WH w= .ok (.value (.map (Ws M))) w:=by simp only[XX,D,yJ hM,Sem.run_pure]
 refine M6 ?_;rw[F];refine⟨M,f,yI _ GO,hf,?_⟩;by_cases y:kd∈FF
 .obtain⟨p,cp3,rfl⟩:=fd7 y;have z:=A p.2.1 (j.1 p cp3);rw[fd6 p cp3] at z;obtain⟨M',g,v,c,h2,h3,h4⟩:=z;rw[hM] at c;injection c with c;injection c with c;injection c with c;subst c;rw[hf.uniq h2,h3];exact h4
 .rw[kT kd y,fd8 y];exact j_.nil_ _ _
def fe0 (ho:ops[i]? =Ws o) (hg:o.guard=Wr) (hd:o.dst=Ws 23) (j:o.op= .fieldAddr 96 (Yg 1) 0) (y:wd i= .fa) (hp:vj ops i 23=Wz) (hn:ops.size=33) (c:t1=Yf (Ws xb)):ud Q ops W0 B xb kd t0 t1 t2 ds i o:=by
 intro a w hF z;have g:=hF.s1;rw[c] at g;have eG:(XX a.eval o).run WH w= .ok (.value (Yf (Ws xb))) w:=by simp only[XX,j,yJ g];go_simp
 refine M6 ?_;rw[y];exact yI _ GO
def fe1 (ho:ops[i]? =Ws o) (hg:o.guard=Wr) (hd:o.dst=Ws 24) (c:o.op= .load 3 (Yg 23)) (z:wd i= .ld) (hp:vj ops i 24=Wz) (hn:ops.size=33) (j:h_ .any ops i 29=Wz)
 (g:xb<W0.heap.size) (C:W0.cell? xb=Ws (WK Xr kd)):ud Q ops W0 B xb kd t0 t1 t2 ds i o:=by
 intro a w hF A;have y:a.tmps[23]? =Ws (Yf (Ws xb)):=A 29 j;have D:w.cell? xb=Ws (WK Xr kd):=(hF.below.cell (p:=xb) g).trans C;have eG:(XX a.eval o).run WH w= .ok (.value (WK Xr kd)) w:=by simp only[XX,c,yJ y];go_simp
 refine M6 ?_;rw[z];exact yI _ GO
def fe2 (ho:ops[i]? =Ws o) (hg:o.guard=Wr) (hd:o.dst=Ws 25) (j:o.op= .lookup 235 (Yg 22) (Yg 24) Ww) (C:wd i= .lk) (hp:vj ops i 25=Wz) (hn:ops.size=33)
 (y:h_ .any ops i 28=Wz) (z:h_ .any ops i 30=Wz):ud Q ops W0 B xb kd t0 t1 t2 ds i o:=by
 intro a w hF g;obtain⟨M,f,hM,hf,hW⟩:YD B xb kd .mv a w:=g 28 y;have A:a.tmps[24]? =Ws (WK Xr kd):=g 30 z;have c:=qm (P:=WH) underlying235 WI co hf (kd:Int) Ww (zeroValue184 _);simp only[WW,if_false] at c;have eG:(XX a.eval o).run WH w= .ok (.value ((f (kd:Int)).getD (Yb Wr 0 0))) w:=by have D:(WT 235 (.map (Ws M)) (WK Xr kd) Ww).run WH w= .ok ((f (kd:Int)).getD (Yb Wr 0 0)) w:=c;simp only[XX,j,yJ hM,yJ A,Sem.run_bind,D,Result.andThen_ok,Sem.run_pure]
 refine M6 ?_;rw[C];exact⟨_,yI _ GO,hW⟩
def fe3 (ho:ops[i]? =Ws o) (hg:o.guard=Wr) (hd:o.dst=Ws 3) (c:o.op= .assign (Yg 25)) (j:wd i= .as_) (hp:vj ops i 3=Wz) (hn:ops.size=33) (g:h_ .any ops i 31=Wz):ud Q ops W0 B xb kd t0 t1 t2 ds i o:=by
 intro a w hF y;obtain⟨v,hv,hW⟩:YD B xb kd .lk a w:=y 31 g;have eG:(XX a.eval o).run WH w= .ok (.value v) w:=by simp only[XX,c,yJ hv,Sem.run_pure]
 refine M6 ?_;rw[j];exact⟨_,yI _ GO,hW⟩
end
def ZF (S:Nat->XH->Prop):Nat->List XH->Prop
 |_,[]=>True
 |i,o::r=>S i o/\ZF S (i+1) r
def bi4 {S:Nat->XH->Prop}: ∀(l:List XH) (n:Nat),ZF S n l->∀(j:Nat) o,l[j]? =Ws o->S (n+j) o
 |[],_,_,j,o,h=>by simp at h
 |x::r,n,h,0,o,ho=>by simp at ho;subst ho;exact h.1
 |x::r,n,h,j+1,o,ho=>by have:=bi4 r (n+1) h.2 j o (by simpa using ho);rw[show n+(j+1)=n+1+j by omega];exact this
def fe4 {xs:Array Wv} (h:xs.size=37): ∃u0 u1 u2 u3 u4 u5 u6 u7 u8 u9 u10 u11 u12 u13 u14 u15 u16 u17 u18 u19 u20 u21 u22 u23 u24 u25 u26 u27 u28 u29 u30 u31 u32 u33 u34 u35 u36,xs=List.toArray (u0::u1::u2::u3::u4::u5::u6::u7::u8::u9::u10::u11::u12::u13::u14::u15::u16::u17::u18::u19::u20::u21::u22::u23::u24::u25::u26::u27::u28::u29::u30::u31::u32::u33::u34::u35::u36::[]):=by
 obtain⟨l⟩:=xs
 match l,h with
 |u0::u1::u2::u3::u4::u5::u6::u7::u8::u9::u10::u11::u12::u13::u14::u15::u16::u17::u18::u19::u20::u21::u22::u23::u24::u25::u26::u27::u28::u29::u30::u31::u32::u33::u34::u35::u36::[],_=>exact⟨u0,u1,u2,u3,u4,u5,u6,u7,u8,u9,u10,u11,u12,u13,u14,u15,u16,u17,u18,u19,u20,u21,u22,u23,u24,u25,u26,u27,u28,u29,u30,u31,u32,u33,u34,u35,u36,rfl⟩
def fe5 {Q:Exit->Act->Wu->Prop} {W0:Wu} {B xb kd:Nat} {t0 t1 t2:Wv} {ds:List Deferred} (ops:Array XH) (h:ZF (ud Q ops W0 B xb kd t0 t1 t2 ds) 0 ops.toList): ∀i o,ops[i]? =Ws o->ud Q ops W0 B xb kd t0 t1 t2 ds i o:=λi o ho=>by
 have:=bi4 _ 0 h i o (by rw[Array.getElem?_toList];exact ho)
 rwa [XP] at this
def ZG (v:Wv):Nat:=match v with|Yb _ n _=>n|_=>0
def j_.form {w:Wu} {B:Nat} {v:Wv} {fs:List (Option Nat)} (h:j_ w B v fs): ∃A c,v=Yb A fs.length c:=by
 obtain⟨us,z,_⟩:=h;rcases z.2 with ⟨rfl,y⟩|⟨g,cap,j,rfl,_⟩
 .exact⟨Wr,0,by rw[y]⟩
 .exact⟨_,_,rfl⟩
def j_.grown {W w':Wu} {B n:Nat} {v v' C:Wv} {us:List Wv} {fs:List (Option Nat)} {o:Option Nat} (F:W.ownsRow B 186 1 v n us) (J:fs.length=n) (U: ∀(i:Nat) u o,us[i]? =Ws u->fs[i]? =Ws o->t_ W u o)
 (X:w'.ownsRow B 186 1 v' (n+1) (us++[C])) (Y:W.grownBy w' v.ownBlock) (V:t_ W C o):j_ w' B v' (fs++[o]):=by
 have z: ∀u o,t_ W u o->t_ w' u o:=by
  intro u o h;cases o with
  |none=>exact h
  |some k=>
   obtain⟨b,rfl,c⟩:=h;refine⟨b,rfl,iY c Y (λj I e=> ?_)⟩;subst e;rcases F.2 with ⟨rfl,_⟩|⟨g,cap,O,rfl,_,Z,_⟩
   .simp[Xq] at I
   .have:g=b:=by simpa[Value.ownBlock] using I
    subst this;rw[Z] at c;injection c with c;injection c with _ c _;revert c;decide
 have D:us.length=fs.length:=by rw[F.1,J,Nat.mul_one]
 refine⟨us++[C],by rw[WG,J];exact X,λi u o' y ho=> ?_⟩;rcases Xk i us.length with A|A
 .rw[Xx A] at y;rw[Xx (by rw[<-D];exact A)] at ho;exact z _ _ (U i u o' y ho)
 .rw[List.getElem?_append_right A] at y;rw[List.getElem?_append_right (by rw[<-D];exact A)] at ho;have G:i - us.length=0:=by have:=(List.getElem?_eq_some_iff.1 y).1;simp at this;omega
  rw[G] at y;rw[<-D,G] at ho;simp at y ho;subst y ho;exact z _ _ V
def fe6 {w:Wu} {B:Nat} {e:WQ} {size:Nat} {v:Wv} {n:Nat} {xs:List Wv} (h:w.ownsRow B e size v n xs):ZG v=n:=by
 rcases h.2 with ⟨rfl,j⟩|⟨g,cap,c,rfl,_⟩
 .exact j.symm
 .rfl
def fe7 (w:Wu):WJ WH 203 #[WK Xr 3] w λe w'=> ∃b,e=Xz (.func (.func 288) #[] #[aj b])/\w.heap.size<=b/\w'.heap[b]? =Ws (Yd #[WK Xr 3] 3 (0,0))/\Below w w w':=az7 3 w
def fe8 (d:au) (rv nv:Wv) (w:Wu) (fK:bG w w rv d.refs) (hl:d.refs.length<=100000) (wv:(fT d.kind).length<=d.refs.length):
 WJ WH 138 #[Ye #[d.kind,bs d.name,rv,nv,d.by_,Yc d.always]] w λe w'=> ∃v,e=Xz v/\j_ w' w v (Rq d)/\Below w w w':=by
 obtain⟨RA,rn,rc,rfl,eP,_,_⟩:=fK.sk.form;obtain⟨i0,hi,cJ,ba,bd⟩:=XU (show(Tryz.prog.info? 186).map (λi=>(i.zero,i.size,i.bytes))=Ws (Ws .nilFunc,1,8) by kernel_rfl);go_enter func138,ntmps138;go_upto_region 1 with (fail)
 refine bi5 ?_;intro j ⟨O,I⟩;have gF:=blk_lt I;have nY:j.cell? w=Ws (WK Xr d.kind):=ah I rfl;have cQ:j.cell? (w 2 Wr)=Ws (Yb RA rn rc):=ah I rfl;have X:w.heap.size<=j.heap.size:=O.size;have aT:=aa O;have qN:=aa cQ;have J:=aa eP;have Z:=aa wv;clear O I fK eP wv;refine dn5 (Dv j j w.heap.size d.kind (Ye #[d.kind,bs d.name,Yb RA rn rc,nv,d.by_,Yc d.always]) (Yf (Ws w)) (Yb Wr 0 0) []) (λi a w'=>YD j.heap.size w.heap.size d.kind (wd i) a w') aC aC ?_ (fe5 _ ?_) ?_
 .exact⟨rfl,rfl,rfl,rfl,rfl,aX (af j),ag _,λM hM=>by cases hM⟩
 .refine WE (fd4 aC rfl rfl rfl rfl aC rfl) ?_;refine WE (FG (s:=5) (k:=0) aC rfl rfl rfl rfl aC rfl az) ?_;refine WE (FG (s:=6) (k:=1) aC rfl rfl rfl rfl aC rfl az) ?_;refine WE (bi3 (s:=7) (k0:=0) (k1:=1) (s0:=5) (s1:=6) (j0:=1) (j1:=2) aC rfl rfl rfl rfl aC rfl az aC rfl aC rfl) ?_;refine WE (Ab (k:=2) (s:=7) (fs:=[Ws 0,Ws 1]) (j0:=3) aC rfl rfl rfl rfl aC rfl az aC gj rfl) ?_;refine WE (FG (s:=8) (k:=2) gj rfl rfl rfl rfl gj rfl az) ?_;refine WE (ZE (s:=9) (k0:=2) (s0:=8) (j0:=5) gj rfl rfl rfl rfl gj rfl az gj rfl) ?_;refine WE (Ab (k:=3) (s:=9) (fs:=[Ws 2]) (j0:=6) gj rfl rfl rfl rfl gj rfl az gj gj rfl) ?_;refine WE (FG (s:=10) (k:=0) gj rfl rfl rfl rfl gj rfl az) ?_;refine WE (FG (s:=11) (k:=0) gj rfl rfl rfl rfl gj rfl az) ?_;refine WE (bi3 (s:=12) (k0:=0) (k1:=0) (s0:=10) (s1:=11) (j0:=8) (j1:=9) gj rfl rfl rfl rfl gj rfl az gj rfl gj rfl) ?_;refine WE (Ab (k:=4) (s:=12) (fs:=[Ws 0,Ws 0]) (j0:=10) gj rfl rfl rfl rfl gj rfl az gj gj rfl) ?_;refine WE (FG (s:=13) (k:=0) gj rfl rfl rfl rfl gj rfl az) ?_;refine WE (ZE (s:=14) (k0:=0) (s0:=13) (j0:=12) gj rfl rfl rfl rfl gj rfl az gj rfl) ?_;refine WE (Ab (k:=8) (s:=14) (fs:=[Ws 0]) (j0:=13) gj rfl rfl rfl rfl gj rfl az gj gj rfl) ?_;refine WE (FG (s:=15) (k:=5) gj rfl rfl rfl rfl gj rfl az) ?_;refine WE (ZE (s:=16) (k0:=5) (s0:=15) (j0:=15) gj rfl rfl rfl rfl gj rfl az gj rfl) ?_;refine WE (Ab (k:=10) (s:=16) (fs:=[Ws 5]) (j0:=16) gj rfl rfl rfl rfl gj rfl az gj gj rfl) ?_;refine WE (Ru (s:=17) gq rfl rfl rfl rfl gq rfl az) ?_;refine WE (Ab (k:=11) (s:=17) (fs:=[Wr]) (j0:=18) gq rfl rfl rfl rfl gq rfl az gq gq rfl) ?_;refine WE (Ru (s:=18) gq rfl rfl rfl rfl gq rfl az) ?_;refine WE (Ab (k:=12) (s:=18) (fs:=[Wr]) (j0:=20) gq rfl rfl rfl rfl gq rfl az gq gq rfl) ?_;refine WE (Ru (s:=19) gq rfl rfl rfl rfl gq rfl az) ?_;refine WE (Ab (k:=16) (s:=19) (fs:=[Wr]) (j0:=22) gq rfl rfl rfl rfl gq rfl az gq gq rfl) ?_;refine WE (Ru (s:=20) gq rfl rfl rfl rfl gq rfl az) ?_;refine WE (Ab (k:=13) (s:=20) (fs:=[Wr]) (j0:=24) gq rfl rfl rfl rfl gq rfl az gq gq rfl) ?_;refine WE (fd5 (s:=21) gq rfl rfl rfl rfl gq rfl az) ?_;refine WE (Ab (k:=14) (s:=21) (fs:=[Wr,Wr]) (j0:=26) gq rfl rfl rfl rfl gq rfl az gq gq rfl) ?_;refine WE (fd9 gq rfl rfl rfl rfl gq rfl gq) ?_;refine WE (fe0 gq rfl rfl rfl rfl gq rfl rfl) ?_;refine WE (fe1 gq rfl rfl rfl rfl gq rfl gq gF nY) ?_;refine WE (fe2 gq rfl rfl rfl rfl gq rfl (by kernel_rfl) (by kernel_rfl)) ?_;refine WE (fe3 (by kernel_rfl) rfl rfl rfl rfl (by kernel_rfl) rfl (by kernel_rfl)) ?_;exact trivial
 intro a W2 hF hY;obtain⟨v,hv,hW⟩:YD j.heap.size w.heap.size d.kind .as_ a W2:=hY 32 az;obtain⟨s1,s2,s3,s4,s5,aV,_,_⟩:=hF;obtain⟨tm,dl⟩:=a;obtain⟨u0,u1,u2,u3,u4,u5,u6,u7,u8,u9,u10,u11,u12,u13,u14,u15,u16,u17,u18,u19,u20,u21,u22,u23,u24,u25,u26,u27,u28,u29,u30,u31,u32,u33,u34,u35,u36,rfl⟩:=fe4 s1;simp only[List.getElem?_toArray,List.getElem?_cons_zero,List.getElem?_cons_succ,Option.some.injEq] at s2 s3 s4 hv;dsimp only at s5;subst s2 s3 s4 s5 hv;have aR:=aa aV;have HW:=aa hW;clear hY aV hW;obtain⟨F,Ub⟩: ∃F,(fT d.kind).length=F:=⟨_,rfl⟩;have C:=aa Ub;have cw8:Hid (F<=rn):=by show F<=rn;rw[<-Ub,<-J.out];exact Z.out
 rw[J.out] at hl;clear Ub;go_wp2_with fail
 go_loopw [3] (λv wr=> ∃k:Nat,F+k<=rn/\j_ wr j v (fT d.kind++List.replicate k (Ws 3))/\Below j j wr) (λv _=>rn - ZG v)
 case atStart=>exact⟨0,by have:=cw8.out;omega,by simpa using HW.out,aR.out⟩
 case round=>
  obtain⟨k,hk,ch5,kR⟩:=hrel;obtain⟨A,c,rfl⟩:=ch5.form;have U:(fT d.kind++List.replicate k (Ws 3)).length=F+k:=by rw[WG,C.out,List.length_replicate]
  have hm3:wr.cell? (w 2 Wr)=Ws (Yb RA rn rc):=(kR.cell (p:=w 2 Wr) gF).trans qN.out;obtain⟨us,bA,dw⟩:=ch5;rw[U] at bA⊢
  have G:=aa bA;have z:=aa dw;have sT:=aa U;have jI:=aa kR;have gt0:=kR.size;clear bA dw U kR;by_cases ar:F+k<rn
  .have hI:((F+k:Nat):Int)<rn:=by omega
   go_wp2_with first
    |(go_at_call 203;refine(fe7 _).m ?_;rintro e w3 ⟨b,rfl,gP,ir,aL⟩;have Y:=aa ir;have y:=aa aL;clear ir aL;simp only[aj])
    |(at_builtin;go_loud (refine wpList_append_own _ rfl (.tmp 32) (.tmp 34) _ rfl j.heap.size 186 i0 _ 1 8 underlying184 hi cJ ba bd rfl (by decide) _ (F+k) us rfl ((fS G.out y.out).alloc _) ⟨w3.heap.size,0,none⟩ 1 1 [.func (.func 288) #[] #[.pointer (some ⟨b,0,none⟩)]] rfl rfl (mw rfl) (by simp[Value.oneCell']) (by simp[maxLen];omega) (by omega) (by have:=y.out.size;simp;omega) ?_)
      intro v' w4 fh V _;have D:=aa fh;have HG:=aa V;have bE:=aa (wS ((fS G.out y.out).alloc (Yd #[.func (.func 288) #[] #[Yf (Ws b)]] 186)) (ae (ai jI.out y.out) _) (ag _) V);clear fh V)
   refine⟨⟨k+1,by omega,?_,bE.out⟩,by have:=fe6 D.out;show rn - ZG v'<rn - (F+k);omega⟩;have h:=j_.grown (fs:=fT d.kind++List.replicate k (Ws 3)) (o:=Ws 3) ((fS G.out y.out).alloc _) sT.out (λi u o hu ho=>(z.out i u o hu ho).keep (ua.of_below (ae y.out _))) D.out HG.out ⟨b,rfl,aq Y.out (ae (af w3) _)⟩;rw[Xd,<-List.replicate_succ'] at h;exact h
  .have hI: ¬((F+k:Nat):Int)<rn:=by omega
   go_wp2_with fail
   go_ret;refine⟨_,rfl,?_,ai aT.out jI.out⟩;have gn6:k=rn - F:=Yi;have h:j_ wr w (Yb A (F+k) c) (fT d.kind++List.replicate k (Ws 3)):=⟨us,by rw[sT.out];exact⟨G.out.1,G.out.2.imp id λ⟨g,cap,cur,e1,hb,yf⟩=>⟨g,cap,cur,e1,bo X hb,yf⟩⟩,z.out⟩;rw[ZC,J.out,C.out,<-gn6];exact h
def jO (l:List Nat):Int:=fv (l.drop (l.length - 1)) 0
def fl3 (l:List Nat) (k:Nat):jO (l++[k])=(k:Int):=by unfold jO fv;simp
def fl4 (rb Mb:Nat) (t:cO) (d:au) (rv nv:Wv) (w:Wu) (hr:w.cell? rb=Ws (.map (Ws Mb))) (hM:de lV w Mb (ks t))
 (fK:bG w w rv d.refs) (iJ:aW w w nv (d.nums.map λx:Nat=>(x:Int))) (hv:bx d=Wz) (EK:10<=d.kind):
 WJ WH 49 #[aj rb,Ye #[d.kind,bs d.name,rv,nv,d.by_,Yc d.always]] w λe w'=>
  ∃o,e=Xz (Ye ((mt t d).vals o))/\w'.ownsRow w.heap.size 3 1 o (mt t d).ms.length ((mt t d).ms.map (WK .i64))/\Below w w w':=by
 have xO:=oU hv;refine L6 λi0 hi cJ ba bd=> ?_;obtain⟨RA,rn,rc,rfl,eP,_,_⟩:=fK.sk.form;obtain⟨NA,nn,nc,rfl,dQ,_,_⟩:=iJ.sk.form;rw[WF] at dQ;have U6:=xO.1;have gr8:IntKind.i64.wrap ((d.kind:Int) - 10)=(d.kind:Int) - 10:=Xf _ Yi;have gq3:rn<=17:=by have:=xO.2.2.1;omega
 have hh3:nn<=4:=by have:=xO.2.2.2.1;omega
 have sV:=aa (λW (I:Below w w W)=>Z0 rb Mb t (Yb RA rn rc) d.refs W (kc I hr) (hM.later I) ((fK.below I (ag _)).more I.size) Yi);rw[eP] at sV;have V:=aa (show ∀o,(mt t d).vals o= #[WK Xr ((d.kind:Int) - 10),WK Xr (f' (d.refs.map (bC t)) 0),WK Xr (if d.kind=14 then f' (d.refs.map (bC t)) 1 else 0),WK Xr (jO d.nums),WK Xr d.by_,Yc d.always,o] from λo=>rfl);have J2:=aa eP;have AI:=aa dQ;have D_:=aa xO;have DW:=aa iJ;have ll:=aa (show(mt t d).ms=if d.kind=13 then lX ((d.refs.map (bC t)).drop 1) else[] from rfl);generalize mt t d=rl at V ll;obtain⟨L,hL⟩: ∃L,d.refs.map (bC t)=L:=⟨_,rfl⟩;rw[hL] at sV V ll;have gi5:L.length=rn:=by rw[<-hL,WF,eP]
 have jp:=aa gi5;obtain⟨g,lN⟩: ∃g,(L++[0,0])[0]? =Ws g:=⟨_,Wy Yl⟩;have cm7:f' L 0=g:=by
  unfold f';rw[WP];cases L with
  |nil=>simp at lN⊢;exact lN
  |cons a l=>simp at lN⊢;exact lN
 rw[cm7] at V;simp only[aj] at sV⊢
 clear hr hM fK iJ eP dQ xO hv hL cm7;go_enter func49,ntmps49;go_upto_region 1 with (fail)
 refine cP (λW=>Below w w W/\W.heap[w.heap.size]? =Ws (Yd #[d.kind,bs d.name,Yb RA rn rc,Yb NA nn nc,d.by_,Yc d.always] 96 (0,0))/\W.heap[w.heap.size+1]? =Ws (Yd #[WK Xr 0,WK Xr 0,WK Xr 0,WK Xr 0,WK Xr 0,Yc Ww,Yb Wr 0 0] 119 (0,0))) ⟨ae (ae (af w) _) _,(sF w _ _ _ _).1,(sF w _ _ _ _).2⟩ ?_;intro W1 ⟨aU,cS,EH⟩;have x2:W1.cell? (w 2 Wr)=Ws (Yb RA rn rc):=ah cS rfl;have aT:=aa aU;have lq:=aa cS;have Tu:=aa EH;have gs9:=blk_lt EH;clear aU cS EH
 go_upto_region 2 with (first
  |(go_at_call 48;refine(sV.out _ aT.out).m ?_;rintro e w2 ⟨u,rfl,J,am⟩;have bn3:=aa J;have aR:=aa am;clear J am)
  |(at_builtin;refine wpList_append_own _ rfl (.tmp 12) (.tmp 13) _ rfl W1.heap.size 3 i0 _ 1 8 underlying31 hi cJ ba bd rfl (by decide) _ rn (L.map λx=>Value.int .i64 x) rfl (bn3.out.alloc _) ⟨w2.heap.size,0,none⟩ 2 2 [.int .i64 0,.int .i64 0] rfl rfl (mw rfl) (by simp[Value.oneCell']) (by simp[maxLen];omega) (by omega) (by have:=aR.out.size;simp;omega) ?_
    intro v' w3 fh bh _;have iX:=aa fh;have bg:=aa (wS (bn3.out.alloc (Yd #[WK Xr 0,WK Xr 0] 3)) (ae aR.out _) (ag _) bh);clear fh bh))
 have ch6:=lq.out;have Z:=aq ch6 bg.out;have Hj:=aq Tu.out bg.out;have y0:w3.cell? w=Ws (WK Xr d.kind):=ah Z rfl;have y2:w3.cell? (w 2 Wr)=Ws (Yb RA rn rc):=ah Z rfl;have y4:w3.cell? (w 4 Wr)=Ws (WK Xr d.by_):=ah Z rfl;have y5:w3.cell? (w 5 Wr)=Ws (Yc d.always):=ah Z rfl;have Ic:((L.map λx=>WK .i64 x)++[WK Xr 0,WK Xr 0])=(L++[0,0]).map (WK .i64):=Yl;have kG:=Sl.of_own iX.out;rw[Ic] at kG;obtain⟨VA,vc,cr2,gN,kf,BA⟩:=kG;rw[WF,WG,jp.out] at cr2 gN;subst cr2;obtain⟨gb,go,rfl,Hi,Hg⟩:=BA Yl;have Zk:w3.cell? (gb go Wr)=Ws (WK Xr g):=Hg 0 _ (by rw[WN,lN];rfl);have AG:=aa Hg;have uD:(0:Int)<(rn:Int)+2:=Yi;have hl5:rn+2<=vc:=gN;obtain⟨b6,bM⟩: ∃b,w3.heap.size=b:=⟨_,rfl⟩;have lo:=aa Z;have SW:=aa Hj;have jU:=bg.out.size;have qc:=aT.out.size;clear Hg Z ch6 Hj gN BA Ic lN x2;refine fC (S:=λw'=>w'.cell? w=Ws (WK Xr d.kind)/\w'.cell? (w 4 Wr)=Ws (WK Xr d.by_)/\w'.cell? (w 5 Wr)=Ws (Yc d.always)/\w'.cell? (gb go Wr)=Ws (WK Xr g)/\Below w3 w3 w') 13 13 (by exact⟨y0,y4,y5,Zk,aX (af w3)⟩) λhS=> ?_;iterate 11 refine cI 13 15 ?_
 refine bF 11 λK hK=> ?_;go_simp;refine bj1 λhS=> ?_;clear hK;refine aG ?_;refine bF 12 λK hK=> ?_;go_simp;refine bj1 λhS=> ?_;clear hK;refine aG ?_;refine gK ?_;go_upto_region 3 with (fail)
 refine cP (λW=>Below w3 w3 W/\W.heap[w3.heap.size]? =Ws (Yd #[WK Xr ((d.kind:Int) - 10),WK Xr g,WK Xr 0,WK Xr (0:Int),d.by_,Yc d.always,Yb Wr 0 0] 119 (0,0))) ⟨by first|exact aX (ae (af w3) _)|exact ae (aX (af w3)) _,by first|exact bQ w3 _|exact bQ w3.drew _⟩ ?_;intro W4 ⟨lE,Oz⟩;clear y0 y2 y4 y5 Zk hS;rw[bM] at Oz;have bE:=aa lE;have tC:=lE.size;have hm7:=blk_lt Oz;have zh:=aa (aq lo.out lE);have bl6:=aa (aq SW.out lE);have Jy:=aa Oz;have x3:W4.cell? (w 3 Wr)=Ws (Yb NA nn nc):=ah zh.out rfl;clear lE Oz;try simp only[bM]
 go_wp2_with fail
 go_loopw [29] (λi wr=> ∃k:Nat,k<=nn/\i=WK Xr k/\wr.heap[b6]? =Ws (Yd #[WK Xr ((d.kind:Int) - 10),WK Xr g,WK Xr 0,WK Xr (jO (d.nums.take k)),d.by_,Yc d.always,Yb Wr 0 0] 119 (0,0))/\aF W4.heap.size b6 W4 wr) (λi _=>nn - (WS i).toNat)
 case atStart=>exact⟨0,bU _,rfl,Jy.out,aF.refl _ _ _⟩
 case round=>
  obtain⟨k,hk,rfl,KP,nd⟩:=hrel;have O:=aa nd;have G:=aa KP;by_cases ar:k<nn
  .have dz:(0:Int)<=k:=by omega
   have bJ:(k:Int)<nn:=Yi;obtain⟨q,hq⟩: ∃q,d.nums[k]? =Ws q:=⟨_,Wy Ko⟩;have cz1:=aa (show jO (d.nums.take (k+1))=(q:Int) by rw[XJ,hq];exact fl3 _ _);obtain⟨qb,qo,rfl,gp8,pX⟩:=aW.cell DW.out (j:=k) (x:=(q:Int)) (by rw[WN,hq];rfl);have gp9: ¬qb=b6:=Yi;have cq:wr.cell? ⟨qb,qo+k,Wr⟩=Ws (WK Xr q):=(nd.cell (qo+k) Yi gp9).trans (((ai (ai aT.out bg.out) bE.out).cell (p:=⟨qb,qo+k,Wr⟩) gp8).trans pX);have g3:wr.cell? (b6 3 Wr)=Ws (WK Xr (jO (d.nums.take k))):=ah KP rfl;have z3:=cd KP 3;clear KP nd hq pX;go_wp2_with fail
   refine⟨⟨k+1,by omega,by go_num,?_,O.out.set (.inl rfl) _⟩,by simp[WS];omega⟩;rw[cz1.out];exact aZ G.out 3 _
  .have hI: ¬(k:Int)<nn:=by omega
   have cf7:jO (d.nums.take k)=jO d.nums:=by rw[WY (by rw[AI.out];omega)]
   rw[cf7] at G;have Kb:Hid (Below w w wr):=(ai (ai aT.out bg.out) bE.out).trans ((O.out.below Yi).mono Yi);have bp3:=aa (O.out.blk zh.out (blk_lt zh.out) Yi);have DR:=aa (O.out.blk bl6.out (blk_lt bl6.out) Yi);have eV:wr.cell? w=Ws (WK Xr d.kind):=ah bp3.out rfl;have Ho:wr.cell? (w 2 Wr)=Ws (Yb RA rn rc):=ah bp3.out rfl;have gt0:=O.out.size;have ck3:gb<W4.heap.size:=Yi;clear KP nd cf7;by_cases Y:d.kind=13
   .have oq:((d.kind:Int)==13)=true:=by simp;omega
    have U: ¬d.kind=14:=Yi;have Pa:2<=rn:=by have:=D_.out.2.2.2.2.2.2.2.2.2.2.2.1 Y;have:=J2.out;omega
    have OC:(1:Int)<=(rn:Int):=Yi;have G_:(rn:Int)<=(rn:Int)+2:=Yi;have hl6: ¬vc=1:=Yi;have Sr:=aa Y;have Ss:=aa U;clear Y U
    have xx:=aa (show ∀W,Below wr wr W->Sl W W.heap.size (Yb (Ws (gb (go+1) Wr)) (rn - 1) (vc - 1)) ((L.drop 1).map (WK .i64)) from λW I=>by
     refine⟨Ws (gb (go+1) Wr),vc - 1,by rw[WF,Xc,jp.out],by rw[WF,Xc,jp.out];omega,bo (Nat.sub_le _ _) kf,λ_=>⟨gb,go+1,rfl,by have:=I.size;omega,λj u J=> ?_⟩⟩;have aO: ¬gb=b6:=Yi;refine(I.cell (p:=⟨gb,go+1+j,Wr⟩) (show gb<wr.heap.size by omega)).trans ((O.out.cell (go+1+j) ck3 aO).trans ((bE.out.cell (p:=⟨gb,go+1+j,Wr⟩) Hi).trans ?_));rw[show go+1+j=go+(1+j) by omega];refine AG.out (1+j) u ?_;rw[WN,List.getElem?_drop] at J;rw[WN,Xx (by
      have h1:1+j<L.length:=by
       rcases Xk (1+j) L.length with h|h
       .exact h
       .rw[List.getElem?_eq_none h] at J;simp at J
      exact h1)]
     exact J)
    have ta:=aa (λW Bs (h1:Bs<W.heap.size) (h2:W.cell? ⟨Bs,0,Wr⟩=Ws (Yb (Ws (gb (go+1) Wr)) (rn - 1) (vc - 1))) h3=>bh0 Bs (Yb (Ws (gb (go+1) Wr)) (rn - 1) (vc - 1)) (L.drop 1) (by rw[Xc,jp.out];omega) W h1 h2 h3);rw[bh3,Xc,jp.out] at ta
    go_upto_region 13 with (first
     |(go_at_call 143;refine(ay9 (Ws (gb (go+1) Wr)) (rn - 1) (vc - 1) _).m ?_;rintro e w6 ⟨rfl,rfl⟩;simp only[bm,aj])
     |(go_at_call 142;refine(ta.out _ wr.heap.size Yl (ah (bQ wr _) rfl) (xx.out _ (ae (af wr) _))).m ?_;rintro e w7 ⟨o7,rfl,oJ,gB⟩;obtain⟨SA,sn,xf,rfl⟩:=eH oJ;have vG:=aa oJ;have X:Hid (Below wr wr w7):=ai (ae (af wr) _) gB;have OS:=aq G.out X.out;have g6:w7.cell? (b6 6 Wr)=Ws (Yb Wr 0 0):=ah OS rfl;have z6:=cd OS 6;have cx1:=aa OS;clear oJ gB OS))
    refine cP (λW=>W.heap[b6]? =Ws (Yd #[WK Xr ((d.kind:Int) - 10),WK Xr g,WK Xr 0,WK Xr (jO d.nums),d.by_,Yc d.always,Yb SA sn xf] 119 (0,0))/\aF w7.heap.size b6 w7 W) ⟨aZ cx1.out 6 _,aF.set (aF.refl _ _ _) (.inl rfl) _⟩ ?_;intro y ⟨Ud,D⟩;have Jz:=aa Ud;have A:=aa (D.blk (aq DR.out X.out) (blk_lt (aq DR.out X.out)) Yi);obtain⟨p0,p1,p2,p3,p4,p5,p6⟩:=iA Jz.out;obtain⟨q0,q1,q2,q3,q4,q5,q6⟩:=iA A.out;obtain⟨z0,z1,z2,z3,z4,z5,z6⟩:=Dc A.out;go_wp2_with fail
    have F:((((((((((((((y).setCell ⟨w.heap.size+1,0,Wr⟩ (WK Xr ((d.kind:Int) - 10)))).setCell ⟨w.heap.size+1,1,Wr⟩ (WK Xr g))).setCell ⟨w.heap.size+1,2,Wr⟩ (WK Xr 0))).setCell ⟨w.heap.size+1,3,Wr⟩ (WK Xr (jO d.nums)))).setCell ⟨w.heap.size+1,4,Wr⟩ (WK Xr d.by_))).setCell ⟨w.heap.size+1,5,Wr⟩ (Yc d.always))).setCell ⟨w.heap.size+1,6,Wr⟩ (Yb SA sn xf)).heap[w.heap.size+1]? =Ws (Yd #[WK Xr ((d.kind:Int) - 10),WK Xr g,WK Xr 0,WK Xr (jO d.nums),d.by_,Yc d.always,Yb SA sn xf] 119 (0,0)):=(aZ (aZ (aZ (aZ (aZ (aZ (aZ (A.out) 0 (WK Xr ((d.kind:Int) - 10))) 1 (WK Xr g)) 2 (WK Xr 0)) 3 (WK Xr (jO d.nums))) 4 (WK Xr d.by_)) 5 (Yc d.always)) 6 (Yb SA sn xf)).trans rfl;have C:aF y.heap.size (w.heap.size+1) y ((((((((((((((y).setCell ⟨w.heap.size+1,0,Wr⟩ (WK Xr ((d.kind:Int) - 10)))).setCell ⟨w.heap.size+1,1,Wr⟩ (WK Xr g))).setCell ⟨w.heap.size+1,2,Wr⟩ (WK Xr 0))).setCell ⟨w.heap.size+1,3,Wr⟩ (WK Xr (jO d.nums)))).setCell ⟨w.heap.size+1,4,Wr⟩ (WK Xr d.by_))).setCell ⟨w.heap.size+1,5,Wr⟩ (Yc d.always))).setCell ⟨w.heap.size+1,6,Wr⟩ (Yb SA sn xf)):=aF.set (aF.set (aF.set (aF.set (aF.set (aF.set (aF.set (aF.refl _ _ _) (.inl rfl) _) (.inl rfl) _) (.inl rfl) _) (.inl rfl) _) (.inl rfl) _) (.inl rfl) _) (.inl rfl) _;generalize ((((((((((((((y).setCell ⟨w.heap.size+1,0,Wr⟩ (WK Xr ((d.kind:Int) - 10)))).setCell ⟨w.heap.size+1,1,Wr⟩ (WK Xr g))).setCell ⟨w.heap.size+1,2,Wr⟩ (WK Xr 0))).setCell ⟨w.heap.size+1,3,Wr⟩ (WK Xr (jO d.nums)))).setCell ⟨w.heap.size+1,4,Wr⟩ (WK Xr d.by_))).setCell ⟨w.heap.size+1,5,Wr⟩ (Yc d.always))).setCell ⟨w.heap.size+1,6,Wr⟩ (Yb SA sn xf))=W7 at F C⊢
    obtain⟨f0,f1,f2,f3,f4,f5,f6⟩:=iA F;refine bodyPost_ret (v:=Ye #[WK Xr ((d.kind:Int) - 10),WK Xr g,WK Xr 0,WK Xr (jO d.nums),d.by_,Yc d.always,Yb SA sn xf]) ?_ rfl ?_
    .simp[results,Tryz.f49,go_sem,f0,f1,f2,f3,f4,f5,f6]
    .refine⟨.slice SA sn xf,by rw[V.out,if_neg Ss.out],?_,((Kb.out.trans (X.out.mono (by have:=Kb.out.size;omega))).trans ((D.below (by have:=X.out.size;omega)).mono (by omega))).trans ((C.below (by have:=D.size;have:=X.out.size;omega)).mono (Nat.le_succ _))⟩;rw[ll.out,if_pos Sr.out];have h7:=vG.out;have kG:(lX (L.drop 1)).length=rn - 1:=by rw[(IM _).length_eq,List.length_drop,jp.out]
     rw[<-kG] at h7;have Ez:=Kb.out.size;exact QQ (oS (oS h7 D (ag _) bI) C (ag _) bI) bI
   .have oq:((d.kind:Int)==13)=false:=by simp;omega
    by_cases U:d.kind=14
    .have mq:((d.kind:Int)==14)=true:=by simp;omega
     have Pa:rn=2:=by have:=D_.out.2.2.2.2.2.2.2.2.2.2.2.2.1 U;have:=J2.out;omega
     obtain⟨z,hZ⟩: ∃z,L[1]? =Ws z:=⟨_,Wy Og⟩;have iM:=aa (show f' L 1=z by unfold f';rw[WP,hZ];rfl);have aO: ¬gb=b6:=Yi;have ha0:wr.cell? (gb (go+1) Wr)=Ws (WK Xr z):=(O.out.cell (go+1) ck3 aO).trans ((bE.out.cell (p:=gb (go+1) Wr) Hi).trans (AG.out 1 _ (by rw[WN,Xx Og,hZ];rfl)));have ap:(1:Int)<(rn:Int)+2:=Yi;have g2:wr.cell? (b6 2 Wr)=Ws (WK Xr 0):=ah G.out rfl;have z2:=cd G.out 2;have Ss:=aa U;have Sr:=aa Y;clear hZ Pa U Y;go_upto_region 13 with (fail)
     refine cP (λW=>W.heap[b6]? =Ws (Yd #[WK Xr ((d.kind:Int) - 10),WK Xr g,WK Xr z,WK Xr (jO d.nums),d.by_,Yc d.always,Yb Wr 0 0] 119 (0,0))/\aF wr.heap.size b6 wr W) ⟨aZ G.out 2 _,aF.set (aF.refl _ _ _) (.inl rfl) _⟩ ?_;intro y ⟨Ud,D⟩;have Jz:=aa Ud;have A:=aa (D.blk DR.out (blk_lt DR.out) Yi);obtain⟨p0,p1,p2,p3,p4,p5,p6⟩:=iA Jz.out;obtain⟨q0,q1,q2,q3,q4,q5,q6⟩:=iA A.out;obtain⟨z0,z1,z2,z3,z4,z5,z6⟩:=Dc A.out;go_wp2_with fail
     have F:((((((((((((((y).setCell ⟨w.heap.size+1,0,Wr⟩ (WK Xr ((d.kind:Int) - 10)))).setCell ⟨w.heap.size+1,1,Wr⟩ (WK Xr g))).setCell ⟨w.heap.size+1,2,Wr⟩ (WK Xr z))).setCell ⟨w.heap.size+1,3,Wr⟩ (WK Xr (jO d.nums)))).setCell ⟨w.heap.size+1,4,Wr⟩ (WK Xr d.by_))).setCell ⟨w.heap.size+1,5,Wr⟩ (Yc d.always))).setCell ⟨w.heap.size+1,6,Wr⟩ (Yb Wr 0 0)).heap[w.heap.size+1]? =Ws (Yd #[WK Xr ((d.kind:Int) - 10),WK Xr g,WK Xr z,WK Xr (jO d.nums),d.by_,Yc d.always,Yb Wr 0 0] 119 (0,0)):=(aZ (aZ (aZ (aZ (aZ (aZ (aZ (A.out) 0 (WK Xr ((d.kind:Int) - 10))) 1 (WK Xr g)) 2 (WK Xr z)) 3 (WK Xr (jO d.nums))) 4 (WK Xr d.by_)) 5 (Yc d.always)) 6 (Yb Wr 0 0)).trans rfl;have C:aF y.heap.size (w.heap.size+1) y ((((((((((((((y).setCell ⟨w.heap.size+1,0,Wr⟩ (WK Xr ((d.kind:Int) - 10)))).setCell ⟨w.heap.size+1,1,Wr⟩ (WK Xr g))).setCell ⟨w.heap.size+1,2,Wr⟩ (WK Xr z))).setCell ⟨w.heap.size+1,3,Wr⟩ (WK Xr (jO d.nums)))).setCell ⟨w.heap.size+1,4,Wr⟩ (WK Xr d.by_))).setCell ⟨w.heap.size+1,5,Wr⟩ (Yc d.always))).setCell ⟨w.heap.size+1,6,Wr⟩ (Yb Wr 0 0)):=aF.set (aF.set (aF.set (aF.set (aF.set (aF.set (aF.set (aF.refl _ _ _) (.inl rfl) _) (.inl rfl) _) (.inl rfl) _) (.inl rfl) _) (.inl rfl) _) (.inl rfl) _) (.inl rfl) _;generalize ((((((((((((((y).setCell ⟨w.heap.size+1,0,Wr⟩ (WK Xr ((d.kind:Int) - 10)))).setCell ⟨w.heap.size+1,1,Wr⟩ (WK Xr g))).setCell ⟨w.heap.size+1,2,Wr⟩ (WK Xr z))).setCell ⟨w.heap.size+1,3,Wr⟩ (WK Xr (jO d.nums)))).setCell ⟨w.heap.size+1,4,Wr⟩ (WK Xr d.by_))).setCell ⟨w.heap.size+1,5,Wr⟩ (Yc d.always))).setCell ⟨w.heap.size+1,6,Wr⟩ (Yb Wr 0 0))=W7 at F C⊢
     obtain⟨f0,f1,f2,f3,f4,f5,f6⟩:=iA F;refine bodyPost_ret (v:=Ye #[WK Xr ((d.kind:Int) - 10),WK Xr g,WK Xr z,WK Xr (jO d.nums),d.by_,Yc d.always,Yb Wr 0 0]) ?_ rfl ?_
     .simp[results,Tryz.f49,go_sem,f0,f1,f2,f3,f4,f5,f6]
     .refine⟨Yb Wr 0 0,by rw[V.out,if_pos Ss.out,iM.out],?_,(Kb.out.trans ((D.below Yi).mono Yi)).trans ((C.below (by have:=D.size;omega)).mono (XR _))⟩;rw[ll.out,if_neg Sr.out];exact WX _ _ _ _
    .have mq:((d.kind:Int)==14)=false:=by simp;omega
     go_upto_region 13 with (fail)
     have Jz:=aa G.out;have A:=aa DR.out;obtain⟨p0,p1,p2,p3,p4,p5,p6⟩:=iA Jz.out;obtain⟨q0,q1,q2,q3,q4,q5,q6⟩:=iA A.out;obtain⟨z0,z1,z2,z3,z4,z5,z6⟩:=Dc A.out;go_wp2_with fail
     have F:((((((((((((((wr).setCell ⟨w.heap.size+1,0,Wr⟩ (WK Xr ((d.kind:Int) - 10)))).setCell ⟨w.heap.size+1,1,Wr⟩ (WK Xr g))).setCell ⟨w.heap.size+1,2,Wr⟩ (WK Xr 0))).setCell ⟨w.heap.size+1,3,Wr⟩ (WK Xr (jO d.nums)))).setCell ⟨w.heap.size+1,4,Wr⟩ (WK Xr d.by_))).setCell ⟨w.heap.size+1,5,Wr⟩ (Yc d.always))).setCell ⟨w.heap.size+1,6,Wr⟩ (Yb Wr 0 0)).heap[w.heap.size+1]? =Ws (Yd #[WK Xr ((d.kind:Int) - 10),WK Xr g,WK Xr 0,WK Xr (jO d.nums),d.by_,Yc d.always,Yb Wr 0 0] 119 (0,0)):=(aZ (aZ (aZ (aZ (aZ (aZ (aZ (A.out) 0 (WK Xr ((d.kind:Int) - 10))) 1 (WK Xr g)) 2 (WK Xr 0)) 3 (WK Xr (jO d.nums))) 4 (WK Xr d.by_)) 5 (Yc d.always)) 6 (Yb Wr 0 0)).trans rfl;have C:aF wr.heap.size (w.heap.size+1) wr ((((((((((((((wr).setCell ⟨w.heap.size+1,0,Wr⟩ (WK Xr ((d.kind:Int) - 10)))).setCell ⟨w.heap.size+1,1,Wr⟩ (WK Xr g))).setCell ⟨w.heap.size+1,2,Wr⟩ (WK Xr 0))).setCell ⟨w.heap.size+1,3,Wr⟩ (WK Xr (jO d.nums)))).setCell ⟨w.heap.size+1,4,Wr⟩ (WK Xr d.by_))).setCell ⟨w.heap.size+1,5,Wr⟩ (Yc d.always))).setCell ⟨w.heap.size+1,6,Wr⟩ (Yb Wr 0 0)):=aF.set (aF.set (aF.set (aF.set (aF.set (aF.set (aF.set (aF.refl _ _ _) (.inl rfl) _) (.inl rfl) _) (.inl rfl) _) (.inl rfl) _) (.inl rfl) _) (.inl rfl) _) (.inl rfl) _;generalize ((((((((((((((wr).setCell ⟨w.heap.size+1,0,Wr⟩ (WK Xr ((d.kind:Int) - 10)))).setCell ⟨w.heap.size+1,1,Wr⟩ (WK Xr g))).setCell ⟨w.heap.size+1,2,Wr⟩ (WK Xr 0))).setCell ⟨w.heap.size+1,3,Wr⟩ (WK Xr (jO d.nums)))).setCell ⟨w.heap.size+1,4,Wr⟩ (WK Xr d.by_))).setCell ⟨w.heap.size+1,5,Wr⟩ (Yc d.always))).setCell ⟨w.heap.size+1,6,Wr⟩ (Yb Wr 0 0))=W7 at F C⊢
     obtain⟨f0,f1,f2,f3,f4,f5,f6⟩:=iA F;refine bodyPost_ret (v:=Ye #[WK Xr ((d.kind:Int) - 10),WK Xr g,WK Xr 0,WK Xr (jO d.nums),d.by_,Yc d.always,Yb Wr 0 0]) ?_ rfl ?_
     .simp[results,Tryz.f49,go_sem,f0,f1,f2,f3,f4,f5,f6]
     .refine⟨Yb Wr 0 0,by rw[V.out,if_neg U],?_,Kb.out.trans ((C.below Yi).mono (XR _))⟩;rw[ll.out,if_neg Y];exact WX _ _ _ _
def mZ (Mb:Nat) (m:aM) (v:MV):Array Value:= #[.map (Ws Mb),v.s,v.f,v.r,v.m,v.l,v.i,WK Xr m.dark,WK Xr m.slots,WK Xr m.reserve,WK Xr m.failures,v.u]
def kQ (w:Wu) (rb B M Mb:Nat) (m:aM):Prop:=rb<B/\B<=w.heap.size/\∃v,w.heap[rb]? =Ws (Yd (mZ Mb m v) 110 (0,0))/\fG w B M m v
section
variable {w w':Wu} {rb B M Mb:Nat} {m:aM} {v:MV}
def kQ.addS {s:ak} (g:rb<B) (j:B<=w.heap.size) (y:fG w B M m v) (A:nK w rb B 110 (mZ Mb m v) 1 9 1 v.s m.sites.length (m.sites.map ku) [ku s] w'):kQ w' rb B (M+1) Mb {m with sites:=m.sites++[s]}/\aF B rb w w':=by obtain⟨v',h1,h2,h3,h4⟩:=A;exact⟨⟨g,bo j h4.size,{v with s:=v'},h1,y.addS g h4 h3 s h2⟩,h4.kp j (λk z=>(WL y.s_ k z).1)⟩
def kQ.addF {s:ak} (g:rb<B) (j:B<=w.heap.size) (y:fG w B M m v) (A:nK w rb B 110 (mZ Mb m v) 2 9 1 v.f m.feeds.length (m.feeds.map ku) [ku s] w'):kQ w' rb B (M+1) Mb {m with feeds:=m.feeds++[s]}/\aF B rb w w':=by obtain⟨v',h1,h2,h3,h4⟩:=A;exact⟨⟨g,bo j h4.size,{v with f:=v'},h1,y.addF g h4 h3 s h2⟩,h4.kp j (λk z=>(WL y.f_ k z).1)⟩
def kQ.addR {x:mU} (g:rb<B) (j:B<=w.heap.size) (y:fG w B M m v) (z:aK x.site/\aK x.feed) (C:nK w rb B 110 (mZ Mb m v) 3 132 3 v.r m.racks.length (m.racks.map Nq).flatten (Nq x) w'):kQ w' rb B (M+1) Mb {m with racks:=m.racks++[x]}/\aF B rb w w':=by obtain⟨v',h1,h2,h3,h4⟩:=C;exact⟨⟨g,bo j h4.size,{v with r:=v'},h1,y.addR g h4 h3 x h2 z⟩,h4.kp j (λk A=>(WL y.r_ k A).1)⟩
def kQ.addM {x:ri} (g:rb<B) (j:B<=w.heap.size) (y:fG w B M m v) (z:aK x.rack/\aK x.cap) (C:nK w rb B 110 (mZ Mb m v) 4 134 3 v.m m.machs.length (m.machs.map M0).flatten (M0 x) w'):kQ w' rb B (M+1) Mb {m with machs:=m.machs++[x]}/\aF B rb w w':=by obtain⟨v',h1,h2,h3,h4⟩:=C;exact⟨⟨g,bo j h4.size,{v with m:=v'},h1,y.addM g h4 h3 x h2 z⟩,h4.kp j (λk A=>(WL y.m_ k A).1)⟩
def kQ.addL {x:tO} (g:rb<B) (j:B<=w.heap.size) (y:fG w B M m v) (z:aK x.a/\aK x.b/\aK x.cap) (C:nK w rb B 110 (mZ Mb m v) 5 136 3 v.l m.links.length (m.links.map M3).flatten (M3 x) w'):kQ w' rb B (M+1) Mb {m with links:=m.links++[x]}/\aF B rb w w':=by obtain⟨v',h1,h2,h3,h4⟩:=C;exact⟨⟨g,bo j h4.size,{v with l:=v'},h1,y.addL g h4 h3 x h2 z⟩,h4.kp j (λk A=>(WL y.l_ k A).1)⟩
def kQ.addI {x:fg} {o:Wv} {rows:List (List Wv)} (g:rb<B) (j:B<=w.heap.size) (F:fG w B M m v) (z:w.ownsRow B 138 7 v.i m.items.length rows.flatten) (G:vh yF fg.on IK w B rows m.items)
 (J:nK w rb B 110 (mZ Mb m v) 6 138 7 v.i m.items.length rows.flatten (yF x o) w') (A:w'.ownsRow B 3 1 o x.on.length (x.on.map (WK .i64))) (D: ∀y∈x.on,aK y) (C:IK x):kQ w' rb B (M+1) Mb {m with items:=m.items++[x]}/\aF B rb w w':=by
 obtain⟨v',h1,h2,h3,h4⟩:=J;exact⟨⟨g,bo j h4.size,{v with i:=v'},h1,F.addI g h4 h3 x o rows z G h2 A D C⟩,h4.kp j (λk I=>(WL z k I).1)⟩
def kQ.addU {x:cC} {o:Wv} {rows:List (List Wv)} (g:rb<B) (j:B<=w.heap.size) (F:fG w B M m v) (z:w.ownsRow B 119 7 v.u m.rules.length rows.flatten) (G:vh BJ cC.ms IL w B rows m.rules)
 (J:nK w rb B 110 (mZ Mb m v) 11 119 7 v.u m.rules.length rows.flatten (BJ x o) w') (A:w'.ownsRow B 3 1 o x.ms.length (x.ms.map (WK .i64))) (D: ∀y∈x.ms,aK y) (C:IL x):kQ w' rb B (M+1) Mb {m with rules:=m.rules++[x]}/\aF B rb w w':=by
 obtain⟨v',h1,h2,h3,h4⟩:=J;exact⟨⟨g,bo j h4.size,{v with u:=v'},h1,F.addU g h4 h3 x o rows z G h2 A D C⟩,h4.kp j (λk I=>(WL z k I).1)⟩
def fG.renum (h:fG w B M m v) (a b c e:Int) (g:aK a/\aK b/\aK c/\aK e):fG w B M {m with dark:=a,slots:=b,reserve:=c,failures:=e} v:=
 ⟨h.s_,h.f_,h.r_,h.m_,h.l_,h.i_,h.u_,h.sf,h.len,h.rI,h.mI,h.lI,g⟩
end
structure oW (w:Wu) (rb B M Mb qb mb Bu:Nat) (t:cO) (d:au) (m:aM) (rv nv u:Wv):Prop where
 at_:kQ w rb B M Mb m
 q:w.heap[qb]? =Ws (Yd #[aj rb] 107 (0,0))
 mm:w.heap[mb]? =Ws (Yd #[Yf (Ws (rb 1 Wr))] 182 (0,0))
 qB:qb<B
 mB:mb<B
 qne: ¬mb=rb
 fm:de lV w Mb (ks t)
 rvs:bG w rb rv d.refs
 nvs:aW w rb nv (d.nums.map λx:Nat=>(x:Int))
 us:w.ownsRow Bu 3 1 u d.refs.length ((d.refs.map (bC t)).map (WK .i64))
 val:bx d=Wz
 Mle:M<=100000
 I: ∀s,aK (bC t s)
 byI:aK d.by_
def qx {n:Nat} (h:n<=1048576):aK (n:Int):=by constructor<;>omega
def fl5 {d:au} (h:bx d=Wz): ∀k∈d.nums,k<=1048576:=by unfold bx at h;rw[WC,Xo] at h;exact λk c=>by simpa using h.2 k c
def FH {d:au} (h:bx d=Wz) (i:Nat):aK (fv d.nums i):=by
 unfold fv;rw[WP];cases hg:d.nums[i]? with
 |none=>exact qx az
 |some k=>exact qx (fl5 h k (eD hg))
section
variable {w:Wu} {rb B M Mb qb mb Bu:Nat} {t:cO} {d:au} {m:aM} {rv nv u:Wv}
def oW.u_at (h:oW w rb B M Mb qb mb Bu t d m rv nv u) {i:Nat} (hi:i<d.refs.length): ∃ab g c,u=Yb (Ws ⟨ab,g,Wr⟩) d.refs.length c/\(∀j,j<d.refs.length->w.cell? ⟨ab,g+j,Wr⟩=Ws (WK Xr (f' (d.refs.map (bC t)) j))):=by
 obtain⟨A,c,he,_,_,h3⟩:=Sl.of_own h.us;obtain⟨ab,g,rfl,_,hc⟩:=h3 bz3;refine⟨ab,g,c,by rw[he];simp,λj y=>hc j _ ?_⟩;have:(d.refs.map (bC t))[j]? =Ws (f' (d.refs.map (bC t)) j):=by unfold f';rw[WP,Wy (by rw[WF];exact y)];rfl
 rw[WN,this];rfl
def oW.n_at (h:oW w rb B M Mb qb mb Bu t d m rv nv u) (hi:0<d.nums.length): ∃b o c,nv=Yb (Ws ⟨b,o,Wr⟩) d.nums.length c/\b<rb/\(∀j,j<d.nums.length->w.cell? ⟨b,o+j,Wr⟩=Ws (WK Xr (fv d.nums j))):=by
 obtain⟨NA,nn,nc,rfl,dQ,_,_⟩:=h.nvs.sk.form;obtain⟨A,c,he,_,_,h3⟩:=h.nvs.1;obtain⟨b,o,rfl,hb,hc⟩:=h3 bz3;refine⟨b,o,c,by rw[he];simp,hb,λj g=>hc j _ ?_⟩;have:(d.nums.map λx:Nat=>(x:Int))[j]? =Ws (fv d.nums j):=by unfold fv;rw[WN,WP,Wy g];rfl
 rw[WN,this];rfl
def oW.ntI64 (h:oW w rb B M Mb qb mb Bu t d m rv nv u) (i:Nat):aK (f' (d.refs.map (bC t)) i):=by
 unfold f';rw[WP,WN];cases d.refs[i]? with
 |none=>exact qx (n:=0) az
 |some s=>exact h.I s
def Ac (w:Wu) (rb B M Mb:Nat) (m':aM) (e:X0) (w':Wu):Prop:=(∃x,e=Xz x)/\kQ w' rb B (M+1) Mb m'/\aF B rb w w'
def fl6 (h:oW w rb B M Mb qb mb Bu t d m rv nv u) (hk:d.kind=0):WJ WH 127 #[Ye #[d.kind,bs d.name,rv,nv,d.by_,Yc d.always],u,aj mb] w (Ac w rb B M Mb (eA t m d)):=by obtain⟨bc,hB,v,hr,hO⟩:=h.at_;obtain⟨RA,rn,rc,rfl,_,_,_⟩:=h.rvs.sk.form;obtain⟨NA,nn,nc,rfl,_,_,_⟩:=h.nvs.sk.form;obtain⟨UA,um,uc,rfl⟩:=eH h.us;have e:eA t m d={m with sites:=m.sites++[d.name]}:=AZ;rw[e];refine(ey3 rb mb B 0 0 0 0 d RA NA UA rn rc nn nc um m.sites.length uc 0 0 0 (mZ Mb m v) _ v.s _ w hr rfl h.mm bc h.mB hB hO.s_ Cm).m ?_;rintro e w' ⟨c,g⟩;exact⟨c,kQ.addS bc hB hO g⟩
def fl7 (h:oW w rb B M Mb qb mb Bu t d m rv nv u) (hk:d.kind=1):WJ WH 128 #[Ye #[d.kind,bs d.name,rv,nv,d.by_,Yc d.always],u,aj mb] w (Ac w rb B M Mb (eA t m d)):=by obtain⟨bc,hB,v,hr,hO⟩:=h.at_;obtain⟨RA,rn,rc,rfl,_,_,_⟩:=h.rvs.sk.form;obtain⟨NA,nn,nc,rfl,_,_,_⟩:=h.nvs.sk.form;obtain⟨UA,um,uc,rfl⟩:=eH h.us;have e:eA t m d={m with feeds:=m.feeds++[d.name]}:=AZ;rw[e];refine(ey4 rb mb B 0 0 0 0 d RA NA UA rn rc nn nc um m.feeds.length uc 0 0 0 (mZ Mb m v) _ v.f _ w hr rfl h.mm bc h.mB hB hO.f_ Cm).m ?_;rintro e w' ⟨c,g⟩;exact⟨c,kQ.addF bc hB hO g⟩
def fl8 (h:oW w rb B M Mb qb mb Bu t d m rv nv u) (hk:d.kind=2):WJ WH 129 #[Ye #[d.kind,bs d.name,rv,nv,d.by_,Yc d.always],u,aj mb] w (Ac w rb B M Mb (eA t m d)):=by obtain⟨bc,hB,v,hr,hO⟩:=h.at_;have y:=(oU h.val).2.2.2.2.1 hk;obtain⟨RA,rn,rc,rfl,_,_,_⟩:=h.rvs.sk.form;obtain⟨NA,nn,nc,rfl,_,_,_⟩:=h.nvs.sk.form;obtain⟨ab,ao,c,rfl,hc⟩:=h.u_at (i:=0) Yi;have e:eA t m d={m with racks:=m.racks++[⟨d.name,f' (d.refs.map (bC t)) 0,f' (d.refs.map (bC t)) 1⟩]}:=AZ;rw[e,y];refine(ey5 rb mb B ab ao 0 0 d RA NA Wr rn rc nn nc 0 m.racks.length c _ _ 0 (mZ Mb m v) _ v.r _ w hr rfl h.mm bc h.mB hB hO.r_ Cm (λe=>dW hO.r_ h.us az ab e rfl) (hc 0 Yi) (hc 1 Yi)).m ?_;rintro e w' ⟨g,j⟩;exact⟨g,kQ.addR bc hB hO ⟨h.ntI64 0,h.ntI64 1⟩ j⟩
def fl9 (h:oW w rb B M Mb qb mb Bu t d m rv nv u) (hk:d.kind=3):WJ WH 130 #[Ye #[d.kind,bs d.name,rv,nv,d.by_,Yc d.always],u,aj mb] w (Ac w rb B M Mb (eA t m d)):=by obtain⟨bc,hB,v,hr,hO⟩:=h.at_;have g:=(oU h.val).2.2.2.2.2.1 hk;obtain⟨RA,rn,rc,rfl,_,_,_⟩:=h.rvs.sk.form;obtain⟨nb,no,nc,rfl,ww,hn⟩:=h.n_at Yi;obtain⟨ab,ao,c,rfl,hc⟩:=h.u_at (i:=0) Yi;have e:eA t m d={m with machs:=m.machs++[⟨d.name,f' (d.refs.map (bC t)) 0,fv d.nums 0⟩]}:=AZ;rw[e,g.1,g.2];refine(ey6 rb mb B ab ao nb no d RA Wr Wr rn rc 0 nc 0 m.machs.length c _ 0 _ (mZ Mb m v) _ v.m _ w hr rfl h.mm bc h.mB hB hO.m_ Cm (λe=>dW hO.m_ h.us az ab e rfl) (hc 0 Yi) (Nat.lt_trans ww bc) (hn 0 Yi)).m ?_;rintro e w' ⟨j,y⟩;exact⟨j,kQ.addM bc hB hO ⟨h.ntI64 0,FH h.val 0⟩ y⟩
def fm0 {a b:Int} (c:aK a) (g:aK b):aK (min a b)/\aK (max a b):=by obtain⟨a1,a2⟩:=c;obtain⟨b1,b2⟩:=g;constructor<;>constructor<;>omega
def fm1 (h:oW w rb B M Mb qb mb Bu t d m rv nv u) (hk:d.kind=4):WJ WH 131 #[Ye #[d.kind,bs d.name,rv,nv,d.by_,Yc d.always],u,aj mb] w (Ac w rb B M Mb (eA t m d)):=by obtain⟨bc,hB,v,hr,hO⟩:=h.at_;have g:=(oU h.val).2.2.2.2.2.2.1 hk;obtain⟨RA,rn,rc,rfl,_,_,_⟩:=h.rvs.sk.form;obtain⟨nb,no,nc,rfl,ww,hn⟩:=h.n_at Yi;obtain⟨ab,ao,c,rfl,hc⟩:=h.u_at (i:=0) Yi;have e:eA t m d={m with links:=m.links++[⟨min (f' (d.refs.map (bC t)) 0) (f' (d.refs.map (bC t)) 1),max (f' (d.refs.map (bC t)) 0) (f' (d.refs.map (bC t)) 1),fv d.nums 0⟩]}:=AZ;rw[e,g.1,g.2];have j:=fm0 (h.ntI64 0) (h.ntI64 1);refine(ey7 rb mb B ab ao nb no d RA Wr Wr rn rc 0 nc 0 m.links.length c _ _ _ (mZ Mb m v) _ v.l _ w hr rfl h.mm bc h.mB hB hO.l_ Cm (λe=>dW hO.l_ h.us az ab e rfl) (hc 0 Yi) (hc 1 Yi) (Nat.lt_trans ww bc) (hn 0 Yi)).m ?_;rintro e w' ⟨y,z⟩;exact⟨y,kQ.addL bc hB hO ⟨j.1,j.2,FH h.val 0⟩ z⟩
def ZH (h:oW w rb B M Mb qb mb Bu t d m rv nv u) {kind count:Int} (j:aK kind) (z:aK count):IK (lv t d kind count)/\(∀y∈(lv t d kind count).on,aK y)/\(lv t d kind count).on=lX (d.refs.map (bC t)):=by
 have c: ∀i,aK (fv (d.nums.drop (d.nums.length - 3)) i):=λi=>by
  have:=FH h.val (d.nums.length - 3+i);unfold fv at this⊢
  rw[WP] at this⊢
  rw[List.getElem?_drop];exact this
 refine⟨⟨j,z,c 0,c 1,c 2⟩,λy A=> ?_,rfl⟩;have g:y∈d.refs.map (bC t):=(IM _).mem_iff.1 A;obtain⟨s,_,rfl⟩:=List.mem_map.1 g;exact h.I s
def fm2 {B:Nat} {l:List Int} {o:Wv} {n:Nat} (h:w.ownsRow B 3 1 o n (l.map (WK .i64))) (c:l.length=n):w.ownsRow B 3 1 o l.length (l.map (WK .i64)):=by rw[c];exact h
def fm3 (h:oW w rb B M Mb qb mb Bu t d m rv nv u) (g:d.kind=5):WJ WH 132 #[Ye #[d.kind,bs d.name,rv,nv,d.by_,Yc d.always],u,aj mb,aj qb] w (Ac w rb B M Mb (eA t m d)):=by
 obtain⟨bc,hB,v,hr,hO⟩:=h.at_;have hV:=oU h.val;have j:=hV.2.2.2.2.2.2.2.1 g;obtain⟨rows,pn,hX⟩:=hO.i_;obtain⟨A,c,he,_⟩:=Sl.of_own h.us;rw[WF,WF] at he;have e:eA t m d={m with items:=m.items++[lv t d 0 d.refs.length]}:=by simp only[eA,g,WF]
 rw[e,he];obtain⟨g1,g2,g3⟩:=ZH h (kind:=0) (count:=d.refs.length) (qx (n:=0) az) (qx Oe);refine(fh6 rb mb qb Mb B t d A d.refs.length c 0 0 rv nv (mZ Mb m v) _ v.i m.items.length _ w hr rfl rfl h.fm (h.rvs.more (eJ bc)) (h.nvs.more (eJ bc)) Oe Yi h.mm h.q bc h.mB h.qB hB pn Cm).mono ?_;exact ZI
def fm4 (h:oW w rb B M Mb qb mb Bu t d m rv nv u) (hk:d.kind=6):WJ WH 134 #[Ye #[d.kind,bs d.name,rv,nv,d.by_,Yc d.always],u,aj mb,aj qb] w (Ac w rb B M Mb (eA t m d)):=by obtain⟨bc,hB,v,hr,hO⟩:=h.at_;have hV:=oU h.val;have g:=hV.2.2.2.2.2.2.2.2.1 hk;obtain⟨rows,pn,hX⟩:=hO.i_;obtain⟨A,c,he,_⟩:=Sl.of_own h.us;rw[WF,WF] at he;have e:eA t m d={m with items:=m.items++[lv t d 1 (fv d.nums 0)]}:=AZ;rw[e,he];obtain⟨g1,g2,g3⟩:=ZH h (kind:=1) (count:=fv d.nums 0) (qx (n:=1) az) (FH h.val 0);refine(fh7 rb mb qb Mb B t d A d.refs.length c 1 (fv d.nums 0) rv nv (mZ Mb m v) _ v.i m.items.length _ w hr rfl rfl h.fm (h.rvs.more (eJ bc)) (h.nvs.more (eJ bc)) Oe Yi (by unfold fv;rw[WN,WP,Wy Yi];rfl) h.mm h.q bc h.mB h.qB hB pn Cm).mono ?_;exact ZI
def fm5 (h:oW w rb B M Mb qb mb Bu t d m rv nv u) (hk:d.kind=7):WJ WH 135 #[Ye #[d.kind,bs d.name,rv,nv,d.by_,Yc d.always],u,aj mb,aj qb] w (Ac w rb B M Mb (eA t m d)):=by obtain⟨bc,hB,v,hr,hO⟩:=h.at_;have hV:=oU h.val;have g:=hV.2.2.2.2.2.2.2.2.2.1 hk;obtain⟨rows,pn,hX⟩:=hO.i_;obtain⟨A,c,he,_⟩:=Sl.of_own h.us;rw[WF,WF] at he;have e:eA t m d={m with items:=m.items++[lv t d 2 1]}:=AZ;rw[e,he];obtain⟨g1,g2,g3⟩:=ZH h (kind:=2) (count:=1) (qx (n:=2) az) (qx (n:=1) az);refine(fh8 rb mb qb Mb B t d A d.refs.length c 0 0 rv nv (mZ Mb m v) _ v.i m.items.length _ w hr rfl rfl h.fm (h.rvs.more (eJ bc)) (h.nvs.more (eJ bc)) Oe Yi h.mm h.q bc h.mB h.qB hB pn Cm).mono ?_;exact ZI
def fm6 (h:oW w rb B M Mb qb mb Bu t d m rv nv u) (hk:d.kind=8) (A:B<=Bu):WJ WH 136 #[Ye #[d.kind,bs d.name,rv,nv,d.by_,Yc d.always],u,aj mb] w (Ac w rb B M Mb (eA t m d)):=by obtain⟨bc,hB,v,hr,hO⟩:=h.at_;have j:=(oU h.val).2.2.2.2.2.2.2.2.2.2.1 hk;obtain⟨RA,rn,rc,rfl,_,_,_⟩:=h.rvs.sk.form;obtain⟨nb,no,nc,rfl,ww,hn⟩:=h.n_at Yi;obtain⟨ab,ao,c,rfl,hc⟩:=h.u_at (i:=0) Yi;have C:=(WL h.us ab rfl).1;have e:eA t m d={m with dark:=f' (d.refs.map (bC t)) 0,slots:=fv d.nums 0,reserve:=fv d.nums 1}:=AZ;rw[e,j.1,j.2];refine(ey2 rb mb ab ao nb no d RA rn rc 0 nc 0 c _ _ _ (mZ Mb m v) _ _ _ _ w hr rfl rfl rfl h.mm h.qne (λe=>by omega) (λe=>by omega) (hc 0 Yi) (hn 0 Yi) (hn 1 Yi)).m ?_;rintro e w' ⟨y,z,g⟩;exact⟨y,⟨bc,bo hB g.size,v,z,((hO.gp (gi.of_kp g) bc).more (XR _)).renum _ _ _ _ ⟨h.ntI64 0,FH h.val 0,FH h.val 1,hO.nums.2.2.2⟩⟩,g.mono hB⟩
def fm7 (h:oW w rb B M Mb qb mb Bu t d m rv nv u) (hk:d.kind=9):WJ WH 137 #[Ye #[d.kind,bs d.name,rv,nv,d.by_,Yc d.always],u,aj mb] w (Ac w rb B M Mb (eA t m d)):=by obtain⟨bc,hB,v,hr,hO⟩:=h.at_;obtain⟨RA,rn,rc,rfl,_,_,_⟩:=h.rvs.sk.form;obtain⟨NA,nn,nc,rfl,_,_,_⟩:=h.nvs.sk.form;obtain⟨UA,um,uc,rfl⟩:=eH h.us;have e:eA t m d={m with failures:=d.by_}:=AZ;rw[e];refine(ey1 rb mb d RA NA UA rn rc nn nc um uc (mZ Mb m v) _ _ w hr rfl h.mm).m ?_;rintro e w' ⟨j,y,g⟩;exact⟨j,⟨bc,bo hB g.size,v,y,((hO.gp (gi.of_kp g) bc).more (XR _)).renum _ _ _ _ ⟨hO.nums.1,hO.nums.2.1,hO.nums.2.2.1,h.byI⟩⟩,g.mono hB⟩
end
end
section
open Go Go.RowKit Go.Proofs.Tryz
def Rv (b r:List au) (t:cO) (d:au):iN b t (d::r)=
 if bx d=Ww then .error (b.length,1) else if FB t b d=Wz then .error (b.length,5)
 else iN (b++[d]) (if d.name=[] then t else t++[(d.name,d.kind,gv (b++[d]) (bD d.kind))]) r:=by
 cases hv:bx d with
 |false=>rw[ba7 hv];rfl
 |true=>
  cases hb:FB t b d with
  |true=>rw[ba8 hv hb];rfl
  |false=>rw[ba9 hv hb];rfl
def ZJ: ∀(r b:List au) (t:cO) (x:Nat×Nat),iN b t r= .error x->x.2=1\/x.2=5
 |[],b,t,x,h=>by rw[QF] at h;cases h
 |d::r,b,t,x,h=>by
  rw[Rv] at h;split at h
  .injection h with h;subst h;exact .inl rfl
  .split at h
   .injection h with h;subst h;exact .inr rfl
   .exact ZJ r _ _ x h
def ZK: ∀(r b:List au) (t g:cO),iN b t r= .ok g->∀d∈r,bx d=Wz
 |[],b,t,g,h,d,c=>by simp at c
 |x::r,b,t,g,h,d,c=>by
  rw[Rv] at h;split at h
  .cases h
  .split at h
   .cases h
   .rename_i j y;rcases List.mem_cons.1 c with rfl|c
    .simpa using j
    .exact ZK r _ _ g h d c
def bj2: ∀(r b:List au) (t j:cO),iN b t r= .ok j->(∀x∈t,x.2.2<=b.length)->∀x∈j,x.2.2<=b.length+r.length
 |[],b,t,j,h,ht,x,hx=>by rw[QF] at h;injection h with h;subst h;exact bo (ht x hx) (X4 _ _)
 |d::r,b,t,j,h,ht,x,hx=>by
  rw[Rv] at h;split at h
  .cases h
  .split at h
   .cases h
   .have:=bj2 r _ _ j h (λy g=>by
     rw[WG,XF];split at g
     .exact Nat.le_succ_of_le (ht y g)
     .rcases List.mem_append.1 g with g|g
      .exact Nat.le_succ_of_le (ht y g)
      .rw[List.mem_singleton.1 g];have:=List.length_filter_le (λx:au=>Wt (bD x.kind=bD d.kind)) (b++[d]);rw[WG,XF] at this;exact this) x hx
    simp only[WG,Xg,XO] at this⊢
    omega
def fm8 {l:List au} {t:cO} (h:iN [] [] l= .ok t) (c:l.length<=1000000) (s:ak):aK (bC t s):=by
 unfold bC cY;cases hf:t.find? (λx=>Wt (x.1=s)) with
 |none=>exact qx (n:=0) az
 |some x=>have:=bj2 l [] [] t h (λx hx=>by simp at hx) x (List.mem_of_find?_eq_some hf);exact qx (n:=x.2.2) (by simp at this;omega)
def Rw {t:cO} {i:Nat} {m:aM} {d:au} {r:List au} (h: ¬ea t d=0):mV t i m (d::r)= .error (i,ea t d):=by rw[mV,if_pos h]
def Rz {t:cO} {i:Nat} {m:aM} {d:au} {r:List au} (h:ea t d=0):mV t i m (d::r)=mV t (i+1) (eA t m d) r:=by rw[mV,if_neg (by simp[h])]
def bj3 {t:cO} {i:Nat} {m:aM}:mV t i m []= .ok m:=rfl
def be7 {l:List au} {x:Nat×Nat} (h:iN [] [] l= .error x):nE l= .error x:=by unfold nE;rw[h]
def be8 {l:List au} {t:cO} {x:Nat×Nat} (h:iN [] [] l= .ok t) (c:mV t 0 {} l= .error x):nE l= .error x:=by unfold nE;rw[h];simp only[c]
def be9 {l:List au} {t:cO} {m:aM} (h:iN [] [] l= .ok t) (c:mV t 0 {} l= .ok m) (g:(l.any λd=>Wt (d.kind=8))=Ww):nE l= .error (l.length,6):=by unfold nE;rw[h];simp only[c,g];rfl
def bf0 {l:List au} {t:cO} {m:aM} (h:iN [] [] l= .ok t) (c:mV t 0 {} l= .ok m) (g:(l.any λd=>Wt (d.kind=8))=Wz):nE l=if dZ m then .ok m else .error (l.length,2):=by unfold nE;rw[h];simp only[c,g];rfl
def fm9 {t:cO} {d:au} (z:bx d=Wz) (j: ∀s,aK (bC t s)) (D:aK d.by_):IL (mt t d)/\∀y∈(mt t d).ms,aK y:=by
 have g: ∀i,aK (f' (d.refs.map (bC t)) i):=λi=>by
  unfold f';rw[WP,WN];cases d.refs[i]? with
  |none=>exact qx (n:=0) az
  |some s=>exact j s
 have F:=(oU z).1;refine⟨⟨⟨?_,?_⟩,g 0,?_,?_,D⟩,λy C=> ?_⟩
 .show -9223372036854775808<=(d.kind:Int) - 10;omega
 .show(d.kind:Int) - 10<=9223372036854775807;omega
 .show aK (if d.kind=14 then f' (d.refs.map (bC t)) 1 else 0);split
  .exact g 1
  .exact qx (n:=0) az
 .show aK (fv (d.nums.drop (d.nums.length - 1)) 0);have:=FH z (d.nums.length - 1);unfold fv at this⊢
  rw[WP] at this⊢
  rw[List.getElem?_drop];exact this
 .have c:y∈(if d.kind=13 then lX ((d.refs.map (bC t)).drop 1) else[]):=C;split at c
  .have A:=(IM _).mem_iff.1 c;obtain⟨s,_,rfl⟩:=List.mem_map.1 (XV A);exact j s
  .simp at c
def fn0 {t:cO} {m:aM} {d:au} (h:10<=d.kind):eA t m d={m with rules:=m.rules++[mt t d]}:=by
 obtain⟨kind,nm,rf,nu,b,al⟩:=d;dsimp only at h
 match kind,h with
 |k+10,_=>rfl
def fG.nil_ (w:Wu) (B:Nat):fG w B 0 {} ⟨Yb Wr 0 0,Yb Wr 0 0,Yb Wr 0 0,Yb Wr 0 0,Yb Wr 0 0,Yb Wr 0 0,Yb Wr 0 0⟩:=
 ⟨World.ownsRow_nil _ _ _ _,World.ownsRow_nil _ _ _ _,World.ownsRow_nil _ _ _ _,World.ownsRow_nil _ _ _ _,World.ownsRow_nil _ _ _ _,⟨[],World.ownsRow_nil _ _ _ _,rfl,λj x h=>by simp at h⟩,⟨[],World.ownsRow_nil _ _ _ _,rfl,λj x h=>by simp at h⟩,
  λk h=>by simp[Xq] at h,by simp,λx h=>by simp at h,λx h=>by simp at h,λx h=>by simp at h,⟨qx (n:=0) az,qx (n:=0) az,qx (n:=0) az,qx (n:=0) az⟩⟩
end
section
open Go Go.RowKit Go.MapKept Go.Proofs.Tryz
def br2: ∀(out:List ak) (r:ak),(∀x∈out,dy 10 x)->bB (aE out++r)=out++bB r
 |[],r,_=>rfl
 |x::out,r,h=>by have e:aE (x::out)++r=x++10::(aE out++r):=xz;rw[e,bd8 x _ (h x Yl),br2 out r (λy hy=>h y qO)];rfl
def br3 (out:List ak) (c:ak):aE (out++[c])=aE out++(c++[10]):=xz
def fs7 {s:ByteArray} {k:Nat} {x:UInt8} (h:s.data.toList[k]? =Ws x):s.extract k (k+1)=bs [x]:=by
 rw[<-nB (s.extract k (k+1))];congr 1;have e:(s.extract k (k+1)).data.toList=(s.data.toList.drop k).take 1:=by simp[ByteArray.data_extract,Array.toList_extract]
 rw[e,I_ h];rfl
def ZT {s:ByteArray} {k:Nat} {x:UInt8} (h:s.data.toList[k]? =Ws x) (c:k<s.size):s[k]=x:=by show s.data[k]=x;rw[Array.getElem?_toList] at h;exact(Array.getElem?_eq_some_iff.1 h).2
def br4 (s:ByteArray) (w:Wu) (hs:s.size<=2000000):
 WJ WH 6 #[s] w λe w'=> ∃v,e=Xz v/\w'.ownsRow w.heap.size 9 1 v (bB s.data.toList).length ((bB s.data.toList).map ku)/\Below w w w':=by
 refine MX λi0 hi cJ ba bd=> ?_;obtain⟨t,ht⟩: ∃t,s.data.toList=t:=⟨_,rfl⟩;have nW:s=bs t:=by rw[<-ht,nB]
 have zN:t.length=s.size:=by rw[nW,kJ]
 rw[ht];have Tn:=aa ht;have HT:=aa nW;have Tl:=aa zN;clear ht nW zN;go_enter func6,ntmps6;go_wp2_with fail
 go_loopw [3,4,5] (λv Y i wr=> ∃(k:Nat) (out:List ak) (c:ak),k<=s.size/\i=WK Xr k/\Y=WM (bs c)/\t.take k=aE out++c/\(∀x∈out,dy 10 x)/\dy 10 c/\c.length<=k/\out.length<=k/\wr.ownsRow w.heap.size 9 1 v out.length (out.map ku)/\Below w w wr) (λ_ _ i _=>s.size - (WS i).toNat)
 case atStart=>exact⟨0,[],[],bU _,rfl,rfl,rfl,λx hx=>by simp at hx,λx hx=>by simp at hx,ag _,ag _,World.ownsRow_made w #[] 0 (ag _) lT rfl,ae (af w) _⟩
 case round=>
  obtain⟨k,out,c,hk,rfl,rfl,LH,cn6,hc,OP,bN,bA,hB⟩:=hrel;have zg:=aa LH;have I:=aa cn6;have O:=aa hc;have j:=aa bA;have G:=aa hB;have hb0:=hB.size;have a_:(bs c).size<=2000000:=xy;clear LH cn6 hc bA hB;by_cases ar:k<s.size
  .have dz:(0:Int)<=k:=by omega
   have bJ:(k:Int)<s.size:=Yi;obtain⟨x,hx⟩: ∃x,t[k]? =Ws x:=⟨_,Wy (by rw[Tl.out];exact ar)⟩;have J:s.data.toList[k]? =Ws x:=by rw[Tn.out];exact hx
   have HX:=aa (ZT J ar);have Jt:=aa (fs7 J);have D:t.take (k+1)=t.take k++[x]:=by rw[XJ,hx];rfl
   have C:=aa D;clear hx J D;by_cases z:x=10
   .have dJ:((s[k].toNat:Int)==10)=true:=by rw[HX.out,z];rfl
    have V:=aa z;clear z;go_wp2_with first
     |(at_builtin;refine wpList_append_own _ rfl (.tmp 17) (.tmp 19) _ rfl w.heap.size 9 i0 _ 1 16 underlying23 hi cJ ba bd rfl (by decide) _ out.length (out.map ku) rfl (j.out.alloc _) ⟨wr.heap.size,0,none⟩ 1 1 [.string (bs c)] rfl rfl (mw rfl) (by simp[Value.oneCell']) (by simp[maxLen];omega) (by omega) (by simp;omega) ?_
       intro v' w3 F A _;have Z:=aa F;have X:=aa (wS (j.out.alloc (Yd #[bs c] 9)) (ae G.out _) (ag _) A);clear F A)
    refine⟨⟨k+1,out++[c],[],by omega,by go_num,rfl,?_,λy g=> ?_,λy g=>by simp at g,bU _,by simp;omega,?_,X.out⟩,by simp[WS];omega⟩
    .rw[C.out,zg.out,br3,V.out];simp
    .rcases List.mem_append.1 g with g|g
     .exact I.out y g
     .rw[List.mem_singleton.1 g];exact O.out
    .rw[WG,Xb];exact Z.out
   .have dJ:((s[k].toNat:Int)==10)=false:=by
     rw[HX.out,beq_eq_false_iff_ne];intro e
     exact z (by have:x.toNat=10:=by omega
                 exact UInt8.toNat_inj.1 this)
    have V:=aa z;have HS:=aa (show bs c++s.extract k (k+1)=bs (c++[x]) by rw[Jt.out,Fv]);clear z;have VD:(s.extract k (k+1)).size<=1:=by rw[Jt.out,kJ];simp
    have kU:(k:Int)+1<=s.size:=Yi;go_wp2_with fail
    refine⟨⟨k+1,out,c++[x],by omega,by go_num,by rw[<-HS.out],?_,I.out,λy g=> ?_,by simp;omega,by omega,j.out,G.out⟩,by simp[WS];omega⟩
    .rw[C.out,zg.out];simp
    .rcases List.mem_append.1 g with g|g
     .exact O.out y g
     .rw[List.mem_singleton.1 g];exact V.out
  .have LI:t=aE out++c:=by
    have h:=zg.out;rw[WY (by rw[Tl.out];omega)] at h;exact h
   have HL:=aa (show bB t=out++bB c by rw[LI,br2 out c I.out]);have Gu:=aa (bd7 O.out);clear LI;by_cases eU:0<c.length
   .have hg:(0:Int)<((bs c).size:Int):=by rw[kJ];omega
    have U:=aa (show bB t=out++[c] by rw[HL.out,Gu.out,if_neg (λe=>by rw[e] at eU;simp at eU)]);go_wp2_with first
     |(at_builtin;refine wpList_append_own _ rfl (.tmp 31) (.tmp 33) _ rfl w.heap.size 9 i0 _ 1 16 underlying23 hi cJ ba bd rfl (by decide) _ out.length (out.map ku) rfl (j.out.alloc _) ⟨wr.heap.size,0,none⟩ 1 1 [.string (bs c)] rfl rfl (mw rfl) (by simp[Value.oneCell']) (by simp[maxLen];omega) (by omega) (by simp;omega) ?_
       intro v' w3 F A _;have Z:=aa F;have X:=aa (wS (j.out.alloc (Yd #[bs c] 9)) (ae G.out _) (ag _) A);clear F A)
    go_ret;refine⟨_,rfl,?_,X.out⟩;rw[U.out,WG,Xb];exact Z.out
   .have hg: ¬(0:Int)<((bs c).size:Int):=by rw[kJ];omega
    have U:=aa (show bB t=out by rw[HL.out,Gu.out,if_pos (X7 Yi),XT]);go_wp2_with fail
    go_ret;refine⟨_,rfl,?_,G.out⟩;rw[U.out];exact j.out
def fn6 (n:Int) (k:Nat) (w:Wu):WJ WH 167 #[n,k] w λe w'=>e=Xz (Yc (aH n k))/\w'=w:=by
 go_enter func167,ntmps167
 go_wp2
 all_goals (go_ret;exact⟨cE (by simp[aH,aD];try omega),rfl⟩)
def Q' (n:Int) (w:Wu):WJ WH 265 #[n] w λe w'=>e=Xz (Yc (aD n 0 1048576))/\w'=w:=by
 go_enter func265,ntmps265
 go_wp2
 all_goals (go_ret;exact⟨cE Kj,rfl⟩)
def fn7 {m:aM} {k:Nat} {x:mU} (h:m.racks[k]? =Ws x):fl (jh m) [] m.racks k=(aH x.site m.sites.length&&aH x.feed m.feeds.length&& !(m.racks.take k).any λy=>Wt (y.feed=x.feed)&& !Wt (y.site=x.site)):=Kg
def BR {c:Nat->Bool} {n k:Nat} {b:Bool} (g:b=ep c n) (j:k<n) (h:c k=Ww):b=false:=by rw[g];exact uZ j h
def fn8 (m:aM) (v:MV) (w:Wu) (hv:m.In w w v):
 aQ 266 #[Ye (m.cells v)] w (Yc (dN (jh m) [] m.racks)):=by
 refine rz λSa sc hs dh bS Fa fc cB cr cL Ra rc hr cM cV Ma mc hm dd cz La lc hl dt di Ia ic hi ed ez Ua uc hu dP dq HS=> ?_;have X:=hv.rs;rw[hr] at X;have vO:=aa X;have jd:=aa (wY (jh m) m.racks []);have gG:=aa (λk x (h:m.racks[k]? =Ws x)=>fn7 h);generalize dN (jh m) [] m.racks=res at jd;generalize fl (jh m) [] m.racks=F at jd gG;have hn:m.racks.length<=9223372036854775807:=bo cM cV;clear X;rw[HS.out];clear hv hs cB hr hm hl hi hu;go_enter func266,ntmps266;go_upto_region 1 with (fail)
 refine zX ?_;intro O ⟨Z,V⟩;have aT:=aa Z;have g_:=aa V;have tE:=blk_lt V;clear Z V;go_wp2_with fail
 go_loopw [3] (λi wr=> ∃k:Nat,k<=m.racks.length/\i=WK Xr k/\(∀j,j<k->F j=Wz)/\Below O O wr) (λi _=>m.racks.length - (WS i).toNat)
 case atStart=>exact⟨0,bU _,rfl,λj hj=>by omega,af O⟩
 case round=>
  obtain⟨k,hk,rfl,bN,hB⟩:=hrel;have gY:=aa bN;have HB:=aa hB;have U:=aq g_.out hB;have jA:=aa U;obtain⟨c0,c1,c2⟩:=Mi U;refine oX λbH=> ?_;clear bN hB U;by_cases ar:k<m.racks.length
  .have dz:(0:Int)<=k:=by omega
   have bJ:(k:Int)<m.racks.length:=Yi;obtain⟨x,hx⟩: ∃x,m.racks[k]? =Ws x:=⟨_,Wy ar⟩;have HF:=aa (gG.out k x hx);obtain⟨b,o,cs,rfl,hb,_,⟨rfl,E4⟩,bk⟩:=vO.out.at_ hx;have e0:=(bH.out.cell (p:=⟨b,o+k*3+0,Wr⟩) hb).trans (bk 0 _ rfl);refine Sb λe1 e2=> ?_;simp only[WR] at e0;clear bk;obtain⟨xb,dx⟩: ∃xb,wr.heap.size=xb:=⟨_,rfl⟩;have AS:=aa dx;obtain⟨b1,ap⟩: ∃q,aH x.site m.sites.length=q:=⟨_,rfl⟩;obtain⟨b2,am⟩: ∃q,aH x.feed m.feeds.length=q:=⟨_,rfl⟩;rw[ap,am] at HF;have dC:=aa ap;have fB:=aa am;clear ap am dx hx E4;go_upto_region 5 with (fail)
   refine cP (λW=>Below wr wr W/\W.heap[wr.heap.size]? =Ws (Yd #[bs x.name,WK Xr x.site,WK Xr x.feed] 132 (0,0))) ⟨by first|exact cF (ae (af wr) _) (ag _) _|exact ae (af wr) _,by first|exact Xn wr _|exact(aZ (aZ (aZ (Xn wr _) _ _) _ _) _ _).trans rfl⟩ ?_;intro D ⟨G,I⟩;rw[AS.out] at I⊢
   have d0:=kc G c0;have d1:=kc G c1;have d2:=kc G c2;have Ej:D.cell? ⟨xb,1,Wr⟩=Ws (WK Xr x.site):=ah I rfl;have Ek:D.cell? ⟨xb,2,Wr⟩=Ws (WK Xr x.feed):=ah I rfl;have aR:=aa G;clear G I c0 c1 c2 e0 e1 e2;cases b1 with
   |false=>exact bx1
   |true=>
    cases b2 with
    |false=>exact bx1
    |true=>
     go_wp2_with first
      |(go_at_call 167;refine qy ?_;rintro e w4 ⟨rfl,hw⟩;obtain rfl:=hw.symm;first|rw[dC.out]|rw[fB.out])
     go_loopw [5] (λi wx=> ∃j:Nat,j<=k/\i=WK Xr j/\(∀q y,q<j->m.racks[q]? =Ws y->(Wt (y.feed=x.feed)&& !Wt (y.site=x.site))=Ww)/\Below D D wx) (λi _=>k - (WS i).toNat)
     case atStart=>exact⟨0,bU _,rfl,λq y hq=>by omega,af D⟩
     case round=>
      obtain⟨j,hj,rfl,Lt,pf⟩:=hrel;have kH:=aa pf;have d2:=kc pf d2;have Ej:=kc pf Ej;have Ek:=kc pf Ek;have Y:Hid (Below w w wr):=ai (ai bH.out aR.out) pf;clear pf;have Gy:=aa Lt;clear Lt;by_cases zF:j<k
      .have OC:(0:Int)<=j:=by omega
       have G_:(j:Int)<k:=Yi;have Uh:(j:Int)<m.racks.length:=Yi;obtain⟨y,hy⟩: ∃y,m.racks[j]? =Ws y:=⟨_,Wy Yi⟩;obtain⟨yb,yo,cs,J,_,_,⟨rfl,_⟩,EA⟩:=vO.out.at_ hy;injection J with J;injection J with wJ zQ _;subst wJ zQ;have y1:wr.cell? ⟨b,o+j*3+1,Wr⟩=Ws (WK Xr y.site):=(Y.out.cell (p:=⟨b,o+j*3+1,Wr⟩) hb).trans (EA 1 _ rfl);have y2:wr.cell? ⟨b,o+j*3+2,Wr⟩=Ws (WK Xr y.feed):=(Y.out.cell (p:=⟨b,o+j*3+2,Wr⟩) hb).trans (EA 2 _ rfl);clear EA;by_cases A:y.feed=x.feed
       .have ef:(y.feed==x.feed)=true:=by simp[A]
        by_cases C:y.site=x.site
        .have es:(y.site==x.site)=true:=by simp[C]
         have rQ:=aa (show ∀q z,q<j+1->m.racks[q]? =Ws z->(Wt (z.feed=x.feed)&& !Wt (z.site=x.site))=Ww from λq z hq g=>by
          rcases Xk q j with h|h
          .exact Gy.out q z h g
          .have:q=j:=by omega
           subst this;rw[hy] at g;injection g with g;subst g;simp[C])
         clear A C hy;go_upto_region 10 with (fail)
         refine Sc λhS=> ?_;iterate 20 refine cI 20 39 ?_
         exact Rb
        .have es:(y.site==x.site)=false:=by simp[C]
         have HR:=aa (BR jd.out ar (by rw[HF.out];have:((m.racks.take k).any λy=>Wt (y.feed=x.feed)&& !Wt (y.site=x.site))=true:=List.any_eq_true.2 ⟨y,eD (by rw[List.getElem?_take,if_pos zF];exact hy),by simp[A,C]⟩;rw[this];rfl));clear A C hy;go_upto_region 10 with (fail)
         refine Sc λhS=> ?_;iterate 20 refine cI 20 39 ?_
         refine gK ?_;go_wp2_with fail
         go_ret;exact⟨by rw[HR.out];rfl,aX Y.out⟩
       .have ef:(y.feed==x.feed)=false:=by simp[A]
        have rQ:=aa (show ∀q z,q<j+1->m.racks[q]? =Ws z->(Wt (z.feed=x.feed)&& !Wt (z.site=x.site))=Ww from λq z hq g=>by
         rcases Xk q j with h|h
         .exact Gy.out q z h g
         .have:q=j:=by omega
          subst this;rw[hy] at g;injection g with g;subst g;simp[A])
        clear A hy;go_upto_region 10 with (fail)
        refine Sc λhS=> ?_;iterate 10 refine cI 20 39 ?_
        iterate 9 refine rE 20 39 ?_
        refine ie 19 58 ?_;exact Rb
      .have G_: ¬(j:Int)<k:=by omega
       have kg:=aa (show F k=Wz from by
        rw[HF.out];have:((m.racks.take k).any λy=>Wt (y.feed=x.feed)&& !Wt (y.site=x.site))=false:=by exact bx2
        rw[this];rfl)
       exact bx3
  .have bJ: ¬(k:Int)<m.racks.length:=by omega
   exact Sd
def fw8 (x:UInt8) (w:Wu):WJ WH 332 #[.int .u8 x.toNat] w λe w'=>e=Xz (Yc (Wt (97<=x.toNat)&&Wt (x.toNat<=122)))/\w'=w:=by
 obtain⟨n,hn⟩: ∃n:Nat,x.toNat=n:=⟨_,rfl⟩;rw[hn];clear hn;by_cases g:(97:Int)<=n
 .have c:decide (97<=n)=true:=by simp;omega
  rw[c];go_enter func332,ntmps332;go_wp2_with fail
  go_ret;refine⟨?_,rfl⟩;have:Wt ((n:Int)<=122)=(Wz&&Wt (n<=122)):=by rw[Bool.true_and];apply decide_eq_decide.2;omega
  exact congrArg (λq=>Xz (Yc q)) this
 .have c:decide (97<=n)=false:=by simp;omega
  rw[c];go_enter func332,ntmps332;exact Dj
def fw9 (x:UInt8) (w:Wu):WJ WH 334 #[.int .u8 x.toNat] w λe w'=>e=Xz (Yc (Wt (48<=x.toNat)&&Wt (x.toNat<=57)))/\w'=w:=by
 obtain⟨n,hn⟩: ∃n:Nat,x.toNat=n:=⟨_,rfl⟩;rw[hn];clear hn;by_cases g:(48:Int)<=n
 .have c:decide (48<=n)=true:=by simp;omega
  rw[c];go_enter func334,ntmps334;go_wp2_with fail
  go_ret;refine⟨?_,rfl⟩;have:Wt ((n:Int)<=57)=(Wz&&Wt (n<=57)):=by rw[Bool.true_and];apply decide_eq_decide.2;omega
  exact congrArg (λq=>Xz (Yc q)) this
 .have c:decide (48<=n)=false:=by simp;omega
  rw[c];go_enter func334,ntmps334;exact Dj
def Sg (l:List ByteArray) (s:ByteArray) (e:X0):Prop:= ∃r:Bool,e=Xz (Yc r)/\(r=Wz↔s∈l)
def fx0 (v:Wv) (l:List ByteArray) (s:ByteArray) (w:Wu) (B:Nat) (h:cD w B v l) (J:l.length<=1000000000):
 WJ WH 270 #[v,s] w λe w'=>Sg l s e/\w'=w:=by
 obtain⟨A,n,c,rfl,hn,hc,hm⟩:=h.form;have H:=aa h;have HN:=aa hn;rw[hn] at J;clear h hn;go_enter func270,ntmps270;go_wp2_with fail
 go_loopw [5] (λi wr=> ∃k:Nat,k<=n/\i=WK Xr k/\(∀x∈l.take k,x≠s)/\wr=w) (λi _=>n - (WS i).toNat)
 case atStart=>exact⟨0,bU _,rfl,λx hx=>by simp at hx,rfl⟩
 case round=>
  obtain⟨k,hk,rfl,qY,hw⟩:=hrel;obtain rfl:=hw.symm;have D:=aa qY;clear qY;by_cases ar:k<n
  .have V:(0:Int)<=k:=by omega
   have I:(k:Int)<n:=Yi;obtain⟨b,o,rfl,hb,bk⟩:=H.out.at_ k ar;have U:=bk k ar;have C:aJ l k∈l:=BI lU;have G:=aa (Wi l k lU);clear bk;generalize aJ l k=x at*
   by_cases g:x=s
   .have z:=aa (show s∈l by rw[<-g];exact C);have q:(x.toList==s.toList)=true:=by rw[g];simp
    clear g C;go_wp2_with fail
    go_ret;exact⟨(⟨Wz,rfl,by simp[z.out]⟩:Sg l s _),rfl⟩
   .have F:=aa g;have q:(x.toList==s.toList)=false:=by
     rw[beq_eq_false_iff_ne];intro h;exact g (by rw[<-nB x,<-jr,h,jr,nB])
    clear g C;go_wp2_with fail
    exact⟨⟨k+1,by omega,by go_num,λy j=>by
     rw[G.out] at j;rcases List.mem_append.1 j with j|j
     .exact D.out y j
     .rw[List.mem_singleton.1 j];exact F.out,by trivial⟩,by simp[WS];omega⟩
  .have I: ¬(k:Int)<n:=by omega
   have z:=aa (show ¬s∈l by have h:=D.out;rw[WY AY] at h;exact λO=>h s O rfl);go_wp2_with fail
   go_ret;exact⟨(⟨Ww,rfl,by simp[z.out]⟩:Sg l s _),rfl⟩
def bx4 (w:Wu):
 WJ WH 333 #[] w λe w'=> ∃v,e=Xz v/\bG w' w' v dH/\Below w w w':=by
 go_enter func333,ntmps333;go_wp2_with fail
 go_ret;refine⟨_,rfl,?_,ae (af w) _⟩;refine⟨_,28,rfl,by decide,by decide,λ_=>⟨w.heap.size,0,rfl,by simp,λj u c=> ?_⟩⟩;rw[Xa,XP,<-Array.getElem?_toList];exact c
def bx5 (v:Wv) (l:List ak) (s:ak) (w:Wu) (B:Nat) (h:bG w B v l) (g:l.length<=1000000000):
 WJ WH 270 #[v,bs s] w λe w'=>e=Xz (Yc (Wt (s∈l)))/\w'=w:=by
 refine(fx0 v (l.map bs) (bs s) w B h (by simpa using g)).mono λe w' ⟨⟨r,c,j⟩,y⟩=>⟨?_,y⟩;rw[c];refine cE ?_;rw[WU,j,decide_eq_true_eq,List.mem_map];exact⟨λ⟨x,hx,e⟩=>LS e▸hx,λhx=>⟨s,hx,rfl⟩⟩
def Sh {s:ak} {k:Nat} {x:UInt8} (h:s[k]? =Ws x) (c:k<(bs s).size):(bs s)[k]=x:=ZT (by simpa[bs] using h) c
def bx6 {s:ak} {k:Nat} {x:UInt8} (h:s[k]? =Ws x) (c:k<(bs s).size) (W:Wu):WJ WH 332 #[.int .u8 (bs s)[k].toNat] W λe w'=>e=Xz (Yc (kL x))/\w'=W:=by rw[Sh h c];exact fw8 x W
def fx1 {s:ak} {k:Nat} {x:UInt8} (h:s[k]? =Ws x) (c:k<(bs s).size) (W:Wu):WJ WH 334 #[.int .u8 (bs s)[k].toNat] W λe w'=>e=Xz (Yc (bT x))/\w'=W:=by rw[Sh h c];exact fw9 x W
def fx2 {x:UInt8}:((x.toNat:Int)==95)=(x==95):=by
 rw[WU,beq_iff_eq,beq_iff_eq]
 exact⟨λh=>UInt8.toNat_inj.1 (by have:x.toNat=95:=by omega
                                 rw[this];rfl),λh=>by rw[h];rfl⟩
def fx3 (s:ak) (w:Wu):
 aQ 269 #[bs s] w (Yc (br s)):=by
 have c:(bs s).size=s.length:=kJ s;have HZ:=aa c;have U:=aa (λW v B (h:bG W B v dH)=>bx5 v dH s W B h az);have I:=aa (fun(h:0<(bs s).size) W=>bx6 (k:=0) (x:=s.headD 0) (by
  cases s with
  |nil=>rw[kJ] at h;simp at h
  |cons a l=>rfl) h W)
 have y:Hid (s.all cX=ep (jg s cX) (bs s).size):=aa (by rw[c,Zj]);have X:=aa (λk x (h:s[k]? =Ws x)=>(eW h:jg s cX k=cX x));unfold br;generalize s.all cX=al at y;generalize jg s cX=F at y X;generalize Wt (s∈dH)=kw at U;generalize kL (s.headD 0)=low at I;obtain⟨n,hn⟩: ∃n,s.length=n:=⟨_,rfl⟩;rw[hn] at c⊢
 have HN:=aa hn;clear hn;by_cases g:1<=n;rotate_left
 .have k1:((bs s).size:Int)<1:=by omega
  have J:=aa g;clear g c;go_enter func269,ntmps269;go_wp2_with fail
  go_ret;exact⟨cE (by simp[J.out]),af w⟩
 by_cases D:n<=31;rotate_left
 .have k1: ¬((bs s).size:Int)<1:=by omega
  have k2:(31:Int)<((bs s).size:Int):=Yi;have O:=aa D;clear g D c;go_enter func269,ntmps269;go_wp2_with fail
  go_ret;exact⟨cE (by simp[O.out]),af w⟩
 have k1: ¬((bs s).size:Int)<1:=Yi;have k2: ¬(31:Int)<((bs s).size:Int):=Yi;have k0:0<(bs s).size:=Yi;have J:=aa g;have O:=aa D;clear g D c;cases low with
 |false=>
  go_enter func269,ntmps269;go_wp2_with(go_at_call 332;refine(I.out k0 _).m ?_;rintro e w1 ⟨rfl,hw⟩;obtain rfl:=hw.symm)
  go_ret;exact⟨cE Yl,af _⟩
 |true=>
  cases kw with
  |true=>
   go_enter func269,ntmps269
   go_wp2_with(first
    |(go_at_call 332;refine(I.out k0 _).m ?_;rintro e w1 ⟨rfl,hw⟩;obtain rfl:=hw.symm)
    |(go_at_call 333;refine(bx4 _).m ?_;rintro e Z ⟨v,rfl,G,A⟩)
    |(go_at_call 270;refine(U.out _ _ _ G).m ?_;rintro e w3 ⟨rfl,hw⟩;obtain rfl:=hw.symm))
   go_ret;exact⟨cE Yl,A⟩
  |false=>
   go_enter func269,ntmps269
   go_wp2_with(first
    |(go_at_call 332;refine(I.out k0 _).m ?_;rintro e w1 ⟨rfl,hw⟩;obtain rfl:=hw.symm)
    |(go_at_call 333;refine(bx4 _).m ?_;rintro e Z ⟨v,rfl,G,A⟩;have Y:=aa A;clear A)
    |(go_at_call 270;refine(U.out _ _ _ G).m ?_;rintro e w3 ⟨rfl,hw⟩;obtain rfl:=hw.symm;clear G))
   go_loopw [3] (λi wr=> ∃k:Nat,k<=(bs s).size/\i=WK Xr k/\(∀j,j<k->F j=Wz)/\wr=Z) (λi _=>(bs s).size - (WS i).toNat)
   case atStart=>exact⟨0,bU _,rfl,λj hj=>by omega,rfl⟩
   case round=>
    obtain⟨k,hk,rfl,bN,hw⟩:=hrel;obtain rfl:=hw.symm;have gY:=aa bN;clear bN;by_cases C:k<(bs s).size
    .have dz:(0:Int)<=k:=by omega
     have bJ:(k:Int)<(bs s).size:=Yi;obtain⟨x,hx⟩: ∃x,s[k]? =Ws x:=⟨_,Wy v_⟩;have kg:=aa (X.out k x hx);have yW:=aa (λW=>bx6 hx C W);have DM:=aa (λW=>fx1 hx C W);have z:(((bs s)[k].toNat:Int)==95)=(x==95):=by rw[Sh hx C];exact fx2
     have V:(((bs s)[k].toNat:Int)!=95)= !(x==95):=by rw[bne,z]
     unfold cX at kg;generalize kL x=b1 at kg yW;generalize bT x=b2 at kg DM;generalize (x==95)=b3 at kg z V;clear hx;cases b1 with
     |true=>
      clear z V
      have HR:=aa (show ∀j,j<k+1->F j=Wz from λq hq=>by
       rcases Xk q k with h|h
       .exact gY.out q h
       .have:q=k:=by omega
        subst this;rw[kg.out];rfl)
      go_wp2_with(go_at_call 332;refine(yW.out _).m ?_;rintro e w1 ⟨rfl,hw⟩;obtain rfl:=hw.symm)
      exact⟨⟨k+1,by omega,by go_num,HR.out,by trivial⟩,by simp[WS];omega⟩
     |false=>
      cases b2 with
      |true=>clear z V;exact bx7
      |false=>
       cases b3 with
       |true=>exact bx7
       |false=>
        have HR:=aa (show al=Ww by rw[y.out];exact uZ C (by rw[kg.out];rfl))
        go_wp2_with(first
         |(go_at_call 332;refine(yW.out _).m ?_;rintro e w1 ⟨rfl,hw⟩;obtain rfl:=hw.symm)
         |(go_at_call 334;refine(DM.out _).m ?_;rintro e w1 ⟨rfl,hw⟩;obtain rfl:=hw.symm))
        go_ret;exact⟨cE (by rw[HR.out];simp),Y.out⟩
    .have bJ: ¬(k:Int)<(bs s).size:=by omega
     have HR:=aa (show al=Wz by rw[y.out];exact zU λj hj=>gY.out j Yi);go_wp2_with fail
     go_ret;exact⟨cE (by rw[HR.out];simp[J.out,O.out]),Y.out⟩
def Si (W:Wu) (s:ByteArray):IX (W.alloc (Yd #[s] 9)) (Yb (Ws (W 0 Wr)) 1 1) [s]:=
 .inr ⟨W.heap.size,0,1,rfl,λj u c=>by
  match j,c with
  |0,c=>simp at c;subst c;exact ah (bQ W _) rfl⟩
def Sj {α β:Type} {f:α->β} {l:List α} {k:Nat} {x:α} (h:l[k]? =Ws x):(l.take (k+1)).map f=(l.take k).map f++[f x]:=by rw[XJ,h,Xb];rfl
def World.ownsRow.grownB {a w w':Wu} {e:WQ} {size n:Nat} {v:Wv} {xs:List Wv} (h:w.ownsRow a.heap.size e size v n xs) (c:Below a a w) (g:w.grownBy w' v.ownBlock):Below a a w':=wS h c (ag _) g
def bx8 {w:Wu} {o:XH} {a:Act} {K:Act->Wu->Prop} {Q:Exit->Act->Wu->Prop} (s x:Operand)
 (ho:o.op= .call {callee:= .builtin .append,args:= #[s,x],argTypes:= #[23,23]}) (base B:Nat) (v u:Wv) (l z:List ak)
 (hs:a.eval s=v) (hx:a.eval x=u) (bA:bX w base v (l.map bs)) (J:bG w B u z) (C:l.length+z.length<=1000000) (O:base<=w.heap.size)
 (h: ∀v' w',bX w' base v' ((l++z).map bs)->w.grownBy w' v.ownBlock->K (a.put o.dst v') w'):o.wp WH a w K Q:=by
 obtain⟨i0,hi,cJ,ba,bd⟩:=XU IT;by_cases I:z=[]
 .subst I;obtain⟨A,n,c,rfl,hn,_,_⟩:=cD.form J;simp at hn;subst hn;cases A with
  |none=>
   have eG:(Builtin.append_ #[23,23] o.type #[v,Yb Wr 0 c]).run WH w= .ok v w:=by
    rcases bA.2 with ⟨rfl,_⟩|⟨g,cap,U,rfl,_,_,X,_⟩
    .simp[Builtin.append_,run_underlying X9,sizeOf,typeInfo,hi,Builtin.lenOf,Builtin.firstCells]
    .have D:l.length<=cap:=by simpa using X
     simp[Builtin.append_,run_underlying X9,sizeOf,typeInfo,hi,Builtin.lenOf,Builtin.firstCells,D,storeCells]
   exact al2
  |some ad=>refine wp_append_own w s x 23 ho base 9 i0 _ 1 16 X9 hi cJ ba bd rfl az v (l.map bs).length _ hs bA ad 0 c [] hx Yl (λj y V=>by simp at V) Yl (by simp[Xe];simp at C;omega) (by simp at C⊢;omega) O (λv' w' F G _=>h v' w' ?_ G);show w'.ownsRow _ _ _ _ _ _;simpa using F
 .refine Wm s x ho base v u (l.map bs) (z.map bs) hs hx bA (cD.src J (by simpa using I)) (by simpa using C) O λv' w' F G=>h v' w' (by rw[Xb];exact F) G
def bx9 {w:Wu} {ops:Array XH} {o:XH} {a:Act} {K:Act->Wu->Prop} {Q:Exit->Act->Wu->Prop} {E:Prop} (D:o.guard=Wr) (s x:Operand)
 (ho:o.op= .call {callee:= .builtin .append,args:= #[s,x],argTypes:= #[23,23]}) (base B:Nat) (v u:Wv) (l c:List ak)
 (y:a.eval s=v) (hx:a.eval x=u) (g:bX w base v (l.map bs)) (A:bG w B u c) (j:l.length+c.length<=1000000) (C:base<=w.heap.size)
 (h: ∀v' w',bX w' base v' ((l++c).map bs)->w.grownBy w' v.ownBlock->K (a.put o.dst v') w'):
 if Xy o (yielded ops a.tmps)=Wz then Oper.wp WH o a w K Q else E:=by
 have z:Xy o (yielded ops a.tmps)=true:=by simp[Xy,D]
 rw[if_pos z];exact bx8 s x ho base B v u l c y hx g A j C h
def fx4 (m:aM) (v:MV) (w:Wu) (hv:m.In w w v) (kG:m.sites.length<=100) (UO:m.feeds.length<=100) (CX:m.racks.length<=100) (Br:m.machs.length<=100) (Hk:m.items.length<=100):
 WJ WH 268 #[Ye (m.cells v)] w λe w'=> ∃u,e=Xz u/\bX w' w u ((cG m).map bs)/\Below w w w':=by
 refine rz λSa sc hs dh bS Fa fc cB cr cL Ra rc hr cM cV Ma mc hm dd cz La lc hl dt di Ia ic hi ed ez Ua uc hu dP dq HS=> ?_;have jS:=hv.ss;have UQ:=hv.fs;have Pb:=hv.rs;have fp:=hv.ms;have x':=hv.is;rw[hs] at jS;rw[cB] at UQ;rw[hr] at Pb;rw[hm] at fp;rw[hi] at x';have li:=aa (show(∀W,Below w w W->bG W w (Yb Sa m.sites.length sc) m.sites)/\(∀W,Below w w W->bG W w (Yb Fa m.feeds.length fc) m.feeds) from⟨λW h=>jS.below h (ag _),λW h=>UQ.below h (ag _)⟩);have vO:=aa Pb;have ll:=aa fp;have nx:=aa x';clear jS UQ Pb fp x';rw[HS.out];clear hv hs cB hr hm hl hi hu;go_enter func268,ntmps268;go_upto_region 1 with (fail)
 refine zX ?_;intro c ⟨aU,g⟩;have aT:=aa aU;have Z:=aa g;have tE:=blk_lt g;clear aU g;have g:=Z.out;have c0:c.cell? w=Ws (Yb Sa m.sites.length sc):=ah g rfl;have c1:c.cell? (w 1 Wr)=Ws (Yb Fa m.feeds.length fc):=ah g rfl;have du:=aa (show ∀W,Below c c W->W.cell? w=Ws (Yb Sa m.sites.length sc)/\W.cell? (w 1 Wr)=Ws (Yb Fa m.feeds.length fc)/\Below c c W from λW h=>⟨ah (aq g h) rfl,ah (aq g h) rfl,h⟩);clear g;go_wp2_with fail
 go_upto_region 1 with (fail)
 refine pE (S:=λw'=>w'.cell? w=Ws (Yb Sa m.sites.length sc)/\w'.cell? (w 1 Wr)=Ws (Yb Fa m.feeds.length fc)/\Below c c w') 8 (by exact du.out _ (aX (af _))) λhS=> ?_;iterate 2 refine mC 9 7 ?_
 iterate 2 refine mC 10 7 ?_
 refine dY 0 λK z=> ?_;go_simp;refine z.out _ _ (by exact du.out _ (ae hS.2.2 _)) (λhS=> ?_);clear z;refine aG ?_;refine dY 3 λK z=> ?_;have CT:bX (c.alloc (Yd #[] 9)).drew c.heap.size (Yb (Ws (c 0 Wr)) 0 0) (([]:List ak).map bs):=(World.ownsRow_made c #[] 0 (ag _) lT rfl:(c.alloc (Yd #[] 9)).ownsRow c.heap.size 9 1 (Yb (Ws (c 0 Wr)) 0 0) 0 []);refine bx9 rfl (Yg 7) (Yg 9) rfl c.heap.size w.heap.size _ _ [] m.sites rfl rfl CT (li.out.1 _ (ai aT.out hS.2.2)) bI Yl ?_;intro u1 w2 uJ gL;have F:=aa uJ;have A:=aa (World.ownsRow.grownB (a:=c) CT hS.2.2 gL);clear CT uJ gL;refine z.out _ _ (by exact du.out _ A.out) (λhS=> ?_);clear z;refine aG ?_;refine dY 6 λK z=> ?_;refine bx9 rfl (Yg 10) (Yg 12) rfl c.heap.size w.heap.size _ _ m.sites m.feeds rfl rfl F.out (li.out.2 _ (ai aT.out A.out)) Yi A.out.size ?_;intro u2 w3 uK oH;have J:=aa uK;have U:=aa (World.ownsRow.grownB (a:=c) F.out A.out oH);clear uK oH;refine z.out _ _ (by exact du.out _ U.out) (λhS=> ?_);clear z;refine aG ?_;refine cb 7 3 ?_;refine oQ ?_;go_wp2_with fail
 clear hS;go_loopw [3,4] (λu i wr=> ∃(k:Nat) (l:List ak),k<=m.racks.length/\i=WK Xr k/\l=(m.sites++m.feeds)++(m.racks.take k).map (·.name)/\bX wr c u (l.map bs)/\Below c c wr) (λ_ i _=>m.racks.length - (WS i).toNat)
 case atStart=>exact⟨0,(m.sites++m.feeds),bU _,rfl,by simp,J.out,U.out⟩
 case round=>
  obtain⟨k1,L1,hk,rfl,hl,ho,hB⟩:=hrel;have yU:=aa hl;have F:=aa ho;have A:=aa hB;have hf6:L1.length<=100+200:=by rw[hl];simp;omega
  have cf:wr.cell? (w 2 Wr)=Ws (Yb Ra m.racks.length rc):=ah (aq Z.out hB) rfl;refine oX λbH=> ?_;have hz:=hB.size;clear hl ho hB;by_cases V:k1<m.racks.length
  .have dz:(0:Int)<=k1:=by omega
   have X:(k1:Int)<m.racks.length:=Yi
   obtain⟨x,hx⟩: ∃x,m.racks[k1]? =Ws x:=⟨_,Wy V⟩;obtain⟨b,o,cs,rfl,hb,_,⟨rfl,_⟩,bk⟩:=vO.out.at_ hx;have Y:=(bH.out.cell (p:=⟨b,o+k1*3+0,Wr⟩) hb).trans (bk 0 _ rfl);simp only[WR] at Y;have I:=aa (Sj (f:=λx=>x.name) hx);clear bk hx;go_wp2_with first
    |(at_builtin;refine Wn rfl (.tmp 21) (.tmp 28) rfl c.heap.size _ _ (L1.map bs) [bs x.name] rfl rfl (F.out.alloc _) (Si _ _) (by simp;omega) (by simp;omega) ?_
      intro u3 w3 j y;have G:=aa j;have O:=aa (World.ownsRow.grownB (a:=c) (F.out.alloc _) (ae A.out _) y);clear j y)
   exact⟨⟨k1+1,L1++[x.name],by omega,by go_num,by rw[I.out,yU.out,Xd],by rw[Xb];exact G.out,O.out⟩,by simp[WS];omega⟩
  .have X: ¬(k1:Int)<m.racks.length:=by omega
   have AM:=aa (show L1=(m.sites++m.feeds)++m.racks.map (·.name) by rw[yU.out,WY Yi]);go_wp2_with fail
   go_loopw [3,5] (λu i wr=> ∃(k:Nat) (l:List ak),k<=m.machs.length/\i=WK Xr k/\l=L1++(m.machs.take k).map (·.name)/\bX wr c u (l.map bs)/\Below c c wr) (λ_ i _=>m.machs.length - (WS i).toNat)
   case atStart=>exact⟨0,L1,bU _,rfl,by simp,F.out,A.out⟩
   case round=>
    obtain⟨C,L2,hk,rfl,hl,ho,hB⟩:=hrel;have JL:=aa hl;have J:=aa ho;have U:=aa hB;have hf7:L2.length<=200+200:=by rw[hl];simp;omega
    have cf:wr.cell? (w 3 Wr)=Ws (Yb Ma m.machs.length mc):=ah (aq Z.out hB) rfl;refine oX λbH=> ?_;have hz:=hB.size;clear hl ho hB;by_cases V:C<m.machs.length
    .have dz:(0:Int)<=C:=by omega
     have X:(C:Int)<m.machs.length:=Yi
     obtain⟨x,hx⟩: ∃x,m.machs[C]? =Ws x:=⟨_,Wy V⟩;obtain⟨b,o,cs,rfl,hb,_,⟨rfl,_⟩,bk⟩:=ll.out.at_ hx;have Y:=(bH.out.cell (p:=⟨b,o+C*3+0,Wr⟩) hb).trans (bk 0 _ rfl);simp only[WR] at Y;have I:=aa (Sj (f:=λx=>x.name) hx);clear bk hx;go_wp2_with first
      |(at_builtin;refine Wn rfl (.tmp 37) (.tmp 44) rfl c.heap.size _ _ (L2.map bs) [bs x.name] rfl rfl (J.out.alloc _) (Si _ _) (by simp;omega) (by simp;omega) ?_
        intro u3 w3 j y;have G:=aa j;have O:=aa (World.ownsRow.grownB (a:=c) (J.out.alloc _) (ae U.out _) y);clear j y)
     exact⟨⟨C+1,L2++[x.name],by omega,by go_num,by rw[I.out,JL.out,Xd],by rw[Xb];exact G.out,O.out⟩,by simp[WS];omega⟩
    .have X: ¬(C:Int)<m.machs.length:=by omega
     have gZ:=aa (show L2=L1++m.machs.map (·.name) by rw[JL.out,WY Yi]);go_wp2_with fail
     go_loopw [3,6] (λu i wr=> ∃(k:Nat) (l:List ak),k<=m.items.length/\i=WK Xr k/\l=L2++(m.items.take k).map (·.name)/\bX wr c u (l.map bs)/\Below c c wr) (λ_ i _=>m.items.length - (WS i).toNat)
     case atStart=>exact⟨0,L2,bU _,rfl,by simp,J.out,U.out⟩
     case round=>
      obtain⟨D,L3,hk,rfl,hl,ho,hB⟩:=hrel;have rO:=aa hl;have Ta:=aa ho;have bg:=aa hB;have hf8:L3.length<=300+200:=by rw[hl];simp;omega
      have cf:wr.cell? (w 5 Wr)=Ws (Yb Ia m.items.length ic):=ah (aq Z.out hB) rfl;refine oX λbH=> ?_;have hz:=hB.size;clear hl ho hB;by_cases V:D<m.items.length
      .have dz:(0:Int)<=D:=by omega
       have X:(D:Int)<m.items.length:=Yi
       obtain⟨x,hx⟩: ∃x,m.items[D]? =Ws x:=⟨_,Wy V⟩;obtain⟨b,o,cs,rfl,hb,_,⟨yo,rfl,_⟩,bk⟩:=nx.out.at_ hx;have Y:=(bH.out.cell (p:=⟨b,o+D*7+0,Wr⟩) hb).trans (bk 0 _ rfl);simp only[WR] at Y;have I:=aa (Sj (f:=λx=>x.name) hx);clear bk hx;go_wp2_with first
        |(at_builtin;refine Wn rfl (.tmp 53) (.tmp 60) rfl c.heap.size _ _ (L3.map bs) [bs x.name] rfl rfl (Ta.out.alloc _) (Si _ _) (by simp;omega) (by simp;omega) ?_
          intro u3 w3 j y;have G:=aa j;have O:=aa (World.ownsRow.grownB (a:=c) (Ta.out.alloc _) (ae bg.out _) y);clear j y)
       exact⟨⟨D+1,L3++[x.name],by omega,by go_num,by rw[I.out,rO.out,Xd],by rw[Xb];exact G.out,O.out⟩,by simp[WS];omega⟩
      .have X: ¬(D:Int)<m.items.length:=by omega
       have JT:=aa (show L3=L2++m.items.map (·.name) by rw[rO.out,WY Yi]);go_wp2_with fail
       go_ret;refine⟨_,rfl,?_,bH.out⟩;rw[cG,<-AM.out,<-gZ.out,<-JT.out];exact uX Ta.out aT.out.size
end
end Go.Proofs.YtklfdkdebgfmiaaGreatDoor
