/- A part of the proof. -/
import Derived.Test.YtklfdkdebgfmiaaGreatDoorQbo
set_option linter.defProp false
set_option linter.unusedVariables false
set_option linter.unusedSimpArgs false
set_option maxRecDepth 100000
set_option maxHeartbeats 32000000
open Option renaming none->Wr,some->Ws
open Decidable renaming decide->Wt
open Go renaming World->Wu,Value->Wv,Calls->WJ,TypeId->WQ,maxLen->Xe,Oper->XH,Ending->X0,Addr->X8
open Bool renaming false->Ww,true->Wz
open Go.RowKit renaming Hid->WA
open Go.Lib renaming itoa->WB,split->Xh,countB->XM
open Go.Proofs renaming intOf->WS
open And renaming intro->WE
open Go.Proofs.Tryz renaming prog->WH
open Go.Value renaming int->WK,string->WM,slice->Yb,bool->Yc,agg->Ye,pointer->Yf
open Go.Instr renaming lookup->WT
open Go.World renaming setCell->XD
open Go.IntKind renaming i64->Xr
open Go.Ending renaming returned->Xz
open Go.Obj renaming cells->Yd
open Go.Operand renaming tmp->Yg
namespace Go.Proofs.YtklfdkdebgfmiaaGreatDoor
section
open Go Go.RowKit Go.MapKept Go.Proofs.Tryz
def qp (m:aM) (l:List Int):List ak:=l.map (dG (m.machs.map (·.name)))
def eu3 {m:aM} {l:List Int} {k:Nat} {n:Int} {y:ri} (h:l[k]? =Ws n) (c:m.machs[(n - 1).toNat]? =Ws y):qp m (l.take (k+1))=qp m (l.take k)++[y.name]:=by
 unfold qp;rw[XJ,h,Xb];have e:dG (m.machs.map (·.name)) n=y.name:=by unfold dG;rw[WP,WN,c];rfl
 rw[<-e];rfl
def ax1 (m:aM) (mv:MV) (v:Wv) (l:List Int) (w:Wu) (hm:m.In w w mv) (D:aW w w v l) (hl:l.length<=100) (z: ∀n∈l,1<=n/\n<=m.machs.length):
 WJ WH 63 #[Ye (m.cells mv),v] w (fw w ((qp m l).map bs)):=by
 obtain⟨⟨Sa,sc,hs,dh,bS⟩,⟨Fa,fc,cB,cr,cL⟩,⟨Ra,rc,hr,cM,cV⟩,⟨Ma,mc,nj,dd,cz⟩,⟨La,lc,eX,dt,di⟩,⟨Ia,ic,hi,ed,ez⟩,⟨Ua,uc,hu,dP,dq⟩⟩:=hm.cells;obtain⟨A,n,c,rfl,hn,wz,_⟩:=D.sk.form;obtain⟨i0,zE,cJ,ba,bd⟩:=XU IT;refine YY λHS=> ?_;have C:=hm.ms;rw[nj] at C;have ll:=aa C;have V:=aa D;have HN:=aa hn;have li:=aa z;have hZ:n<=100:=Yi;clear C D z hn hl;rw[HS.out];clear hm hs cB hr nj eX hi hu;go_enter func63,ntmps63;go_upto_region 2 with (fail)
 refine zX ?_;intro g ⟨F,hx⟩;have aT:=aa F;have X:=aa hx;clear F hx;go_wp2_with fail
 go_loopw [5,10] (λs i wr=> ∃k:Nat,k<=n/\i=WK Xr k/\bX wr g s ((qp m (l.take k)).map bs)/\Below g g wr) (λ_ i _=>n - (WS i).toNat)
 case atStart=>exact⟨0,bU _,rfl,bX.nil_ _ _,af _⟩
 case round=>
  obtain⟨k,hk,rfl,bA,hb⟩:=hrel;have HO:=aa bA;have bR:=aa hb;have I:=aq X.out hb;have x3:wr.cell? (w 3 Wr)=Ws (Yb Ma m.machs.length mc):=ah I rfl;clear bA hb I;by_cases ar:k<n
  .have hI:(k:Int)<n:=by omega
   have tq:(0:Int)<=k:=Yi;obtain⟨x,hx⟩: ∃x,l[k]? =Ws x:=⟨_,Wy lU⟩;obtain⟨xb,xo,rfl,dx,lJ⟩:=aW.cell V.out hx;have z:=li.out x (eD hx);obtain⟨j,hj⟩: ∃j:Nat,x=(j:Int)+1:=⟨(x - 1).toNat,by omega⟩;subst hj;have O:j<m.machs.length:=Yi;obtain⟨y,hy⟩: ∃y,m.machs[j]? =Ws y:=⟨_,Wy O⟩;obtain⟨mb,mo,mcs,rfl,eM,_,⟨rfl,_⟩,gC⟩:=ll.out.at_ hy;have G:=aa (ai aT.out bR.out);have ck:wr.cell? ⟨xb,xo+k,Wr⟩=Ws (WK Xr ((j:Int)+1)):=(G.out.cell (p:=⟨xb,xo+k,Wr⟩) dx).trans lJ;have ce:wr.cell? ⟨mb,mo+j*3,Wr⟩=Ws (WM (bs y.name)):=(G.out.cell (p:=⟨mb,mo+j*3,Wr⟩) eM).trans (gC 0 _ rfl);have U:=aa (eu3 hx (by rw[show((j:Int)+1 - 1).toNat=j by omega];exact hy));have rY:(j:Int)+1 - 1=j:=Yi;have rZ:(j:Int)<m.machs.length:=Yi;have lK:(0:Int)<=j:=Yi;have J:=aa (show(qp m (l.take k)).length<=100 by unfold qp;rw[WF,XW];omega);clear hx lJ z hy gC;go_wp2_with(at_builtin;refine Xu _ rfl (Yg 14) (Yg 22) _ rfl g.heap.size 9 i0 _ 1 16 X9 zE cJ ba bd rfl az _ _ _ rfl (HO.out.alloc _) (wr 0 Wr) 1 1 [WM (bs y.name)] rfl rfl (cell_one_new _ _ _) (PH _) (by have:=J.out;simp[Xe] at this⊢;omega) (by have:=J.out;simp at this⊢;omega) (bo bR.out.size Yl) ?_;intro v' w4 Z Y _)
   refine⟨⟨k+1,by omega,by go_num,?_,(HO.out.below (ae (af _) _)).grown (ae bR.out _) Y⟩,by simp[WS];omega⟩;rw[U.out,Xb];exact bX.snoc Z
  .have hI: ¬(k:Int)<n:=by omega
   exact ax2
end
section
open Go Go.RowKit Go.Proofs.Tryz
def fl0 (g A D:Nat) (l:List ByteArray) (offs:List Nat) (bu X b:Nat) (t:WQ) (cs:Array Wv) (w:Wu) (F:cH w)
 (h: ∀j,j<l.length->w.cell? ⟨g,A+j,Wr⟩=Ws (WM (aJ l j))) (I:g≠b) (V:g<w.heap.size) (Y:l.length<=D) (C: ∀s∈l,s.size<=1000000) (y:l.length=offs.length) (Z:l.length<=100000)
 (G: ∀j,j<offs.length->w.cell? (bu j Wr)=Ws (Yf (Ws ⟨b,sw offs j,Wr⟩))) (J:bu≠b) (lH:bu<w.heap.size) (eL:8<=b)
 (hU:w.heap[b]? =Ws (Yd cs t (0,0))) (O: ∀j,j<offs.length->sw offs j<cs.size):
 WJ WH 53 #[Yb (Ws (g A Wr)) l.length D,Yb (Ws (bu 0 Wr)) offs.length X] w (ae6 w b t cs offs l):=by
 obtain⟨n,hl⟩: ∃n,l.length=n:=⟨_,rfl⟩;have ci2:b<w.heap.size:=by exact Pt
 rw[hl] at h Y;rw[<-y,hl];have jp:=aa hl;have Gv:=aa (y.symm.trans hl);have H:=aa h;have HG:=aa F;have sZ:=aa C;have HU:=aa G;have U:=aa hU;have HI:=aa O;have iI:n<=100000:=Yi;have bj9:=aa J;have z:=aa I;clear hl y h F C G hU O Z J I;go_enter func53,ntmps53;go_wp2_with fail
 go_loopw [16] (λi wr=> ∃(k:Nat) (vs:List Int),k<=n/\i=WK Xr k/\dU (l.take k)=Ws vs/\w.grownBy wr (Ws b)/\wr.heap[b]? =Ws (Yd (rj cs (offs.take k) vs) t (0,0))) (λi _=>n - (WS i).toNat)
 case atStart=>exact⟨0,[],bU _,rfl,rfl,L5 _ _,U.out⟩
 case round=>
  obtain⟨k,vs,hk,rfl,CZ,hg,hU⟩:=hrel;have HV:=aa CZ;have rM:=aa hg;have jI:=aa hU;clear CZ hg hU;by_cases ar:k<n
  .have h1:wr.cell? ⟨g,A+k,none⟩=some (.string (aJ l k)):=by
    rw[XN (rM.out.block g V (by intro e;injection e with e;exact z.out e))];exact H.out k ar
   have h2:wr.cell? (bu k Wr)=Ws (Yf (Ws ⟨b,sw offs k,Wr⟩)):=by exact ae8
   exact ae9
  .exact af0
def fi1 (s:ByteArray) (g o c D C b:Nat) (t:WQ) (y:Array Wv) (w:Wu) (J:cH w)
 (h:w.cell? g=Ws (WM s)) (X:g≠b) (F:g<w.heap.size) (A:1<=C) (G:s.size<=1000000)
 (U:w.cell? c=Ws (Yf (Ws (b o Wr)))) (Y:c≠b) (V:c<w.heap.size) (I:8<=b)
 (O:w.heap[b]? =Ws (Yd y t (0,0))) (Z:o<y.size):
 WJ WH 53 #[Yb (Ws (g 0 Wr)) 1 C,Yb (Ws (c 0 Wr)) 1 D] w λe w'=>e=Xz (Yc (bL s).isSome)/\w.grownBy w' (Ws b)/\∃cs',w'.heap[b]? =Ws (Yd cs' t (0,0))/\cs'.size=y.size/\∀u,bL s=Ws u->cs'=y.setIfInBounds o (WK Xr u):=by
 refine(fl0 g 0 C [s] [o] c D b t y w J (λj z=> ?_) X F A (by simpa using G) rfl Yl (λj z=> ?_) Y V I O (λj z=> ?_)).mono λe w' ⟨hg,hp⟩=> ?_
 .have:j=0:=by simpa using z
  subst this;exact h
 .have:j=0:=by simpa using z
  subst this;exact U
 .have:j=0:=by simpa using z
  subst this;exact Z
 .exact af1
def ZN (s c:ByteArray) (w:Wu) (y:cH w) (z:s.size<4294967281) (g:1<=c.size):
 WJ WH 13 #[s,c] w λe w'=> ∃v,e=Xz v/\cD w' w' v (Lib.splitB c 0 (XM s c) s)/\(Lib.splitB c 0 (XM s c) s).length=XM s c+1/\Below w w w':=by
 obtain⟨m,hm⟩:=y.most;refine(strings_Split s c m w z hm g).mono λe w' ⟨he,hw⟩=> ?_;have b_:(Lib.splitB c 0 (XM s c) s).length=XM s c+1:=Lib.splitB_all c g 0 _ s rfl;have A:=Lib.countB_le c g s.size s (ag _);exact ag6
def fi2 (s c:ByteArray) (w:Wu) (g:cH w) (j:s.size<4294967281):
 aQ 51 #[s,c] w (.tuple #[WM (bs (Lib.cut s.data.toList c.data.toList).1),WM (bs (Lib.cut s.data.toList c.data.toList).2.1),Yc (Lib.cut s.data.toList c.data.toList).2.2]):=by
 obtain⟨m,hm⟩:=g.most;refine(strings_Cut s c m w j hm).mono λe w' ⟨h,n,y⟩=>⟨h,?_⟩;subst y;exact BD (XA _ _) n
def fi3 (s p:ByteArray) (w:Wu):
 WJ WH 52 #[s,p] w λe w'=>e=Xz (WM (bs (Lib.trimPrefix s.data.toList p.data.toList)))/\w'=w:=strings_TrimPrefix s p w
def RG (a:ak) (c:ByteArray):Lib.splitB c 0 (XM (bs a) c) (bs a)=(Xh a c.data.toList).map bs:=by have h:=Lib.splitB_data c 0 (XM (bs a) c) (bs a);have g:(Lib.splitB c 0 (XM (bs a) c) (bs a)).map (·.data.toList)=Xh a c.data.toList:=h;rw[<-g,XB];exact(List.map_id _).symm.trans (List.map_congr_left λx _=>(nB x).symm)
def bg8 (c:ak): ∀(k:Nat) (s:ak),∀x∈Lib.splitK c 0 k s,x.length<=s.length
 |0,s,x,hx=>by
  have:x=s:=by simpa[Lib.splitK] using hx
  rw[this];exact ag _
 |k+1,s,x,hx=>by
  unfold Lib.splitK at hx;split at hx
  .have:x=s:=by simpa using hx
   rw[this];exact ag _
  .rcases List.mem_cons.1 hx with rfl|hx
   .rw[XW];omega
   .have:=bg8 c k _ x hx;rw[Xc] at this;omega
def be0 {s j:ak} {a b:ak} {f:Bool} (h:Lib.cut s j=(a,b,f)):a.length<=s.length/\b.length<=s.length:=by
 unfold Lib.cut at h;split at h
 .injection h with g c;injection c with c y;subst g c;exact⟨by rw[XW];omega,by rw[Xc];omega⟩
 .injection h with g c;injection c with c y;subst g c;exact⟨ag _,bU _⟩
def fi4 {l:ak} (h:qw l=Wz):Lib.trimPrefix l tV=l.drop 8:=by unfold Lib.trimPrefix;have:Lib.hasPrefix l tV=true:=h;rw[if_pos this];rfl
def Q5 (w:Wu) (b:Nat) (t:WQ) (cs:Array Wv) (line:ak) (e:X0) (w':Wu):Prop:=
 w.grownBy w' (Ws b)/\match yx line with
  |some (l,n)=>e=Xz (Yc Wz)/\∃bl nn c,w'.heap[b]? =Ws (Yd ((cs.setIfInBounds 12 (WK Xr n)).setIfInBounds 11 (Yb (Ws ⟨bl,0,Wr⟩) nn c)) t (0,0))/\aW w' w' (Yb (Ws ⟨bl,0,Wr⟩) nn c) l/\w.heap.size<=bl
  |none=>e=Xz (Yc Ww)
def fi5 (v:Wv) (l:List ByteArray) (w:Wu) (g:cH w) (h:cD w w v l) (c: ∀s∈l,s.size<=1000000) (j:l.length<=100000) (y:dU l=Wr):
 aQ 54 #[v] w (.tuple #[Yb Wr 0 0,Yc Ww]):=by
 refine(IV v l w g h c j).mono λe w' hm=> ?_;unfold Df at hm;rw[y] at hm;exact⟨hm.2,hm.1⟩
def fi6 (v:Wv) (l:List ByteArray) (y:List Int) (w:Wu) (A:cH w) (h:cD w w v l) (z: ∀s∈l,s.size<=1000000) (C:l.length<=100000) (D:dU l=Ws y):
 WJ WH 54 #[v] w λe w'=> ∃g j c,e=Xz (.tuple #[Yb (Ws ⟨g,0,Wr⟩) j c,Yc Wz])/\aW w' w' (Yb (Ws ⟨g,0,Wr⟩) j c) y/\w.heap.size<=g/\Below w w w':=by
 refine(IV v l w A h z C).mono λe w' hm=> ?_;unfold Df at hm;rw[D] at hm;obtain⟨hb,g,j,c,h1,h2,h3⟩:=hm;exact⟨g,j,c,h1,h2,h3,hb⟩
def be1 {line:ak} {a b:ak} {f:Bool} (h:Lib.cut (line.drop 8) gl=(a,b,f)):
 yx line=if f then(bL (bs b)).bind λn=>(dU ((Xh a [44,32]).map bs)).map λl=>(l,n) else none:=by
 unfold yx;rw[h]
def fi7 (line:ak) (b:Nat) (t:WQ) (cs:Array Wv) (w:Wu) (hG:cH w) (hp:qw line=Wz) (a_:line.length<=90000) (eL:8<=b)
 (hU:w.heap[b]? =Ws (Yd cs t (0,0))) (fW:cs.size=14):
 WJ WH 20 #[bs line,Yf (Ws b)] w (Q5 w b t cs line):=by
 have lH:b<w.heap.size:=by exact Pt
 have hb1:=hG.size;have pz:=aa (λW=>(fi3 (bs line) ⟨#[99,111,110,116,114,111,108,32]⟩ W).mono λe w' (h:e=Xz (WM (bs (Lib.trimPrefix line tV)))/\w'=W)=>(fi4 hp▸h:e=Xz (WM (bs (line.drop 8)))/\w'=W));obtain⟨a,c,f,hcut⟩: ∃a c f,Lib.cut (line.drop 8) gl=(a,c,f):=⟨_,_,_,rfl⟩;have dt:=be0 hcut;have U_:(line.drop 8).length<=90000:=by rw[Xc];omega
 have O6:a.length<=90000:=Yi;have hf5:c.length<=90000:=Yi;have Gg:=aa (λW (h:cH W)=>(fi2 (bs (line.drop 8)) ⟨#[32,99,108,105,101,110,116,115,32]⟩ W h xy).mono λe w' (h:e=Xz (.tuple #[WM (bs (Lib.cut (line.drop 8) gl).1),WM (bs (Lib.cut (line.drop 8) gl).2.1),Yc (Lib.cut (line.drop 8) gl).2.2])/\Below W W w')=>(by rw[hcut] at h;exact h:e=Xz (.tuple #[bs a,bs c,Yc f])/\Below W W w'));have Ci:=aa (be1 hcut);have HG:=aa hG;have HB:=aa hU;have pr:=aa fW;clear hcut dt U_ hG hp hU fW a_;unfold Q5;rw[Ci.out];clear Ci;cases f with
 |false=>
  go_enter func20,ntmps20;go_wp2_with first
   |(go_at_call 52;refine(pz.out _).m ?_;rintro e w1 ⟨rfl,V⟩;obtain rfl:=V.symm)
   |(go_at_call 51;refine(Gg.out _ HG.out).m ?_;rintro e w2 ⟨rfl,y⟩;have aR:=aa y;clear y)
  go_ret;exact⟨uV (L5 w (Ws b)) aR.out,rfl⟩
 |true=>
  cases hpn:bL (bs c) with
  |none=>
   have xw:=aa hpn;clear hpn;go_enter func20,ntmps20
   go_wp2_with(first
    |(go_at_call 52;refine(pz.out _).m ?_;rintro e w1 ⟨rfl,V⟩;obtain rfl:=V.symm)
    |(go_at_call 51;refine(Gg.out _ HG.out).m ?_;rintro e w2 ⟨rfl,y⟩;have aR:=aa y;have SD:=aa ((y.block b lH).trans HB.out);have bd:=y.size;clear y)
    |(go_at_call 53;refine ZO ?_;rintro e Z ⟨rfl,D,C3,F,X,G⟩;rw[xw.out];have Gm:=aa D;have mJ:=aa F;have bo2:=aa (G);clear D F G X;have z:Hid (w.grownBy Z (Ws b)):=aa TC))
   go_ret;exact⟨z.out,rfl⟩
  |some n=>
   have xw:=aa hpn;have od:=aa (show ∀s∈(Xh a [44,32]).map bs,s.size<=1000000 from λs hs=>by obtain⟨x,hx,rfl⟩:=List.mem_map.1 hs;have:=bg8 _ _ _ x hx;rw[kJ];omega);clear hpn;cases qZ:dU ((Xh a [44,32]).map bs) with
   |none=>
    have JW:=aa qZ;clear qZ;go_enter func20,ntmps20
    go_wp2_with(first
     |(go_at_call 52;refine(pz.out _).m ?_;rintro e w1 ⟨rfl,V⟩;obtain rfl:=V.symm)
     |(go_at_call 51;refine(Gg.out _ HG.out).m ?_;rintro e w2 ⟨rfl,y⟩;have aR:=aa y;have SD:=aa ((y.block b lH).trans HB.out);have bd:=y.size;clear y)
     |(go_at_call 53;refine ZO ?_;rintro e Z ⟨wt,D,C3,F,X,G⟩;rw[xw.out] at wt;subst wt;have Gm:=aa D;have mJ:=aa F;have pu:=aa (G n xw.out);have SG:=aa (X.trans pr.out);clear D F G X;have z:Hid (w.grownBy Z (Ws b)):=aa TC)
     |(go_at_call 13;refine(ZN (bs a) ⟨#[44,32]⟩ _ (HG.out.grown z.out eL) (by rw[kJ];omega) (by decide)).m ?_;rintro e w4 ⟨v,rfl,U,Y,A⟩;have Lb:b<Z.heap.size:=bq lH z.out.size;have Ut:b<w4.heap.size:=bq Lb A.size;rw[RG] at U Y;have xx:=aa U;have J:=aa (uV z.out A);have Jy:=aa (HG.out.grown J.out eL);have eN:=aa ((A.block b Lb).trans mJ.out)
       have jp:=aa (show((Xh a [44,32]).map bs).length<=100000 by
        have:=Lib.countB_le ⟨#[44,32]⟩ az (bs a).size (bs a) (ag _);rw[kJ] at this;have O:=Y;simp only[WF] at O⊢
        have h3:(Xh a [44,32]).length=XM (bs a) ⟨#[44,32]⟩+1:=O;omega)
       clear U Y A)
     |(go_at_call 54;refine(fi5 _ ((Xh a [44,32]).map bs) _ (Jy.out) xx.out od.out jp.out JW.out).m ?_;rintro e w5 ⟨rfl,C⟩;have bY:=aa C;have wL:=C.size;have I:=(C.block b Ut).trans eN.out;have CM:=kl I (o:=11) (by rw[SG.out];decide);have gm4:=nH I 11;clear C I))
    go_ret;exact⟨uW (uV J.out bY.out) 11 _,rfl⟩
   |some l=>
    have JW:=aa qZ;clear qZ;go_enter func20,ntmps20
    go_wp2_with(first
     |(go_at_call 52;refine(pz.out _).m ?_;rintro e w1 ⟨rfl,V⟩;obtain rfl:=V.symm)
     |(go_at_call 51;refine(Gg.out _ HG.out).m ?_;rintro e w2 ⟨rfl,y⟩;have aR:=aa y;have SD:=aa ((y.block b lH).trans HB.out);have bd:=y.size;clear y)
     |(go_at_call 53;refine ZO ?_;rintro e Z ⟨wt,D,C3,F,X,G⟩;rw[xw.out] at wt;subst wt;have Gm:=aa D;have mJ:=aa F;have pu:=aa (G n xw.out);have SG:=aa (X.trans pr.out);clear D F G X;have z:Hid (w.grownBy Z (Ws b)):=aa TC)
     |(go_at_call 13;refine(ZN (bs a) ⟨#[44,32]⟩ _ (HG.out.grown z.out eL) (by rw[kJ];omega) (by decide)).m ?_;rintro e w4 ⟨v,rfl,U,Y,A⟩;have Lb:b<Z.heap.size:=bq lH z.out.size;have Ut:b<w4.heap.size:=bq Lb A.size;rw[RG] at U Y;have xx:=aa U;have J:=aa (uV z.out A);have Jy:=aa (HG.out.grown J.out eL);have eN:=aa ((A.block b Lb).trans mJ.out)
       have jp:=aa (show((Xh a [44,32]).map bs).length<=100000 by
        have:=Lib.countB_le ⟨#[44,32]⟩ az (bs a).size (bs a) (ag _);rw[kJ] at this;have O:=Y;simp only[WF] at O⊢
        have h3:(Xh a [44,32]).length=XM (bs a) ⟨#[44,32]⟩+1:=O;omega)
       clear U Y A)
     |(go_at_call 54;refine(fi6 _ ((Xh a [44,32]).map bs) l _ (Jy.out) xx.out od.out jp.out JW.out).m ?_;rintro e w5 ⟨bl,nn,cc,rfl,kG,ir,C⟩;have bY:=aa C;have dd3:=aa kG;have wL:=C.size;have I:=(C.block b Ut).trans eN.out;have CM:=kl I (o:=11) (by rw[SG.out];decide);have gm4:=nH I 11;have eI:=aa I;clear C kG I))
    go_ret;refine⟨uW (uV J.out bY.out) 11 _,rfl,bl,nn,cc,?_,?_,by have:=J.out.size;omega⟩
    .rw[jN eI.out];rw[pu.out]
    .have gP:bl≠b:=by have:=J.out.size;omega
     obtain⟨⟨A1,c1,gN,h1,O,h3⟩,KJ⟩:=dd3.out;refine⟨⟨A1,c1,gN,h1,O,λaO=> ?_⟩,KJ⟩;obtain⟨b',o',hA,fP,mg⟩:=h3 aO;have e:b'=bl:=by rw[hA] at gN;injection gN with e1;injection e1 with e1;injection e1 with e1;exact e1.symm
     refine⟨b',o',hA,by simpa[XD] using fP,λj u hj=> ?_⟩;rw[XN (Below.heap_setCell w5 (b 11 Wr) _ b' (by rw[e];exact gP))];exact mg j u hj
end
section
open Go Go.RowKit Go.MapKept Go.Proofs.Tryz
def fr8 (c:ak): ∀(k:Nat) (s:ak),1<=(Lib.splitK c 0 k s).length
 |0,s=>by simp[Lib.splitK]
 |k+1,s=>by unfold Lib.splitK;split<;>simp
def Sl.dropLast {w:Wu} {B n c:Nat} {A:Option X8} {xs:List Wv} (h:Sl w B (Yb A n c) xs):Sl w B (Yb A (n - 1) c) xs.dropLast:=by
 obtain⟨A',c',he,h1,h2,h3⟩:=h;injection he with z C D;subst z C D;refine⟨A,c,by rw[List.length_dropLast],by rw[List.length_dropLast];omega,h2,λy=> ?_⟩;have hx:xs≠[]:=λe=>y (by rw[e];rfl);obtain⟨b,o,hA,hb,hc⟩:=h3 hx;refine⟨b,o,hA,hb,λj u g=>hc j u ?_⟩;rw[List.getElem?_dropLast] at g;split at g
 .exact g
 .cases g
def bq5 (t:ak) (w:Wu) (G:cH w) (U:t.length<=65536):
 WJ WH 13 #[bs t,WM ⟨#[10]⟩] w λe w'=> ∃b o n c z,e=Xz (Yb (Ws ⟨b,o,Wr⟩) n c)/\Sl w' w' (Yb (Ws ⟨b,o,Wr⟩) n c) ((Xh t [10]).map ku)/\1<=n/\n<=65537/\n<=c/\(Xh t [10]).length=n/\(Xh t [10])[n - 1]? =Ws z/\w'.cell? ⟨b,o+(n - 1),Wr⟩=Ws (ku z)/\Below w w w':=by
 refine(ZN (bs t) ⟨#[10]⟩ w G xy az).mono λe w' ⟨v,D,g,C,I⟩=> ?_;have F:=Lib.countB_le ⟨#[10]⟩ az (bs t).size (bs t) (ag _);rw[kJ] at F;rw[RG] at g C;have y:Sl w' w' v ((Xh t [10]).map ku):=by unfold cD at g;rw[XB] at g;exact g
 have J:(Xh t [10]).length=XM (bs t) ⟨#[10]⟩+1:=by rw[WF] at C;exact C
 obtain⟨A,c,rfl,h1,h2,h3⟩:=id y;have O:=fr8 [10] (Lib.count t [10]) t;have j:1<=(Xh t [10]).length:=O;obtain⟨b,o,rfl,fP,hc⟩:=h3 (λe=>by have:=congrArg List.length e;rw[WF] at this;simp at this;rw[this] at j;simp at j);rw[WF] at h1 y D;obtain⟨z,hz⟩: ∃z,(Xh t [10])[(Xh t [10]).length - 1]? =Ws z:=⟨_,Wy Yi⟩;exact⟨b,o,(Xh t [10]).length,c,z,D,y,j,by omega,h1,rfl,hz,hc _ _ (by rw[WN,hz];rfl),I⟩
def FM (i:Nat):ak:=[mT,fe,fq].getD i []
def tJ (n:Nat):Nat->List ak
 |0=>[]
 |k+1=>tJ n k++if n / 2^k%2=1 then[FM k] else[]
def Ja (n:Nat): ∀k,(tJ n k).length<=k
 |0=>ag _
 |k+1=>by have:=Ja n k;show(tJ n k++_).length<=_;rw[WG];split<;>simp<;>omega
def fx5 (k:Nat):(FM k).length<=7:=by
 match k with
 |0=>decide
 |1=>decide
 |2=>decide
 |k+3=>simp[FM]
def Sk (n:Nat): ∀k,∀x∈tJ n k,x.length<=7
 |0,x,h=>by cases h
 |k+1,x,h=>by
  rcases List.mem_append.1 h with h|h
  .exact Sk n k x h
  .split at h
   .rw[List.mem_singleton] at h;subst h;exact fx5 k
   .cases h
def by0 (n:Nat):BX n=fZ (tJ n 3):=by simp[BX,tJ,FM]
def fx6: ∀n:Fin 8,∀k:Fin 3,(bits .and .i64 ((n.1:Int) / 2^k.1) 1==1)=Wt (n.1 / 2^k.1%2=1):=az
def fx7 (n:Nat) (Z:n<=7) (w:Wu):aQ 253 #[n] w (WM (bs (BX n))):=by
 obtain⟨i0,hi,cJ,ba,bd⟩:=XU IT;have G:=aa Z;go_enter func253,ntmps253;go_upto_region 3 with (fail)
 refine cP (λW=>Below w w W/\W.heap[w.heap.size]? =Ws (Yd #[WM ⟨#[109,97,99,104,105,110,101]⟩,WM ⟨#[114,97,99,107]⟩,WM ⟨#[102,101,101,100]⟩] 9 (0,0))) ⟨ae (af w) _,bQ w _⟩ ?_;intro z ⟨F,hx⟩;have I:=aa F;have U:=aa hx;clear F hx;go_loopw [3,8] (λs i wr=> ∃k:Nat,k<=3/\i=WK Xr k/\bX wr z s ((tJ n k).map bs)/\Below z z wr) (λ_ i _=>3 - (WS i).toNat)
 case atStart=>exact⟨0,bU _,rfl,bX.nil_ _ _,af _⟩
 case round=>
  obtain⟨k,hk,rfl,bA,hb⟩:=hrel;have y:=aa bA;have A:=aa hb;obtain⟨c0,c1,c2⟩:=Mi (aq U.out hb);clear bA hb;by_cases D:k<3
  .have hI:(k:Int)<3:=by omega
   have ck:wr.cell? (w k Wr)=Ws (WM (bs (FM k))):=by
    match k,D with
    |0,_=>exact c0
    |1,_=>exact c1
    |2,_=>exact c2
   clear c0 c1 c2;have C:=fx6 ⟨n,by have:=G.out;omega⟩ ⟨k,D⟩;dsimp only at C;have j:=aa (show tJ n (k+1)=tJ n k++(if n / 2^k%2=1 then[FM k] else[]) from rfl);by_cases g:n / 2^k%2=1
   .rw[decide_eq_true g] at C;rw[if_pos g] at j;clear g;go_wp2_with(at_builtin;refine wpList_append_own _ rfl (.tmp 18) (.tmp 20) _ rfl z.heap.size 9 i0 _ 1 16 underlying23 hi cJ ba bd rfl (by decide) _ _ _ rfl (y.out.alloc _) ⟨wr.heap.size,0,none⟩ 1 1 [.string (bs (FM k))] rfl rfl (cell_one_new _ _ _) (PH _) (by simp[maxLen];have:=Ja n k;omega) (by simp;have:=Ja n k;omega) (bo A.out.size (by simp)) ?_;intro v' w3 Y X _)
    refine⟨⟨k+1,by omega,by go_num,?_,(y.out.below (ae (af _) _)).grown (ae A.out _) X⟩,by simp[WS];omega⟩;rw[j.out,Xb];exact bX.snoc Y
   .rw[decide_eq_false g] at C;rw[if_neg g,List.append_nil] at j;clear g;go_wp2_with fail
    exact⟨⟨k+1,by omega,by go_num,by rw[j.out];exact y.out,A.out⟩,by simp[WS];omega⟩
  .have hI: ¬(k:Int)<3:=by omega
   have e:k=3:=Yi;subst e;have J:=aa (by0 n);have O:=aa (bj4 u3 (tJ n 3) wr (bX.slS y.out));go_wp2_with(go_at_call 246;refine(O.out (by have:=Ja n 3;omega) (by have h:=Iq [44,32] 7 _ (Sk n 3);have:=Ja n 3;have:(7+2)*(tJ n 3).length<=(7+2)*3:=Nat.mul_le_mul_left _ this;exact bo h (by show(7+2)*_<=_;omega))).m ?_;rintro e w2 ⟨rfl,V⟩)
   go_ret;exact⟨by rw[J.out];rfl,ai I.out (ai A.out V)⟩
def by1 {w:Wu} {ops:Array XH} {rest:List XH} {o:XH} {a:Act} {Q:Exit->Act->Wu->Prop} (G:o.guard=Wr) (s x:Operand)
 (ho:o.op= .call {callee:= .builtin .append,args:= #[s,x],argTypes:= #[23,23]}) (base B:Nat) (v u:Wv) (l c:List ak)
 (C:a.eval s=v) (hx:a.eval x=u) (g:bX w base v (l.map bs)) (D:bG w B u c) (j:l.length+c.length<=1000000) (F:base<=w.heap.size)
 (h: ∀v' w',bX w' base v' ((l++c).map bs)->w.grownBy w' v.ownBlock->wpList WH ops Q rest (a.put o.dst v') w'):wpList WH ops Q (o::rest) a w:=
 wpList_plain G λ_ A=>bx8 s x ho base B v u l c C hx g D j F λv' w' y z=>A _ _ (h v' w' y z)
def fx8 (v:Wv) (l:List ak) (w:Wu) (h:bG w w v l) (j:l.length<=1000000):WJ WH 241 #[v] w (fw w (l.map bs)):=by
 obtain⟨A,n,c,rfl,hn,_⟩:=h.sk.form;have H:=aa h;have C:=aa j;have g: ∀(A:Option X8) (w:Wu),(binOp .eql 23 (Yb A n c) (Yb Wr 0 0)).run WH w= .ok (Yc A.isNone) w:=λA w=>by cases A<;>kernel_rfl
 cases A with
 |none=>
  have g:=g Wr;have F:l=[]:=by refine Classical.byContradiction λD=> ?_;obtain⟨_,_,e,_,_,h3⟩:=h;injection e with e;obtain⟨b,o,e',_⟩:=h3 (by simpa using D);rw[e'] at e;cases e
  subst F;clear h j hn;go_enter func241,ntmps241;go_wp2_with fail
  go_ret;exact⟨_,rfl,bX.nil_ _ _,af _⟩
 |some ad=>
  have g:=g (Ws ad);have y:bX (w.alloc (Yd #[] 9)) w.heap.size (Yb (Ws (w 0 Wr)) 0 0) (([]:List ak).map bs):=World.ownsRow_made w #[] 0 (ag _) lT rfl;have z:=aa y;clear h j hn y;go_enter func241,ntmps241;go_wp2_with(at_builtin;refine by1 rfl (Yg 5) (Yg 6) rfl w.heap.size w.heap.size _ _ [] l rfl rfl z.out (H.out.below (ae (af w) _) (ag _)) (by have:=C.out;simp;omega) Yl ?_;intro v' J G I)
  go_ret;exact⟨_,rfl,G,wS z.out (ae (af w) _) (ag _) I⟩
section
variable {d:au} {rv nv:Wv} {w:Wu}
def fx9 (h:j' d rv nv w) (j:d.by_<=7):
 WJ WH 252 #[Ye #[d.kind,bs d.name,rv,nv,d.by_,Yc d.always]] w (fw w ([BX d.by_].map bs)):=by
 have A:=aa h;have z:=aa (fx7 d.by_ j);clear h j;go_enter func252,ntmps252;go_upto_region 1 with (fail)
 refine Q_ ?_;intro W1 ⟨y,hx⟩;have c:=aa y;have HX:=aa hx;refine FJ λdu=> ?_;clear y hx;obtain⟨x0,x1,x2,x3,x4,x5⟩:=jD HX.out;go_wp2_with(go_at_call 253;refine(z.out _).m ?_;rintro e C ⟨rfl,g⟩)
 go_ret;exact⟨_,rfl,bX.lits _ (l:=[_]) (ai c.out g).size Yl Yl,ae (ai c.out g) _⟩
def fy0 {l:List Nat} {k n:Nat} (r:List ak) (h:l[k]? =Ws n):(r++(l.take (k+1)).map λn=>WB (n:Nat))=(r++(l.take k).map λn=>WB (n:Nat))++[WB (n:Nat)]:=by rw[XJ,h,Xb,Xd];rfl
def Ng (h:j' d rv nv w):
 WJ WH 240 #[Ye #[d.kind,bs d.name,rv,nv,d.by_,Yc d.always]] w (fw w ((kK d).map bs)):=by
 have g:=aa h;obtain⟨NA,nn,nc,rfl,dQ,_⟩:=h.n.sk.form;rw[WF] at dQ;have HN:=aa dQ;have X:nn<=4:=by have:=h.nl;omega
 obtain⟨i0,hi,cJ,ba,bd⟩:=XU IT;clear h dQ;go_enter func240,ntmps240;go_upto_region 1 with (fail)
 refine bw3 ?_;intro W1 ⟨A,hx⟩;have aT:=aa A;have HX:=aa hx;refine FJ λdu=> ?_;clear A hx;obtain⟨x0,x1,x2,x3,x4,x5⟩:=jD HX.out;go_wp2_with(go_at_call 241;refine(fx8 rv d.refs _ (g.out.later aT.out).r (by have:=g.out.rl;omega)).m ?_;rintro e w2 ⟨u,rfl,C,y⟩;have G:=aa C;have J:=aa y;have Y:=aa (aq HX.out y);obtain⟨y0,y1,y2,y3,y4,y5⟩:=jD Y.out;clear C y x0 x1 x2 x3 x4 x5)
 go_loopw [3,11] (λs i wr=> ∃k:Nat,k<=nn/\i=WK Xr k/\bX wr W1 s ((d.refs++(d.nums.take k).map λn=>WB (n:Nat)).map bs)/\Below W1 W1 wr) (λ_ i _=>nn - (WS i).toNat)
 case atStart=>exact⟨0,bU _,rfl,by simpa using G.out,J.out⟩
 case round=>
  obtain⟨k,hk,rfl,bA,hb⟩:=hrel;have HO:=aa bA;have bR:=aa hb;obtain⟨z0,z1,z2,z3,z4,z5⟩:=jD (aq HX.out hb);clear bA hb y0 y1 y2 y3 y4 y5;by_cases ar:k<nn
  .have V:(k:Int)<nn:=by omega
   obtain⟨n,hn⟩: ∃n,d.nums[k]? =Ws n:=⟨_,Wy lU⟩;have F:=aa (fy0 d.refs hn);have I:=aa ((g.out.later (ai aT.out bR.out)).num hn);have D:=aa (show(d.refs++(d.nums.take k).map λn=>WB (n:Nat)).length<=100 by have:=g.out.rl;simp;omega);clear hn
   go_wp2_with(first
    |(go_at_call 242;refine I.out.m ?_;rintro e Z ⟨rfl,j⟩;have z:=HO.out.below j)
    |(at_builtin;refine Xu _ rfl (Yg 14) (Yg 18) _ rfl W1.heap.size 9 i0 _ 1 16 X9 hi cJ ba bd rfl az _ _ _ rfl (z.alloc _) (Z 0 Wr) 1 1 [WM (bs (WB (n:Nat)))] rfl rfl (cell_one_new _ _ _) (PH _) (by have:=D.out;simp[Xe] at this⊢;omega) (by have:=D.out;simp at this⊢;omega) (bo bR.out.size (by have:=j.size;simp;omega)) ?_;intro v' w4 U O _))
   refine⟨⟨k+1,by omega,by go_num,?_,(z.below (ae (af _) _)).grown (ae (ai bR.out j) _) O⟩,by simp[WS];omega⟩;rw[F.out,Xb];exact bX.snoc U
  .have V: ¬(k:Int)<nn:=by omega
   exact ax2
def fy1 (h:j' d rv nv w) (pb:Nat) (C:w.cell? pb=Ws (.func (.func 240) #[] #[])):
 WJ WH 254 #[Ye #[d.kind,bs d.name,rv,nv,d.by_,Yc d.always],aj pb] w (fw w ((if d.always then kK d++[iD] else kK d).map bs)):=by
 have F:=aa h;have O:(kK d).length<=100:=by have:=h.rl;have:=h.nl;simp[kK];omega
 have U:=aa O;have jz:=bP _ _ C;have V:=aa C;obtain⟨j,wm⟩: ∃j,d.always=j:=⟨_,rfl⟩;have A:=aa (λW (h:j' d rv nv W)=>Ng h);rw[wm] at A⊢
 simp only[aj];clear h O C;go_enter func254,ntmps254;go_upto_region 1 with (fail)
 refine cP (λW=>Below w w W/\W.heap[w.heap.size]? =Ws (Yd #[d.kind,bs d.name,rv,nv,d.by_,Yc j] 96 (0,0))) ⟨ae (af w) _,bQ w _⟩ ?_;intro W1 ⟨J,hx⟩;have g:=aa J;have HX:=aa hx;refine FJ λdu=> ?_;clear J hx;obtain⟨x0,x1,x2,x3,x4,x5⟩:=jD HX.out;have Z:=kc g.out V.out;clear wm;cases j with
 |false=>
  go_wp2_with(go_at_call 240;refine(A.out _ (F.out.later g.out)).m ?_;rintro e D ⟨u,rfl,z,y⟩)
  go_ret;exact⟨u,rfl,uX z g.out.size,ai g.out y⟩
 |true=>
  go_wp2_with first
   |(go_at_call 240;refine(A.out _ (F.out.later g.out)).m ?_;rintro e D ⟨u,rfl,z,y⟩;have G:=aa z;have I:=aa y;clear z y)
   |(at_builtin;refine by1 rfl (Yg 8) (Yg 9) rfl W1.heap.size (D.heap.size+1) _ _ (kK d) [iD] rfl rfl (G.out.below (ae (af _) _)) (bX.slS (base:=0) (bX.lits D (l:=[bs iD]) (bU _) Yl Yl) |>.more Yl) (by have:=U.out;simp;omega) (bo I.out.size Yl) ?_;intro v' w4 Y X)
  go_ret;exact⟨v',rfl,uX Y g.out.size,ai g.out (bX.grown (G.out.below (ae (af _) _)) (ae I.out _) X)⟩
def fy2 (h:j' d rv nv w) (a:ak) (ha:d.refs[0]? =Ws a) (y:2<=d.refs.length):
 WJ WH 258 #[Ye #[d.kind,bs d.name,rv,nv,d.by_,Yc d.always]] w (fw w ([a,el,fZ d.refs.tail].map bs)):=by
 obtain⟨RA,rn,rc,rfl,eP,_⟩:=h.r.sk.form;obtain⟨rb,ro,rfl,bc,c0⟩:=h.r.cell ha;have C:0<rn:=Eg;rw[WR] at c0;have C0:=aa c0;have g:=aa h;have c:=aa (λW (z:Below w w W)=>(by have j:=bj0 Yi eP ((h.later z).r);rwa [List.drop_one] at j:bG W W (Yb (Ws (rb (ro+1) Wr)) (rn - 1) (rc - 1)) d.refs.tail));have D:(1:Int)<=rn:=Yi;have F:(rn:Int)<=rn:=Yi;have A: ¬rc=1:=Yi;clear y;clear h ha c0 eP;go_enter func258,ntmps258;go_upto_region 1 with (fail)
 refine FK ?_;intro W1 ⟨hB,hx⟩;have aT:=aa hB;have HX:=aa hx;refine Nd λq0 du=> ?_;clear hB hx;refine Nf λhS=> ?_;refine cb 0 3 ?_;refine cb 1 4 ?_;refine cb 2 5 ?_;refine cb 3 6 ?_;refine cb 4 7 ?_;refine cb 5 8 ?_;refine cb 6 9 ?_;refine dY 7 λK hK=> ?_;go_simp;refine((g.out.later (ai aT.out hS)).list d.refs.tail _ (c.out _ (ai aT.out hS)) (by have:=g.out.rl;simp;omega) λx hx=>List.mem_of_mem_tail hx).m ?_;rintro e G ⟨rfl,am⟩;try go_simp
 refine rD λhS=> ?_;clear hK;refine aG ?_;exact bw7
end
def qe (d:au) (rv nv:Wv) (w:Wu) (hG:fD w) (y:j' d rv nv w) (hv:bx d=Wz) (L:List ak) (wd:ak) (j:Nat) (C D F G:Nat) (A z:Bool) (cap args:Nat->Array Wv) (ef:dp j)
 (hf: ∀pb,yG pb d.kind=Ws (Ye #[bs wd,Yc A,D,F,G,.func (.func C) #[] #[],Yc z,.func (.func j) #[] (cap pb)])) (hw:wd.length<=100) (Z:L.length<=100) (KW: ∀x∈L,x.length<=1000)
 (ht: ∀pb W,Below w w W->W.heap[pb]? =Ws (Yd #[.func (.func 240) #[] #[]] 210 (0,0))->WJ WH j (args pb) W (fw W (L.map bs)))
 (OK: ∀pb,args pb= #[Ye #[d.kind,bs d.name,rv,nv,d.by_,Yc d.always]]++cap pb):
 aQ 61 #[Ye #[d.kind,bs d.name,rv,nv,d.by_,Yc d.always]] w (WM (bs (wd++[32]++dr [32] L++[59]))):=by
 simp only[OK] at ht;clear OK;have mH:=aa (λW=>Z5 W);have HF:=aa hf;have HT:=aa ht;have HV:=aa (λW (hW:Below w w W)=>bb6 d rv nv W (hG.step hW) (y.later hW).r (y.later hW).n);rw[hv] at HV;have I:=aa (show(dr [32] L).length<=1000000 from bo (Iq [32] 1000 L KW) (by have:(1000+1)*L.length<=(1000+1)*100:=Nat.mul_le_mul_left _ Z;show(1000+1)*_<=_;omega));have HL:=aa Z;have Y:(bs wd).size=wd.length:=rfl;have V6:(bs (dr [32] L)).size=(dr [32] L).length:=rfl;have z0: ¬9223372036854775807<(bs wd).size+1:=Yi;have z1: ¬9223372036854775807<(bs wd).size+1+(bs (dr [32] L)).size:=by have:=I.out;omega
 have z2: ¬9223372036854775807<(bs wd).size+1+(bs (dr [32] L)).size+1:=by have:=I.out;omega
 have HE:=aa (show bs wd++⟨#[32]⟩++bs (dr [32] L)++⟨#[59]⟩=bs (wd++[32]++dr [32] L++[59]) from rfl);obtain⟨RA,rn,rc,rfl,_⟩:=y.r.sk.form;obtain⟨NA,nn,nc,rfl,_⟩:=y.n.sk.form;unfold dp at ef;clear hf ht hG y hv Z KW hw Y V6;go_enter func61,ntmps61;go_upto_region 1 with (fail)
 refine cP (λW=>Below w w W/\W.heap[w.heap.size]? =Ws (Yd #[d.kind,bs d.name,Yb RA rn rc,Yb NA nn nc,d.by_,Yc d.always] 96 (0,0))) ⟨ae (af w) _,bQ w _⟩ ?_;intro W0 ⟨jb,nY⟩;have qD:=aa jb;have V:=aa nY;obtain⟨x0,x1,x2,x3,x4,x5⟩:=jD nY;clear jb nY;go_upto_region 3 with (go_at_call 125;refine(HV.out _ qD.out).m ?_;rintro e W1 ⟨rfl,U⟩)
 have aU:=ai qD.out U;have cS:=aq V.out U;refine M4 λq0 ba cJ=> ?_;have aT:=aa aU;have lq:=aa cS;clear aU cS U x0 x1 x2 x3 x4 x5;go_cut [3] (λp wx=> ∃X pb,p=aj X/\Below W1 W1 wx/\wx.heap[X]? =Ws (Yd #[bs wd,Yc A,D,F,G,.func (.func C) #[] #[],Yc z,.func (.func j) #[] (cap pb)] 212 (0,0))/\wx.heap[pb]? =Ws (Yd #[.func (.func 240) #[] #[]] 210 (0,0)))
 case first=>
  rename_i J K' hJ gO;have HJ:=aa hJ;have rN:=aa gO;clear hJ gO;go_region_held3 (λw'=>w'.cell? w=Ws (WK Xr d.kind)) (go_simp)
   (first
     |(go_at_call 160;refine(mH.out _).m ?_;rintro e w2 ⟨M1,pb,rfl,hM,q_,jz,am⟩;have hF:=HF.out pb;refine Iu λaV=> ?_;have kU:(Instr.lookup 213 (.map (some M1)) (.int .i64 d.kind) false).run prog w2= .ok (.agg #[.string (bs wd),.bool A,.int .i64 D,.int .i64 F,.int .i64 G,.func (.func C) #[] #[],.bool z,.func (.func j) #[] (cap pb)]) w2:=by have h:=qm (P:=prog) underlying213 underlying3 co hM (d.kind:Int) false (zeroValue212 _);rw[hF] at h;exact h
       have gM: ∀o,(WT 213 (.map (Ws M1)) (WK Xr d.kind) Ww).run WH (w2.alloc o)= .ok (Ye #[bs wd,Yc A,D,F,G,.func (.func C) #[] #[],Yc z,.func (.func j) #[] (cap pb)]) (w2.alloc o):=λo=>by have h:=qm (P:=WH) XI WI co (hM.later (ae (af w2) o)) (d.kind:Int) Ww (zeroValue212 _);rw[hF] at h;exact h
       refine QI λc0 lJ wv=> ?_;try(have gF:W1.heap.size<w2.heap.size:=by(have hq:=am.size;simp at hq;omega))
       refine QJ λbd jU iW=> ?_;have O:=aa jz;have JX:=aa q_;clear hM am jz q_))
  all_goals
   dsimp only[Exit.then];refine rN.out _ _ (Met.intro (HJ.out _ _ ?_))
   (repeat apply Exists.intro)
   refine⟨?_,rfl⟩
  .exact⟨w2.heap.size,pb,rfl,ae aV _,Xn w2 _,aq O.out (ae (af w2) _)⟩
  .exact⟨w2.heap.size,pb,rfl,ae aV _,Xn w2 _,aq O.out (ae (af w2) _)⟩
  .have q_:W1.heap.size+1<=pb:=by have:=JX.out;simpa using this
   have g: ¬pb=W1.heap.size:=Yi;refine⟨W1.heap.size,pb,rfl,?_,?_,?_⟩
   .repeat' first|with_reducible exact aV|with_reducible refine cF ?_ (ag _) _
   .exact by2
   .exact lY (lY (lY (lY (lY (lY (lY (lY O.out g) g) g) g) g) g) g) g
 case rest=>
  obtain⟨X,pb,rfl,aV,mD,qZ⟩:=hcut;have aR:=aa aV;have JW:=aa qZ;have du:=aa (λW (h:Below wc wc W)=>WE (jD (aq lq.out (ai aV h))) (PR (aq mD h)));clear aV mD qZ q0;simp only[aj];go_upto_region 4 with (fail)
  refine pE (S:=λw'=>Below wc wc w') 11 Cp λhS=> ?_;iterate 6 refine mC 11 11 ?_
  refine dY 6 λK hK=> ?_;go_simp;refine(HT.out pb _ (ai aT.out (ai aR.out hS)) (aq JW.out hS)).m ?_;rintro e w2 ⟨u,rfl,hu,am⟩;have HU:=aa hu;try go_simp
  refine rD λhS=> ?_;clear hK hu;refine aG ?_;refine dY 7 λK hK=> ?_;go_simp;refine(R_ [32] u L w2 (bX.slS HU.out) (by have:=HL.out;omega) I.out).m ?_;rintro e w3 ⟨rfl,aL⟩;try go_simp
  refine hK.out _ _ (ai hS aL) λhS=> ?_;clear hK;refine aG ?_;refine cb 8 19 ?_;refine cb 9 20 ?_;refine cb 10 2 ?_;refine oQ ?_;go_upto_region 9 with (fail)
  go_ret;exact⟨by rw[<-HE.out];rfl,ai aT.out (ai aR.out hS)⟩
def by3 {s:ak} (h:br s=Wz):s.length<=31:=bz9
def Rd {d:au} (h:bx d=Wz):(∀x∈d.refs,x.length<=31)/\(∀x∈d.nums,x<=1048576)/\d.name.length<=31/\je d=true:=by
 have j:=(oU h).1;unfold bx at h;simp only[WC,Xo,decide_eq_true_eq] at h;refine⟨λx hx=>by3 (h.1.2 x hx),h.2,?_,h.1.1⟩;have g:=h.1.1;rw[Z4 d d.kind Yi rfl] at g;simp only[WC] at g;have c:=g.2.2.2.2.2;split at c
 .exact by3 c
 .rw[of_decide_eq_true c];exact bU _
def j'.of {d:au} {rv nv:Wv} {w:Wu} (g:cH w) (j:bG w w rv d.refs) (h:aW w w nv (d.nums.map λx:Nat=>(x:Int))) (c:bx d=Wz):j' d rv nv w:=
 ⟨g,j,h,(Rd c).2.1,(oU c).2.2.1,(oU c).2.2.2.1,(Rd c).1⟩
def Sm (n:Nat) (h:n<=1048576):(WB (n:Nat)).length<=21:=Lib.itoa_length_le _ Yi Yi
def fy3 {d:au} (h:bx d=Wz):(ci d).length<=100/\∀x∈ci d,x.length<=1000:=by
 obtain⟨hr,hn,gV,_⟩:=Rd h;have y:=oU h;have F:d.name.length<=1000:=Yi;have G: ∀i,(iw d i).length<=1000:=λi=>by
  unfold iw;rw[WP];cases e:d.refs[i]? with
  |none=>exact bU _
  |some x=>have:=hr x (eD e);show x.length<=_;omega
 have I: ∀i,(rp d i).length<=1000:=λi=>by
  unfold rp;rw[WP];cases e:d.nums[i]? with
  |none=>exact bo (Sm 0 Yi) Yi
  |some x=>exact bo (Sm x (hn x (eD e))) Yi
 have z: ∀l:List ak,l.length<=17->(∀x∈l,x∈d.refs)->(fZ l).length<=1000:=λl y hm=>by have Y:(fZ l).length<=(31+2)*l.length:=Iq [44,32] 31 l λx hx=>hr x (hm x hx);have:(31+2)*l.length<=(31+2)*17:=Nat.mul_le_mul_left _ y;omega
 have J:=z d.refs y.2.2.1 λ_ h=>h;have O:=z (d.refs.drop 1) (by rw[Xc];omega) λx hx=>XV hx;have U:(BX d.by_).length<=1000:=by rw[by0];have Y:(fZ (tJ d.by_ 3)).length<=(7+2)*(tJ d.by_ 3).length:=Iq [44,32] 7 _ (Sk d.by_ 3);have:(7+2)*(tJ d.by_ 3).length<=(7+2)*3:=Nat.mul_le_mul_left _ (Ja d.by_ 3);omega
 have V:(yw d.by_).length<=1000:=by
  unfold yw;by_cases g:d.by_=2
  .rw[if_pos g];decide
  by_cases j:d.by_=3
  .rw[if_neg g,if_pos j];decide
  by_cases C:d.by_=4
  .rw[if_neg g,if_neg j,if_pos C];decide
  rw[if_neg g,if_neg j,if_neg C];exact bU _
 have A:(kK d).length<=90/\∀x∈kK d,x.length<=1000:=by
  unfold kK;refine⟨by simp;omega,λx hx=> ?_⟩;rcases List.mem_append.1 hx with hx|hx
  .have:=hr x hx;omega
  .obtain⟨n,iI,rfl⟩:=List.mem_map.1 hx;exact bo (Sm n (hn n iI)) Yi
 have D: ∀k∈[nD,el,yN,ka,jY,jX,yn,ym,iD,yM,yL],k.length<=1000:=az;have Z:=A.1;have X: ∀(p:ak->Prop) x,x∈([]:List ak)->p x:=λ_ _ h=>by cases h
 constructor
 .unfold ci;split<;>(try split)<;>(try simp[tT])<;>omega
 .unfold ci;split<;>(try split)<;>(try simp only[tT,List.forall_mem_append,List.forall_mem_cons])<;>(repeat' apply WE)<;>first|exact A.2|exact X _|exact F|exact G _|exact I _|exact J|exact O|exact U|exact V|exact D _ az
def bG.take {w:Wu} {B n c:Nat} {A:Option X8} {l:List ak} (h:bG w B (Yb A n c) l) {j:Nat} (D:j<=n):bG w B (Yb A j c) (l.take j):=by
 obtain⟨A',c',he,h1,h2,h3⟩:=h;injection he with z g C;subst z C;simp only[WF] at g;refine⟨A,c,by simp[<-g,Nat.min_eq_left D],by simp at h1⊢;omega,h2,λF=> ?_⟩;have y:(l.map bs).map WM≠[]:=λe=>F (by
  have:l=[]:=by simpa using e
  rw[this];simp)
 obtain⟨b,o,hA,hb,hc⟩:=h3 y;refine⟨b,o,hA,hb,λi x hx=>hc i x ?_⟩;rw[List.map_take,List.map_take,List.getElem?_take] at hx;split at hx
 .exact hx
 .cases hx
def FN (w:Wu) (c g:Obj):((w.alloc c).alloc g).heap[w.heap.size+1]? =Ws g:=by
 have h:=bQ (w.alloc c) g
 rwa [show(w.alloc c).heap.size=w.heap.size+1 by simp] at h
def fu7 {L:List ak} {k:Nat} {s:ak} (h:L[k]? =Ws s):fl (λs b=>br s&& !Wt (s∈b)) [] L k=(br s&& !Wt (s∈L.take k)):=Kg
def bu0 {c:Nat->Bool} {n k:Nat} {b q:Bool} (g:b=(ep c n&&q)) (j:k<n) (h:c k=Ww):b=false:=by rw[g,uZ j h];rfl
def fu8 {k:Nat} {l:List Int} (j:Nat) (x y:Int) (g: ¬j=0) (c:l[j - 1]? =Ws y) (hx:l[j]? =Ws x):yA k l j=(aH x k&&Wt (y<x)):=by obtain⟨i,rfl⟩: ∃i,j=i+1:=⟨j - 1,by omega⟩;exact Zn c hx
def FO (n a b:Int) (w:Wu):WJ WH 168 #[n,a,b] w λe w'=>e=Xz (Yc (aD n a b))/\w'=w:=by
 go_enter func168,ntmps168
 go_wp2
 all_goals (go_ret;exact⟨cE Kj,rfl⟩)
def fu9 (m:aM) (v:MV) (w:Wu) (hv:m.In w w v) (kG:m.sites.length<=100) (Z:m.feeds.length<=100) (U:m.racks.length<=100) (O:m.machs.length<=100) (Y:m.items.length<=100):
 aQ 164 #[Ye (m.cells v)] w (Yc (oY (cG m))):=by
 refine rz λSa sc hs dh bS Fa fc cB cr cL Ra rc hr cM cV Ma mc hm dd cz La lc hl dt di Ia ic hi ed ez Ua uc hu dP dq HS=> ?_;have J:=aa (λW (hW:Below w w W)=>fx4 m v W (hv.to hW (ag _) hW.size) kG Z U O Y);have V:=aa (show(cG m).length<=1000 by simp[cG];omega);generalize cG m=L at J V;unfold oY;have jd:=aa (wY (λs b=>br s&& !Wt (s∈b)) L []);have gG:=aa (λk s (h:L[k]? =Ws s)=>fu7 h);generalize dN (λs b=>br s&& !Wt (s∈b)) [] L=res at jd⊢
 generalize fl (λs b=>br s&& !Wt (s∈b)) [] L=F at jd gG;rw[HS.out] at J;clear kG Z U O Y;rw[HS.out];clear hv hs cB hr hm hl hi hu;go_enter func164,ntmps164;go_upto_region 1 with (fail)
 refine zX ?_;intro W1 ⟨aU,z⟩;have aT:=aa aU;have g_:=aa z;have tE:=blk_lt z;obtain⟨a0,a1,a2,a3,a4,a5,a6,a7,a8,a9,fN⟩:=eR z;clear aU z;go_wp2_with first
  |(go_at_call 268;refine(J.out W1 aT.out).m ?_;rintro e w2 ⟨u,rfl,hu,am⟩;have X:Hid (bG w2 w2 u L):=aa hu.slS;obtain⟨A,n,c,rfl,hn,hc,iG⟩:=cD.form hu.slS;rw[WF] at hn;have HN:=aa hn;rw[hn] at jd;refine tK λaR=> ?_;clear hu am hn)
 go_loopw [4] (λi wr=> ∃k:Nat,k<=n/\i=WK Xr k/\(∀j,j<k->F j=Wz)/\Below w2 w2 wr) (λi _=>n - (WS i).toNat)
 case atStart=>exact⟨0,bU _,rfl,λj hj=>by omega,af w2⟩
 case round=>
  obtain⟨k,hk,rfl,bN,hB⟩:=hrel;have gY:=aa bN;have D:=aa hB;have bH:Hid (Below w w wr):=ai aR.out hB;clear bN hB;by_cases ar:k<n
  .have tq:(0:Int)<=k:=by omega
   have bJ:(k:Int)<n:=Yi;have Eo:(k:Int)<=c:=Yi;obtain⟨s,hs⟩: ∃s,L[k]? =Ws s:=⟨_,Wy lU⟩;have HF:=aa (gG.out k s hs);obtain⟨ub,uo,rfl,E0,fW⟩:=bG.cell X.out hs;have cs:wr.cell? ⟨ub,uo+k,Wr⟩=Ws (WM (bs s)):=(D.out.cell (p:=⟨ub,uo+k,Wr⟩) E0).trans fW;have G:=aa (λW=>fx3 s W);have y:=aa (λW (h:Below wr wr W)=>bx5 (Yb (Ws (ub uo Wr)) k c) (L.take k) s W w2 (bG.below (bG.take X.out Yi) (ai D.out h) (ag _)) (by have:=V.out;rw[XW];omega));obtain⟨b1,ap⟩: ∃q,br s=q:=⟨_,rfl⟩;obtain⟨b2,am⟩: ∃q,Wt (s∈L.take k)=q:=⟨_,rfl⟩;rw[ap,am] at HF;have I:=aa ap;have fB:=aa am;clear ap am hs fW;cases b1 with
   |false=>
    have HR:=aa (BR jd.out ar N8);go_upto_region 5 with (fail)
    refine RK λhS=> ?_;iterate 4 refine cI 16 13 ?_
    refine bF 4 λK g=> ?_;go_simp;refine(G.out _).m ?_;rintro e C ⟨rfl,aS⟩;rw[I.out];try go_simp
    refine g.out _ _ TJ (λhS=> ?_);clear g;refine aG ?_;iterate 2 refine cI 16 13 ?_
    iterate 8 refine rE 16 13 ?_
    refine ie 15 28 ?_;refine gK ?_;go_wp2_with fail
    go_ret;exact⟨by rw[HR.out];rfl,ai bH.out hS.2⟩
   |true=>
    cases b2 with
    |true=>
     have HR:=aa (BR jd.out ar N8);go_upto_region 5 with (fail)
     refine RK λhS=> ?_;iterate 4 refine cI 16 13 ?_
     refine bF 4 λK g=> ?_;go_simp;refine(G.out _).m ?_;rintro e C ⟨rfl,aS⟩;rw[I.out];try go_simp
     refine g.out _ _ TJ (λhS=> ?_);clear g;refine aG ?_;iterate 9 refine cI 16 13 ?_
     refine bF 14 λK g=> ?_;go_simp;refine(y.out _ hS.2).m ?_;rintro e C ⟨rfl,rfl⟩;rw[fB.out];try go_simp
     refine g.out _ _ (hS) (λhS=> ?_);clear g;refine aG ?_;refine ie 15 28 ?_;refine gK ?_;go_wp2_with fail
     go_ret;exact⟨by rw[HR.out];rfl,ai bH.out hS.2⟩
    |false=>
     have kg:=aa (show F k=Wz from by first|exact HF.out|(rw[HF.out];rfl));go_upto_region 5 with (fail)
     refine RK λhS=> ?_;iterate 4 refine cI 16 13 ?_
     refine bF 4 λK g=> ?_;go_simp;refine(G.out _).m ?_;rintro e C ⟨rfl,aS⟩;rw[I.out];try go_simp
     refine g.out _ _ TJ (λhS=> ?_);clear g;refine aG ?_;iterate 9 refine cI 16 13 ?_
     refine bF 14 λK g=> ?_;go_simp;refine(y.out _ hS.2).m ?_;rintro e C ⟨rfl,rfl⟩;rw[fB.out];try go_simp
     refine g.out _ _ (hS) (λhS=> ?_);clear g;refine aG ?_;refine ie 15 28 ?_;refine gK ?_;go_wp2_with fail
     exact⟨⟨k+1,by omega,by go_num,λq hq=>by
      rcases Xk q k with h|h
      .exact gY.out q h
      .have:q=k:=by omega
       subst this;exact kg.out,ai D.out hS.2⟩,by simp[WS];omega⟩
  .have bJ: ¬(k:Int)<n:=by omega
   exact Sd
def bu1 (m:aM) (v:MV) (u:Wv) (l:List Int) (w:Wu) (hv:m.In w w v) (U:aW w w u l):
 aQ 271 #[Ye (m.cells v),u] w (Yc (ff m l)):=by
 obtain⟨A,n,c,rfl,hn,hc,iG⟩:=U.sk.form;refine rz λSa sc hs dh bS Fa fc cB cr cL Ra rc hr cM cV Ma mc hm dd cz La lc hl dt di Ia ic hi ed ez Ua uc hu dP dq HS=> ?_;have Y:=aa U;have HN:=aa hn;have jd:Hid (ff m l=(ep (yA m.machs.length l) n&&Wt (0<n))):=by show _=_;rw[<-hn,<-as4];rfl
 have g:=aa (λx (h:l[0]? =Ws x)=>as5 (k:=m.machs.length) h);have Z:=aa (fun(j:Nat) (x y:Int)=>fu8 (k:=m.machs.length) (l:=l) j x y);generalize ff m l=res at jd⊢
 generalize yA m.machs.length l=F at jd g Z;clear U hn;rw[HS.out];clear hv hs cB hr hm hl hi hu;go_enter func271,ntmps271;go_upto_region 1 with (fail)
 refine zX ?_;intro D ⟨aU,G⟩;have aT:=aa aU;have g_:=aa G;have tE:=blk_lt G;clear aU G;go_wp2_with fail
 go_loopw [5] (λi wr=> ∃k:Nat,k<=n/\i=WK Xr k/\(∀j,j<k->F j=Wz)/\Below D D wr) (λi _=>n - (WS i).toNat)
 case atStart=>exact⟨0,bU _,rfl,λj hj=>by omega,af D⟩
 case round=>
  obtain⟨k,hk,rfl,bN,hB⟩:=hrel;have I:=aa bN;have X:=aa hB;refine oX λbH=> ?_;have c3:wr.cell? (w 3 Wr)=Ws (Yb Ma m.machs.length mc):=ah (aq g_.out hB) rfl;clear bN hB;by_cases ar:k<n
  .have tq:(0:Int)<=k:=by omega
   have bJ:(k:Int)<n:=Yi;obtain⟨x,hx⟩: ∃x,l[k]? =Ws x:=⟨_,Wy lU⟩;obtain⟨ub,uo,z,E0,fW⟩:=aW.cell Y.out hx;subst z;have cs:wr.cell? ⟨ub,uo+k,Wr⟩=Ws (WK Xr x):=(bH.out.cell (p:=⟨ub,uo+k,Wr⟩) E0).trans fW;clear fW;by_cases C:k=0
   .have HF:=aa (show F k=aH x m.machs.length by rw[C];exact g.out x (by rw[<-C];exact hx));obtain⟨b1,ap⟩: ∃q,aH x m.machs.length=q:=⟨_,rfl⟩;rw[ap] at HF;have dC:=aa ap;have q0:decide ((0:Int)<(k:Int))=false:=decide_eq_false (by omega);have I':decide (0<k)=false:=decide_eq_false (by omega);clear C;clear ap hx;cases b1 with
    |false=>exact bu2
    |true=>
     have V:=aa (show F k=Wz from by first|exact HF.out|(rw[HF.out];rfl));go_upto_region 4 with (fail)
     refine bu3 λhS=> ?_;iterate 7 refine cI 25 12 ?_
     refine bF 7 λK hK=> ?_;go_simp;refine qy ?_;rintro e w4 ⟨rfl,rfl⟩;rw[dC.out];try go_simp
     refine hK.out _ _ (hS) (λhS=> ?_);clear hK;refine aG ?_;iterate 5 refine cI 25 12 ?_
     iterate 10 refine rE 25 12 ?_
     iterate 2 refine cI 25 12 ?_
     refine gK ?_;go_wp2_with fail
     exact⟨⟨k+1,by omega,by go_num,λq hq=>by
      rcases Xk q k with h|h
      .exact I.out q h
      .have:q=k:=by omega
       subst this;exact V.out,ai X.out hS.2.2⟩,by simp[WS];omega⟩
   .obtain⟨y,hy⟩: ∃y,l[k - 1]? =some y:=⟨_,List.getElem?_eq_getElem (by rw[HN.out];omega)⟩;have HF:=aa (Z.out k x y C hy hx);obtain⟨ub',uo',z,_,CN⟩:=aW.cell Y.out hy;injection z with z;injection z with J O _;subst J O;have cp:wr.cell? ⟨ub,uo+(k - 1),none⟩=some (.int .i64 y):=(bH.out.cell (p:=⟨ub,uo+(k - 1),none⟩) E0).trans CN;obtain⟨b1,ap⟩: ∃q,aH x m.machs.length=q:=⟨_,rfl⟩;obtain⟨b2,am⟩: ∃q,decide (y<x)=q:=⟨_,rfl⟩;rw[ap,am] at HF;have dC:=aa ap;refine bu4 λq0 I' q1 q2 q3 V2 q4=> ?_;clear ap hx hy CN;cases b1 with
    |false=>clear am;exact bu2
    |true=>
     cases b2 with
     |false=>
      have q5:Wt (x<=y)=true:=decide_eq_true (by have:=of_decide_eq_false am;omega);clear am;have HR:=aa (bu0 jd.out ar N8);go_upto_region 4 with (fail)
      refine bu5 λhS=> ?_;iterate 7 refine cI 25 12 ?_
      refine bF 7 λK hK=> ?_;go_simp;refine qy ?_;rintro e w4 ⟨rfl,rfl⟩;rw[dC.out];try go_simp
      refine hK.out _ _ (hS) (λhS=> ?_);clear hK;refine aG ?_;iterate 17 refine cI 25 12 ?_
      refine gK ?_;go_wp2_with fail
      go_ret;exact⟨by rw[HR.out];rfl,ai bH.out hS.2.2.2⟩
     |true=>
      have q5:Wt (x<=y)=false:=decide_eq_false (by have:=of_decide_eq_true am;omega);clear am;have V:=aa (show F k=Wz from by first|exact HF.out|(rw[HF.out];rfl));go_upto_region 4 with (fail)
      refine bu5 λhS=> ?_;iterate 7 refine cI 25 12 ?_
      refine bF 7 λK hK=> ?_;go_simp;refine qy ?_;rintro e w4 ⟨rfl,rfl⟩;rw[dC.out];try go_simp
      refine hK.out _ _ (hS) (λhS=> ?_);clear hK;refine aG ?_;iterate 17 refine cI 25 12 ?_
      refine gK ?_;go_wp2_with fail
      exact⟨⟨k+1,by omega,by go_num,λq hq=>by
       rcases Xk q k with h|h
       .exact I.out q h
       .have:q=k:=by omega
        subst this;exact V.out,ai X.out hS.2.2.2⟩,by simp[WS];omega⟩
  .have bJ: ¬(k:Int)<n:=by omega
   have HR:=aa (show res=Wt (0<n) from by rw[jd.out,zU λj hj=>I.out j Yi,Bool.true_and]);go_wp2_with fail
   go_ret;exact⟨by rw[HR.out];exact cE Yl,bH.out⟩
end
end Go.Proofs.YtklfdkdebgfmiaaGreatDoor
