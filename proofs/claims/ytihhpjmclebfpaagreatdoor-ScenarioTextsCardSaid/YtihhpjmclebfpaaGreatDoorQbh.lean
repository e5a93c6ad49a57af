/- A part of the proof. -/
import Derived.Test.YtihhpjmclebfpaaGreatDoorQbf
set_option linter.defProp false
set_option linter.unusedVariables false
set_option linter.unusedSimpArgs false
set_option maxRecDepth 100000
set_option maxHeartbeats 32000000
open Option renaming some->XL,none->XM
open Decidable renaming decide->XN
open Go renaming World->XO,Value->XP,Calls->X4,TypeId->Ya,maxLen->Yd,Oper->YO,undef->YQ,Ending->Zb,Addr->Zf,Program->Zh
open Bool renaming false->XQ,true->XR
open Go.Lib renaming itoa->XS
open List renaming range->Yz
open Go.RowKit renaming Hid->XV
open Go.Proofs renaming intOf->X8
open Go.Proofs.Tryz renaming prog->X3
open Go.Value renaming int->X1,string->X2,slice->Zk,bool->Zp,agg->Zr,pointer->Zs
open Go.World renaming setCell->YS,cell?->Zc
open Go.IntKind renaming i64->Yo
open Go.Instr renaming lookup->Yu
open Go.Region renaming ready->YR,Mode->Y4
open Go.Ending renaming returned->YT
open Go.Obj renaming cells->Zq
open Go.Operand renaming tmp->Zt,const->Zu
namespace Go.Proofs.YtihhpjmclebfpaaGreatDoor
section
open Go Go.RowKit Go.Proofs.Tryz
def eu7(x:cF)(A:Option Zf)(n c:Nat)(w:XO):
 aR 276 #[Zr (x.vals (Zk A n c))] w (Zr ((j7 0 x).vals (Zk XM 0 0))):=by
 unfold cF.vals;go_enter func276,ntmps276;go_wp2_with fail
 refine bodyPost_ret (v:=Zr ((j7 0 x).vals (Zk XM 0 0))) (by simp[results,results276,go_sem,cF.vals,j7,sT]) rfl ?_;exact FR
def eu8(x:cF)(A:Option Zf)(n c:Nat)(w:XO):
 aR 278 #[Zr (x.vals (Zk A n c))] w (Zr ((j7 1 x).vals (Zk XM 0 0))):=by
 unfold cF.vals;go_enter func278,ntmps278;go_wp2_with fail
 refine bodyPost_ret (v:=Zr ((j7 1 x).vals (Zk XM 0 0))) (by simp[results,results278,go_sem,cF.vals,j7,sT]) rfl ?_;exact FR
def eu9(x:cF)(A:Option Zf)(n c:Nat)(w:XO):
 aR 280 #[Zr (x.vals (Zk A n c))] w (Zr ((j7 2 x).vals (Zk XM 0 0))):=by
 unfold cF.vals;go_enter func280,ntmps280;go_wp2_with fail
 refine bodyPost_ret (v:=Zr ((j7 2 x).vals (Zk XM 0 0))) (by simp[results,results280,go_sem,cF.vals,j7,sT]) rfl ?_;exact FR
def ev0(x:cF)(A:Option Zf)(n c:Nat)(w:XO):
 aR 282 #[Zr (x.vals (Zk A n c))] w (Zr ((j7 3 x).vals (Zk A n c))):=by
 unfold cF.vals;go_enter func282,ntmps282;go_wp2_with fail
 refine bodyPost_ret (v:=Zr ((j7 3 x).vals (Zk A n c))) (by simp[results,results282,go_sem,cF.vals,j7,sT]) rfl ?_;exact FR
def ev1(x:cF)(A:Option Zf)(n c:Nat)(w:XO):
 aR 284 #[Zr (x.vals (Zk A n c))] w (Zr ((j7 4 x).vals (Zk XM 0 0))):=by
 unfold cF.vals;go_enter func284,ntmps284;go_wp2_with fail
 refine bodyPost_ret (v:=Zr ((j7 4 x).vals (Zk XM 0 0))) (by simp[results,results284,go_sem,cF.vals,j7,sT]) rfl ?_;exact FR
def ev2(x:cF)(A:Option Zf)(n c:Nat)(w:XO):
 aR 286 #[Zr (x.vals (Zk A n c))] w (Zr ((j7 5 x).vals (Zk XM 0 0))):=by
 unfold cF.vals;go_enter func286,ntmps286;go_wp2_with fail
 refine bodyPost_ret (v:=Zr ((j7 5 x).vals (Zk XM 0 0))) (by simp[results,results286,go_sem,cF.vals,j7,sT]) rfl ?_;exact FR
def ev3(x:cF)(A:Option Zf)(n c:Nat)(w:XO):
 aR 288 #[Zr (x.vals (Zk A n c))] w (Zr ((j7 6 x).vals (Zk XM 0 0))):=by
 unfold cF.vals;go_enter func288,ntmps288;go_wp2_with fail
 refine bodyPost_ret (v:=Zr ((j7 6 x).vals (Zk XM 0 0))) (by simp[results,results288,go_sem,cF.vals,j7,sT]) rfl ?_;exact FR
def ev4(m:aU)(v:MV)(x:cF)(o:XP)(w:XO)(hv:m.In w w v)(ho:aS w w o x.ms)(j:aN x.item)(y:aN x.n)(z:aN x.by_)(C:aN x.other):
 aR 277 #[Zr (m.cells v),Zr (x.vals o)] w (Zp (Cm 1 m x)):=by
 refine IM λSa sc hs bZ bL Fa fc hf bM cj Ra rc hr cd cZ Ma mc hm cr co La lc hl cW dh Ia ic hi dg d' Ua uc hu dm dr HS jb=>?_;obtain⟨A,n,c,rfl,_,_,_⟩:=ho.sk.form;have HW:=aj λW=>vt x.n 0 16 W;show X4 _ _ _ _ λe w'=>e=YT (Zp (aF x.item m.items.length&&aE x.n 0 16))/\_;generalize aF x.item m.items.length=r1 at jb;generalize aE x.n 0 16=r2 at HW;rw[HS.o]at jb⊢
 unfold cF.vals;clear hv hs hf hr hm hl hi hu ho;cases r1 with
 |false=>go_enter func277,ntmps277;exact Qj
 |true=>go_enter func277,ntmps277;exact Qj
def ev5(m:aU)(v:MV)(x:cF)(o:XP)(w:XO)(hv:m.In w w v)(ho:aS w w o x.ms)(j:aN x.item)(y:aN x.n)(z:aN x.by_)(C:aN x.other):
 aR 287 #[Zr (m.cells v),Zr (x.vals o)] w (Zp (Cm 6 m x)):=by
 refine IM λSa sc hs bZ bL Fa fc hf bM cj Ra rc hr cd cZ Ma mc hm cr co La lc hl cW dh Ia ic hi dg d' Ua uc hu dm dr HS jb=>?_;obtain⟨A,n,c,rfl,_,_,_⟩:=ho.sk.form;have HW:=aj λW=>vt x.n 0 16 W;show X4 _ _ _ _ λe w'=>e=YT (Zp (aF x.item m.items.length&&aE x.n 0 16))/\_;generalize aF x.item m.items.length=r1 at jb;generalize aE x.n 0 16=r2 at HW;rw[HS.o]at jb⊢
 unfold cF.vals;clear hv hs hf hr hm hl hi hu ho;cases r1 with
 |false=>go_enter func287,ntmps287;exact Qj
 |true=>go_enter func287,ntmps287;exact Qj
def ev6(m:aU)(v:MV)(x:cF)(o:XP)(w:XO)(hv:m.In w w v)(ho:aS w w o x.ms)(y:aN x.item)(z:aN x.n)(C:aN x.by_)(D:aN x.other):
 aR 279 #[Zr (m.cells v),Zr (x.vals o)] w (Zp (Cm 2 m x)):=by
 refine IM λSa sc hs bZ bL Fa fc hf bM cj Ra rc hr cd cZ Ma mc hm cr co La lc hl cW dh Ia ic hi dg d' Ua uc hu dm dr HS jb=>?_;obtain⟨A,n,c,rfl,_,_,_⟩:=ho.sk.form;have HW:=aj λW=>vt x.n 0 16 W;have HC:=aj λW B u(h:aS W B u [2,3,4])=>Qh u [2,3,4] x.by_ W B h;have j:XN (x.by_∈[2,3,4])=aE x.by_ 2 4:=by rw[Yf];simp[aE];omega
 rw[j]at HC;show X4 _ _ _ _ λe w'=>e=YT (Zp (aF x.item m.items.length&&(aE x.n 0 16&&aE x.by_ 2 4)))/\_;generalize aF x.item m.items.length=r1 at jb;generalize aE x.n 0 16=r2 at HW;generalize aE x.by_ 2 4=r3 at HC;rw[HS.o]at jb⊢
 unfold cF.vals;clear hv hs hf hr hm hl hi hu ho j;cases r1 with
 |false=>exact bc1
 |true=>
  cases r2 with
  |false=>exact bc1
  |true=>
   go_enter func279,ntmps279
   go_wp2_with(first
    |(go_at_call 275;refine(jb _ (ak (ak (am w) _) _)).r λw1 aC=>?_;have bp:=aj (aq (ak (ak (am w) _) _) aC);obtain⟨br,bM⟩:=dE aC;have a_:w.heap.size+1<w1:=dQ aC Zy;clear aC)
    |(go_at_call 54;refine(HW _).z ?_)
    |(go_at_call 63;refine(HC _ _ _ (aS.lits _ [2,3,4] (by simp[aN]) Zy _)).z ?_)
    |fail)
   go_ret;exact⟨by simp,ak bp _⟩
def ev7(m:aU)(v:MV)(x:cF)(o:XP)(w:XO)(hv:m.In w w v)(ho:aS w w o x.ms)(J:aN x.item)(O:aN x.n)(U:aN x.by_)(V:aN x.other):
 aR 281 #[Zr (m.cells v),Zr (x.vals o)] w (Zp (Cm 3 m x)):=by
 refine IM λSa sc hs bZ bL Fa fc hf bM cj Ra rc hr cd cZ Ma mc hm cr co La lc hl cW dh Ia ic hi dg d' Ua uc hu dm dr HS jb=>?_;have C:=aj λW(hW:Below w w W)=>bc0 m v o x.ms W (hv.to hW (ar _) hW.size) ((ho.below hW (ar _)).more hW.size);obtain⟨A,n,c,rfl,_,_,_⟩:=ho.sk.form;show X4 _ _ _ _ λe w'=>e=YT (Zp (aF x.item m.items.length&&fF m x.ms))/\_;generalize aF x.item m.items.length=r1 at jb;generalize fF m x.ms=r2 at C;rw[HS.o]at jb C⊢
 unfold cF.vals;clear hv hs hf hr hm hl hi hu ho;cases r1 with
 |false=>
  go_enter func281,ntmps281
  go_wp2_with(first
   |(go_at_call 275;refine(jb _ (ak (ak (am w) _) _)).r λD j=>?_;have y:=aj (aq (ak (ak (am w) _) _) j);obtain⟨br,bM⟩:=dE j;have G:w.heap.size+1<D:=dQ j Zy;clear j)
   |(go_at_call 165;refine(C _ y).r λI z=>?_;have F:=aj (aq y z);clear z)
   |fail)
  go_ret;exact⟨by simp,y⟩
 |true=>
  go_enter func281,ntmps281
  go_wp2_with(first
   |(go_at_call 275;refine(jb _ (ak (ak (am w) _) _)).r λD j=>?_;have y:=aj (aq (ak (ak (am w) _) _) j);obtain⟨br,bM⟩:=dE j;have G:w.heap.size+1<D:=dQ j Zy;clear j)
   |(go_at_call 165;refine(C _ y).r λI z=>?_;have F:=aj (aq y z);clear z)
   |fail)
  go_ret;exact⟨by simp,F⟩
def ev8(m:aU)(v:MV)(x:cF)(o:XP)(w:XO)(hv:m.In w w v)(ho:aS w w o x.ms)(V:aN x.item)(X:aN x.n)(Y:aN x.by_)(Z:aN x.other):
 aR 283 #[Zr (m.cells v),Zr (x.vals o)] w (Zp (Cm 4 m x)):=by
 refine IM λSa sc hs bZ bL Fa fc hf bM cj Ra rc hr cd cZ Ma mc hm cr co La lc hl cW dh Ia ic hi dg d' Ua uc hu dm dr HS jb=>?_;have y:=aj λW(hW:Below w w W)=>bb8 m v x.other W (hv.to hW (ar _) hW.size);obtain⟨A,n,c,rfl,_,_,_⟩:=ho.sk.form;have C:(x.item !=x.other)= !XN (x.item=x.other):=by simp[bne,zh]
 have G:=aj C;show X4 _ _ _ _ λe w'=>e=YT (Zp (aF x.item m.items.length&&(aF x.other m.items.length&& !XN (x.item=x.other))))/\_;generalize aF x.item m.items.length=r1 at jb;generalize aF x.other m.items.length=r2 at y;rw[HS.o]at jb y⊢
 unfold cF.vals;clear hv hs hf hr hm hl hi hu ho C;have mp:=aj λO=>ai (cR w (Zq #[Zk Sa m.sites.length sc,Zk Fa m.feeds.length fc,Zk Ra m.racks.length rc,Zk Ma m.machs.length mc,Zk La m.links.length lc,Zk Ia m.items.length ic,m.dark,m.slots,m.reserve,m.failures,Zk Ua m.rules.length uc] 29)) (ak (am _) O);have NU:=aj (λD=>(show((w.alloc D).alloc (Zq #[x.kind,x.item,x.other,x.n,x.by_,Zp x.always,Zk A n c] 88)).heap[w.heap.size+1]?=XL (Zq #[x.kind,x.item,x.other,x.n,x.by_,Zp x.always,Zk A n c] 88 (0,0))from by have h:=cR (w.alloc D) (Zq #[x.kind,x.item,x.other,x.n,x.by_,Zp x.always,Zk A n c] 88);rwa [YY]at h));cases r1 with
 |false=>
  go_enter func283,ntmps283;go_wp2_with fail
  refine(jb _ (ak (ak (am w) _) _)).r λF aC=>?_;refine Z9 λbp c2 c3 HZ e0 e1 e2 e3 e4 e5 e6 e7 e8 e9 eB d1 d2=>?_;clear aC c2 c3;go_wp2_with fail
  go_ret;exact⟨by simp,bp⟩
 |true=>
  cases r2 with
  |false=>
   go_enter func283,ntmps283;go_wp2_with fail
   refine(jb _ (ak (ak (am w) _) _)).r λF aC=>?_;refine Z9 λbp c2 c3 HZ e0 e1 e2 e3 e4 e5 e6 e7 e8 e9 eB d1 d2=>?_;clear aC c2 c3;go_wp2_with fail
   refine(y _ bp).r λU j=>?_;have z:=aj (aq bp j);have I:=(j.cell (p:=⟨w+1,1,XM⟩) HZ).t d1;have J:=(j.cell (p:=⟨w+1,2,XM⟩) HZ).t d2;clear j d1 d2 e0 e1 e2 e3 e4 e5 e6 e7 e8 e9 eB;go_wp2_with fail
   go_ret;exact⟨by simp,z⟩
  |true=>
   go_enter func283,ntmps283;go_wp2_with fail
   refine(jb _ (ak (ak (am w) _) _)).r λF aC=>?_;refine Z9 λbp c2 c3 HZ e0 e1 e2 e3 e4 e5 e6 e7 e8 e9 eB d1 d2=>?_;clear aC c2 c3;go_wp2_with fail
   refine(y _ bp).r λU j=>?_;have z:=aj (aq bp j);have I:=(j.cell (p:=⟨w+1,1,XM⟩) HZ).t d1;have J:=(j.cell (p:=⟨w+1,2,XM⟩) HZ).t d2;clear j d1 d2 e0 e1 e2 e3 e4 e5 e6 e7 e8 e9 eB;go_wp2_with fail
   go_ret;exact⟨by rw[G.o];simp,z⟩
def ev9(m:aU)(v:MV)(x:cF)(o:XP)(w:XO)(y:m.In w w v)(ho:aS w w o x.ms)(C:aN x.item)(D:aN x.n)(F:aN x.by_)(G:aN x.other):
 aR 285 #[Zr (m.cells v),Zr (x.vals o)] w (Zp (Cm 5 m x)):=by
 obtain⟨⟨Sa,sc,hs,bZ,bL⟩,⟨Fa,fc,hf,bM,cj⟩,⟨Ra,rc,hr,cd,cZ⟩,⟨Ma,mc,hm,cr,co⟩,⟨La,lc,hl,cW,dh⟩,⟨Ia,ic,hi,dg,d'⟩,⟨Ua,uc,hu,dm,dr⟩⟩:=y.cells;have z:=aj (nD m hs hf hr hm hl hi hu);obtain⟨A,n,c,rfl,_,_,_⟩:=ho.sk.form;have j:=aj λW=>vt x.n 0 200 W;show X4 _ _ _ _ λe w'=>e=YT (Zp (aE x.n 0 200))/\_;generalize aE x.n 0 200=r2 at j;rw[z.o];unfold cF.vals;clear y hs hf hr hm hl hi hu ho;go_enter func285,ntmps285
 go_wp2_with(first
  |(go_at_call 54;refine(j _).z ?_)
  |fail)
 go_ret;exact⟨rfl,ak (ak (am w) _) _⟩
def ew0(m:aU)(v:MV)(x:cF)(o:XP)(w:XO)(hv:m.In w w v)(ho:aS w w o x.ms)(O:aN x.item)(U:aN x.n)(V:aN x.by_)(X:aN x.other):
 aR 274 #[Zr (m.cells v),Zr (x.vals o)] w (Zp (Cm 0 m x)):=by
 refine IM λSa sc hs bZ bL Fa fc hf bM cj Ra rc hr cd cZ Ma mc hm cr co La lc hl cW dh Ia ic hi dg d' Ua uc hu dm dr HS jb=>?_;obtain⟨A,n,c,rfl,_,_,_⟩:=ho.sk.form;have D:=aj hv.is;obtain⟨kind,item,other,xn,by_,always,ms⟩:=x;dsimp only at jb O U V X⊢
 show X4 _ _ _ _ λe w'=>e=YT (Zp (aF item m.items.length&&XN (rr m item=0)))/\_;rw[hi]at D;cases cd:aF item m.items.length with
 |false=>
  rw[cd]at jb;rw[HS.o]at jb⊢
  unfold cF.vals;clear hv hs hf hr hm hl hi hu ho cd;go_enter func274,ntmps274
  go_wp2_with(first
   |(go_at_call 275;refine(jb _ (ak (ak (am w) _) _)).r λF z=>?_;have C:=aj (aq (ak (ak (am w) _) _) z);obtain⟨br,bM⟩:=dE z;have J:w.heap.size+1<F:=dQ z Zy;clear z)
   |fail)
  go_ret;exact⟨by simp,C⟩
 |true=>
  rw[cd]at jb;obtain⟨j,rfl⟩:∃j:Nat,item=(j:Int)+1:=⟨(item - 1).toNat,by simp[aF,aE]at cd;omega⟩;have Y:j<m.items.length:=by simp[aF,aE]at cd;omega
  have jK:(0:Int)<=(j:Int):=Zv;have nf:(j:Int)<(m.items.length:Nat):=Zv;obtain⟨y,hy⟩:=jd Y;obtain⟨b,off,cs,rfl,fL,_,hR,bo⟩:=D.at_ hy;obtain⟨yo,rfl,_⟩:=hR;have Z:=bo 1 _ rfl;have G:=aj (show rr m ((j:Int)+1)=y.kind from by unfold rr;rw[show((j:Int)+1 - 1).toNat=j from by omega,hy];rfl);rw[G.o];have I:=aj (show(y.kind==0)=XN (y.kind=0)from zh _ _);rw[HS.o]at jb⊢
  unfold cF.vals;clear hv hs hf hr hm hl hi hu ho cd bo hy G D;go_enter func274,ntmps274
  go_wp2_with(first
   |(go_at_call 275;refine(jb _ (ak (ak (am w) _) _)).r λF z=>?_;have C:=aj (aq (ak (ak (am w) _) _) z);obtain⟨br,bM⟩:=dE z;have J:w.heap.size+1<F:=dQ z Zy;have gD:=(C.cell (p:=⟨b,off+j*7+1,XM⟩) fL).t Z;clear z)
   |fail)
  go_ret;exact⟨by rw[I.o];simp,C⟩
end
section
open Go Go.RowKit Go.MapKept Go.Proofs.Tryz
def fq.vals(x:fq)(o:XP):Array Value:= #[X2 (bs x.name),ah x.kind,ah x.count,ah x.load,ah x.size,ah x.share,o]
def fq.vals_def(x:fq)(o:XP):x.vals o= #[X2 (bs x.name),ah x.kind,ah x.count,ah x.load,ah x.size,ah x.share,o]:=rfl
def yM(k:Nat)(x:fq):Bool:=
 match k with
 |0=>(XN (x.count=1)||XN (x.count=3)||XN (x.count=5))&&XN (x.count=x.on.length)
 |1=>aE x.count 1 8
 |2=>XN (x.count=1)&&XN (x.on.length=1)
 |_=>XQ
def ew6(m:aU)(x:fq)(k:Nat)(c:k<=2)(h:x.kind=k):dV m x=(yM k x&&fF m x.on&&aE x.load 0 1048576&&aE x.size 0 1048576&&aE x.share 1 1048576):=by have:k=0\/k=1\/k=2:=Zv;rcases this with rfl|rfl|rfl<;>simp[dV,yM,h]
def es1(m:aU)(x:fq)(h:¬(0<=x.kind/\x.kind<=2)):dV m x=false:=by unfold dV;rw[if_neg Zv,if_neg Zv,if_neg Zv];rfl
section
variable (x:fq) (o:XP) (xb:Nat) (w:XO) (hx:af w xb (x.vals o) 86) (ho:aS w w o x.on)
include hx ho
theorem es2:aR 162 #[az xb] w (Zp (yM 0 x)):=by
 obtain⟨A,n,c,rfl,hn,hc,fQ⟩:=ho.sk.form;have G:=blk_lt hx;have D:aa w xb 2 (ah x.count):=ag hx rfl;have F:aa w xb 6 (Zk A n c):=ag hx rfl;have j:=aj λW B u(h:aS W B u [1,3,5])=>Qh u [1,3,5] x.count W B h;have y:XN (x.count∈[1,3,5])=(XN (x.count=1)||XN (x.count=3)||XN (x.count=5)):=by rw[Yf];simp[or_assoc]
 rw[y]at j;have z:=aj (show(x.count==(n:Int))=XN (x.count=n)from zh _ _);show X4 _ _ _ _ λe w'=>e=YT (Zp ((XN (x.count=1)||XN (x.count=3)||XN (x.count=5))&&XN (x.count=(x.on.length:Nat))))/\_;rw[hn];generalize (XN (x.count=1)||XN (x.count=3)||XN (x.count=5))=r at j;clear hx ho y hn;simp only[az];cases r with
 |false=>
  go_enter func162,ntmps162;go_wp2_with(go_at_call 63;refine(j _ _ _ (aS.lits _ [1,3,5] (by simp[aN]) Zy _)).m ?_;rintro e C ⟨rfl,rfl⟩)
  go_ret;exact⟨by simp,ak (am w) _⟩
 |true=>
  go_enter func162,ntmps162;go_wp2_with(go_at_call 63;refine(j _ _ _ (aS.lits _ [1,3,5] (by simp[aN]) Zy _)).z ?_)
  go_ret;exact⟨by rw[z.o];simp,ak (am w) _⟩
omit ho in
theorem es3:aR 163 #[az xb] w (Zp (yM 1 x)):=by
 have y:=blk_lt hx;have j:aa w xb 2 (ah x.count):=ag hx rfl;have c:=aj λW=>vt x.count 1 8 W;show X4 _ _ _ _ λe w'=>e=YT (Zp (aE x.count 1 8))/\_;generalize aE x.count 1 8=r at c;clear hx;simp only[az];go_enter func163,ntmps163;go_wp2_with(go_at_call 54;refine(c _).z ?_)
 go_ret;exact⟨rfl,am _⟩
theorem es4:aR 164 #[az xb] w (Zp (yM 2 x)):=by
 obtain⟨A,n,c,rfl,hn,hc,fQ⟩:=ho.sk.form;have F:=blk_lt hx;have C:aa w xb 2 (ah x.count):=ag hx rfl;have D:aa w xb 6 (Zk A n c):=ag hx rfl;show X4 _ _ _ _ λe w'=>e=YT (Zp (XN (x.count=1)&&XN (x.on.length=1)))/\_;rw[hn];have j:=aj (show(x.count==1)=XN (x.count=1)from zh _ _);have y:=aj (show((n:Int)==1)=XN (n=1)from by rw[zh];exact decide_eq_decide.2 Zv);clear hx ho hn;simp only[az];by_cases h:(x.count==1)=XR
 .go_enter func164,ntmps164;have H:=aj h;go_wp2_with fail
  go_ret;exact⟨by have:=j.o;rw[H.o]at this;rw[<-this,<-y.o];simp,am w⟩
 .have z:(x.count==1)=false:=by simpa using h
  clear h;have H:=aj z;go_enter func164,ntmps164;go_wp2_with fail
  go_ret;exact⟨by have:=j.o;rw[H.o]at this;rw[<-this];simp,am w⟩
end
def Nc(xb:Nat):Int->Option Value:=aY (aY (aY (λ_=>XM) 0 (.func (.func 162) #[] #[az xb])) 1 (.func (.func 163) #[] #[az xb])) 2 (.func (.func 164) #[] #[az xb])
def bc4(w:XO)(a b:Obj):dN ju (((w.alloc a).alloc b).alloc (.map #[] 0)) (w+1+1) (λ_=>XM):=by
 have h:=dN.made ju ((w.alloc a).alloc b)
 rwa [YY,YY]at h
def es5(t:Ya)(c:t=35)(f:Fn)(a b:Array XP)(w:XO):(Go.binOp .neq t (.func f a b) .nilFunc).run X3 w= .ok (Zp XR) w:=by subst c;kernel_rfl
def es6(w:XO):(Go.binOp .neq 35 .nilFunc .nilFunc).run X3 w= .ok (Zp XQ) w:=aI
def tR(w:XO)(C D:Array XP)(s t:Ya):((w.alloc (Zq C s)).alloc (Zq D t)).heap[w.heap.size]?=XL (Zq C s (0,0))/\((w.alloc (Zq C s)).alloc (Zq D t)).heap[w.heap.size+1]?=XL (Zq D t (0,0)):=by
 refine⟨ai (cR w _) (ak (am _) _),?_⟩;have h:=cR (w.alloc (Zq C s)) (Zq D t)
 rwa [YY]at h
def Z'(m:aU)(v:MV)(x:fq)(o:XP)(w:XO)(g:Nat)(y:Bool)(D:d_ g)(hv:m.In w w v)(ho:aS w w o x.on)
 (z:Nc (w+1) x.kind=XL (.func (.func g) #[] #[az (w+1)]))
 (C:∀W,af W (w.heap.size+1) (x.vals o) 86->aS W W.heap.size o x.on->aR g #[az (w+1)] W (Zp y)):
 aR 59 #[Zr (m.cells v),Zr (x.vals o)] w (Zp (y&&fF m x.on&&aE x.load 0 1048576&&aE x.size 0 1048576&&aE x.share 1 1048576)):=by
 have HM:=aj λW(j:Below w w W)=>bc0 m v o x.on W (hv.to j (ar _) j.size) ((ho.below j (ar _)).more j.size);have HG:=aj λW(j:Below w w W)(F:af W (w.heap.size+1) (x.vals o) 86)=>C W F ((ho.below j (ar _)).more j.size);refine sV λSa sc hs bZ bL Fa fc bS bM cj Ra rc hr cd cZ Ma mc hm cr co La lc hl cW dh Ia ic hi dg d' Ua uc hu dm dr HS=>?_;obtain⟨A,n,c,rfl,hn,hc,fQ⟩:=ho.sk.form;have HF:=aj z;have uz:=aj λW=>vt x.load 0 1048576 W;have uB:=aj λW=>vt x.size 0 1048576 W;have wJ:=aj λW=>vt x.share 1 1048576 W;generalize fF m x.on=r1 at HM;generalize aE x.load 0 1048576=r2 at uz;generalize aE x.size 0 1048576=r3 at uB;generalize aE x.share 1 1048576=r4 at wJ;unfold d_ at D;refine vg λmG=>?_;refine rF λqa=>?_;rw[HS.o]at HM⊢
 rw[fq.vals_def]at HG⊢
 have aX:=aj (tR w #[Zk Sa m.sites.length sc,Zk Fa m.feeds.length fc,Zk Ra m.racks.length rc,Zk Ma m.machs.length mc,Zk La m.links.length lc,Zk Ia m.items.length ic,m.dark,m.slots,m.reserve,m.failures,Zk Ua m.rules.length uc] #[bs x.name,x.kind,x.count,x.load,x.size,x.share,Zk A n c] 29 86);have oG:=aj (bc4 w);clear hv ho z C hs bS hr hm hl hi hu hn;simp only[az]at HG HF;have G:=λf a b w=>es5 _ rfl f a b w;cases y with
 |false=>
  go_enter func59,ntmps59;go_wp2_with first
   |(refine fh rfl (Zt 7) (Zu (ah 0)) (Zt 8) 199 (.inr rfl) 3 35 (.int Yo) underlying199 XZ cJ (w+1+1) (λ_=>XM) rfl (oG _ _) 0 (.func (.func 162) #[] #[az (w+1)]) rfl rfl ?_;intro w1 jR eY)
   |(refine fh rfl (Zt 7) (Zu (ah 1)) (Zt 9) 199 (.inr rfl) 3 35 (.int Yo) underlying199 XZ cJ (w+1+1) _ rfl jR 1 (.func (.func 163) #[] #[az (w+1)]) rfl rfl ?_;intro w2 jS fP)
   |(refine fh rfl (Zt 7) (Zu (ah 2)) (Zt 10) 199 (.inr rfl) 3 35 (.int Yo) underlying199 XZ cJ (w+1+1) _ rfl jS 2 (.func (.func 164) #[] #[az (w+1)]) rfl rfl ?_;intro w3 jT gd;refine bc5 λjz HX yC mi a1=>?_;have GZ:=aj yC;have jc:=aj mi;have tl:=aj jT;clear jR eY jS fP jT gd yC mi)
   |(at_lookup;refine Cn rfl (.tmp 12) (.tmp 14) 199 false rfl 3 35 (.int .i64) underlying199 underlying3 cJ (w+1+1) _ rfl tl x.kind .nilFunc rfl (zeroValue35 _) ?_
     rw[show aY (aY (aY (λ_=>XM) 0 (Value.func (.func 162) #[] #[az (w+1)])) 1 (.func (.func 163) #[] #[az (w+1)])) 2 (.func (.func 164) #[] #[az (w+1)]) x.kind=XL (.func (.func g) #[] #[Zs (XL ⟨w+1,0,XM⟩)])from HF.o];simp only[Option.getD_some,Yh,if_false])
   |(refine(HG _ jz jc).r λw4 aV=>?_;refine bc6 λbW pH sH e0 e1 e2 e3 e4 e5 e6 e7 e8 e9 eB a6 wK=>?_;clear aV pH sH)
   |(go_at_call 165;refine(HM _ bW).r λw5 bx=>?_;have cT:=aj (aq bW bx);have oF:=ai wK bx;have a3:=ag (o:=3) oF rfl;have a4:=ag (o:=4) oF rfl;have a5:=ag (o:=5) oF rfl;clear bx oF)
   |(go_at_call_of 54 (ah x.load);refine(uz _).z ?_)
   |(go_at_call_of 54 (ah x.size);refine(uB _).z ?_)
   |(go_at_call_of 54 (ah x.share);refine(wJ _).z ?_)
  go_ret;exact⟨by simp,bW⟩
 |true=>
  cases r1 with
  |false=>exact Ql
  |true=>
   cases r2 with
   |false=>exact Ql
   |true=>
    cases r3 with
    |false=>exact Ql
    |true=>exact Ql
def es7(xb:Nat)(k:Nat):Nc xb k=if k=0 then XL (.func (.func 162) #[] #[az xb])else if k=1 then XL (.func (.func 163) #[] #[az xb])else if k=2 then XL (.func (.func 164) #[] #[az xb])else none:=by
 unfold Nc aY;by_cases c:k=0
 .subst c;rfl
 by_cases j:k=1
 .subst j;rfl
 by_cases y:k=2
 .subst y;rfl
 have z:¬(k:Int)=0:=Zv;have A:¬(k:Int)=1:=Zv;have C:¬(k:Int)=2:=Zv;simp[c,j,y,z,A,C]
def es8(m:aU)(v:MV)(x:fq)(A:Option Zf)(n c:Nat)(w:XO)(X:m.In w w v)(V:¬(0<=x.kind/\x.kind<=2)):
 aR 59 #[Zr (m.cells v),Zr (x.vals (Zk A n c))] w (Zp XQ):=by
 have O:=aj (show Nc (w+1) x.kind=XM from by unfold Nc aY;rw[if_neg Zv,if_neg Zv,if_neg Zv]);refine vg λmG=>?_;refine rF λqa=>?_;have Z:=aj (bc4 w);have j:=aj (tR w (m.cells v) (x.vals (Zk A n c)) 29 86);have ng:=λw=>es6 w;rw[fq.vals_def]at j⊢
 rw[aU.cells_def]at j⊢
 clear X V;go_enter func59,ntmps59;go_wp2_with first
  |(refine fh rfl (Zt 7) (Zu (ah 0)) (Zt 8) 199 (.inr rfl) 3 35 (.int Yo) underlying199 XZ cJ (w+1+1) (λ_=>XM) rfl (Z _ _) 0 (.func (.func 162) #[] #[az (w+1)]) rfl rfl ?_;intro w1 F y)
  |(refine fh rfl (Zt 7) (Zu (ah 1)) (Zt 9) 199 (.inr rfl) 3 35 (.int Yo) underlying199 XZ cJ (w+1+1) _ rfl F 1 (.func (.func 163) #[] #[az (w+1)]) rfl rfl ?_;intro w2 G z)
  |(refine fh rfl (Zt 7) (Zu (ah 2)) (Zt 10) 199 (.inr rfl) 3 35 (.int Yo) underlying199 XZ cJ (w+1+1) _ rfl G 2 (.func (.func 164) #[] #[az (w+1)]) rfl rfl ?_;intro w3 I C;have Y:=aj (C.1 _ _ (z.1 _ _ (y.1 _ _ (ak (ak (ak (am w) _) _) _) Zv) Zv) Zv);have U:=aj λi(D:¬i=w.heap.size+1+1)=>(C.2.2 i D).t ((z.2.2 i D).t (y.2.2 i D));have J:=(U (w+1) Zv).t (gl j.2 (ak (am _) _) (blk_lt j.2));have a1:aa w3 (w+1) 1 (ah x.kind):=ag J rfl;have tl:=aj I;clear F y G z I C J)
  |(at_lookup;refine Cn rfl (.tmp 12) (.tmp 14) 199 false rfl 3 35 (.int .i64) underlying199 underlying3 cJ (w+1+1) _ rfl tl x.kind .nilFunc rfl (zeroValue35 _) ?_
    rw[show aY (aY (aY (λ_=>XM) 0 (Value.func (.func 162) #[] #[az (w+1)])) 1 (.func (.func 163) #[] #[az (w+1)])) 2 (.func (.func 164) #[] #[az (w+1)]) x.kind=XM from O.o];simp only[Option.getD_none,Yh,if_false])
 go_ret;exact⟨rfl,Y⟩
def es9(m:aU)(v:MV)(x:fq)(o:XP)(w:XO)(C:m.In w w v)(ho:aS w w o x.on):
 aR 59 #[Zr (m.cells v),Zr (x.vals o)] w (Zp (dV m x)):=by
 by_cases h:0<=x.kind/\x.kind<=2
 .obtain⟨k,hk⟩:∃k:Nat,x.kind=k:=⟨x.kind.toNat,by omega⟩;have D:k<=2:=by omega
  rw[ew6 m x k D hk];have z:=es7 (w+1) k;rw[<-hk]at z;have:k=0\/k=1\/k=2:=Zv;rcases this with rfl|rfl|rfl
  .exact Z' m v x o w _ _ (XX func162 aI rfl) C ho z (λW j y=>es2 x o _ W j y)
  .exact Z' m v x o w _ _ (XX func163 aI rfl) C ho z (λW j y=>es3 x o _ W j)
  .exact Z' m v x o w _ _ (XX func164 aI rfl) C ho z (λW j y=>es4 x o _ W j y)
 .rw[es1 m x h];obtain⟨A,n,c,rfl,_,_,_⟩:=ho.sk.form;exact es8 m v x A n c w C h
def Qm:Int->Option Value:=(aY (aY (aY (aY (aY (aY (aY (λ_=>XM) 0 (Zr #[.func (.func 274) #[] #[],.func (.func 276) #[] #[]])) 1 (Zr #[.func (.func 277) #[] #[],.func (.func 278) #[] #[]])) 2 (Zr #[.func (.func 279) #[] #[],.func (.func 280) #[] #[]])) 3 (Zr #[.func (.func 281) #[] #[],.func (.func 282) #[] #[]])) 4 (Zr #[.func (.func 283) #[] #[],.func (.func 284) #[] #[]])) 5 (Zr #[.func (.func 285) #[] #[],.func (.func 286) #[] #[]])) 6 (Zr #[.func (.func 287) #[] #[],.func (.func 288) #[] #[]]))
def bc7(w:XO):
 X4 X3 167 #[] w λe w'=>∃M,e=YT (.map (XL M))/\dN ju w' M Qm/\w.heap.size<=M/\Below w w w':=by
 refine vg λmG=>?_;go_enter func167,ntmps167;go_wp2_with first
  |(refine fh rfl (Zt 1) (Zu (ah 0)) (Zt 2) 206 (.inr rfl) 3 204 (.int Yo) underlying206 XZ cJ w (λ_=>XM) rfl (dN.made ju w) 0 (Zr #[.func (.func 274) #[] #[],.func (.func 276) #[] #[]]) rfl rfl ?_;intro Z C y)
  |(refine fh rfl (Zt 1) (Zu (ah 1)) (Zt 3) 206 (.inr rfl) 3 204 (.int Yo) underlying206 XZ cJ w _ rfl C 1 (Zr #[.func (.func 277) #[] #[],.func (.func 278) #[] #[]]) rfl rfl ?_;intro w2 D z)
  |(refine fh rfl (Zt 1) (Zu (ah 2)) (Zt 4) 206 (.inr rfl) 3 204 (.int Yo) underlying206 XZ cJ w _ rfl D 2 (Zr #[.func (.func 279) #[] #[],.func (.func 280) #[] #[]]) rfl rfl ?_;intro w3 F A)
  |(refine fh rfl (Zt 1) (Zu (ah 3)) (Zt 5) 206 (.inr rfl) 3 204 (.int Yo) underlying206 XZ cJ w _ rfl F 3 (Zr #[.func (.func 281) #[] #[],.func (.func 282) #[] #[]]) rfl rfl ?_;intro w4 V J)
  |(refine fh rfl (Zt 1) (Zu (ah 4)) (Zt 6) 206 (.inr rfl) 3 204 (.int Yo) underlying206 XZ cJ w _ rfl V 4 (Zr #[.func (.func 283) #[] #[],.func (.func 284) #[] #[]]) rfl rfl ?_;intro w5 O G)
  |(refine fh rfl (Zt 1) (Zu (ah 5)) (Zt 7) 206 (.inr rfl) 3 204 (.int Yo) underlying206 XZ cJ w _ rfl O 5 (Zr #[.func (.func 285) #[] #[],.func (.func 286) #[] #[]]) rfl rfl ?_;intro w6 j X)
  |(refine fh rfl (Zt 1) (Zu (ah 6)) (Zt 8) 206 (.inr rfl) 3 204 (.int Yo) underlying206 XZ cJ w _ rfl j 6 (Zr #[.func (.func 287) #[] #[],.func (.func 288) #[] #[]]) rfl rfl ?_;intro w7 U I;have Y:=aj (I.1 _ _ (X.1 _ _ (G.1 _ _ (J.1 _ _ (A.1 _ _ (z.1 _ _ (y.1 _ _ (ak (am w) _) (ar _)) (ar _)) (ar _)) (ar _)) (ar _)) (ar _)) (ar _));have c:=aj U;clear C y D z F A V J O G j X U I)
 go_ret;exact⟨_,rfl,c,ar _,Y⟩
def et0{k:Int}(h:¬(0<=k/\k<=6)):Qm k=none:=by unfold Qm aY;repeat rw[if_neg Zv]
end
section
open Go Go.RowKit Go.MapKept Go.ChangeMaps Go.Proofs.Tryz
def AX(word:ByteArray)(k:Int)(u f r t:XP):Value:=Zr #[word,k,u,f,r,t]
def et2(word:ByteArray)(k:Int)(w:XO):
 aR 104 #[word,k] w (AX word k (bH 221 #[]) (bH 222 #[]) (bH 223 #[]) (bH 224 #[])):=by
 go_enter func104,ntmps104;go_wp2_with fail
 refine bodyPost_ret (v:=AX word k (bH 221 #[]) (bH 222 #[]) (bH 223 #[]) (bH 224 #[])) (by simp[results,results104,go_sem,AX,bH]) rfl ?_;exact⟨rfl,by repeat' first|with_reducible exact am w|with_reducible refine cV ?_ (ar _) _|with_reducible refine ak ?_ _⟩
def et3(word:ByteArray)(k:Int)(g:Nat)(w:XO):
 X4 X3 102 #[word,k,bH g #[]] w λe w'=>e=YT (AX word k (bH 217 #[]) (bH 218 #[az w]) (bH 219 #[]) (bH 220 #[]))/\Below w w w'/\ae w' w (bH g #[])/\w.heap.size<w':=by
 refine rF λqa=>?_;simp only[bH];go_enter func102,ntmps102;go_wp2_with fail
 refine bodyPost_ret (v:=AX word k (bH 217 #[]) (bH 218 #[az w]) (bH 219 #[]) (bH 220 #[])) (by simp[results,results102,go_sem,AX,bH,az]) rfl ?_;exact⟨rfl,ak (ak (am w) _) _,by go_simp,by simp;omega⟩
structure lN where
 word:List UInt8
 kind:Int
 gu:Nat
 gf:Nat
 caps:Array XP
 gr:Nat
 gt:Nat
def lN.val(x:lN):Value:=AX (bs x.word) x.kind (bH x.gu #[]) (bH x.gf x.caps) (bH x.gr #[]) (bH x.gt #[])
def lN.kv(x:lN):XP×Value:=(X2 (bs x.word),x.val)
def items(b:Nat->Nat):List lN:=[
 ⟨cb 0,0,217,218,#[az (b 0)],219,220⟩,
 ⟨cb 1,1,217,218,#[az (b 1)],219,220⟩,
 ⟨cb 2,2,217,218,#[az (b 2)],219,220⟩,
 ⟨cb 3,3,217,218,#[az (b 3)],219,220⟩,
 ⟨cb 6,6,217,218,#[az (b 4)],219,220⟩,
 ⟨cb 13,13,217,218,#[az (b 5)],219,220⟩,
 ⟨cb 4,4,221,222,#[],223,224⟩,
 ⟨cb 16,16,221,222,#[],223,224⟩,
 ⟨cb 8,8,217,218,#[az (b 6)],219,220⟩,
 ⟨cb 9,9,217,218,#[az (b 7)],219,220⟩,
 ⟨cb 11,11,217,218,#[az (b 8)],219,220⟩,
 ⟨cb 17,17,217,218,#[az (b 9)],219,220⟩,
 ⟨cb 5,5,106,107,#[],110,111⟩,
 ⟨cb 7,7,112,113,#[],114,115⟩,
 ⟨cb 10,10,116,117,#[],120,122⟩,
 ⟨cb 12,12,124,125,#[],126,128⟩,
 ⟨cb 14,14,130,131,#[],132,133⟩,
 ⟨cb 15,15,134,135,#[],136,137⟩]
def yN:List Nat:=[0,1,2,3,6,13,4,16,8,9,11,17,5,7,10,12,14,15]
def bc8(b:Nat->Nat):(items b).map (·.word)=yN.map cb:=rfl
def et4:(yN.map cb).Nodup:=aD
def Nd(w:XO)(r j:Nat)(x:lN):Prop:=
 w.cell? ⟨r,j*6,XM⟩=XL (X2 (bs x.word))/\aa w r (j*6+1) (ah x.kind)/\aa w r (j*6+2) (bH x.gu #[])/\aa w r (j*6+3) (bH x.gf x.caps)/\aa w r (j*6+4) (bH x.gr #[])/\aa w r (j*6+5) (bH x.gt #[])
def et5:Nat->Nat
 |0=>103
 |1=>103
 |2=>103
 |3=>100
 |4=>100
 |5=>100
 |6=>99
 |7=>99
 |8=>101
 |9=>105
 |_=>0
def rJ(w:XO)(b:Nat->Nat):Prop:=∀i,i<10->b i<w.heap.size/\aa w (b i) 0 (bH (et5 i) #[])
def et6(w:XO)(e:Zb)(w':XO):Prop:=
 ∃M b,e=YT (.map (XL M))/\gy w' M ((items b).map lN.kv)/\rJ w' b/\(∀i,i<10->w.heap.size<b i)/\w.heap.size<=M/\Below w w w'
def aa1{P:Zh}{c:Code}{Q:Exit->Act->XO->Prop}{a:Act}{W:XO}(F:XO->Prop)(j:F W)(h:∀W0,F W0->Code.wp P c Q a W0):Code.wp P c Q a W:=h W j
structure bc9(w:XO)(b:Nat->Nat)(r:Nat)(W:XO):Prop where
 below:Below w w W
 map:gy W w []
 rows:∀(j:Nat)x,(items b)[j]?=XL x->Nd W r j x
 boxes:rJ W b
 ne:¬r=w
 lt:r<W
 fresh:∀i,i<10->w.heap.size<b i
def Qn(b:Nat->Nat):(items b).length=18:=rfl
def et7{b:Nat->Nat}{k:Nat}{x:lN}(hx:(items b)[k]?=XL x):∀p∈((items b).take k).map lN.kv,IsKey .string p.1/\p.1≠ .string (bs x.word):=by
 intro p C;obtain⟨y,hy,rfl⟩:=List.mem_map.1 C;refine⟨trivial,λe=>?_⟩;have z:bs y.word=bs x.word:=by injection e
 have A:y.word=x.word:=by rw[<-ie y.word,z,ie]
 obtain⟨j,hj⟩:=List.mem_iff_getElem?.1 hy;rw[List.getElem?_take]at hj;split at hj
 .rename_i D;have c:((items b).map (·.word))[j]?=some x.word:=by rw[List.getElem?_map,hj,<-A];rfl
  have h:((items b).map (·.word))[k]?=XL x.word:=by rw[X5,hx];rfl
  rw[bc8]at c h;have:=(List.getElem?_inj (List.getElem?_eq_some_iff.1 c).1 et4).1 (c.t h.symm);omega
 .cases hj
def Nd.keep{w w':XO}{r j:Nat}{x:lN}(h:Nd w r j x)(c:∀o,w'.cell? (r o XM)=w.cell? (r o XM)):Nd w' r j x:=by
 unfold Nd at h⊢
 simp only[c];exact h
def FU(M:Nat)(W0 w:XO):Prop:=W0.heap.size<=w/\∀b o,b≠M->b<W0.heap.size->w.cell? ⟨b,o,XM⟩=W0.cell? ⟨b,o,XM⟩
def FU.refl(M:Nat)(W:XO):FU M W W:=⟨ar _,λ_ _ _ _=>rfl⟩
def FU.put{M:Nat}{W0 w w':XO}{o:Obj}(h:FU M W0 w)(y:j5 (w.alloc o) w' M):FU M W0 w':=
 ⟨by rw[y.2.1];exact bC h.1 Zy,λb o' z j=>(y.cell z).t ((Zg w _ _ (bJ j h.1)).t (h.2 b o' z j))⟩
def aa2(w:XO):
 X4 X3 44 #[] w (et6 w):=by
 have S:=λword k g w=>et3 word k g w;have S0:=λword k w=>et2 word k w;simp only[AX,bH,az]at S S0;have A:=aj S;have Ka:=aj S0;clear S S0;refine vg λmG=>?_;go_enter func44,ntmps44;go_wp2_with fail
 refine(A {data:= #[100,101,108,105,118,101,114]} 0 103 _).m ?_;rintro e w0 ⟨rfl,tG,pj,lZ⟩;have jE:=aq (ak (am w) _) tG;go_wp2_with fail
 refine(A {data:= #[100,114,111,112]} 1 103 _).m ?_;rintro e w1 ⟨rfl,aC,eH,cW⟩;have bP:=aq jE aC;go_wp2_with fail
 refine(A {data:= #[100,111,117,98,108,101]} 2 103 _).m ?_;rintro e w2 ⟨rfl,au,ev,dh⟩;have aZ:=aq bP au;go_wp2_with fail
 refine(A {data:= #[116,105,99,107]} 3 100 _).m ?_;rintro e w3 ⟨rfl,aM,mi,BS⟩;have du:=aq aZ aM;go_wp2_with fail
 refine(A {data:= #[114,101,115,116,97,114,116]} 6 100 _).m ?_;rintro e w4 ⟨rfl,aV,sH,Fk⟩;have gP:=aq du aV;go_wp2_with fail
 refine(A {data:= #[99,111,109,112,97,99,116]} 13 100 _).m ?_;rintro e w5 ⟨rfl,bx,oF,O7⟩;have kV:=aq gP bx;go_wp2_with fail
 refine(Ka {data:= #[115,108,111,116]} 4 _).r λw6 cL=>?_;have uL:=aq kV cL;go_wp2_with fail
 refine(Ka {data:= #[100,97,114,107]} 16 _).r λw7 jj=>?_;have ES:=aq uL jj;go_wp2_with fail
 refine(A {data:= #[105,115,111,108,97,116,101]} 8 99 _).m ?_;rintro e w8 ⟨rfl,gm,xm,O8⟩;have I:=aq ES gm;go_wp2_with fail
 refine(A {data:= #[106,111,105,110]} 9 99 _).m ?_;rintro e w9 ⟨rfl,jW,Pr,O9⟩;have J:=aq I jW;go_wp2_with fail
 refine(A {data:= #[114,101,116,114,121]} 11 101 _).m ?_;rintro e Cw ⟨rfl,pZ,O,O5⟩;have F:=aq J pZ;go_wp2_with fail
 refine(A {data:= #[99,97,108,109]} 17 105 _).m ?_;rintro e z ⟨rfl,OM,U,O6⟩;have G:=aq F OM;go_wp2_with fail
 rw[show(w.alloc (Obj.map #[] 0)).heap.size=w.heap.size+1 by simp]at pj lZ;have cA:w.heap.size<w0:=Zv;have a_:w.heap.size<w1:=bJ cA aC.size;have bd:w.heap.size<w2:=bJ a_ au.size;have gJ:w.heap.size<w3:=bJ bd aM.size;have vX:w.heap.size<w4:=bJ gJ aV.size;have mK:w.heap.size<w5:=bJ vX bx.size;have qg:w.heap.size<w6:=bJ mK cL.size;have Dt:w.heap.size<w7:=bJ qg jj.size;have Au:w.heap.size<w8:=bJ Dt gm.size;have mL:w.heap.size<w9:=bJ Au jW.size;have IH:w.heap.size<Cw:=bJ mL pZ.size;have he2:w.heap.size<z:=bJ IH OM.size;have yl:=OM;have pC:=aq pZ yl;have yn:=aq jW pC;have lW:=aq gm yn;have ym:=aq jj lW;have jU:=aq cL ym;have ly:=aq bx jU;have gd:=aq aV ly;have fP:=aq aM gd;have eY:=aq au fP;have D:=aq aC eY;refine aa1 (bc9 w (λi=>match i with|0=>w.heap.size+1|1=>w0.heap.size|2=>w1.heap.size|3=>w2.heap.size|4=>w3.heap.size|5=>w4.heap.size|6=>w7.heap.size|7=>w8.heap.size|8=>w9.heap.size|9=>Cw.heap.size|_=>w.heap.size+1) z) ?_ ?_
 .refine⟨ak G _,?_,?_,?_,by omega,by simp,?_⟩
  .exact((gy.made w).later (aq tG D)).later (ak (am z) _)
  .intro j x y
   match j,y with
   |0,y=>injection y with y;subst y;refine⟨?_,?_,?_,?_,?_,?_⟩<;>(rw[Yj];rfl)
   |1,y=>injection y with y;subst y;refine⟨?_,?_,?_,?_,?_,?_⟩<;>(rw[Yj];rfl)
   |2,y=>injection y with y;subst y;refine⟨?_,?_,?_,?_,?_,?_⟩<;>(rw[Yj];rfl)
   |3,y=>injection y with y;subst y;refine⟨?_,?_,?_,?_,?_,?_⟩<;>(rw[Yj];rfl)
   |4,y=>injection y with y;subst y;refine⟨?_,?_,?_,?_,?_,?_⟩<;>(rw[Yj];rfl)
   |5,y=>injection y with y;subst y;refine⟨?_,?_,?_,?_,?_,?_⟩<;>(rw[Yj];rfl)
   |6,y=>injection y with y;subst y;refine⟨?_,?_,?_,?_,?_,?_⟩<;>(rw[Yj];rfl)
   |7,y=>injection y with y;subst y;refine⟨?_,?_,?_,?_,?_,?_⟩<;>(rw[Yj];rfl)
   |8,y=>injection y with y;subst y;refine⟨?_,?_,?_,?_,?_,?_⟩<;>(rw[Yj];rfl)
   |9,y=>injection y with y;subst y;refine⟨?_,?_,?_,?_,?_,?_⟩<;>(rw[Yj];rfl)
   |10,y=>injection y with y;subst y;refine⟨?_,?_,?_,?_,?_,?_⟩<;>(rw[Yj];rfl)
   |11,y=>injection y with y;subst y;refine⟨?_,?_,?_,?_,?_,?_⟩<;>(rw[Yj];rfl)
   |12,y=>injection y with y;subst y;refine⟨?_,?_,?_,?_,?_,?_⟩<;>(rw[Yj];rfl)
   |13,y=>injection y with y;subst y;refine⟨?_,?_,?_,?_,?_,?_⟩<;>(rw[Yj];rfl)
   |14,y=>injection y with y;subst y;refine⟨?_,?_,?_,?_,?_,?_⟩<;>(rw[Yj];rfl)
   |15,y=>injection y with y;subst y;refine⟨?_,?_,?_,?_,?_,?_⟩<;>(rw[Yj];rfl)
   |16,y=>injection y with y;subst y;refine⟨?_,?_,?_,?_,?_,?_⟩<;>(rw[Yj];rfl)
   |17,y=>injection y with y;subst y;refine⟨?_,?_,?_,?_,?_,?_⟩<;>(rw[Yj];rfl)
   |j+18,y=>simp[items]at y
  .intro i C
   match i,C with
   |0,_=>exact⟨bJ (bJ lZ D.size) Zy,(Zg z _ _ (bJ lZ D.size)).t ((D.cell lZ).t pj)⟩
   |1,_=>exact⟨bJ (bJ cW eY.size) Zy,(Zg z _ _ (bJ cW eY.size)).t ((eY.cell cW).t eH)⟩
   |2,_=>exact⟨bJ (bJ dh fP.size) Zy,(Zg z _ _ (bJ dh fP.size)).t ((fP.cell dh).t ev)⟩
   |3,_=>exact⟨bJ (bJ BS gd.size) Zy,(Zg z _ _ (bJ BS gd.size)).t ((gd.cell BS).t mi)⟩
   |4,_=>exact⟨bJ (bJ Fk ly.size) Zy,(Zg z _ _ (bJ Fk ly.size)).t ((ly.cell Fk).t sH)⟩
   |5,_=>exact⟨bJ (bJ O7 jU.size) Zy,(Zg z _ _ (bJ O7 jU.size)).t ((jU.cell O7).t oF)⟩
   |6,_=>exact⟨bJ (bJ O8 yn.size) Zy,(Zg z _ _ (bJ O8 yn.size)).t ((yn.cell O8).t xm)⟩
   |7,_=>exact⟨bJ (bJ O9 pC.size) Zy,(Zg z _ _ (bJ O9 pC.size)).t ((pC.cell O9).t Pr)⟩
   |8,_=>exact⟨bJ (bJ O5 yl.size) Zy,(Zg z _ _ (bJ O5 yl.size)).t ((yl.cell O5).t O)⟩
   |9,_=>exact⟨bJ O6 Zy,(Zg z _ _ O6).t U⟩
  .intro i C
   match i,C with
   |0,_=>exact(YU _)
   |1,_=>exact cA
   |2,_=>exact a_
   |3,_=>exact bd
   |4,_=>exact gJ
   |5,_=>exact vX
   |6,_=>exact Dt
   |7,_=>exact Au
   |8,_=>exact mL
   |9,_=>exact IH
 intro W0 KT;clear mG;clear pj lZ eH cW ev dh mi BS sH Fk oF O7 xm O8 Pr O9 O O5 U O6 tG jE aC bP au aZ aM du aV gP bx kV cL uL jj ES gm I jW J pZ F OM G D eY fP gd ly jU ym lW yn pC yl cA a_ bd gJ vX mK qg Dt Au mL IH he2;suffices h:∀(b:Nat->Nat)(r:Nat)(_:bc9 w b r W0)(v1 v5 v6 v7 v8 v9 jo rR td rS V X Y Z da6 da7 da8 da9 v22 db0 db1 v25:XP),Code.wp _ _ _ (Act.mk (List.toArray ((.map XM)::v1::(.map (XL w.heap.size))::YQ::YQ::v5::v6::v7::v8::v9::jo::rR::td::rS::V::X::Y::Z::da6::da7::da8::da9::v22::db0::db1::v25::(Zk (XL (r 0 XM)) 18 18)::(ah 18)::(ah 0)::YQ::YQ::YQ::YQ::YQ::YQ::YQ::YQ::YQ::[])) []) W0 from h _ _ KT _ _ _ _ _ _ _ _ _ _ _ _ _ _ _ _ _ _ _ _ _ _
 clear KT;intro b r hW v1 v5 v6 v7 v8 v9 jo rR td rS V X Y Z da6 da7 da8 da9 v22 db0 db1 v25;have H:=aj hW;clear hW A Ka;go_loopw [28] (λi wr=>∃k:Nat,k<=18/\i=ah k/\gy wr w (((items b).take k).map lN.kv)/\Below w w wr/\FU w W0 wr) (λi _=>18 - (X8 i).toNat)
 case atStart=>exact⟨0,bU _,rfl,H.map,H.below,FU.refl _ _⟩
 case round=>
  obtain⟨k,hk,rfl,ct0,hb,cs5⟩:=hrel;have HM:=aj ct0;have HK:=aj cs5;clear ct0 cs5;by_cases ap:k<18
  .obtain⟨x,hx⟩:∃x,(items b)[k]?=some x:=⟨_,List.getElem?_eq_getElem (by rw[Qn];exact ap)⟩;have HX:=aj hx;have eJ:=(H.rows k x hx).keep λo=>HK.2 r o H.ne H.lt;have VQ:=aj (et7 hx);obtain⟨c0,c1,c2,c3,c4,c5⟩:=eJ;unfold bH at c2 c3 c4 c5;obtain⟨i1,i2⟩:=dt ap;refine Pz λi3=>?_;clear hx
   go_wp2_with(first
    |(refine xx _ rfl (Zt 32) (Zt 34) (Zt 35) 95 (.inl rfl) 9 93 _ underlying95 YP w _ rfl (HM.later (ak (am _) _)) (X2 (bs x.word)) x.val rfl rfl zd VQ ?_;intro w' hL hT))
   refine⟨⟨k+1,by omega,by go_num,?_,hT.1 w w (ak hb _) (ar _),HK.put hT⟩,by simp[X8];omega⟩;rw[YE,HX.o,Yp];exact hL
  .go_wp2_with fail
   go_ret;obtain rfl:k=18:=Zv;refine⟨w.heap.size,b,rfl,?_,?_,H.fresh,ar _,hb⟩
   .have h:=HM.o
    rwa [Ye (by rw[Qn];exact ar _)]at h
   .intro i C;obtain⟨h1,h2⟩:=H.boxes i C;exact⟨bJ h1 HK.1,(HK.2 _ _ (Nat.ne_of_gt (H.fresh i C)) h1).t h2⟩
def et8{W w:XO}{b:Nat}(h:W.grownBy w (XL b))(q:Nat):W.grownBy (w.drewN q) (XL b):=⟨h.os,h.tape,h.output,h.size,h.block⟩
section
variable {P:Zh} {ops:Array YO} {Q:Exit->Act->XO->Prop} {md:Y4}
end
def et9(k:Int)(v:XP)(l:List ByteArray)(W:XO)(j:Nat)(h:cP W j v l)(C:l.length≠3):
 X4 X3 126 #[az j,v] W (mw W j (vh k l)):=by
 have z:vh k l=none:=by unfold vh;rw[if_neg C]
 rw[z];obtain⟨A,n,c,rfl,hl,hc,hm⟩:=h.form;have F:((n:Int)==3)=false:=bN;have G:XN ((n:Int)=3)=false:=bN;clear h z;simp only[az];go_enter func126,ntmps126;go_wp2_with fail
 go_quiet (fail)
 all_goals go_wp2_with fail
 all_goals
  go_ret;exact⟨et8 (Zl _ _) _,rfl,λy D=>by cases D⟩
def eu0(k:Int)(v:XP)(l:List ByteArray)(W:XO)(pa:Nat)(hG:dd W)(C:fX W pa (cG k) aP aP)(U:8<=pa)(h:cP W pa v l)(bm:∀s∈l,s.size<=1000000)(O:l.length=3)(hq:iB (l.take 2) 2=XM):
 X4 X3 126 #[az pa,v] W (mw W pa (vh k l)):=by
 have ap:=C.lt;have I:vh k l=none:=by unfold vh;rw[if_pos O,hq];rfl
 rw[I];obtain⟨A,n,c,rfl,hl,hc,hm⟩:=h.form;obtain rfl:n=3:=Zv;obtain⟨bl,ol,rfl,jG,bo⟩:=h.at_ 0 Zv;have hcell2:=bo 2 Zv;have J:=aj C;have Y:=aj hcell2;refine bd0 λHT HS HZ HQ uq Hy If aT iF i2 n2=>?_;clear hG C h bm bo hcell2 hq I;simp only[az];go_enter func126,ntmps126;go_wp2_with fail
 refine ty 26 ?_;iterate 12 refine kB 26 5 ?_
 refine h_ 12 λK z=>?_;go_simp;refine z _ _ ?_;clear z K;refine aH ?_;refine h_ 13 λK z=>?_;go_simp;refine(F_ _ (l.take 2) [1,2] 2 W _ pa 45 _ _ Hy pa rfl (Sl.below HT If) (ar _) bN HS uq (λj D=>by
  match j,D with
  |0,_=>go_simp;try rfl
  |1,_=>go_simp;try rfl) iF Zy U (((aW (ak (am W) _)).block _ ap).t J) (λj D=>by
  match j,D with
  |0,_=>show _<10;decide
  |1,_=>show _<10;decide)).mono ?_
 rintro e Z F;have G:=F.ret;rw[show iB (l.take 2) [1,2].length=_ from HQ.o]at G;subst G;have X:=F.2;rw[show iB (l.take 2) [1,2].length=_ from HQ.o]at X;go_simp;refine z _ _ ?_;clear z K;refine aH ?_;iterate 2 refine kB 26 5 ?_
 iterate 8 refine FC 26 5 ?_
 refine nX 24 29 ?_;refine nX 25 4 ?_;refine yg ?_;go_wp2_with fail
 go_ret;exact⟨AN (aW (ak (am W) _)) F.1,rfl,λy V=>by cases V⟩
def eu1(k:Int)(v:XP)(l:List ByteArray)(W:XO)(pa:Nat)(hG:dd W)(G:fX W pa (cG k) aP aP)(F:8<=pa)(h:cP W pa v l)(bm:∀s∈l,s.size<=1000000)(h3:l.length=3)(D:List Int)(hq:iB (l.take 2) 2=XL D):
 X4 X3 126 #[az pa,v] W (mw W pa (vh k l)):=by
 have ap:=G.lt;have O:vh k l=(bX (aK l 2)).map λu=>{cG k with a:=cY D 0,b:=cY D 1,val:=u}:=by unfold vh;rw[if_pos h3,hq];rfl
 rw[O];obtain⟨A,n,c,rfl,hl,hc,hm⟩:=h.form;obtain rfl:n=3:=Zv;obtain⟨bl,ol,rfl,jG,bo⟩:=h.at_ 0 Zv;have hcell2:=bo 2 Zv;have X:=aj G;have Y:=aj hcell2;refine bd0 λHT HS HZ HQ uq Hy If aT iF i2 n2=>?_;clear hG G h bm bo hcell2 hq O;simp only[az];go_enter func126,ntmps126;go_wp2_with fail
 refine ty 26 ?_;iterate 12 refine kB 26 5 ?_
 refine h_ 12 λK z=>?_;go_simp;refine z _ _ ?_;clear z K;refine aH ?_;refine h_ 13 λK z=>?_;go_simp;refine(F_ _ (l.take 2) [1,2] 2 W _ pa 45 _ _ Hy pa rfl (Sl.below HT If) (ar _) bN HS uq (λj I=>by
  match j,I with
  |0,_=>go_simp;try rfl
  |1,_=>go_simp;try rfl) iF Zy F (((aW (ak (am W) _)).block _ ap).t X) (λj I=>by
  match j,I with
  |0,_=>show _<10;decide
  |1,_=>show _<10;decide)).mono ?_
 rintro e V C;have J:=C.ret;rw[show iB (l.take 2) [1,2].length=_ from HQ.o]at J;subst J;have U:=C.2;rw[show iB (l.take 2) [1,2].length=_ from HQ.o]at U;have tH:=U.2;have e2:aa V bl (ol+2) (X2 (aK l 2)):=(World.grownBy.cell_far C.1 (bl (ol+2) XM) bN (λe=>absurd (show bl=pa by injection e) Zv)).t ((If.cell (p:=bl (ol+2) XM) jG).t Y);go_simp;refine z _ _ ?_;clear z K;refine aH ?_;iterate 4 refine kB 26 5 ?_
 iterate 4 refine kB 27 5 ?_
 refine h_ 18 λK z=>?_;go_simp;refine z _ _ ?_;clear z K;refine aH ?_;refine h_ 23 λK z=>?_;go_simp;refine(PX (aK l 2) pa 6 45 _ V (Hy.grown C.1 F) HZ F tH (by rw[L4];show 6<10;decide)).m ?_;rintro e w2 ⟨pe,u,Z,rfl,dr⟩;go_simp;refine z _ _ ?_;clear z K;refine aH ?_;refine nX 24 29 ?_;refine nX 25 4 ?_;refine yg ?_;go_wp2_with fail
 go_ret;have kF:=AN (aW (ak (am W) _)) C.1;refine⟨XG kF pe,?_,λy hy=>?_⟩
 .show YT (Zp (bX (aK l 2)).isSome)=_;rw[Option.isSome_map]
 .obtain⟨a,ha,rfl⟩:=Option.map_eq_some_iff.1 hy;have:=dr _ ha;subst this;have oE:=F' HQ.o
  match D,oE with
  |[p,q],_=>exact⟨aP,aP,Z.t rfl,aS.nil_ _ _,aS.nil_ _ _,kO.nil _,kO.nil _⟩
def eu2(k:Int)(v:XP)(l:List ByteArray)(W:XO)(c:Nat)(A:dd W)(C:fX W c (cG k) aP aP)(z:8<=c)(h:cP W c v l)(y:∀s∈l,s.size<=1000000):
 X4 X3 126 #[az c,v] W (mw W c (vh k l)):=by
 by_cases j:l.length=3
 .cases hq:iB (l.take 2) 2 with
  |none=>exact eu0 k v l W c A C z h y j hq
  |some vs=>exact eu1 k v l W c A C z h y j vs hq
 .exact et9 k v l W c h j
def eu3{W w:XO}{b:Nat}(h:W.grownBy w (XL b))(o:Obj):W.grownBy (w.alloc o) (XL b):=
 ⟨h.os,h.tape,h.output,bC h.size Zy,λi j y=>(Below.heap_alloc w o i (bJ j h.size)).t (h.block i j y)⟩
def eu4(k:Int)(v:XP)(l:List ByteArray)(W:XO)(j:Nat)(h:cP W j v l)(C:l.length<2):
 X4 X3 120 #[az j,v] W (mw W j (sL k l)):=by
 have z:sL k l=none:=by unfold sL;rw[if_pos C]
 rw[z];obtain⟨A,n,c,rfl,hl,hc,hm⟩:=h.form;have F:((n:Int)<2):=Zv;clear h z;simp only[az];go_enter func120,ntmps120;go_wp2_with fail
 go_ret;exact⟨Zl _ _,rfl,λy D=>by cases D⟩
def er1(k:Int)(v:XP)(l:List ByteArray)(W:XO)(pa:Nat)(hG:dd W)(hb:fX W pa (cG k) aP aP)(G:8<=pa)(h:cP W pa v l)(bm:∀s∈l,s.size<=1000000)(C:l.length<=100000)(F:2<=l.length)(hq:t_ (l.drop 2)=XM)(cM:∀A n c,v=Zk A n c->¬c=2):
 X4 X3 120 #[az pa,v] W (mw W pa (sL k l)):=by
 have ap:=hb.lt;have j:sL k l=none:=TP;rw[j];obtain⟨A,n,c,rfl,hl,hc,hm⟩:=h.form;obtain⟨bl,ol,rfl,jG,bo⟩:=h.at_ 0 Zv;refine bd1 λrp UX i1 g0 i2 i3 n1 n2 L0 eq=>?_;rw[eq,hq]at L0;unfold t9 at L0;refine aa3 λHL HB HT HS uq HG=>?_;clear hG hb h bm C L0 bo cM rp hq j eq hl;simp only[az];go_enter func120,ntmps120
 go_wp2_with(first
  |(go_at_call 121;refine(HL).m ?_;rintro e w1 ⟨aC,r,rfl,z⟩;obtain⟨p0,p1,p2,p3⟩:=r;unfold qQ;have D:=aj z;clear z;refine Dx λr1=>?_;rw[qm]at r1;refine aa4 λd4 f4 d5 f5 d6 f6 d7 f7 Fm aT iF R1=>?_;clear r1))
 exact bd2
def er2(k:Int)(v:XP)(l:List ByteArray)(W:XO)(pa:Nat)(hG:dd W)(hb:fX W pa (cG k) aP aP)(O:8<=pa)(h:cP W pa v l)(bm:∀s∈l,s.size<=1000000)(G:l.length<=100000)(J:2<=l.length)(hq:t_ (l.drop 2)=XM)(j:∀A n c,v=Zk A n c->c=2):
 X4 X3 120 #[az pa,v] W (mw W pa (sL k l)):=by
 have ap:=hb.lt;have C:sL k l=none:=TP;rw[C];obtain⟨A,n,c,rfl,hl,hc,hm⟩:=h.form;obtain⟨bl,ol,rfl,jG,bo⟩:=h.at_ 0 Zv;have F:∀s∈l.drop 2,s.size<=1000000:=λs hs=>bm s (Y6 hs);obtain rfl:c=2:=j _ _ _ rfl;obtain rfl:n=2:=Zv;have hd:l.drop 2=[]:=TI;have L0:=λA=>ah6 (Zk A 0 0) (l.drop 2) W hG Ot F;have z:(if(l.drop 2).length<2 then XM else xB (l.drop 2))=t_ (l.drop 2):=rfl;rw[z,hq]at L0;unfold t9 at L0;refine aa3 λHL HB HT HS uq HG=>?_;clear hG hb h bm G L0 bo j F hq C z hl;simp only[az];go_enter func120,ntmps120
 go_wp2_with(first
  |(go_at_call 121;refine(HL _).m ?_;rintro e w1 ⟨aC,r,rfl,D⟩;obtain⟨p0,p1,p2,p3⟩:=r;unfold qQ;have I:=aj D;clear D;refine Dx λr1=>?_;rw[qm]at r1;refine aa4 λd4 f4 d5 f5 d6 f6 d7 f7 Fm aT iF R1=>?_;clear r1))
 exact bd2
def er3(k:Int)(v:XP)(l:List ByteArray)(W:XO)(pa:Nat)(hG:dd W)(hb:fX W pa (cG k) aP aP)(J:8<=pa)(h:cP W pa v l)(bm:∀s∈l,s.size<=1000000)(hn:l.length<=100000)(h2:2<=l.length)(q:Int×ByteArray×Int×Int)(hq:t_ (l.drop 2)=XL q)(cM:∀A n c,v=Zk A n c->¬c=2):
 X4 X3 120 #[az pa,v] W (mw W pa (sL k l)):=by
 have ap:=hb.lt;have O:sL k l=(iB (l.take 2) 2).map λC=>{cG k with a:=cY C 0,b:=cY C 1,ok:=q.1,key:=q.2.1,val:=q.2.2.1,old:=q.2.2.2}:=TP;rw[O];obtain⟨A,n,c,rfl,hl,hc,hm⟩:=h.form;obtain⟨bl,ol,rfl,jG,bo⟩:=h.at_ 0 Zv;refine bd1 λrp UX i1 g0 i2 i3 n1 n2 L0 eq=>?_;rw[eq,hq]at L0;unfold t9 at L0;refine aa3 λHL HB HT HS uq HG=>?_;clear hG hb h bm hn L0 bo cM rp hq O eq hl;simp only[az];go_enter func120,ntmps120
 go_wp2_with(first
  |(go_at_call 121;refine(HL).m ?_;rintro e w1 ⟨aC,r,rfl,V⟩;obtain⟨p0,p1,p2,p3⟩:=r;unfold qQ;have X:=aj V;clear V;refine Dx λr1=>?_;rw[qm]at r1;refine aa4 λd4 f4 d5 f5 d6 f6 d7 f7 Fm aT iF R1=>?_;clear r1))
 refine bd3 λtJ ir r2 fL=>?_;generalize uV:((((((w1.setCell (pa 4 XM) (ah p0)).setCell (pa 5 XM) (X2 p1)).setCell (pa 6 XM) (ah p2)).setCell (pa 7 XM) (ah p3))).alloc (Zq #[p0,p1,p2,p3] 43))=w2 at ir r2 fL⊢
 have I:pa<w2:=bJ ap ir.size;clear uV tJ d4 f4 d5 f5 d6 f6 d7 f7 aT iF Fm aC R1;have Y:=aj r2;clear r2;have aT:¬pa=w2:=Zv;have iF:¬w2.heap.size=pa:=Zv;have Z:dd (w2.alloc (Zq #[Zs (XL (pa 1 XM)),Zs (XL (pa 2 XM))] 158)).drew:=(HG.grown ir J).step (aW (ak (am w2) _));have D:Below pa W (w2.alloc (Zq #[Zs (XL (pa 1 XM)),Zs (XL (pa 2 XM))] 158)).drew:=FE (fL.alloc (fK I) _);refine ty 14 ?_;iterate 10 refine kB 14 20 ?_
 refine h_ 10 λK z=>?_;go_simp;refine z _ _ ?_;clear z K;refine aH ?_;refine h_ 11 λK z=>?_;go_simp;refine(F_ _ (l.take 2) [1,2] 2 w2 _ pa 45 _ _ Z pa rfl (Sl.below HT D) (ar _) bN HS uq (λj F=>by
  match j,F with
  |0,_=>go_simp;try rfl
  |1,_=>go_simp;try rfl) iF Zy J (((aW (ak (am w2) _)).block _ I).t Y) (λj F=>by
  match j,F with
  |0,_=>show _<10;decide
  |1,_=>show _<10;decide)).mono ?_
 rintro e w3 G;have he:=G.ret;subst he;go_simp;refine z _ _ ?_;clear z K;refine aH ?_;refine nX 12 32 ?_;refine nX 13 4 ?_;refine yg ?_;go_wp2_with fail
 go_ret;have kF:=AN (aW (ak (am w2) _)) G.1;have U:=G.2;refine⟨XG ir kF,?_,λy hy=>?_⟩
 .show YT (Zp (iB (l.take 2) 2).isSome)=_;rw[Option.isSome_map]
 .obtain⟨C,hv,rfl⟩:=Option.map_eq_some_iff.1 hy;have e1:iB (l.take 2) [1,2].length=some C:=hv;rw[e1]at U;have oE:=F' hv;have:=X q rfl;subst this
  match C,oE with
  |[p,r],_=>exact⟨aP,aP,U.2.t rfl,aS.nil_ _ _,aS.nil_ _ _,kO.nil _,kO.nil _⟩
def er4(k:Int)(v:XP)(l:List ByteArray)(W:XO)(j:Nat)(D:dd W)(F:fX W j (cG k) aP aP)(C:8<=j)(h:cP W j v l)(z:∀s∈l,s.size<=1000000)(G:l.length<=100000):
 X4 X3 120 #[az j,v] W (mw W j (sL k l)):=by
 by_cases U:l.length<2
 .exact eu4 k v l W j h U
 obtain⟨A,n,c,rfl,hl,hc,hm⟩:=h.form;by_cases V:c=2
 .have y:t_ (l.drop 2)=none:=by
   have:l.drop 2=[]:=TI;rw[this];rfl
  exact er2 k _ l W j D F C h z G Zv y (λI O J e=>by injection e with _ _ e;omega)
 .cases y:t_ (l.drop 2)with
  |none=>exact er1 k _ l W j D F C h z G Zv y (λI O J e=>by injection e with _ _ e;omega)
  |some q=>exact er3 k _ l W j D F C h z G Zv q y (λI O J e=>by injection e with _ _ e;omega)
structure kR(w:XO)(k:Nat)(x:lN):Prop where
 kind:x.kind=k
 word:x.word=cb k
 lt:k<18
 eu:d_ x.gu
 ef:d_ x.gf
 er:d_ x.gr
 et:d_ x.gt
 caps:x.caps= #[]\/∃b,x.caps= #[az b]
 used:∀(y:aQ)(m s:XP)(W:XO)(px pa:Nat),(∃A n c,m=Zk A n c)->(∃A n c,s=Zk A n c)->fX W px (cG k) aP aP->kM W pa y m s->px≠pa->
  X4 X3 x.gu #[az px,az pa] W (AE W px (cI {y with kind:=k}) (if k=15 then m else aP) (if k=5 then s else aP))
 fits:∀(y:aQ)(m s:XP)(W:XO),Below w w W->aN y.a->aS W W m y.ms->aS W W s y.ss->y.ms.length<=1000000->y.ss.length<=1000000->
  aR x.gf (#[Zr (y.cells m s)]++x.caps) W (Zp (Mz k y))
 read:∀(v:XP)(l:List ByteArray)(W:XO)(pa:Nat),dd W->fX W pa (cG k) aP aP->8<=pa->cP W pa v l->(∀s∈l,s.size<=1000000)->l.length<=100000->
  X4 X3 x.gr #[az pa,v] W (mw W pa (iR k l))
 text:∀(y:aQ)(m s:XP)(W:XO),dd W->y.In W W m s->y.ms.length<=100000->y.ss.length<=100000->(k=10->0<=y.ok/\y.ok<=3)->
  X4 X3 x.gt #[Zr (y.cells m s)] W (fY W ((dH {y with kind:=k}).map bs))
def bd4(l:List Int):(l.map XS).map bs=l.map rB:=by rw[YM];rfl
def er5(y:aQ):(kN y).map bs=xz y:=by
 unfold kN xz;have e:=nY y.key;repeat' split
 all_goals simp[e]
def er6(w:XO)(b:Nat)(z:ae w b (bH 103 #[]))(C:b<w):
 kR w 0 ⟨cb 0,0,217,218,#[az b],219,220⟩ where
 kind:=rfl
 word:=rfl
 lt:=Zv
 eu:=XX func217 aI rfl
 ef:=XX func218 aI rfl
 er:=XX func219 aI rfl
 et:=XX func220 aI rfl
 caps:= .inr ⟨b,rfl⟩
 used:=λy m s W Y A hm V U F G=>(AF 0 y m s W Y A hm V U F G)
 fits:=λy m s W D F _ _ _ _=>AD y m s W 103 b _ (XX func103 aI rfl) (λW=>PR y.a W) ((D.cell (p:=b) C).t z) (bJ C D.size)
 read:=λv l W A j z J h I O=>AO 0 v l W A j z J h I O
 text:=λy m s W j X _ _ _=>AG y m s W j X.a
def er7(w:XO)(b:Nat)(z:ae w b (bH 103 #[]))(C:b<w):
 kR w 1 ⟨cb 1,1,217,218,#[az b],219,220⟩ where
 kind:=rfl
 word:=rfl
 lt:=Zv
 eu:=XX func217 aI rfl
 ef:=XX func218 aI rfl
 er:=XX func219 aI rfl
 et:=XX func220 aI rfl
 caps:= .inr ⟨b,rfl⟩
 used:=λy m s W Y A hm V U F G=>(AF 1 y m s W Y A hm V U F G)
 fits:=λy m s W D F _ _ _ _=>AD y m s W 103 b _ (XX func103 aI rfl) (λW=>PR y.a W) ((D.cell (p:=b) C).t z) (bJ C D.size)
 read:=λv l W A j z J h I O=>AO 1 v l W A j z J h I O
 text:=λy m s W j X _ _ _=>AG y m s W j X.a
def er8(w:XO)(b:Nat)(z:ae w b (bH 103 #[]))(C:b<w):
 kR w 2 ⟨cb 2,2,217,218,#[az b],219,220⟩ where
 kind:=rfl
 word:=rfl
 lt:=Zv
 eu:=XX func217 aI rfl
 ef:=XX func218 aI rfl
 er:=XX func219 aI rfl
 et:=XX func220 aI rfl
 caps:= .inr ⟨b,rfl⟩
 used:=λy m s W Y A hm V U F G=>(AF 2 y m s W Y A hm V U F G)
 fits:=λy m s W D F _ _ _ _=>AD y m s W 103 b _ (XX func103 aI rfl) (λW=>PR y.a W) ((D.cell (p:=b) C).t z) (bJ C D.size)
 read:=λv l W A j z J h I O=>AO 2 v l W A j z J h I O
 text:=λy m s W j X _ _ _=>AG y m s W j X.a
def er9(w:XO)(b:Nat)(z:ae w b (bH 100 #[]))(C:b<w):
 kR w 3 ⟨cb 3,3,217,218,#[az b],219,220⟩ where
 kind:=rfl
 word:=rfl
 lt:=Zv
 eu:=XX func217 aI rfl
 ef:=XX func218 aI rfl
 er:=XX func219 aI rfl
 et:=XX func220 aI rfl
 caps:= .inr ⟨b,rfl⟩
 used:=λy m s W Y A hm V U F G=>(AF 3 y m s W Y A hm V U F G)
 fits:=λy m s W D F _ _ _ _=>AD y m s W 100 b _ (XX func100 aI rfl) (λW=>za y.a W) ((D.cell (p:=b) C).t z) (bJ C D.size)
 read:=λv l W A j z J h I O=>AO 3 v l W A j z J h I O
 text:=λy m s W j X _ _ _=>AG y m s W j X.a
def es0(w:XO)(b:Nat)(z:ae w b (bH 100 #[]))(C:b<w):
 kR w 6 ⟨cb 6,6,217,218,#[az b],219,220⟩ where
 kind:=rfl
 word:=rfl
 lt:=Zv
 eu:=XX func217 aI rfl
 ef:=XX func218 aI rfl
 er:=XX func219 aI rfl
 et:=XX func220 aI rfl
 caps:= .inr ⟨b,rfl⟩
 used:=λy m s W Y A hm V U F G=>(AF 6 y m s W Y A hm V U F G)
 fits:=λy m s W D F _ _ _ _=>AD y m s W 100 b _ (XX func100 aI rfl) (λW=>za y.a W) ((D.cell (p:=b) C).t z) (bJ C D.size)
 read:=λv l W A j z J h I O=>AO 6 v l W A j z J h I O
 text:=λy m s W j X _ _ _=>AG y m s W j X.a
def fa2(w:XO)(b:Nat)(z:ae w b (bH 100 #[]))(C:b<w):
 kR w 13 ⟨cb 13,13,217,218,#[az b],219,220⟩ where
 kind:=rfl
 word:=rfl
 lt:=Zv
 eu:=XX func217 aI rfl
 ef:=XX func218 aI rfl
 er:=XX func219 aI rfl
 et:=XX func220 aI rfl
 caps:= .inr ⟨b,rfl⟩
 used:=λy m s W Y A hm V U F G=>(AF 13 y m s W Y A hm V U F G)
 fits:=λy m s W D F _ _ _ _=>AD y m s W 100 b _ (XX func100 aI rfl) (λW=>za y.a W) ((D.cell (p:=b) C).t z) (bJ C D.size)
 read:=λv l W A j z J h I O=>AO 13 v l W A j z J h I O
 text:=λy m s W j X _ _ _=>AG y m s W j X.a
def fa3(w:XO)(b:Nat)(A:ae w b (bH 99 #[]))(D:b<w):
 kR w 8 ⟨cb 8,8,217,218,#[az b],219,220⟩ where
 kind:=rfl
 word:=rfl
 lt:=Zv
 eu:=XX func217 aI rfl
 ef:=XX func218 aI rfl
 er:=XX func219 aI rfl
 et:=XX func220 aI rfl
 caps:= .inr ⟨b,rfl⟩
 used:=λy m s W Y C hm V U z G=>(AF 8 y m s W Y C hm V U z G)
 fits:=λy m s W F z _ _ _ _=>AD y m s W 99 b _ (XX func99 aI rfl) (λW=>am3 y.a z W) ((F.cell (p:=b) D).t A) (bJ D F.size)
 read:=λv l W C j A J h I O=>AO 8 v l W C j A J h I O
 text:=λy m s W j X _ _ _=>AG y m s W j X.a
def fa4(w:XO)(b:Nat)(A:ae w b (bH 99 #[]))(D:b<w):
 kR w 9 ⟨cb 9,9,217,218,#[az b],219,220⟩ where
 kind:=rfl
 word:=rfl
 lt:=Zv
 eu:=XX func217 aI rfl
 ef:=XX func218 aI rfl
 er:=XX func219 aI rfl
 et:=XX func220 aI rfl
 caps:= .inr ⟨b,rfl⟩
 used:=λy m s W Y C hm V U z G=>(AF 9 y m s W Y C hm V U z G)
 fits:=λy m s W F z _ _ _ _=>AD y m s W 99 b _ (XX func99 aI rfl) (λW=>am3 y.a z W) ((F.cell (p:=b) D).t A) (bJ D F.size)
 read:=λv l W C j A J h I O=>AO 9 v l W C j A J h I O
 text:=λy m s W j X _ _ _=>AG y m s W j X.a
def fa5(w:XO)(b:Nat)(z:ae w b (bH 101 #[]))(C:b<w):
 kR w 11 ⟨cb 11,11,217,218,#[az b],219,220⟩ where
 kind:=rfl
 word:=rfl
 lt:=Zv
 eu:=XX func217 aI rfl
 ef:=XX func218 aI rfl
 er:=XX func219 aI rfl
 et:=XX func220 aI rfl
 caps:= .inr ⟨b,rfl⟩
 used:=λy m s W Y A hm V U F G=>(AF 11 y m s W Y A hm V U F G)
 fits:=λy m s W D F _ _ _ _=>AD y m s W 101 b _ (XX func101 aI rfl) (λW=>LZ y.a W) ((D.cell (p:=b) C).t z) (bJ C D.size)
 read:=λv l W A j z J h I O=>AO 11 v l W A j z J h I O
 text:=λy m s W j X _ _ _=>AG y m s W j X.a
def fa6(w:XO)(b:Nat)(z:ae w b (bH 105 #[]))(C:b<w):
 kR w 17 ⟨cb 17,17,217,218,#[az b],219,220⟩ where
 kind:=rfl
 word:=rfl
 lt:=Zv
 eu:=XX func217 aI rfl
 ef:=XX func218 aI rfl
 er:=XX func219 aI rfl
 et:=XX func220 aI rfl
 caps:= .inr ⟨b,rfl⟩
 used:=λy m s W Y A hm V U F G=>(AF 17 y m s W Y A hm V U F G)
 fits:=λy m s W D F _ _ _ _=>AD y m s W 105 b _ (XX func105 aI rfl) (λW=>dr6 y.a W) ((D.cell (p:=b) C).t z) (bJ C D.size)
 read:=λv l W A j z J h I O=>AO 17 v l W A j z J h I O
 text:=λy m s W j X _ _ _=>AG y m s W j X.a
def fa7(w:XO):kR w 4 ⟨cb 4,4,221,222,#[],223,224⟩ where
 kind:=rfl
 word:=rfl
 lt:=Zv
 eu:=XX func221 aI rfl
 ef:=XX func222 aI rfl
 er:=XX func223 aI rfl
 et:=XX func224 aI rfl
 caps:= .inl rfl
 used:=λy m s W I c hm F D j z=>(aj8 4 y m s W I c hm F D j z)
 fits:=λy m s W Z j U V G J=>(aj6 y m s W)
 read:=λv l W c A C Y h O hn=>ah8 4 v l W c C h
 text:=λy m s W A hy G J X=>(ak2 y m s W)
def fa8(w:XO):kR w 16 ⟨cb 16,16,221,222,#[],223,224⟩ where
 kind:=rfl
 word:=rfl
 lt:=Zv
 eu:=XX func221 aI rfl
 ef:=XX func222 aI rfl
 er:=XX func223 aI rfl
 et:=XX func224 aI rfl
 caps:= .inl rfl
 used:=λy m s W I c hm F D j z=>(aj8 16 y m s W I c hm F D j z)
 fits:=λy m s W Z j U V G J=>(aj6 y m s W)
 read:=λv l W c A C Y h O hn=>ah8 16 v l W c C h
 text:=λy m s W A hy G J X=>(ak2 y m s W)
def fa9(w:XO):kR w 5 ⟨cb 5,5,106,107,#[],110,111⟩ where
 kind:=rfl
 word:=rfl
 lt:=Zv
 eu:=XX func106 aI rfl
 ef:=XX func107 aI rfl
 er:=XX func110 aI rfl
 et:=XX func111 aI rfl
 caps:= .inl rfl
 used:=λy m s W Y j hm V U A D=>(ea7 5 y m s W Y j hm V U A D)
 fits:=λy m s W hB A Z G X z=>(ea6 y m s W G z)
 read:=λv l W j c J I h F O=>ed6 5 v l W j c J I h F O
 text:=λy m s W c C X z dO=>by have:=dw7 y m s W c C.a C.ss z;rw[<-bd4]at this;exact this
def fb0(w:XO):kR w 7 ⟨cb 7,7,112,113,#[],114,115⟩ where
 kind:=rfl
 word:=rfl
 lt:=Zv
 eu:=XX func112 aI rfl
 ef:=XX func113 aI rfl
 er:=XX func114 aI rfl
 et:=XX func115 aI rfl
 caps:= .inl rfl
 used:=λy m s W V j hm O J z C=>(ea8 7 y m s W V j hm O J z C)
 fits:=λy m s W hB z Y Z U X=>(ea2 y m s W)
 read:=λv l W j c G F h D I=>dy0 7 v l W j c G F h D I
 text:=λy m s W c A U X dO=>(dw4 y m s W c A.a A.b)
def fb1(w:XO):kR w 10 ⟨cb 10,10,116,117,#[],120,122⟩ where
 kind:=rfl
 word:=rfl
 lt:=Zv
 eu:=XX func116 aI rfl
 ef:=XX func117 aI rfl
 er:=XX func120 aI rfl
 et:=XX func122 aI rfl
 caps:= .inl rfl
 used:=λy m s W X z hm U O C D=>(ea9 10 y m s W X z hm U O C D)
 fits:=λy m s W hB C Z dB V Y=>(ea5 y m s W)
 read:=λv l W z j I G h F J=>er4 10 v l W z j I G h F J
 text:=λy m s W j c V Y A=>by have:=dw9 y m s W j c.a c.b c.val c.old (A rfl).1 (A rfl).2;rw[<-er5]at this;exact this
def fb2(w:XO):kR w 12 ⟨cb 12,12,124,125,#[],126,128⟩ where
 kind:=rfl
 word:=rfl
 lt:=Zv
 eu:=XX func124 aI rfl
 ef:=XX func125 aI rfl
 er:=XX func126 aI rfl
 et:=XX func128 aI rfl
 caps:= .inl rfl
 used:=λy m s W U z hm J I A C=>(dw0 12 y m s W U z hm J I A C)
 fits:=λy m s W hB A X Y O V=>(ea3 y m s W)
 read:=λv l W z c G F h D hn=>eu2 12 v l W z c G F h D
 text:=λy m s W c j O V Z=>(dw8 y m s W c j.a j.b j.val)
def fb3(w:XO):kR w 14 ⟨cb 14,14,130,131,#[],132,133⟩ where
 kind:=rfl
 word:=rfl
 lt:=Zv
 eu:=XX func130 aI rfl
 ef:=XX func131 aI rfl
 er:=XX func132 aI rfl
 et:=XX func133 aI rfl
 caps:= .inl rfl
 used:=λy m s W V z hm O J A C=>(dw1 14 y m s W V z hm O J A C)
 fits:=λy m s W hB A Y Z U X=>(ea4 y m s W)
 read:=λv l W z c G F h D I=>dy1 14 v l W z c G F h D I
 text:=λy m s W c j U X dO=>(dw5 y m s W c j.a j.b j.c)
def fb4(w:XO):kR w 15 ⟨cb 15,15,134,135,#[],136,137⟩ where
 kind:=rfl
 word:=rfl
 lt:=Zv
 eu:=XX func134 aI rfl
 ef:=XX func135 aI rfl
 er:=XX func136 aI rfl
 et:=XX func137 aI rfl
 caps:= .inl rfl
 used:=λy m s W X z hm U O A C=>(dw2 15 y m s W X z hm U O A C)
 fits:=λy m s W hB A F Z j Y=>(et1 y m s W F j)
 read:=λv l W z c I G h D J=>dy2 15 v l W z c I G h D J
 text:=λy m s W c V j Y dO=>by have:=dw6 y m s W c V.ms j;rw[<-bd4]at this;exact this
def kR.later{w w':XO}{k:Nat}{x:lN}(h:kR w k x)(j:Below w w w'):kR w' k x:=
 ⟨h.kind,h.word,h.lt,h.eu,h.ef,h.er,h.et,h.caps,h.used,λy m s W c=>h.fits y m s W (aq j c),h.read,h.text⟩
def bd5(w:XO)(b:Nat->Nat)(y:rJ w b)(j:Nat)(x:lN)(c:(items b)[j]?=XL x):∃k,yN[j]?=XL k/\kR w k x:=by
 match j,c with
 |0,c=>injection c with c;subst c;exact⟨0,rfl,er6 w _ (y 0 Zv).2 (y 0 Zv).1⟩
 |1,c=>injection c with c;subst c;exact⟨1,rfl,er7 w _ (y 1 Zv).2 (y 1 Zv).1⟩
 |2,c=>injection c with c;subst c;exact⟨2,rfl,er8 w _ (y 2 Zv).2 (y 2 Zv).1⟩
 |3,c=>injection c with c;subst c;exact⟨3,rfl,er9 w _ (y 3 Zv).2 (y 3 Zv).1⟩
 |4,c=>injection c with c;subst c;exact⟨6,rfl,es0 w _ (y 4 Zv).2 (y 4 Zv).1⟩
 |5,c=>injection c with c;subst c;exact⟨13,rfl,fa2 w _ (y 5 Zv).2 (y 5 Zv).1⟩
 |6,c=>injection c with c;subst c;exact⟨4,rfl,fa7 w⟩
 |7,c=>injection c with c;subst c;exact⟨16,rfl,fa8 w⟩
 |8,c=>injection c with c;subst c;exact⟨8,rfl,fa3 w _ (y 6 Zv).2 (y 6 Zv).1⟩
 |9,c=>injection c with c;subst c;exact⟨9,rfl,fa4 w _ (y 7 Zv).2 (y 7 Zv).1⟩
 |10,c=>injection c with c;subst c;exact⟨11,rfl,fa5 w _ (y 8 Zv).2 (y 8 Zv).1⟩
 |11,c=>injection c with c;subst c;exact⟨17,rfl,fa6 w _ (y 9 Zv).2 (y 9 Zv).1⟩
 |12,c=>injection c with c;subst c;exact⟨5,rfl,fa9 w⟩
 |13,c=>injection c with c;subst c;exact⟨7,rfl,fb0 w⟩
 |14,c=>injection c with c;subst c;exact⟨10,rfl,fb1 w⟩
 |15,c=>injection c with c;subst c;exact⟨12,rfl,fb2 w⟩
 |16,c=>injection c with c;subst c;exact⟨14,rfl,fb3 w⟩
 |17,c=>injection c with c;subst c;exact⟨15,rfl,fb4 w⟩
 |j+18,c=>simp[items]at c
def bd6:∀k,k<18->k∈yN:=aD
def aa5:Value:=Zr #[X2 ⟨#[]⟩,ah 0,.nilFunc,.nilFunc,.nilFunc,.nilFunc]
def fb5(w:XO)(k:Int)(e:Zb)(w':XO):Prop:=
 Below w w w'/\((∃(n:Nat)(x:lN),k=n/\kR w' n x/\e=YT (.tuple #[x.val,Zp XR]))\/
  ((k<0\/17<k)/\e=YT (.tuple #[aa5,Zp XQ])))
def rJ.later{w w':XO}{b:Nat->Nat}(h:rJ w b)(y:Below w w w'):rJ w' b:=λi j=>⟨bJ (h i j).1 y.size,(y.cell (p:=⟨b i,0,XM⟩) (h i j).1).t (h i j).2⟩
def fb6{k:Int}{seen:Array Nat}{b:Nat->Nat}(y:∀i,i<(items b).length->i∈seen)(z:∀i,i∈seen->∀c:Nat,yN[i]?=XL c->¬k=c):k<0\/17<k:=by apply Classical.byContradiction;intro h;obtain⟨n,rfl⟩:∃n:Nat,k=n:=⟨k.toNat,by omega⟩;obtain⟨j,hj⟩:=List.mem_iff_getElem?.1 (bd6 n Zv);have A:j<18:=(List.getElem?_eq_some_iff.1 hj).1;exact z j (y j (by rw[Qn];exact A)) n hj rfl
def Qo{w:XO}{r:Nat}{a b c d e f:XP}{t:Ya}(h:af w r #[a,b,c,d,e,f] t):
 (ae w r a/\aa w r 1 b/\aa w r 2 c/\aa w r 3 d/\aa w r 4 e/\aa w r 5 f)/\
 ∀o,w.frozen? (r o XM)=false:=
 ⟨⟨lR h Hm,lR h Hm,lR h Hm,lR h Hm,lR h Hm,lR h Hm⟩,λo=>py h o⟩
def rJ.set{w:XO}{b:Nat->Nat}{r:Nat}(h:rJ w b)(j:∀i,i<10->¬b i=r)(o:Nat)(v:XP):rJ (w.setCell (r o XM) v) b:=λi c=>⟨by simpa[YS]using(h i c).1,(XH (j i c)).t (h i c).2⟩
def rJ.alloc{w:XO}{b:Nat->Nat}(h:rJ w b)(o:Obj):rJ (w.alloc o) b:=h.later (ak (am w) o)
def aa6{w:XO}{b:Nat->Nat}{i k:Nat}{x:lN}(hx:(items b)[i]?=XL x)(j:yN[i]?=XL k)(h:rJ w b):kR w k x:=by obtain⟨k',c,h2⟩:=bd5 w b h i x hx;rw[j]at c;injection c with c;subst c;exact h2
def bd7(k:Int)(w:XO):X4 X3 45 #[k] w (fb5 w k):=by
 have HP:=aj λW=>aa2 W;go_enter func45,ntmps45
 go_wp2_with(first
  |(go_at_call 44;refine(HP _).m ?_;rintro e y ⟨M,b,rfl,hL,hX,Ac,hM,A⟩;have V:=aj (aq (ak (am w) _) A);have HL:=aj hL;have HX:=aj hX;have a_:w.heap.size<y:=dQ A Zy;obtain⟨br,bM⟩:=dE A;clear hL hX)
  |(refine dz3 _ rfl (Zt 6) 95 rfl 9 93 underlying95 M _ rfl HL ?_;intro w2 D au bL))
 have HR:=aj (show y.heap[w.heap.size]?=XL (Zq #[X2 ⟨#[]⟩,ah 0,.nilFunc,.nilFunc,.nilFunc,.nilFunc] 93 (0,0))from(A.block w Zy).t (Yy w _));have hn9:=HL.lt
 have ho0:¬w.heap.size=M:=by have:w.heap.size+1<=M:=by simpa using hM
                             omega
 have Y:=aj D;have GO:=aj (show ∀i,i<10->¬b i=w.heap.size from λi hi=>by have:=Ac i hi;simp at this;omega);clear br bM A Ac hM D HP
 go_frame
 go_loopw [8] (λ_ wr=>∃seen:Array Nat,xy wr M y ((items b).map lN.kv) seen/\Below y y wr/\∀i,i∈seen->∀z:Nat,yN[i]?=XL z->¬k=z) (λ_ wr=>wr.rangeLeft M y)
 case atStart=>exact⟨#[],Y,au,by simp⟩
 case round=>
  obtain⟨seen,D,hB,hS⟩:=hrel;have Y:=aj D;have HS:=aj hS;have hR:=(hB.block w a_).t HR.o;clear D hS;have oK:=aj hR;clear hR
  go_wp2_with(first
   |(at_next;refine wpList_step _ rfl (Zt 7) rfl M y _ seen rfl Y ?_ ?_))
  .intro dx;have HO:=aj (fb6 dx HS);clear dx;obtain⟨⟨d0,d1,d2,d3,d4,d5⟩,fr⟩:=Qo oK.o;refine Qp λf0 f1 f2 f3 f4 f5=>?_;clear fr;go_wp2_with fail
   refine bodyPost_ret (v:= .tuple #[aa5,Zp XQ]) (by simp[results,results45,go_sem,aa5,d0,d1,d2,d3,d4,d5]) rfl ?_;refine⟨?_,.inr ⟨HO,rfl⟩⟩;have hb:=(V).t (hB.mono V.size);repeat' first|with_reducible exact hb|with_reducible refine cV ?_ (ar _) _
  .intro i key v w' x hx Vx gh Uy ap X Ih;obtain⟨rfl,rfl⟩:=Prod.mk.inj Vx;have G:=X.1 y y hB (ar _);obtain⟨z,lY,hF⟩:=bd5 w' b (HX.later G) i x hx;have I:x.kind=z:=hF.kind;have HF:=aj hF;have J:=aj Uy;have dp9:=aj ap;have HT:=aj X;have hz:w.heap.size<w':=bJ a_ G.size;have gR:¬w.heap.size=w'.heap.size:=by omega
   have lC:¬w'.heap.size=w.heap.size:=Zv;have U:=(HT.2.2 w Zv).t oK.o;obtain⟨⟨d0,d1,d2,d3,d4,d5⟩,fr⟩:=Qo U;refine Qp λf0 f1 f2 f3 f4 f5=>?_;have lj:=aj U;simp only[lN.val,AX,bH]at Ih⊢
   by_cases F:k=z
   .have e1:(x.kind==k)=true:=by simp[I,F]
    have HE:=aj F;have Z:=aj lY;have wL:=aj hx;clear F I Vx hx lY gh Uy ap X fr hF U;go_wp2_with fail
    refine bodyPost_ret (v:= .tuple #[x.val,Zp XR]) (by simp[results,results45,go_sem,lN.val,AX,bH,d0,d1,d2,d3,d4,d5,hz,gR,lC]) rfl ?_;have hb:=(V).t (G.mono V.size);refine⟨?_,.inl ⟨z,x,HE,aa6 wL Z ?_,rfl⟩⟩
    .repeat' first|with_reducible exact hb|with_reducible refine cV ?_ (ar _) _|with_reducible refine ak ?_ _
    .have fE:=HX.later G;repeat' first|with_reducible exact fE|with_reducible refine rJ.set ?_ GO.o _ _|with_reducible refine rJ.alloc ?_ _
   .have e1:(x.kind==k)=false:=by simp[I];omega
    have HN:=aj F;have Z:=aj lY;clear F I Vx hx lY gh Uy ap X fr hF U d0 d1 d2 d3 d4 d5 f0 f1 f2 f3 f4 f5;go_wp2_with fail
    have C:=J.below (ak (am w') (Zq #[bs x.word,x.kind,.func (.func x.gu) #[] #[],.func (.func x.gf) #[] x.caps,.func (.func x.gr) #[] #[],.func (.func x.gt) #[] #[]] 93)) J.lt.1 J.lt.2;refine⟨⟨seen.push i,C,ak G _,λj hj=>?_⟩,?_⟩
    .rcases Array.mem_push.1 hj with h|h
     .exact HS j h
     .subst h;intro kk' O;rw[Z.o]at O;injection O with O;subst O;exact HN
    .rw[C.left,<-J.left];exact dp9
def ay9(k:Int)(z:0<=k)(A:k<=17)(w:XO):X4 X3 45 #[k] w λe w'=>∃(x:lN),kR w' k.toNat x/\e=YT (.tuple #[Zr #[bs x.word,x.kind,.func (.func x.gu) #[] #[],.func (.func x.gf) #[] x.caps,.func (.func x.gr) #[] #[],.func (.func x.gt) #[] #[]],Zp XR])/\Below w w w':=
 (bd7 k w).mono λe w'⟨j,h⟩=>by
   rcases h with⟨n,x,rfl,c,y⟩|⟨h,_⟩
   .exact⟨x,c,y,j⟩
   .omega
def fb7(k:Int)(h:¬(0<=k/\k<=17))(w:XO):aR 45 #[k] w (.tuple #[Zr #[X2 ⟨#[]⟩,ah 0,.nilFunc,.nilFunc,.nilFunc,.nilFunc],Zp XQ]):=
 (bd7 k w).mono λe w'⟨z,j⟩=>by
   rcases j with⟨n,x,rfl,y,c⟩|⟨_,c⟩
   .have:=y.lt;omega
   .exact⟨c,z⟩
def fb8(x:aQ)(m s:XP)(w:XO)(h:¬(0<=x.kind/\x.kind<=17)):
 aR 27 #[Zr (x.cells m s)] w (Zp XQ):=by
 have c:=aj λW=>fb7 x.kind h W;clear h;rw[aQ.cells_def];go_enter func27,ntmps27;go_wp2_with(go_at_call 45;refine(c _).r λy j=>?_)
 go_ret;exact⟨rfl,ak (aq (ak (am w) _) j) _⟩
def kM.turns{w w':XO}{b c:Nat}{x:aQ}{m s:XP}(h:kM w b x m s)(y:j5 w w' c)(j:b≠c):kM w' b x m s:=h.keep λ_=>y.cell j
def fb9(c:XO)(j:Obj)(k:Nat)(h:Int)(z:h=k):fX ((c.alloc j).alloc (Zq #[h,ah 0,ah 0,ah 0,ah 0,X2 ⟨#[]⟩,ah 0,ah 0,Zk XM 0 0,Zk XM 0 0] 45)) (c+1) (cG k) aP aP:=by have y:=Yy (c.alloc j) (Zq #[h,ah 0,ah 0,ah 0,ah 0,X2 ⟨#[]⟩,ah 0,ah 0,Zk XM 0 0,Zk XM 0 0] 45);rw[show(c.alloc j).heap.size=c.heap.size+1 by simp]at y;unfold fX;rw[qm,<-z];exact y
def fc0(x:aQ)(m s:XP)(w:XO)(hx:x.In w w m s)(cz:x.ms.length<=1000000)(dB:x.ss.length<=1000000)(Z:0<=x.kind)(oX:x.kind<=17):
 aR 27 #[Zr (x.cells m s)] w (Zp (od x (cI x)&&Mz x.kind x)):=by
 obtain⟨k,hk⟩:∃k:Nat,x.kind=k:=⟨x.kind.toNat,by omega⟩;have Y:x.kind.toNat=k:=Zv;have G:=λW=>ay9 x.kind Z oX W;rw[Y]at G;have X:=aj G;have HX:=aj hx;have HK:=aj hk;clear hk Y Z oX G;obtain⟨Am,nm,cm,rfl,_,_,_⟩:=hx.ms.form;obtain⟨As,ns,cs,rfl,_,_,_⟩:=hx.ss.form;obtain⟨m',rh⟩:∃m',m'=if k=15 then Zk Am nm cm else aP:=⟨_,rfl⟩
 obtain⟨s',xf⟩:∃s',s'=if k=5 then Zk As ns cs else aP:=⟨_,rfl⟩
 obtain⟨y,hy⟩:∃y,y=cI x:=⟨_,rfl⟩;have V:y.In w w m' s':=by
  have h:=al1 hx;rw[<-hy]at h;have e1:(if x.kind=15 then Zk Am nm cm else .slice XM 0 0)=m':=by
   rw[rh,HK.o];by_cases e:k=15
   .rw[if_pos e,if_pos Zv]
   .rw[if_neg e,if_neg Zv];rfl
  have e2:(if x.kind=5 then Zk As ns cs else .slice XM 0 0)=s':=by
   rw[xf,HK.o];by_cases e:k=5
   .rw[if_pos e,if_pos Zv]
   .rw[if_neg e,if_neg Zv];rfl
  rwa [e1,e2]at h
 have HU:Hid (∀(w1:XO)(O:lN)(W:XO)(z D:Nat),kR w1 k O->fX W z (cG k) aP aP->kM W D x (Zk Am nm cm) (Zk As ns cs)->z≠D->X4 X3 O.gu #[az z,az D] W (AE W z y m' s')):=λw1 O W z D c h1 h2 h3=>by
  have h:=c.used x (Zk Am nm cm) (Zk As ns cs) W z D ⟨_,_,_,rfl⟩ ⟨_,_,_,rfl⟩ h1 h2 h3;have e:({x with kind:=(k:Int)}:aQ)=x:=by rw[<-HK.o]
  rw[e,<-hy,<-rh,<-xf]at h;exact h
 have HY:=aj V;have U:=aj hy;clear hx rh xf V hy;rw[aQ.cells_def];cases hs:od x (cI x)with
 |false=>
  have I:=aj (show od x y=XQ by rw[U.o];exact hs);clear hs;go_enter func27,ntmps27
  go_wp2_with(first
   |(go_at_call 45;refine(X _).m ?_;rintro e w1 ⟨⟨word,kind,gu,gf,caps,gr,gt⟩,c,rfl,aC⟩;have wB:=aj c;have eu:=c.eu;have ef:=c.ef;unfold d_ at eu ef;simp only at eu ef;have a_:w.heap.size<w1:=dQ aC Zy;refine aa7 λbp zt=>?_;obtain⟨br,bM⟩:=dE aC;clear c aC))
  refine az0 ?_;rintro e w2 ⟨⟨v,rfl⟩,hT,lU⟩;refine az1 λLI l0 l1 l2 l3 l4 l5 l6 l7 l8 l9 q0 q1 q2 q3 q4 q5 q6 q7 q8 q9 p3 aZ Bc aX bd lD lE SC=>?_;rw[I.o]at SC;have J:=aj SC;clear SC hT lU br bM LI aZ a_;go_wp2_with(go_at_call 65;refine J.r λw3 j=>?_;obtain⟨kE,pF⟩:=dE j;have A:=aj (aq Bc j);have C:=aj (aq aX j);clear j)
  go_ret;exact⟨rfl,A⟩
 |true=>
  have I:=aj (show od x y=XR by rw[U.o];exact hs);clear hs;go_enter func27,ntmps27
  go_wp2_with(first
   |(go_at_call 45;refine(X _).m ?_;rintro e w1 ⟨⟨word,kind,gu,gf,caps,gr,gt⟩,c,rfl,aC⟩;have wB:=aj c;have eu:=c.eu;have ef:=c.ef;unfold d_ at eu ef;simp only at eu ef;have a_:w.heap.size<w1:=dQ aC Zy;refine aa7 λbp zt=>?_;obtain⟨br,bM⟩:=dE aC;clear c aC))
  refine az0 ?_;rintro e w2 ⟨⟨v,rfl⟩,hT,lU⟩;refine az1 λLI l0 l1 l2 l3 l4 l5 l6 l7 l8 l9 q0 q1 q2 q3 q4 q5 q6 q7 q8 q9 p3 aZ Bc aX bd lD lE SC=>?_;rw[I.o]at SC;have J:=aj SC;clear SC hT lU br bM LI aZ a_;go_wp2_with(go_at_call 65;refine J.r λw3 j=>?_;obtain⟨kE,pF⟩:=dE j;have A:=aj (aq Bc j);have C:=aj (aq aX j);clear j)
  have F:=(HX.below A (ar _)).more A.size;refine(wB.fits x (Zk Am nm cm) (Zk As ns cs) w3 C F.a F.ms F.ss cz dB).r λw4 aV=>?_;clear F;go_wp2_with fail
  go_ret;exact⟨cD (by rw[HK.o];simp),aq A aV⟩
def Q8(x:aQ)(m s:XP)(w:XO)(hx:x.In w w m s)(y:x.ms.length<=1000000)(z:x.ss.length<=1000000):
 aR 27 #[Zr (x.cells m s)] w (Zp (ea x)):=by
 rw[<-ee4];by_cases h:0<=x.kind/\x.kind<=17
 .refine(fc0 x m s w hx y z h.1 h.2).mono λe w'⟨j,c⟩=>⟨?_,c⟩;rw[j];exact cD (by simp[Qu,h.1,h.2])
 .refine(fb8 x m s w h).mono λe w'⟨j,c⟩=>⟨?_,c⟩;rw[j];refine cD ?_;have:(decide (0<=x.kind)&&decide (x.kind<=17))=false:=by rw[Bool.eq_false_iff];intro e;simp only[Bool.and_eq_true,decide_eq_true_eq]at e;exact h e
  simp[Qu,this]
def bR.lit(w:XO)(base:Nat)(s:ByteArray)(c:base<=w):bR (w.alloc (Zq #[s] 9)) base (Zk (XL (w 0 XM)) 1 1) [s]:=
 ⟨rfl,.inr ⟨w.heap.size,1,#[X2 s],rfl,c,Yy w _,by simp,by simp[Yd],rfl,rfl⟩⟩
def fc1(x:aQ)(m s:XP)(w:XO)(hx:x.In w w m s)(y:x.ms.length<=1000000)(z:x.ss.length<=1000000)(j:ea x=XQ):
 aR 14 #[Zr (x.cells m s)] w (X2 (bs [])):=by
 have c:=λW(h:Below w w W)=>Q8 x m s W ((hx.below h (ar _)).more h.size) y z;rw[j]at c;obtain⟨Am,nm,cm,rfl,_,_,_⟩:=hx.ms.form;obtain⟨As,ns,cs,rfl,_,_,_⟩:=hx.ss.form;rw[aQ.cells_def]at c⊢
 have c:=aj c;clear hx j;go_enter func14,ntmps14;go_wp2_with(go_at_call 27;refine(c _ (ak (am w) _)).r λA aC=>?_)
 exact Mk
def aa8:∀(l:List (List UInt8))(B:Nat),(∀w∈l,w.length<=B)->Lib.lens l<=l.length*B
 |[],_,_=>by simp[Lib.lens]
 |a::r,B,h=>by
  have y:=h a Zy;have c:=aa8 r B λw j=>h w (by simp[j]);rw[YF,Nat.add_mul,Nat.one_mul];simp only[Lib.lens,Yg,List.sum_cons]at c⊢
  omega
def aa9(x:aQ)(hx:x.Num)(K:Nat)(C:21<=K)(D:x.key.size<=K):(∀w∈dH x,w.length<=K)/\(dH x).length<=x.ms.length+x.ss.length+10:=by
 have ms:∀l:List Int,(∀n∈l,aN n)->∀w∈l.map XS,w.length<=K:=λl j w h=>by obtain⟨n,hn,rfl⟩:=List.mem_map.1 h;have:=Lib.itoa_length_le n (j n hn).1 (j n hn).2;omega
 have key:x.key.data.toList.length<=K:=by have:x.key.data.toList.length=x.key.size:=Oh;omega
 have y:(∀w∈kN x,w.length<=K)/\(kN x).length<=4:=by
  have z:=Lib.itoa_length_le x.val hx.val.1 hx.val.2;have A:=Lib.itoa_length_le x.old hx.old.1 hx.old.2;unfold kN;repeat' split
  all_goals
   refine⟨λw c=>?_,by simp⟩;simp only[Ys,Yq,or_false]at c;first
    |(rcases c with rfl|rfl|rfl|rfl<;>first|exact key|omega|(simp;omega))
    |(rcases c with rfl|rfl|rfl<;>first|exact key|omega|(simp;omega))
    |(rcases c with rfl|rfl<;>first|exact key|(simp;omega))
 unfold dH;split
 .simp
 split
 .exact⟨ms _ hx.ms,by simp;omega⟩
 split
 .exact⟨ms (x.a::x.ss) (by simp only[Ys,forall_eq_or_imp];exact⟨hx.a,hx.ss⟩),by simp;omega⟩
 split
 .exact⟨ms [x.a,x.b] (by simpa using⟨hx.a,hx.b⟩),by simp⟩
 split
 .exact⟨ms [x.a,x.b,x.c] (by simpa using⟨hx.a,hx.b,hx.c⟩),by simp⟩
 split
 .exact⟨ms [x.a,x.b,x.val] (by simpa using⟨hx.a,hx.b,hx.val⟩),by simp⟩
 split
 .refine⟨λw c=>?_,by simp only[List.length_append,List.length_cons,List.length_nil];omega⟩;rcases List.mem_append.1 c with h|h
  .exact ms [x.a,x.b] (by simpa using⟨hx.a,hx.b⟩) w h
  .exact y.1 w h
 .exact⟨ms [x.a] (by simpa using hx.a),by simp⟩
def fc2(x:aQ)(hx:x.Num)(j:x.key.size<=1000000)(y:x.ms.length<=100)(z:x.ss.length<=100):(dW x).length<=1000000000:=by
 obtain⟨h1,h2⟩:=aa9 x hx 1000000 Zv j;unfold dW;rw[Lib.join_length];have A:=aa8 (dH x) 1000000 h1;have C:(cb x.kind.toNat).length<=8:=by generalize x.kind.toNat=k;unfold cb;split<;>simp
 have c:Lib.lens (cb x.kind.toNat::dH x)=(cb x.kind.toNat).length+Lib.lens (dH x):=by simp[Lib.lens]
 rw[c];have D:(dH x).length*1000000<=210*1000000:=Nat.mul_le_mul_right _ Zv;simp only[Yl];omega
def fc3(x:aQ)(hx:x.Num)(j:x.key.size<=100)(y:x.ms.length<=100)(z:x.ss.length<=100):(bs (dW x)).size<=100000:=by
 rw[eM];obtain⟨h1,h2⟩:=aa9 x hx 100 Zv j;unfold dW;rw[Lib.join_length];have A:=aa8 (dH x) 100 h1;have C:(cb x.kind.toNat).length<=8:=by generalize x.kind.toNat=k;unfold cb;split<;>simp
 have c:Lib.lens (cb x.kind.toNat::dH x)=(cb x.kind.toNat).length+Lib.lens (dH x):=by simp[Lib.lens]
 rw[c];have D:(dH x).length*100<=210*100:=Nat.mul_le_mul_right _ Zv;simp only[Yl];omega
structure fc4(x:aQ)(m s:XP)(w:XO)(p:Nat)(word:List UInt8)(gt:Nat)(W:XO):Prop where
 below:Below w w W
 p0:ae W p (X2 (bs word))
 p5:aa W p 5 (.func (.func gt) #[] #[])
 lies:kM W w x m s
 lp:p<W
 la:w.heap.size<W
def fc5(x:aQ)(m s:XP)(w:XO)(hG:dd w)(hx:x.In w w m s)(cz:x.ms.length<=100)(dB:x.ss.length<=100)(J:ea x=XR):
 aR 14 #[Zr (x.cells m s)] w (X2 (bs (dW x))):=by
 have D:=λW(h:Below w w W)=>Q8 x m s W ((hx.below h (ar _)).more h.size) Zv Zv;rw[J]at D;obtain⟨h0,oX⟩:=DR (DS J);obtain⟨k,hk⟩:∃k:Nat,x.kind=k:=⟨x.kind.toNat,by omega⟩;have ek:x.kind.toNat=k:=Zv;have U:=λW=>ay9 x.kind h0 oX W;rw[ek]at U;have NO:=aj U;have Y:=aj hx;have V:=aj hk;have HG:=aj hG;have CQ:=aj J;clear hk ek h0 oX U hG J;obtain⟨Am,nm,cm,rfl,_,_,_⟩:=hx.ms.form;obtain⟨As,ns,cs,rfl,_,_,_⟩:=hx.ss.form;rw[aQ.cells_def]at D⊢
 have iP:=aj D;clear hx D;go_enter func14,ntmps14
 go_wp2_with(first
  |(go_at_call 27;refine(iP _ (ak (am w) _)).r λw1 aC=>?_;refine aa7 λbp zt=>?_;have Z:w.heap.size<w1:=dQ aC Zy;obtain⟨br,bM⟩:=dE aC;clear aC)
  |(go_at_call 45;refine(NO _).m ?_;rintro e y ⟨⟨word,kind,gu,gf,caps,gr,gt⟩,hF,rfl,G⟩;have wB:=aj hF;have et:=hF.et;unfold d_ at et;simp only at et;have aX:=aj (aq bp G);have J0:=aj (zt.below G Z);have bd:w.heap.size<y:=dQ G Z;clear hF G br bM Z))
 refine aa1 (fc4 x (Zk Am nm cm) (Zk As ns cs) w y word gt) ⟨ak aX _,by go_simp,by go_simp,J0.below (ak (am y) _) bd,by simp,by simp;omega⟩ ?_;intro W hW;have hw:word=cb k:=wB.word;have dm0:Hid (∀z,Below W W z->X4 X3 gt #[Zr #[x.kind,x.a,x.b,x.c,x.ok,x.key,x.val,x.old,Zk Am nm cm,Zk As ns cs]] z (fY z ((dH x).map bs))):=λz hb=>by
  have fL:=aq hW.below hb;have h:=wB.text x (Zk Am nm cm) (Zk As ns cs) z (HG.step fL) ((Y.below fL (ar _)).more fL.size) Zv Zv (λe=>by have:=MH CQ (by rw[V.o,e];rfl);simp only[ve,XW,decide_eq_true_eq]at this;exact⟨this.1.1.1.1.1.1,this.1.1.1.1.1.2⟩);have e:({x with kind:=(k:Int)}:aQ)=x:=by rw[<-V.o]
  rw[e]at h;exact h
 have HJ:Hid ((Lib.join ((bs word::(dH x).map bs).map (·.data.toList)) [32])=dW x):=by
  show _=_;have e1:((dH x).map bs).map (·.data.toList)=dH x:=by
   rw[YM]
   conv=>rhs;rw[<-List.map_id (dH x)]
   exact List.map_congr_left λl _=>ie l
  unfold dW;rw[Yg,ie,e1,hw,V.o];rfl
 have wY:x.key.size<=1000000:=by have:=we CQ.o;omega
 have dl5:=aj (fc2 x Y.num wY cz dB);have A:=aj (aa9 x Y.num 1000000 Zv wY).2;clear wY;have X:=aj hW.below;obtain⟨_,p0,p5,⟨l0,l1,l2,l3,l4,l5,l6,l7,l8,l9⟩,O_,Vy⟩:=hW;have fl:=X.size;clear hw aX J0 bd;go_region_held3 (λw'=>ae w' y (X2 (bs word))/\aa w' y 5 (.func (.func gt) #[] #[])/\ae w' w (ah x.kind)/\aa w' w 1 (ah x.a)/\aa w' w 2 (ah x.b)/\aa w' w 3 (ah x.c)/\aa w' w 4 (ah x.ok)/\aa w' w 5 (X2 x.key)/\aa w' w 6 (ah x.val)/\aa w' w 7 (ah x.old)/\aa w' w 8 (Zk Am nm cm)/\aa w' w 9 (Zk As ns cs)) (go_simp)
  (first
    |(go_at_fn gt
      refine(dm0 _ (by first|exact aW (am W)|exact aW (ak (am W) _))).q λj u hu F=>?_;have I:Below W W j:=by first|exact aq (aW (am W)) F|exact aq (aW (ak (am W) _)) F
      have gJ:W.heap.size<=j:=I.size;have kE:∀b o,b<W.heap.size->j.cell? ⟨b,o,XM⟩=W.cell? ⟨b,o,XM⟩:=λb o h=>I.cell (p:=⟨b,o,XM⟩) h;have hs4:y.heap.size<j:=Zv;have hr8:w.heap.size<j:=by omega)
    |(go_at_call 19;refine(dt2 v' (bs word::(dH x).map bs) _ (show bR O w v' (bs word::(dH x).map bs)from bD).slS (by have:=A.o;simp;omega) (by rw[HJ.o];have:=dl5.o;omega)).r λw5 bx=>?_;have kV:=aq gP bx;have KV:∀b o,b<W.heap.size->w5.cell? ⟨b,o,XM⟩=W.cell? ⟨b,o,XM⟩:=λb o h=>(bx.cell (p:=⟨b,o,XM⟩) (bJ h vX)).t (mE b o h))
    |(refine xA rfl (.tmp 16) (.tmp 20) rfl w.heap.size _ u [bs word] ((dH x).map bs) (by rfl) (by rfl) (by first|exact bR.below (show bR (W.alloc (.cells #[.string (bs word)] 9)).drew w _ [bs word]from bR.lit W w (bs word) fl) F|exact bR.lit j w (bs word) (by omega)) (by first|exact hu.src|exact bR.src (hu.alloc _)) (by have:=A.o;simp;omega) (by first|omega|(simp;omega)) ?_;intro v' O bD C;have gP:Below w w O:=by
       first
        |exact bR.grown (bR.below (show bR (W.alloc (Zq #[bs word] 9)).drew w _ [bs word]from bR.lit W w (bs word) fl) F) (aq X I) C
        |exact bR.grown (bR.lit j w (bs word) Zv) (ak (aq X I) _) C
      have vX:W.heap.size<=O:=bC (by first|exact gJ|(simp;omega)) C.size;have mE:∀b o,b<W.heap.size->O.cell? ⟨b,o,XM⟩=W.cell? ⟨b,o,XM⟩:=λb o h=>by
       first
        |exact(World.grownBy.cell_far C ⟨b,o,XM⟩ (bJ h gJ) (λe=>absurd (show b=W.heap.size by injection (show XL b=XL W.heap.size from e)) Zv)).t (kE b o h)
        |exact(World.grownBy.cell_far C ⟨b,o,XM⟩ bN (λe=>absurd (show b=j.heap.size by injection (show XL b=XL j.heap.size from e)) Zv)).t ((Zg j _ _ (bJ h gJ)).t (kE b o h))))
 all_goals
  go_wp2_with fail
  go_ret;exact⟨mQ (congrArg bs (by have h:=HJ.o;simp only[Yg,YM]at h;exact h)),kV⟩
def az2(x:aQ)(m s:XP)(w:XO)(y:dd w)(hx:x.In w w m s)(c:x.ms.length<=100)(j:x.ss.length<=100):
 aR 14 #[Zr (x.cells m s)] w (X2 (bs (AB x))):=by
 unfold AB;cases hv:ea x with
 |false=>exact fc1 x m s w hx Zv Zv hv
 |true=>exact fc5 x m s w y hx c j hv
end
section
open Go Go.RowKit Go.MapKept Go.Proofs.Tryz
section
variable {P:Zh} {ops:Array YO} {Q:Exit->Act->XO->Prop} {md:Y4} {S:XO->Prop}
def ba7{i:Nat}{j:YO}{v:XP}{fuel:Nat}{listed:Array Bool}{a:Act}{w:XO}(d:Option Tmp)(D:ops[i]?=XL j)(A:j.dst=d)
 (G:Region.noSelect ops=XR)(C:Region.free md ops listed i=XR)(F:(YR md ops listed).contains i=XR)
 (y:∀c a w,Q (.panic c) (a.put d v) w->Q (.panic c) a w)(I:YieldsIf P ops S j v a)(z:S w)
 (h:wpAnyH P md ops Q S fuel (listed.setIfInBounds i XR) (a.put d v) w):wpAnyH P md ops Q S (fuel+1) listed a w:=by
 subst A;exact wpAnyH_take D G C F y I z h
end
def ey4(m:aU)(v:MV)(x:cF)(A:Option Zf)(n c:Nat)(w:XO)(hv:m.In w w v)(G:¬(0<=x.kind/\x.kind<=6)):
 aR 62 #[Zr (m.cells v),Zr (x.vals (Zk A n c))] w (Zp XQ):=by
 refine sV λSa sc hs bZ bL Fa fc bS bM cj Ra rc hr cd cZ Ma mc hm cr co La lc hl cW dh Ia ic hi dg d' Ua uc hu dm dr HS=>?_;have HF:=aj (et0 G);have X:=aj λW=>bc7 W;rw[HS.o,cF.vals_def];clear hv G hs bS hr hm hl hi hu;go_enter func62,ntmps62;go_upto_region 1 with(fail)
 refine ba8 ?_;intro W1 ⟨C,D,j⟩;have Y:=ag (o:=0) j rfl;have y:=blk_lt j;have cA:¬w.heap.size+1=W1.heap.size:=Zv;have z:=aj C;have iI:=aj D;have lJ:=aj j;clear C D j;go_cut [5,6] (λp q wx=>q=Zp XQ/\Below w w wx)
 case first=>
  rename_i J K' F I;have U:=aj F;have Z:=aj I;clear F I;go_region_held3 (λw'=>aa w' (w+1) 0 (ah x.kind)) (go_simp)
   (first
     |(go_at_call 167;refine(X.o _).m ?_;rintro e w2 ⟨M,rfl,hM,O,au⟩;refine IN λaZ=>?_;have lB:(Instr.lookup 206 (.map (some M)) (.int .i64 x.kind) true).run prog w2= .ok (.tuple #[.agg #[.nilFunc,.nilFunc],.bool false]) w2:=by exact ba9
       have gD:∀o,(Yu 206 (.map (XL M)) (ah x.kind) XR).run X3 (w2.alloc o)= .ok (.tuple #[Zr #[.nilFunc,.nilFunc],Zp XQ]) (w2.alloc o):=λo=>by exact bb0
       have c0:aa w2 (w+1) 0 (ah x.kind):=(aZ.cell (p:=⟨w+1,0,XM⟩) y).t Y;obtain⟨i',BO⟩:=oQ au;try(have ij:W1.heap.size<w2:=by(have hq:=au.size;simp at hq;omega))
       have bd:w.heap.size+1<w2:=bJ y aZ.size;have gJ:¬w.heap.size+1=w2.heap.size:=Zv;have j_:=aj au.block;clear hM O au))
  all_goals
   dsimp only[Exit.then];refine Z.o _ _ (Met.intro (U.o _ _ ?_))
   (repeat apply Exists.intro)
   refine⟨⟨rfl,?_⟩,rfl⟩;have V:=aq z.o aZ
   (repeat' first|with_reducible exact V|with_reducible refine cV ?_ (by dsimp only;have:=z.o.size;omega) _|with_reducible refine ak ?_ _)
 case rest=>
  obtain⟨rfl,hB⟩:=hcut;go_wp2_with fail
  refine ty 17 ?_;iterate 2 refine kB 17 14 ?_
  iterate 5 refine FC 17 14 ?_
  iterate 2 refine kB 17 14 ?_
  iterate 6 refine FC 17 14 ?_
  refine nX 15 29 ?_;refine nX 16 4 ?_;refine yg ?_;go_wp2_with fail
  go_ret;exact⟨rfl,aW hB⟩
def FV(m:aU)(v:MV)(x y:cF)(o o2:XP)(w:XO)(go gn:Nat)(rk:Bool)(eo:d_ go)(en:d_ gn)(hv:m.In w w v)(ho:aS w w o x.ms)
 (hf:Qm x.kind=XL (Zr #[.func (.func go) #[] #[],.func (.func gn) #[] #[]]))(Dg:∀W,Below w w W->aR go #[Zr (m.cells v),Zr (x.vals o)] W (Zp rk))
 (ou:∀W,Below w w W->aR gn #[Zr (x.vals o)] W (Zr (y.vals o2)))
 (vS:∀W,Below w w W->aS W W.heap.size o2 y.ms):
 aR 62 #[Zr (m.cells v),Zr (x.vals o)] w (Zp (rk&&FQ x y)):=by
 have Y:=aj λW(hW:Below w w W)=>em2 x y o o2 W ((ho.below hW (ar _)).more hW.size) (vS W hW);have rV:=aj Dg;have SU:=aj ou;refine sV λSa sc hs bZ bL Fa fc bS bM cj Ra rc hr cd cZ Ma mc hm cr co La lc hl cW dh Ia ic hi dg d' Ua uc hu dm dr HS=>?_;have HF:=aj hf;have lH:=aj λW=>bc7 W;obtain⟨A,n,c,rfl,hn,hc,fQ⟩:=ho.sk.form;obtain⟨A2,n2,c2,rfl,_,_,_⟩:=(vS w (am w)).sk.form;generalize FQ x y=rs at Y;rw[HS.o]at rV⊢
 rw[cF.vals_def]at rV SU Y⊢
 rw[cF.vals_def]at SU Y;unfold d_ at eo en;clear hv ho hf Dg ou vS hs bS hr hm hl hi hu hn;go_enter func62,ntmps62;go_upto_region 1 with(fail)
 refine ba8 ?_;intro W1 ⟨bc,dU,cX⟩;have q0:=ag (o:=0) cX rfl;have a_:=blk_lt cX;have cA:¬w.heap.size+1=W1.heap.size:=Zv;have ba:=aj bc;have iI:=aj dU;have lJ:=aj cX;clear bc dU cX;go_cut [5,6] (λp q wx=>q=Zp XR/\∃fb,p=az fb/\W1.heap.size<=fb/\Below W1 W1 wx/\af wx fb #[.func (.func go) #[] #[],.func (.func gn) #[] #[]] 204)
 case first=>
  rename_i J K' hJ iV;have HJ:=aj hJ;have vH:=aj iV;clear hJ iV;go_region_held3 (λw'=>aa w' (w+1) 0 (ah x.kind)) (go_simp)
   (first
     |(go_at_call 167;refine(lH _).m ?_;rintro e w2 ⟨M,rfl,hM,EX,au⟩;refine IN λaZ=>?_;have lB:(Instr.lookup 206 (.map (some M)) (.int .i64 x.kind) true).run prog w2= .ok (.tuple #[.agg #[.func (.func go) #[] #[],.func (.func gn) #[] #[]],.bool true]) w2:=by exact ba9
       have gD:∀o,(Yu 206 (.map (XL M)) (ah x.kind) XR).run X3 (w2.alloc o)= .ok (.tuple #[Zr #[.func (.func go) #[] #[],.func (.func gn) #[] #[]],Zp XR]) (w2.alloc o):=λo=>by exact bb0
       have c0:aa w2 (w+1) 0 (ah x.kind):=(aZ.cell (p:=⟨w+1,0,XM⟩) a_).t q0;obtain⟨i',BO⟩:=oQ au;try(have ij:W1.heap.size<w2:=by(have hq:=au.size;simp at hq;omega))
       have bd:w.heap.size+1<w2:=bJ a_ aZ.size;have gJ:¬w.heap.size+1=w2.heap.size:=Zv;have j_:=aj au.block;clear hM EX au))
  all_goals
   dsimp only[Exit.then];refine vH _ _ (Met.intro (HJ _ _ ?_))
   (repeat apply Exists.intro)
   refine⟨⟨rfl,?_⟩,rfl⟩
  .exact⟨w2.heap.size,rfl,aZ.size,ak aZ _,Yy w2 _⟩
  .exact⟨w2.heap.size,rfl,aZ.size,ak aZ _,Yy w2 _⟩
  .refine⟨W1.heap.size,rfl,ar _,?_,?_⟩
   .repeat' first|with_reducible exact aZ|with_reducible refine cV ?_ (ar _) _
   .have h0:=(j_ W1 Zy).t (Yy W1 _);exact(bf (bf h0 _ _) _ _).t rfl
 case rest=>
  obtain⟨rfl,fb,rfl,C,aZ,p9⟩:=hcut;have gF:=ai iI aZ;have xp:=ai lJ aZ;obtain⟨TX,TY,T3,T4,T5,T6,T7,T8,T9,T_,TZ⟩:=bQ gF;obtain⟨zK,wQ,zL,zM,zN,zO,T'⟩:=gM xp;have EI:=ag (o:=0) p9 rfl;have EJ:=ag (o:=1) p9 rfl;have ij:=blk_lt xp;have hz2:=blk_lt p9;have uX:w.heap.size<wc:=blk_lt gF;have Z:=aj (aq ba aZ);have I:=aj gF;have Ko:=aj xp;have Kn:=aj p9;clear gF xp p9 aZ q0;simp only[az];cases rk with
  |false=>
   go_wp2_with fail
   refine bb1 λhS=>?_;iterate 6 refine oO 17 14 ?_
   refine fg 6 λK z=>?_;go_simp;refine(rV _ (aW Z)).r λw4 j=>?_;have bW:=aj (aq (aW Z) j);have F:=ai I (aq (aW (am wc)) j);have D:=ai Ko (aq (aW (am wc)) j);have C:=ai Kn (aq (aW (am wc)) j);obtain⟨Uc,Ud,Uf,Ug,Uh,Ui,Uj,Uk,Ul,Um,Ue⟩:=bQ F;obtain⟨CZ,tB,qG,qH,C5,tC,Un⟩:=gM D;have Ub:=ag (o:=0) C rfl;have ya:=ag (o:=1) C rfl;have O:=aj F;have Bp:=aj D;have G:=aj C;clear j F D C TX TY T3 T4 T5 T6 T7 T8 T9 T_ TZ zK wQ zL zM zN zO T' EI EJ;try go_simp
   clear hS;refine z _ _ cf7 λhS=>?_;clear z;refine aH ?_;iterate 2 refine oO 17 14 ?_
   iterate 6 refine hf7 17 14 ?_
   refine cQ 15 29 ?_;refine cQ 16 4 ?_;refine rY ?_;go_wp2_with fail
   go_ret;exact⟨by simp,bW⟩
  |true=>
   go_wp2_with fail
   refine bb1 λhS=>?_;iterate 6 refine oO 17 14 ?_
   refine fg 6 λK z=>?_;go_simp;refine(rV _ (aW Z)).r λw4 j=>?_;have bW:=aj (aq (aW Z) j);have F:=ai I (aq (aW (am wc)) j);have D:=ai Ko (aq (aW (am wc)) j);have C:=ai Kn (aq (aW (am wc)) j);obtain⟨Uc,Ud,Uf,Ug,Uh,Ui,Uj,Uk,Ul,Um,Ue⟩:=bQ F;obtain⟨CZ,tB,qG,qH,C5,tC,Un⟩:=gM D;have Ub:=ag (o:=0) C rfl;have ya:=ag (o:=1) C rfl;have O:=aj F;have Bp:=aj D;have G:=aj C;clear j F D C TX TY T3 T4 T5 T6 T7 T8 T9 T_ TZ zK wQ zL zM zN zO T' EI EJ;try go_simp
   clear hS;refine z _ _ cf7 λhS=>?_;clear z;refine aH ?_;iterate 6 refine oO 17 14 ?_
   refine fg 13 λK z=>?_;go_simp;refine(SU _ bW).r λX U=>?_;have cT:=aj (aq bW U);have eG:=ai O U;have uW:=ai Bp U;have Ii:=ai G U;obtain⟨Uq,ch1,ch3,ch4,ch5,ch6,ch7,ch8,ch9,ci0,ch2⟩:=bQ eG;obtain⟨BD,vL,uH,uI,EK,EL,ci1⟩:=gM uW;have Up:=ag (o:=0) Ii rfl;have V:=ag (o:=1) Ii rfl;clear U eG uW Ii Uc Ud Uf Ug Uh Ui Uj Uk Ul Um Ue CZ tB qG qH C5 tC Un Ub ya;try go_simp
   clear hS;refine z _ _ (by exact⟨Up,V,Uq,ch1,ch3,ch4,ch5,ch6,ch7,ch8,ch9,ci0,ch2,BD,vL,uH,uI,EK,EL,ci1⟩) λhS=>?_;clear z;refine aH ?_;refine fg 14 λK z=>?_;go_simp;refine(Y _ cT).r λw6 cL=>?_;have dP:=aj (aq cT cL);have zF:∀b o,b<X.heap.size->w6.cell? ⟨b,o,XM⟩=X.cell? ⟨b,o,XM⟩:=λb o h=>cL.cell (p:=⟨b,o,XM⟩) h;have qg:fb<X.heap.size/\w.heap.size<X/\w.heap.size+1<X:=⟨bY _ _ Up,bY _ _ Uq,bY _ _ BD⟩;clear cL;try go_simp
   clear hS;refine z _ _ (by simp only[zF _ _ qg.1,zF _ _ qg.2.1,zF _ _ qg.2.2];exact⟨Up,V,Uq,ch1,ch3,ch4,ch5,ch6,ch7,ch8,ch9,ci0,ch2,BD,vL,uH,uI,EK,EL,ci1⟩) λhS=>?_;clear z;refine aH ?_;refine cQ 15 29 ?_;refine cQ 16 4 ?_;refine rY ?_;go_wp2_with fail
   go_ret;exact⟨by simp,dP⟩
def aS.nil0(W:XO)(B:Nat):aS W B (Zk XM 0 0) []:=⟨Sl.nil_ W B,by simp⟩
def ey5(m:aU)(v:MV)(x:cF)(o:XP)(w:XO)(y:m.In w w v)(ho:aS w w o x.ms)(C:aN x.item)(D:aN x.n)(F:aN x.by_)(G:aN x.other):
 aR 62 #[Zr (m.cells v),Zr (x.vals o)] w (Zp (dw m x)):=by
 obtain⟨A,n,c,rfl,hn,hc,fQ⟩:=ho.sk.form;by_cases h:0<=x.kind/\x.kind<=6
 .obtain⟨k,hk⟩:∃k:Nat,x.kind=k:=⟨x.kind.toNat,by omega⟩;have J:k<=6:=by omega
  rw[em1 m x k J hk];have I:=λW(j:Below w w W)=>y.to j (ar _) j.size;have z:=λW(j:Below w w W)=>(ho.below j (ar _)).more j.size;have:k=0\/k=1\/k=2\/k=3\/k=4\/k=5\/k=6:=Zv;rcases this with rfl|rfl|rfl|rfl|rfl|rfl|rfl
  .exact FV m v x (j7 0 x) (Zk A n c) (Zk XM 0 0) w 274 276 _ (XX func274 aI rfl) (XX func276 aI rfl) y ho eN
    (λW j=>ew0 m v x _ W (I W j) (z W j) C D F G) (λW j=>eu7 x A n c W) (λW j=>aS.nil0 W _)
  .exact FV m v x (j7 1 x) (Zk A n c) (Zk XM 0 0) w 277 278 _ (XX func277 aI rfl) (XX func278 aI rfl) y ho eN
    (λW j=>ev4 m v x _ W (I W j) (z W j) C D F G) (λW j=>eu8 x A n c W) (λW j=>aS.nil0 W _)
  .exact FV m v x (j7 2 x) (Zk A n c) (Zk XM 0 0) w 279 280 _ (XX func279 aI rfl) (XX func280 aI rfl) y ho eN
    (λW j=>ev6 m v x _ W (I W j) (z W j) C D F G) (λW j=>eu9 x A n c W) (λW j=>aS.nil0 W _)
  .exact FV m v x (j7 3 x) (Zk A n c) (Zk A n c) w 281 282 _ (XX func281 aI rfl) (XX func282 aI rfl) y ho eN
    (λW j=>ev7 m v x _ W (I W j) (z W j) C D F G) (λW j=>ev0 x A n c W) (λW j=>z W j)
  .exact FV m v x (j7 4 x) (Zk A n c) (Zk XM 0 0) w 283 284 _ (XX func283 aI rfl) (XX func284 aI rfl) y ho eN
    (λW j=>ev8 m v x _ W (I W j) (z W j) C D F G) (λW j=>ev1 x A n c W) (λW j=>aS.nil0 W _)
  .exact FV m v x (j7 5 x) (Zk A n c) (Zk XM 0 0) w 285 286 _ (XX func285 aI rfl) (XX func286 aI rfl) y ho eN
    (λW j=>ev9 m v x _ W (I W j) (z W j) C D F G) (λW j=>ev2 x A n c W) (λW j=>aS.nil0 W _)
  .exact FV m v x (j7 6 x) (Zk A n c) (Zk XM 0 0) w 287 288 _ (XX func287 aI rfl) (XX func288 aI rfl) y ho eN
    (λW j=>ev5 m v x _ W (I W j) (z W j) C D F G) (λW j=>ev3 x A n c W) (λW j=>aS.nil0 W _)
 .rw[bb5 m x h];exact ey4 m v x A n c w y h
def ey6(m:aU)(v:MV)(x:fq)(o:XP)(mb:Nat)(w:XO)(hm:af w mb (m.cells v) 29)(z:m.In w w v)(ho:aS w w o x.on):
 aR 58 #[Zr (x.vals o),az mb] w (Zp (!dV m x)):=by
 have j:=aj λW(y:Below w w W)=>es9 m v x o W (z.to y (ar _) y.size) ((ho.below y (ar _)).more y.size);obtain⟨A,n,c,rfl,hn,hc,fQ⟩:=ho.sk.form;generalize dV m x=r at j;rw[fq.vals_def]at j⊢
 rw[aU.cells_def]at j hm;obtain⟨e0,e1,e2,e3,e4,e5,e6,e7,e8,e9,eB⟩:=bQ hm;obtain⟨⟨Sa,sc,hs,bZ,bL⟩,⟨Fa,fc,bS,bM,cj⟩,⟨Ra,rc,hr,cd,cZ⟩,⟨Ma,mc,gF,cr,co⟩,⟨La,lc,hl,cW,dh⟩,⟨Ia,ic,hi,dg,d'⟩,⟨Ua,uc,hu,dm,dr⟩⟩:=z.cells;rw[hs,bS,hr,gF,hl,hi,hu]at j;rw[hs]at e0;rw[bS]at e1;rw[hr]at e2;rw[gF]at e3;rw[hl]at e4;rw[hi]at e5;rw[hu]at eB;have D:=blk_lt hm;have C:¬mb=w:=Zv;clear hm z ho hs bS hr gF hl hi hu hn;simp only[az];go_enter func58,ntmps58;go_wp2_with(go_at_call 59;refine(j _ (ak (am w) _)).r λF aC=>?_)
 exact Mk
def ey7(m:aU)(v:MV)(x:cF)(o:XP)(mb:Nat)(w:XO)(hm:af w mb (m.cells v) 29)(z:m.In w w v)(ho:aS w w o x.ms)(C:aN x.item)(D:aN x.n)(F:aN x.by_)(G:aN x.other):
 aR 61 #[Zr (x.vals o),az mb] w (Zp (!dw m x)):=by
 have j:=aj λW(y:Below w w W)=>ey5 m v x o W (z.to y (ar _) y.size) ((ho.below y (ar _)).more y.size) C D F G;obtain⟨A,n,c,rfl,hn,hc,fQ⟩:=ho.sk.form;generalize dw m x=r at j;rw[cF.vals_def]at j⊢
 rw[aU.cells_def]at j hm;obtain⟨e0,e1,e2,e3,e4,e5,e6,e7,e8,e9,eB⟩:=bQ hm;obtain⟨⟨Sa,sc,hs,bZ,bL⟩,⟨Fa,fc,bS,bM,cj⟩,⟨Ra,rc,hr,cd,cZ⟩,⟨Ma,mc,gF,cr,co⟩,⟨La,lc,hl,cW,dh⟩,⟨Ia,ic,hi,dg,d'⟩,⟨Ua,uc,hu,dm,dr⟩⟩:=z.cells;rw[hs,bS,hr,gF,hl,hi,hu]at j;rw[hs]at e0;rw[bS]at e1;rw[hr]at e2;rw[gF]at e3;rw[hl]at e4;rw[hi]at e5;rw[hu]at eB;have J:=blk_lt hm;have I:¬mb=w:=Zv;clear hm z ho hs bS hr gF hl hi hu hn C D F G;simp only[az];go_enter func61,ntmps61;go_wp2_with(go_at_call 62;refine(j _ (ak (am w) _)).r λO aC=>?_)
 exact Mk
def nI(ob:Nat)(w w':XO):Prop:=w.heap.size<=w'/\∀i C t f,w.heap[i]?=XL (Zq C t f)->¬i=ob->¬t=9->w'.heap[i]?=XL (Zq C t f)
def nI.refl(ob:Nat)(w:XO):nI ob w w:=⟨ar _,λ_ _ _ _ h _ _=>h⟩
def nI.t{ob:Nat}{a b c:XO}(h:nI ob a b)(k:nI ob b c):nI ob a c:=⟨bC h.1 k.1,λi C t f z j y=>k.2 i C t f (h.2 i C t f z j y) j y⟩
def nI.of_below{ob:Nat}{w w':XO}(h:Below w w w'):nI ob w w':=⟨h.size,λi C t f c _ _=>ai c h⟩
def bg.sk{w:XO}{B:Nat}{v:XP}{l:List ay}(h:bg w B v l):ci 1 (R1 λs=>X2 (bs s)) w B v l:=by
 have c:Sl w B v (l.map λs=>X2 (bs s)):=by
  unfold bg cP at h
  rwa [YM]at h
 exact c.k1
def bg.cell{w:XO}{B n c:Nat}{A:Option Zf}{l:List ay}(h:bg w B (Zk A n c) l){j:Nat}{x:ay}(hx:l[j]?=XL x):∃b o,A=XL ⟨b,o,XM⟩/\b<B/\aa w b (o+j) (X2 (bs x)):=by exact bb9
def gO(m:aU):Nat->List ay
 |0=>m.sites
 |1=>m.feeds
 |2=>m.racks.map (·.name)
 |3=>m.machs.map (·.name)
 |4=>m.items.map (·.name)
 |_=>[]
def sB:Nat->Nat
 |0=>260
 |1=>262
 |2=>264
 |3=>266
 |_=>268
def sC:Nat->Nat
 |0=>261
 |1=>263
 |2=>265
 |3=>267
 |_=>269
def vb(mb:Nat):Nat->Array XP
 |0=> #[]
 |1=> #[]
 |2=> #[]
 |3=> #[]
 |_=> #[az mb]
def xJ(m:aU):Nat->List ay
 |0=>[]
 |k+1=>xJ m k++gO m k
def ey8(m:aU):xJ m 5=dp m:=by simp[xJ,gO,dp]
def ey9(m:aU)(k:Nat)(c:k<5):(xJ m k).length+(gO m k).length<=(dp m).length:=by have:k=0\/k=1\/k=2\/k=3\/k=4:=Zv;rcases this with rfl|rfl|rfl|rfl|rfl<;>simp[xJ,gO,dp]<;>omega
def sW(m:aU)(v:MV)(mb B:Nat)(w:XO):Prop:=w.heap[mb]?=XL (Zq (m.cells v) 29 (0,0))/\m.In w B v
section
variable {m:aU} {v:MV} {mb B:Nat} {w:XO}
def ez0(h:sW m v mb B w)(C:B<=w){j:Nat}{s:ay}(y:m.sites[j]?=XL s):X4 X3 260 #[j,az mb] w λe w'=>e=YT (X2 (bs s))/\w'=w:=by
 obtain⟨hm,hv⟩:=h;obtain⟨A,c,he,h1,h2⟩:∃A c,v.s=Zk A m.sites.length c/\m.sites.length<=c/\c<=9223372036854775807:=by obtain⟨a0,a1,_⟩:=hv.cells;exact a0
 have hx:bg w B v.s m.sites:=hv.ss;rw[he]at hx;obtain⟨b,o,rfl,hb,hc⟩:=hx.cell y;have z:ae w mb (Zk (XL (b o XM)) m.sites.length c):=Hn;have D:j<m.sites.length:=(List.getElem?_eq_some_iff.1 y).1;have F:(0:Int)<=(j:Int):=Zv;have G:(j:Int)<(m.sites.length:Nat):=Zv;clear hm hv he hx y;simp only[az];go_enter func260,ntmps260;exact Dv
def ez1(h:sW m v mb B w)(C:B<=w){j:Nat}{s:ay}(y:m.feeds[j]?=XL s):X4 X3 262 #[j,az mb] w λe w'=>e=YT (X2 (bs s))/\w'=w:=by
 obtain⟨hm,hv⟩:=h;obtain⟨A,c,he,h1,h2⟩:∃A c,v.f=Zk A m.feeds.length c/\m.feeds.length<=c/\c<=9223372036854775807:=by obtain⟨a0,a1,_⟩:=hv.cells;exact a1
 have hx:bg w B v.f m.feeds:=hv.fs;rw[he]at hx;obtain⟨b,o,rfl,hb,hc⟩:=hx.cell y;have z:aa w mb 1 (Zk (XL (b o XM)) m.feeds.length c):=Hn;have D:j<m.feeds.length:=(List.getElem?_eq_some_iff.1 y).1;have F:(0:Int)<=(j:Int):=Zv;have G:(j:Int)<(m.feeds.length:Nat):=Zv;clear hm hv he hx y;simp only[az];go_enter func262,ntmps262;exact Dv
def ez2(h:sW m v mb B w)(F:B<=w){j:Nat}{y:nC}(z:m.racks[j]?=XL y):X4 X3 264 #[j,az mb] w λe w'=>e=YT (X2 (bs y.name))/\w'=w:=by
 obtain⟨hm,hv⟩:=h;obtain⟨A,c,he,h1,h2⟩:∃A c,v.r=Zk A m.racks.length c/\m.racks.length<=c/\c<=9223372036854775807:=by obtain⟨a0,a1,a2,a3,a4,a5,_⟩:=hv.cells;exact a2
 have hx:=hv.rs;rw[he]at hx;obtain⟨b,o,cs,rfl,hb,_,hR,hc⟩:=hx.at_ z;obtain⟨rfl,_⟩:=hR;have D:aa w mb 2 (Zk (XL (b o XM)) m.racks.length c):=Hn;have C:=hc 0 _ rfl;simp only[X7]at C;have G:j<m.racks.length:=(List.getElem?_eq_some_iff.1 z).1;have I:(0:Int)<=(j:Int):=Zv;have J:(j:Int)<(m.racks.length:Nat):=Zv;clear hm hv he hx z hc;simp only[az];go_enter func264,ntmps264;exact Dv
def ez3(h:sW m v mb B w)(F:B<=w){j:Nat}{y:rq}(z:m.machs[j]?=XL y):X4 X3 266 #[j,az mb] w λe w'=>e=YT (X2 (bs y.name))/\w'=w:=by
 obtain⟨hm,hv⟩:=h;obtain⟨A,c,he,h1,h2⟩:∃A c,v.m=Zk A m.machs.length c/\m.machs.length<=c/\c<=9223372036854775807:=by obtain⟨a0,a1,a2,a3,a4,a5,_⟩:=hv.cells;exact a3
 have hx:=hv.ms;rw[he]at hx;obtain⟨b,o,cs,rfl,hb,_,hR,hc⟩:=hx.at_ z;obtain⟨rfl,_⟩:=hR;have D:aa w mb 3 (Zk (XL (b o XM)) m.machs.length c):=Hn;have C:=hc 0 _ rfl;simp only[X7]at C;have G:j<m.machs.length:=(List.getElem?_eq_some_iff.1 z).1;have I:(0:Int)<=(j:Int):=Zv;have J:(j:Int)<(m.machs.length:Nat):=Zv;clear hm hv he hx z hc;simp only[az];go_enter func266,ntmps266;exact Dv
def ez4(h:sW m v mb B w)(F:B<=w){j:Nat}{y:fq}(z:m.items[j]?=XL y):X4 X3 268 #[j,az mb] w λe w'=>e=YT (X2 (bs y.name))/\w'=w:=by
 obtain⟨hm,hv⟩:=h;obtain⟨A,c,he,h1,h2⟩:∃A c,v.i=Zk A m.items.length c/\m.items.length<=c/\c<=9223372036854775807:=by obtain⟨a0,a1,a2,a3,a4,a5,_⟩:=hv.cells;exact a5
 have hx:=hv.is;rw[he]at hx;obtain⟨b,o,cs,rfl,hb,_,hR,hc⟩:=hx.at_ z;obtain⟨yo,rfl,_⟩:=hR;have D:aa w mb 5 (Zk (XL (b o XM)) m.items.length c):=Hn;have C:=hc 0 _ rfl;simp only[X7]at C;have G:j<m.items.length:=(List.getElem?_eq_some_iff.1 z).1;have I:(0:Int)<=(j:Int):=Zv;have J:(j:Int)<(m.items.length:Nat):=Zv;clear hm hv he hx z hc;simp only[az];go_enter func268,ntmps268;exact Dv
def ez5(k:Int)(w:XO):X4 X3 270 #[k] w λe w'=>(∃n:Int,e=YT (ah n))/\w'=w:=by
 by_cases c:(k==0)=XR
 .go_enter func270,ntmps270;exact FW
 .have y:(k==0)=false:=by simpa using c
  clear c;by_cases j:(k==1)=XR
  .go_enter func270,ntmps270;exact FW
  .have z:(k==1)=false:=by simpa using j
   clear j;go_enter func270,ntmps270;exact FW
def ez6(j:Int)(w:XO):X4 X3 261 #[j] w λe w'=>(∃n:Int,e=YT (ah n))/\w'=w:=by go_enter func261,ntmps261;exact FW
def ez7(j:Int)(w:XO):X4 X3 263 #[j] w λe w'=>(∃n:Int,e=YT (ah n))/\w'=w:=by go_enter func263,ntmps263;exact FW
def ez8(j:Int)(w:XO):X4 X3 265 #[j] w λe w'=>(∃n:Int,e=YT (ah n))/\w'=w:=by go_enter func265,ntmps265;exact FW
def ez9(j:Int)(w:XO):X4 X3 267 #[j] w λe w'=>(∃n:Int,e=YT (ah n))/\w'=w:=by go_enter func267,ntmps267;exact FW
def fa0(h:sW m v mb B w)(G:B<=w){j:Nat}(C:j<m.items.length):X4 X3 269 #[j,az mb] w λe w'=>(∃n:Int,e=YT (ah n))/\w'=w:=by
 obtain⟨hm,hv⟩:=h;obtain⟨A,c,he,h1,h2⟩:∃A c,v.i=Zk A m.items.length c/\m.items.length<=c/\c<=9223372036854775807:=by obtain⟨a0,a1,a2,a3,a4,a5,_⟩:=hv.cells;exact a5
 have hx:=hv.is;rw[he]at hx;obtain⟨y,hy⟩:=jd C;obtain⟨b,o,cs,rfl,hb,_,hR,hc⟩:=hx.at_ hy;obtain⟨yo,rfl,_⟩:=hR;have D:aa w mb 5 (Zk (XL (b o XM)) m.items.length c):=Hn;have F:=hc 1 _ rfl;have z:=aj λW=>ez5 y.kind W;have I:(0:Int)<=(j:Int):=Zv;have J:(j:Int)<(m.items.length:Nat):=Zv;clear hm hv he hx hc hy;simp only[az];go_enter func269,ntmps269;go_wp2_with(go_at_call 270;refine(z _).m ?_;rintro e O ⟨⟨n,rfl⟩,rfl⟩)
 go_ret;exact⟨⟨_,rfl⟩,rfl⟩
def fa1(h:sW m v mb B w)(c:B<=w){k j:Nat}{s:ay}(A:k<5)(z:(gO m k)[j]?=XL s):X4 X3 (sB k) #[j,az mb] w λe w'=>e=YT (X2 (bs s))/\w'=w:=by
 have:k=0\/k=1\/k=2\/k=3\/k=4:=Zv;rcases this with rfl|rfl|rfl|rfl|rfl
 .exact ez0 h c z
 .exact ez1 h c z
 all_goals
  simp only[gO,X5,Option.map_eq_some_iff]at z;obtain⟨y,hy,rfl⟩:=z
 .exact ez2 h c hy
 .exact ez3 h c hy
 .exact ez4 h c hy
def ew7(h:sW m v mb B w)(c:B<=w){k j:Nat}(z:k<5)(y:j<(gO m k).length):X4 X3 (sC k) (#[ah j]++vb mb k) w λe w'=>(∃n:Int,e=YT (ah n))/\w'=w:=by
 have:k=0\/k=1\/k=2\/k=3\/k=4:=Zv;rcases this with rfl|rfl|rfl|rfl|rfl
 .exact ez6 j w
 .exact ez7 j w
 .exact ez8 j w
 .exact ez9 j w
 .exact fa0 h c (by simpa[gO]using y)
def ew8{k:Nat}(c:k<5):d_ (sB k):=by
 have:k=0\/k=1\/k=2\/k=3\/k=4:=Zv;rcases this with rfl|rfl|rfl|rfl|rfl
 .exact XX func260 aI rfl
 .exact XX func262 aI rfl
 .exact XX func264 aI rfl
 .exact XX func266 aI rfl
 .exact XX func268 aI rfl
def ew9{k:Nat}(c:k<5):d_ (sC k):=by
 have:k=0\/k=1\/k=2\/k=3\/k=4:=Zv;rcases this with rfl|rfl|rfl|rfl|rfl
 .exact XX func261 aI rfl
 .exact XX func263 aI rfl
 .exact XX func265 aI rfl
 .exact XX func267 aI rfl
 .exact XX func269 aI rfl
end
end
section
open Go Go.RowKit Go.Proofs.Tryz
def yP(n:Int):∀l,(B9 n l).Perm (n::l)
 |[]=>List.Perm.refl _
 |a::l=>by
  unfold B9;split
  .exact List.Perm.refl _
  .exact((yP n l).cons a).t (List.Perm.swap _ _ _)
def Jp:∀l:List Int,(ql l).Perm l
 |[]=>List.Perm.refl _
 |a::l=>(yP a (ql l)).t ((Jp l).cons a)
def bi7(n:Int):∀l:List Int,l.Pairwise (·<=·)->(B9 n l).Pairwise (·<=·)
 |[],_=>by simp[B9]
 |a::l,h=>by
  unfold B9;rw[List.pairwise_cons]at h;split
  .rename_i j;refine List.pairwise_cons.2 ⟨λb c=>?_,List.pairwise_cons.2 h⟩;rcases List.mem_cons.1 c with rfl|c
   .exact j
   .have:=h.1 b c;omega
  .rename_i j;refine List.pairwise_cons.2 ⟨λb c=>?_,bi7 n l h.2⟩;rcases List.mem_cons.1 ((yP n l).mem_iff.1 c)with rfl|c
   .omega
   .exact h.1 b c
def bi8:∀l:List Int,(ql l).Pairwise (·<=·)
 |[]=>List.Pairwise.nil
 |a::l=>bi7 a _ (bi8 l)
def bi9(l:List Int):(l.mergeSort λx y=>XN (x<=y))=ql l:=by refine List.Perm.eq_of_pairwise (le:=λx y:Int=>x<=y) (λa b _ _ j z=>Int.le_antisymm j z) ?_ (bi8 l) ((List.mergeSort_perm _ _).t (Jp l).symm);have h:=List.pairwise_mergeSort (le:=λx y:Int=>XN (x<=y)) (λa b c j z=>by simp at*;omega) (λa b=>by simp;omega) l;exact h.imp (λh=>by simpa using h)
def fg0(l:List (List UInt8)):(l.mergeSort λx y=>XN (x<=y)).Pairwise (·<=·):=by
 have h:=List.pairwise_mergeSort (le:=λx y:List UInt8=>XN (x<=y)) (λa b c j z=>by
  simp only[decide_eq_true_eq]at*
  exact List.le_trans j z) (λa b=>by
  have:=List.le_total a b;simpa using this) l
 exact h.imp (λh=>by simpa using h)
def fg1{s:List (List UInt8)}(c:s.Pairwise (·<=·))(D:∀j(h:j+1<s.length),s[j]≠s[j+1]):s.Nodup:=by
 rw[List.pairwise_iff_getElem]at c;refine List.pairwise_iff_getElem.2 λi j G I y F=>?_;have z:s[i]<=s[j - 1]:=by
  by_cases e:i=j - 1
  .subst e;exact List.le_refl _
  .exact c i (j - 1) G Zv Zv
 have A:s[j - 1]<=s[j]:=c (j - 1) j Zv I Zv;have C:s[j - 1]=s[j]:=List.le_antisymm A (F▸z);have J:j - 1+1=j:=Zv;refine D (j - 1) Zv ?_;rw[C];simp only[J]
def fg2(l:List (List UInt8)):(Go.Lib.compact (l.mergeSort λx y=>XN (x<=y))).length<l.length↔¬l.Nodup:=by
 have z:=List.mergeSort_perm l λx y=>XN (x<=y);have A:=fg0 l;rw[<-z.nodup_iff,<-z.length_eq];generalize (l.mergeSort λx y=>XN (x<=y))=s at z A;constructor
 .intro h I;rw[Go.Lib.compact_all s (λj c=>?_)]at h
  .omega
  .by_cases F:j=0
   .subst F;simp[Go.Lib.keeps]
   .refine Go.Lib.keeps_pos λe=>?_;have J:=List.pairwise_iff_getElem.1 I (j - 1) j (by omega) c (by omega);apply J;have C:s.toArray[j]! =s[j]:=by simp[getElem!_pos,c]
    have D:s.toArray[j - 1]! =s[j - 1]:=by simp[getElem!_pos,show j - 1<s.length by omega]
    rw[C,D]at e;exact e.symm
 .intro h;have:∃j,∃h:j+1<s.length,s[j]=s[j+1]:=by
   apply Classical.byContradiction;intro O;exact h (fg1 A λj c e=>O ⟨j,c,e⟩)
  obtain⟨j,c,e⟩:=this;unfold Go.Lib.compact Go.Lib.compactUpTo;rw[XY];have G:=(List.length_filter_lt_length_iff_exists (l:=Yz s.length) (p:=Go.Lib.keeps s.toArray)).2 ⟨j+1,List.mem_range.2 c,by rw[Go.Lib.keeps_neg Zv (by simp[getElem!_pos,c,show j<s.length by omega,e])];simp⟩
  rwa [List.length_range]at G
end
end Go.Proofs.YtihhpjmclebfpaaGreatDoor
