/- A part of the proof. -/
import Derived.Test.YtihhpjmclebfpaaGreatDoorQbl
import Derived.Test.YtihhpjmclebfpaaGreatDoorQbm
set_option linter.defProp false
set_option linter.unusedVariables false
set_option linter.unusedSimpArgs false
set_option maxRecDepth 100000
set_option maxHeartbeats 32000000
open Option renaming some->XL,none->XM
open Decidable renaming decide->XN
open Go renaming World->XO,Value->XP,Calls->X4,TypeId->Ya,maxLen->Yd,Oper->YO,Ending->Zb,Addr->Zf
open Bool renaming false->XQ,true->XR
open Go.Lib renaming itoa->XS,joinTail->YJ
open Go.RowKit renaming Hid->XV
open Go.Proofs renaming intOf->X8
open Go.Proofs.Tryz renaming prog->X3,underlying179->YW
open Go.Value renaming int->X1,string->X2,ownBlock->YC,oneCell'->YH,slice->Zk,bool->Zp,agg->Zr
open Nat renaming lt_succ_of_lt->Yw
open Go.IntKind renaming i64->Yo
open Go.Instr renaming lookup->Yu
open Go.Region renaming wanted->YB
open Go.Ending renaming returned->YT
open Go.Oper renaming wp->Zm
open Go.Obj renaming cells->Zq
open Go.Operand renaming tmp->Zt,const->Zu
namespace Go.Proofs.YtihhpjmclebfpaaGreatDoor
open Go Go.RowKit Go.Proofs.Tryz
section
open Go.MapKept
def fj5(d:aG)(U:Bool)(O I:Option Zf)(rn rc nn Z:Nat)(w:XO)(C:¬(0<=(d.kind:Int)/\(d.kind:Int)<=16)):
 aR 139 #[Zr #[d.kind,bs d.name,Zk O rn rc,Zk I nn Z,d.by_,Zp U]] w (Zp XQ):=by
 have F:=aj λpb=>fj0 pb C;have Y:=aj λW=>ae6 W;clear C;go_enter func139,ntmps139;go_upto_region 1 with(fail)
 refine df ?_;intro W1 ⟨z,cX⟩;refine MY λq0 a_ cA=>?_;have y:=aj z;have lJ:=aj cX;clear z cX;go_cut [3,4] (λp q wx=>q=Zp XQ/\Below w w wx)
 case first=>
  rename_i J K' A D;have G:=aj A;have vH:=aj D;clear A D;go_region_held3 (λw'=>ae w' w (ah d.kind)) (go_simp)
   (first
     |(go_at_call 140;refine(Y.o _).m ?_;rintro e w2 ⟨j,pb,rfl,hM,_,_,au⟩;have hF:=F.o pb;refine IN λaZ=>?_;have lB:(Instr.lookup 179 (.map (some j)) (.int .i64 d.kind) true).run prog w2= .ok (.tuple #[.agg #[.string ⟨#[]⟩,.bool false,.int .i64 0,.int .i64 0,.int .i64 0,.nilFunc,.bool false,.nilFunc],.bool false]) w2:=by exact af0
       have gD:∀o,(Yu 179 (.map (XL j)) (ah d.kind) XR).run X3 (w2.alloc o)= .ok (.tuple #[Zr #[X2 ⟨#[]⟩,Zp XQ,ah 0,ah 0,ah 0,.nilFunc,Zp XQ,.nilFunc],Zp XQ]) (w2.alloc o):=λo=>by exact af1
       have c0:=kc aZ q0;obtain⟨i',BO⟩:=oQ au;try(have ij:W1.heap.size<w2:=by(have X:=au.size;simp at X;omega))
       refine QR λbd gJ j_=>?_;clear hM au))
  all_goals
   dsimp only[Exit.then];refine vH.o _ _ (Met.intro (G.o _ _ ?_))
   (repeat apply Exists.intro)
   refine⟨⟨rfl,?_⟩,rfl⟩;have V:=aq y.o aZ
   (repeat' first|with_reducible exact V|with_reducible refine cV ?_ (by dsimp only;have:=y.o.size;omega) _|with_reducible refine ak ?_ _)
 case rest=>
  obtain⟨rfl,hB⟩:=hcut;go_wp2_with fail
  go_ret;exact⟨rfl,hB⟩
def fj6(d:aG)(rv nv:XP)(w:XO)(hG:iC w)(fb ft L M N:Nat)(NM AL A:Bool)(wd:ByteArray)(eb:d_ fb)(O:bg w w rv d.refs)(I:aS w w nv (d.nums.map λx:Nat=>(x:Int)))
 (hf:∀pb,∃cap,yU pb d.kind=XL (Zr #[wd,Zp NM,L,M,N,.func (.func fb) #[] #[],Zp AL,.func (.func ft) #[] cap]))(mZ:∀W,Below w w W->aR fb #[d.by_] W (Zp A))(D:(XN (L<=d.refs.length)&&(XN (d.refs.length<=M)&&(XN (d.nums.length=N)&&(A&&(AL|| !d.always)))))=XQ):
 aR 139 #[Zr #[d.kind,bs d.name,rv,nv,d.by_,Zp d.always]] w (Zp ((XN (L<=d.refs.length)&&(XN (d.refs.length<=M)&&(XN (d.nums.length=N)&&(A&&((AL|| !d.always)&&(if NM then bI d.name else XN (d.name=[])))))))
  &&d.refs.all bI&&d.nums.all λn=>XN (n<=1048576))):=by
 refine af2 λlH HF GH kI=>?_;have U:=aj (λW(hW:Below w w W)=>Xj (R1 λs=>X2 (bs s)) (R1.ab _) rv d.refs 230 #[] (kg d.refs λs=> !bI s) W ((O.below hW (ar _)).more hW.size).sk (XX func230 aI rfl)
  (λj x cs G hx ig z _=>by rw[fW hx];unfold R1 at z;subst z;exact ae9 x G (hG.step (aq hW ig))))
 have X:=aj (λW(hW:Below w w W)=>ae5 (R1 (X1 .i64)) (R1.ab _) nv (d.nums.map λx:Nat=>(x:Int)) 228 #[] (kg (d.nums.map λx:Nat=>(x:Int)) λn=> !XN (n<=1048576)) W ((I.below hW (ar _)).more hW.size).sk (XX func228 aI rfl)
  (λj x cs G hx ig z _=>by rw[fW hx];unfold R1 at z;subst z;obtain⟨y,hy,rfl⟩:=List.mem_map.1 (eE hx);have h:=ae8 y G;have e:XN (y<=1048576)=XN ((y:Int)<=1048576):=Oi;rw[e]at h;exact h))
 simp only[DE,bH]at U X;have e1:(d.refs.any λs=> !bI s)= !(d.refs.all bI):=TC;have e2:((d.nums.map λx:Nat=>(x:Int)).any λn=> !XN (n<=1048576))= !(d.nums.all λn=>XN (n<=1048576)):=by exact af3
 rw[e1]at U;rw[e2]at X;have xT:=aj (show(bs d.name).toList.isEmpty=XN (d.name=[])from by rw[je,ie];cases d.name<;>rfl);obtain⟨RA,rn,rc,rfl,dz,_,_⟩:=O.sk.form;obtain⟨NA,V,nc,rfl,cS,_,_⟩:=I.sk.form;rw[XY]at cS;rw[dz,cS];obtain⟨b1,zB⟩:∃b,Hid (XN (L<=rn)=b):=⟨_,aj rfl⟩;obtain⟨b2,CO⟩:∃b,Hid (XN (rn<=M)=b):=⟨_,aj rfl⟩;obtain⟨b3,qA⟩:∃b,Hid (XN (V=N)=b):=⟨_,aj rfl⟩;rw[dz,cS,zB.o,CO.o,qA.o]at D;rw[zB.o,CO.o,qA.o];have F:=aj D;clear D;generalize d.always=aw at F⊢
 generalize bI d.name=ni at kI;generalize XN (d.name=[])=ne at xT;generalize d.refs.all bI=ra at U;generalize (d.nums.all λn=>XN (n<=1048576))=na at X;unfold d_ at eb;clear O I hf mZ e1 e2 dz cS hG;go_enter func139,ntmps139;go_upto_region 1 with(fail)
 refine df ?_;intro W1 ⟨Z,cX⟩;refine MY λq0 a_ cA=>?_;have ba:=aj Z;have lJ:=aj cX;clear Z cX;go_cut [3,4] (λp q wx=>q=Zp XR/\∃C,p=az C/\W1.heap.size<=C/\Below W1 W1 wx/\∃cap,af wx C #[wd,Zp NM,L,M,N,.func (.func fb) #[] #[],Zp AL,.func (.func ft) #[] cap] 178)
 case first=>exact bn2
 case rest=>
  obtain⟨rfl,C,rfl,o_,aZ,cap,p9⟩:=hcut;have Y:=ai lJ.o aZ;obtain⟨zK,wQ,zL,zM,zN,zO⟩:=dy Y;obtain⟨EI,EJ,TR,TS,TT,TU,TV,TW⟩:=XD p9;have D9:=aj (aq ba.o aZ);have Ko:=aj Y;have Kn:=aj p9;clear Y p9 aZ q0;simp only[az];cases b1 with
  |false=>
   have k1:(rn:Int)<(L:Int):=by have hq:=zB.o;simp at hq;omega
   exact af4
  |true=>
   have k1:¬(rn:Int)<(L:Int):=by have hq:=zB.o;simp at hq;omega
   cases b2 with
   |false=>
    have k2:(M:Int)<(rn:Int):=by have hq:=CO.o;simp at hq;omega
    exact af4
   |true=>
    have k2:¬(M:Int)<(rn:Int):=by have hq:=CO.o;simp at hq;omega
    cases b3 with
    |false=>
     have k3:((V:Int)!=(N:Int))=true:=by have hq:=qA.o;simp at hq;simp;omega
     exact af4
    |true=>
     have k3:((V:Int)!=(N:Int))=false:=by have hq:=qA.o;simp at hq;simp;omega
     cases A with
     |false=>exact bn3
     |true=>
      cases aw with
      |false=>exact absurd F.o Zy
      |true=>
       cases AL with
       |true=>exact absurd F.o Zy
       |false=>exact bn3
def fr4(d:aG)(rv nv:XP)(w:XO)(hG:iC w)(z C L M N:Nat)(NM D O:Bool)(wd:ByteArray)(eb:d_ z)(V:bg w w rv d.refs)(U:aS w w nv (d.nums.map λx:Nat=>(x:Int)))
 (hf:∀pb,∃cap,yU pb d.kind=XL (Zr #[wd,Zp NM,L,M,N,.func (.func z) #[] #[],Zp D,.func (.func C) #[] cap]))(mZ:∀W,Below w w W->aR z #[d.by_] W (Zp O))(X:d.always=XR)(uN:D=XR)(G:L<=d.refs.length)(au:d.refs.length<=M)(I:d.nums.length=N)(vP:O=XR):
 aR 139 #[Zr #[d.kind,bs d.name,rv,nv,d.by_,Zp d.always]] w (Zp ((XN (L<=d.refs.length)&&(XN (d.refs.length<=M)&&(XN (d.nums.length=N)&&(O&&((D|| !d.always)&&(if NM then bI d.name else XN (d.name=[])))))))
  &&d.refs.all bI&&d.nums.all λn=>XN (n<=1048576))):=by
 refine af2 λlH HF GH kI=>?_;have nO:=aj (λW(hW:Below w w W)=>Xj (R1 λs=>X2 (bs s)) (R1.ab _) rv d.refs 230 #[] (kg d.refs λs=> !bI s) W ((V.below hW (ar _)).more hW.size).sk (XX func230 aI rfl)
  (λj x cs F hx ig A _=>by rw[fW hx];unfold R1 at A;subst A;exact ae9 x F (hG.step (aq hW ig))))
 have ut:=aj (λW(hW:Below w w W)=>ae5 (R1 (X1 .i64)) (R1.ab _) nv (d.nums.map λx:Nat=>(x:Int)) 228 #[] (kg (d.nums.map λx:Nat=>(x:Int)) λn=> !XN (n<=1048576)) W ((U.below hW (ar _)).more hW.size).sk (XX func228 aI rfl)
  (λj x cs F hx ig A _=>by rw[fW hx];unfold R1 at A;subst A;obtain⟨y,hy,rfl⟩:=List.mem_map.1 (eE hx);have h:=ae8 y F;have e:XN (y<=1048576)=XN ((y:Int)<=1048576):=Oi;rw[e]at h;exact h))
 simp only[DE,bH]at nO ut;have e1:(d.refs.any λs=> !bI s)= !(d.refs.all bI):=TC;have e2:((d.nums.map λx:Nat=>(x:Int)).any λn=> !XN (n<=1048576))= !(d.nums.all λn=>XN (n<=1048576)):=by exact af3
 rw[e1]at nO;rw[e2]at ut;have xT:=aj (show(bs d.name).toList.isEmpty=XN (d.name=[])from by rw[je,ie];cases d.name<;>rfl);obtain⟨RA,rn,rc,rfl,dz,_,_⟩:=V.sk.form;obtain⟨NA,nn,nc,rfl,cS,_,_⟩:=U.sk.form;rw[XY]at cS;rw[dz,cS];rw[dz]at G au;rw[cS]at I;have k1:¬(rn:Int)<(L:Int):=Zv;have k2:¬(M:Int)<(rn:Int):=Zv;have k3:((nn:Int)!=(N:Int))=false:=bN;rw[decide_eq_true G,decide_eq_true au,decide_eq_true I,X];subst uN vP;clear G au I X;generalize bI d.name=ni at kI;generalize XN (d.name=[])=ne at xT;generalize d.refs.all bI=ra at nO;generalize (d.nums.all λn=>XN (n<=1048576))=na at ut;unfold d_ at eb;clear V U hf mZ e1 e2 dz cS hG;go_enter func139,ntmps139;go_upto_region 1 with(fail)
 refine df ?_;intro W1 ⟨Z,cX⟩;refine MY λq0 a_ cA=>?_;have ba:=aj Z;have lJ:=aj cX;clear Z cX;go_cut [3,4] (λp q wx=>q=Zp XR/\∃fo,p=az fo/\W1.heap.size<=fo/\Below W1 W1 wx/\∃cap,af wx fo #[wd,Zp NM,L,M,N,.func (.func z) #[] #[],Zp XR,.func (.func C) #[] cap] 178)
 case first=>
  rename_i J K' hJ iV;have HJ:=aj hJ;have vH:=aj iV;clear hJ iV;go_region_held3 (λw'=>ae w' w (ah d.kind)) (go_simp)
   (first
     |(go_at_call 140;refine(lH.o _).m ?_;rintro e w2 ⟨Y,pb,rfl,hM,_,_,au⟩;obtain⟨cap,hF⟩:=HF.o pb;refine IN λaZ=>?_;have lB:(Instr.lookup 179 (.map (some Y)) (.int .i64 d.kind) true).run prog w2= .ok (.tuple #[.agg #[.string wd,.bool NM,.int .i64 L,.int .i64 M,.int .i64 N,.func (.func z) #[] #[],.bool true,.func (.func C) #[] cap],.bool true]) w2:=by exact af0
       have gD:∀o,(Yu 179 (.map (XL Y)) (ah d.kind) XR).run X3 (w2.alloc o)= .ok (.tuple #[Zr #[wd,Zp NM,L,M,N,.func (.func z) #[] #[],Zp XR,.func (.func C) #[] cap],Zp XR]) (w2.alloc o):=λo=>by exact af1
       have c0:=kc aZ q0;obtain⟨i',BO⟩:=oQ au;try(have ij:W1.heap.size<w2:=by(have hq:=au.size;simp at hq;omega))
       refine QR λbd gJ j_=>?_;clear hM au))
  all_goals
   dsimp only[Exit.then];refine vH.o _ _ (Met.intro (HJ.o _ _ ?_))
   (repeat apply Exists.intro)
   refine⟨⟨rfl,?_⟩,rfl⟩
  .exact QS
  .exact QS
  .exact bn4
 case rest=>exact bn5
def fr5(d:aG)(rv nv:XP)(w:XO)(hG:iC w)(fb ft L M N:Nat)(NM AL F:Bool)(wd:ByteArray)(eb:d_ fb)(I:bg w w rv d.refs)(G:aS w w nv (d.nums.map λx:Nat=>(x:Int)))
 (hf:∀pb,∃cap,yU pb d.kind=XL (Zr #[wd,Zp NM,L,M,N,.func (.func fb) #[] #[],Zp AL,.func (.func ft) #[] cap]))(mZ:∀W,Below w w W->aR fb #[d.by_] W (Zp F))(O:d.always=XQ)(C:L<=d.refs.length)(au:d.refs.length<=M)(D:d.nums.length=N)(vP:F=XR):
 aR 139 #[Zr #[d.kind,bs d.name,rv,nv,d.by_,Zp d.always]] w (Zp ((XN (L<=d.refs.length)&&(XN (d.refs.length<=M)&&(XN (d.nums.length=N)&&(F&&((AL|| !d.always)&&(if NM then bI d.name else XN (d.name=[])))))))
  &&d.refs.all bI&&d.nums.all λn=>XN (n<=1048576))):=by
 refine af2 λlH HF GH kI=>?_;have nO:=aj (λW(hW:Below w w W)=>Xj (R1 λs=>X2 (bs s)) (R1.ab _) rv d.refs 230 #[] (kg d.refs λs=> !bI s) W ((I.below hW (ar _)).more hW.size).sk (XX func230 aI rfl)
  (λj x cs A hx Y z _=>by rw[fW hx];unfold R1 at z;subst z;exact ae9 x A (hG.step (aq hW Y))))
 have ut:=aj (λW(hW:Below w w W)=>ae5 (R1 (X1 .i64)) (R1.ab _) nv (d.nums.map λx:Nat=>(x:Int)) 228 #[] (kg (d.nums.map λx:Nat=>(x:Int)) λn=> !XN (n<=1048576)) W ((G.below hW (ar _)).more hW.size).sk (XX func228 aI rfl)
  (λj x cs A hx Y z _=>by rw[fW hx];unfold R1 at z;subst z;obtain⟨y,hy,rfl⟩:=List.mem_map.1 (eE hx);have h:=ae8 y A;have e:XN (y<=1048576)=XN ((y:Int)<=1048576):=Oi;rw[e]at h;exact h))
 simp only[DE,bH]at nO ut;have V:(d.refs.any λs=> !bI s)= !(d.refs.all bI):=TC;have X:((d.nums.map λx:Nat=>(x:Int)).any λn=> !XN (n<=1048576))= !(d.nums.all λn=>XN (n<=1048576)):=by exact af3
 rw[V]at nO;rw[X]at ut;have xT:=aj (show(bs d.name).toList.isEmpty=XN (d.name=[])from by rw[je,ie];cases d.name<;>rfl);obtain⟨RA,rn,rc,rfl,dz,_,_⟩:=I.sk.form;obtain⟨NA,nn,nc,rfl,cS,_,_⟩:=G.sk.form;rw[XY]at cS;rw[dz,cS];rw[dz]at C au;rw[cS]at D;have k1:¬(rn:Int)<(L:Int):=Zv;have k2:¬(M:Int)<(rn:Int):=Zv;have k3:((nn:Int)!=(N:Int))=false:=bN;rw[decide_eq_true C,decide_eq_true au,decide_eq_true D,O];subst vP;clear C au D O;generalize bI d.name=ni at kI;generalize XN (d.name=[])=ne at xT;generalize d.refs.all bI=ra at nO;generalize (d.nums.all λn=>XN (n<=1048576))=na at ut;unfold d_ at eb;clear I G hf mZ V X dz cS hG;go_enter func139,ntmps139;go_upto_region 1 with(fail)
 refine df ?_;intro W1 ⟨U,cX⟩;refine MY λq0 a_ cA=>?_;have ba:=aj U;have lJ:=aj cX;clear U cX;go_cut [3,4] (λp q Z=>q=Zp XR/\∃fo,p=az fo/\W1.heap.size<=fo/\Below W1 W1 Z/\∃cap,af Z fo #[wd,Zp NM,L,M,N,.func (.func fb) #[] #[],Zp AL,.func (.func ft) #[] cap] 178)
 case first=>exact bn2
 case rest=>exact bn5
def af5(d:aG)(rv nv:XP)(w:XO)(D:iC w)(y A L M N:Nat)(z c j:Bool)(wd:ByteArray)(C:d_ y)(I:bg w w rv d.refs)(G:aS w w nv (d.nums.map λx:Nat=>(x:Int)))
 (F:∀pb,∃cap,yU pb d.kind=XL (Zr #[wd,Zp z,L,M,N,.func (.func y) #[] #[],Zp c,.func (.func A) #[] cap]))(J:∀W,Below w w W->aR y #[d.by_] W (Zp j)):
 aR 139 #[Zr #[d.kind,bs d.name,rv,nv,d.by_,Zp d.always]] w (Zp ((XN (L<=d.refs.length)&&(XN (d.refs.length<=M)&&(XN (d.nums.length=N)&&(j&&((c|| !d.always)&&(if z then bI d.name else XN (d.name=[])))))))
  &&d.refs.all bI&&d.nums.all λn=>XN (n<=1048576))):=by
 cases E3:(XN (L<=d.refs.length)&&(XN (d.refs.length<=M)&&(XN (d.nums.length=N)&&(j&&(c|| !d.always)))))
 .exact fj6 d rv nv w D y A L M N z c j wd C I G F J E3
 .simp only[Bool.and_eq_true,decide_eq_true_eq,Bool.or_eq_true,Bool.not_eq_true']at E3;obtain⟨h1,h2,h3,h4,h5⟩:=E3;cases ha:d.always with
  |false=>
   have h:=fr5 d rv nv w D y A L M N z c j wd C I G F J ha h1 h2 h3 h4
   rwa [ha]at h
  |true=>
   rw[ha]at h5;have h:=fr4 d rv nv w D y A L M N z c j wd C I G F J ha qE h1 h2 h3 h4
   rwa [ha]at h
def bn6(d:aG)(rv nv:XP)(w:XO)(hG:iC w)(hr:bg w w rv d.refs)(hn:aS w w nv (d.nums.map λx:Nat=>(x:Int))):
 aR 139 #[Zr #[d.kind,bs d.name,rv,nv,d.by_,Zp d.always]] w (Zp (bK d)):=by
 by_cases c:d.kind<=16
 .obtain⟨k,fk⟩:∃k,d.kind=k:=⟨_,rfl⟩;unfold bK;rw[Qi d k (by omega) fk];have lX:∀pb,yU pb d.kind=some (oU pb k):=λpb=>by rw[fk];exact bn0 pb (by omega)
  rcases oJ (show k<=16 by omega)with rfl|rfl|rfl|rfl|rfl|rfl|rfl|rfl|rfl|rfl|rfl|rfl|rfl|rfl|rfl|rfl|rfl
  .exact tU
  .exact tU
  .exact tU
  .exact tU
  .exact tU
  .exact tU
  .exact tU
  .exact tU
  .exact tU
  .exact af5 d rv nv w hG _ _ _ _ _ _ _ _ _ (XX func244 aI rfl) hr hn (λpb=>⟨_,lX pb⟩) (λW _=>fj2 d.by_ W)
  .exact tU
  .exact tU
  .exact af5 d rv nv w hG _ _ _ _ _ _ _ _ _ (XX func248 aI rfl) hr hn (λpb=>⟨_,lX pb⟩) (λW _=>fj4 d.by_ W)
  .exact tU
  .exact tU
  .exact tU
  .exact tU
 .obtain⟨RA,rn,rc,rfl,_,_,_⟩:=hr.sk.form;obtain⟨NA,nn,nc,rfl,_,_,_⟩:=hn.sk.form;have:bK d=false:=by unfold bK;rw[eu6 d (by omega)];rfl
  rw[this];exact fj5 d d.always RA NA rn rc nn nc w Zv
def aL.turnB{B pb p:Nat}{w w':XO}(h:j5 w w' p)(y:B<=p):aL B pb w w':=by have c:=h.1 0 w ((am w).mono (bU _)) (bU _);exact⟨c.os,c.tape,c.output,by rw[h.2.1];exact ar _,λi j _=>h.2.2 i Zv⟩
def fr6(w:XO)(Mb:Nat)(r:Except (Nat×Nat) dK):Zb->XO->Prop:=λe w'=>
 aL w Mb w w'/\match r with
  | .error x=>e=YT (.tuple #[x.1,x.2])
  | .ok t=>e=YT (.tuple #[ah 0,ah 0])/\dN mW w' Mb (mz t)
def fr7(rb Mb:Nat)(v:XP)(l:List aG)(w:XO)(hG:iC w)(gv8:8<=Mb)(F:ae w rb (.map (XL Mb)))(hM:dN mW w Mb (mz []))(hv:ci 6 mS w w v l)(hl:l.length<=100000)(t0:dK)(jx:ks [] [] l= .ok t0):
 X4 X3 88 #[az rb,v] w (fr6 w Mb (.ok t0)):=by
 have eh:=bY _ _ F;have kH:=fm1 hM;have aT:¬rb=Mb:=λe=>by rw[e]at F;rw[kH]at F;cases F
 have he7:=hM.lt;obtain⟨A,n,c,rfl,hn,hc,fQ⟩:=hv.form;refine vg λmG=>?_;have HG:=aj hG;have HR:=aj F;have HM:=aj hM;have HV:=aj hv;have J:=aj hn;have dh6:=aj kH;have mP:=aj jx;simp only[az];rw[hn]at hl;clear hG F hM hv hn kH jx;go_enter func88,ntmps88;go_upto_region 2 with(fail)
 refine ez (λW=>Below w w W/\dN ju W w (Cq [])/\dN ju W (w+1) (Cr [])) ⟨ak (ak (am w) _) _,((dN.made ju w).later (ak (am _) _)).of_eq (λk=>by unfold Cq;rw[if_neg];intro h;exact h.2 rfl),by have h:=(dN.made ju (w.alloc (.map #[] 0))).of_eq (g:=Cr []) (λk=>by unfold Cr;rw[if_neg];intro h;exact absurd h.2 (by simp[kY]));rw[YY]at h;exact h⟩ ?_;intro W1 ⟨bc,O,U⟩;have ba:=aj bc;have dp2:=aj O;have dq2:=aj U;clear bc O U;go_wp2_with fail
 go_loopw [17] (λi wr=>∃(k:Nat)(t:dK),k<=n/\i=ah k/\ks [] [] l=ks (l.take k) t (l.drop k)/\dN mW wr Mb (mz t)/\dN ju wr w (Cq (l.take k))/\dN ju wr (w+1) (Cr (l.take k))/\aL w Mb w wr) (λi _=>n - (X8 i).toNat)
 case atStart=>exact⟨0,[],bU _,rfl,rfl,HM.later ba,dp2,dq2,aL.of_below ba (ar _) ba.size⟩
 case round=>
  obtain⟨k,t,hk,rfl,wW,KQ,ck3,cm7,og⟩:=hrel;obtain⟨j,rfl⟩:∃j:XO,j=wr:=⟨_,rfl⟩;have I:=aj wW;have zx:=aj KQ;have JM:=aj ck3;have gi:=aj cm7;have nM:=aj og;clear wW KQ ck3 cm7 og;by_cases ap:k<n
  .obtain⟨eC,bh⟩:=dt ap;obtain⟨d,hd⟩:=iT J ap;have Df:l.drop k=d::l.drop (k+1):=by rw[List.drop_eq_getElem_cons (by rw[J.o];exact ap)];congr 1;rw[List.getElem?_eq_getElem (by rw[J.o];exact ap)]at hd;injection hd
   have Fv:l.take (k+1)=l.take k++[d]:=by rw[YE,hd];rfl
   have G:(l.take k).length=k:=by rw[YK,J.o];omega
   rw[Df]at I;have em:=aj λh=>I.t (bm6 (b:=l.take k) (r:=l.drop (k+1)) (t:=t) (d:=d) h);have Ef:=aj λh h2=>I.t (bm7 (b:=l.take k) (r:=l.drop (k+1)) (t:=t) (d:=d) h h2);have zq:=aj λh h2=>I.t (bm8 (b:=l.take k) (r:=l.drop (k+1)) (t:=t) (d:=d) h h2);rw[G]at em Ef;rw[<-Fv]at zq;have tg:=aj λx=>fl7 (l.take k) d x;have bs8:=aj λx=>fl8 (l.take k) d x;rw[<-Fv]at tg bs8;have D:=aj (bm4 (l.take k) (cB d.kind));have bs7:=aj (fl6 (l.take k) d.kind);have NH:=aj (bm4 (l.take (k+1)) (cB d.kind));have fj:jk (l.take (k+1)) (cB d.kind)=jk (l.take k) (cB d.kind)+1:=by rw[Fv,ae4,if_pos rfl]
   have ep:jk (l.take k) (cB d.kind)<=k:=by have:=List.length_filter_le (λx:aG=>XN (cB x.kind=cB d.kind)) (l.take k);unfold jk;omega
   have nK:=aj (show F6 t (l.take k) d=((!XN (d.name=[])&&(el t d.name).isSome)||((XN (d.kind=8)||XN (d.kind=9))&&kY (l.take k) d.kind))from rfl);have Tr:Hid (ci 6 mS j w (Zk A n c) l):=DeclS.kp HV nM (ar _) dh6.o;obtain⟨b,o,cs,rfl,fL,U3,hR,bo⟩:=Tr.at_ hd;obtain⟨rv,nv,rfl,nh,B3,aC,au⟩:=hR;obtain⟨RA,rn,rc,rfl,_,_,_⟩:=nh.sk.form;obtain⟨NA,nn,nc,rfl,_,_,_⟩:=B3.sk.form;have wH:=aj nh;have Bl:=aj B3;refine DF λh0 h1 h2=>?_;have h3:=bo 3 _ rfl;have h4:=bo 4 _ rfl;have h5:=bo 5 _ rfl;simp only[X7]at h0;have rj:ae j rb (.map (XL Mb)):=(nM.cell 0 eh aT).t HR.o;have B6:=nM.size;have rV:Hid (iC j):=HG.below (nM.below (fK he7)) gv8;clear bo U3 nh B3 hd Df Fv G;go_upto_region 5 with(fail)
   refine ez (λW=>Below j j W/\af W j.heap.size #[d.kind,bs d.name,Zk RA rn rc,Zk NA nn nc,d.by_,Zp d.always] 100) ⟨by first|exact cV (ak (am j) _) (ar _) _|exact ak (am j) _,by first|exact Yy j _|exact(bf (bf (bf (bf (bf (bf (Yy j _) _ _) _ _) _ _) _ _) _ _) _ _).t rfl⟩ ?_;intro z ⟨aZ,V⟩;have ij:=blk_lt V;have cZ:ae z rb (.map (XL Mb)):=(aZ.cell (p:=rb) (bJ eh B6)).t rj;obtain⟨xb,fe⟩:∃b,j.heap.size=b:=⟨_,rfl⟩;simp only[fe]at V ij⊢
   obtain⟨zK,wQ,zL,zM,zN,zO⟩:=dy V;have Bo:=aj fe;have C:=aj aZ;have nq:=aj V;clear aZ V h0 h1 h2 h3 h4 h5 rj fe;have Y:=aj λW(X:Below z z W)=>bn6 d (Zk RA rn rc) (Zk NA nn nc) W ((rV.step C).step X) ((wH.below (aq C X) B6).more (bC B6 (bC C.size X.size))) ((Bl.below (aq C X) B6).more (bC B6 (bC C.size X.size)));have wG:=aj λW=>ay4 d.kind W;obtain⟨Z,cw6⟩:∃Z,(XN (d.kind=8)||XN (d.kind=9))=Z:=⟨_,rfl⟩;obtain⟨us,IB⟩:∃us,(el t d.name).isSome=us:=⟨_,rfl⟩;have N3:=aj cw6;have xX:=aj IB;clear cw6 IB;go_cut [10]from 18 to 86 (λp wx=>p=Zp Z/\z=wx)
   case first=>
    by_cases k8:d.kind=8
    .have e8:((d.kind:Int)==8)=true:=by simp;omega
     go_wp2_with fail
     go_meet;exact⟨by rw[<-N3.o,k8];rfl,rfl⟩
    .have e8:((d.kind:Int)==8)=false:=by simp;omega
     by_cases k9:d.kind=9
     .have e9:((d.kind:Int)==9)=true:=by simp;omega
      go_wp2_with fail
      go_meet;exact⟨by rw[<-N3.o,k9];rfl,rfl⟩
     .have e9:((d.kind:Int)==9)=false:=by simp;omega
      go_wp2_with fail
      go_meet;exact⟨by rw[<-N3.o,decide_eq_false k8,decide_eq_false k9];rfl,rfl⟩
   case rest=>
   obtain⟨rfl,rfl⟩:=hcut;go_upto_region 6 with(fail)
   obtain⟨kq,Lk⟩:=ay6 t d.name;have tk:=aj Lk;have dm7:=aj (show(mz t d.name).isSome=us by rw[<-xX.o];unfold mz;cases el t d.name<;>rfl);have J2:=aj (zx.later C);clear Lk;go_cut [11,12]from 18 to 86 (λ_ q wx=>q=Zp us/\Below z z wx)
   case first=>
    refine tz (S:=λw'=>ae w' rb (.map (XL Mb))/\aa w' xb 1 (X2 (bs d.name))/\dN mW w' Mb (mz t)/\Below z z w') 13 (by exact⟨cZ,wQ,J2,aW (am z)⟩) λhS=>?_;iterate 6 refine oO 13 31 ?_
    refine ba7 (i:=6) (v:= .tuple #[Zr #[kq,ah (bT t d.name)],Zp us]) (XL 37) rfl rfl aI aI aI (λ_ _ _ h=>h) (Or.inl ⟨by rfl,?_⟩) hS ?_
    .intro wq jF;try dsimp only at jF
     have h:=sU (P:=X3) underlying143 YP FT jF.2.2.1 d.name XR (zeroValue227 _);rw[tk.o,dm7.o]at h;have lB:(Yu 143 (.map (XL Mb)) (X2 (bs d.name)) XR).run X3 wq= .ok (.tuple #[Zr #[kq,ah (bT t d.name)],Zp us]) wq:=h;clear h;go_simp;try with_reducible rfl
    refine aH ?_;refine cQ 7 30 ?_;iterate 2 refine oO 13 30 ?_
    refine fg 10 λK hK=>?_;go_simp;refine hK _ _ (by exact⟨kc (ak (am _) _) hS.1,kc (ak (am _) _) hS.2.1,hS.2.2.1.later (ak (am _) _),aq hS.2.2.2 (ak (am _) _)⟩) λhS=>?_;clear hK;refine aH ?_;refine fg 11 λK hK=>?_;go_simp;refine hK _ _ (by refine(λhb=>⟨kc hb cZ,(hb.cell (p:=xb 1 XM) ij).t wQ,J2.later hb,hb⟩) ?_;first|exact aW (ak (am z) _)|exact ak (aW (am z)) _) λhS=>?_;clear hK;refine aH ?_;refine cQ 12 12 ?_;refine rY ?_;go_wp2_with fail
    go_meet;exact⟨rfl,by first|exact aW (ak (am z) _)|exact ak (aW (am z)) _⟩
   case rest=>
   obtain⟨rfl,kC⟩:=hcut;have lG:=aj kC;have Bq:=aj (ai nq kC);obtain⟨BD,vL,uH,uI,EK,EL⟩:=dy Bq.o;have lF:=kc kC cZ;have cz3:=blk_lt Bq.o;have GG:Hid (Below j j wc):=aq C kC;have ct5:¬xb=w+1:=by have:=gi.lt;have:=Bo.o;omega
   have ct4:¬xb=w:=by have:=gi.lt;have:=Bo.o;omega
   have ha9:¬rb=w+1:=Zv;have ha8:¬rb=w:=Zv;have ha7:¬Mb=w+1:=Zv;have ha6:¬Mb=w:=Zv;have ct6:¬xb=Mb:=by have:=Bo.o;omega
   have S6:Hid (aL w Mb w wc):=nM.t (aL.of_below GG B6 GG.size);have xT:=aj (show(bs d.name).toList.isEmpty=XN (d.name=[])from by rw[je,ie];cases d.name<;>rfl);obtain⟨ne,VP⟩:∃b,XN (d.name=[])=b:=⟨_,rfl⟩;obtain⟨vd,Ap⟩:∃b,bK d=b:=⟨_,rfl⟩;obtain⟨on,xc⟩:∃b,kY (l.take k) d.kind=b:=⟨_,rfl⟩;obtain⟨cn,Aa⟩:∃m,jk (l.take k) (cB d.kind)=m:=⟨_,rfl⟩;obtain⟨sc,LE⟩:∃m,cB d.kind=m:=⟨_,rfl⟩;have U4:cn<=100000:=Zv;rw[VP]at xT nK;rw[Ap]at Y;rw[xc]at bs7 nK;rw[N3.o,xX.o]at nK;rw[Aa]at D tg;rw[fj,Aa]at NH zq;rw[show((cn+1:Nat):Int)=(cn:Int)+1 from rfl]at NH;rw[LE]at wG D tg NH;have nk:=aj VP;have Hc:=aj Ap;clear kC zK wQ zL zM zN zO cZ VP Ap xc Aa LE fj ep;cases vd with
   |false=>exact nomatch mP.symm.t (em Hc)
   |true=>
    cases ne with
    |false=>
     have kn:=xT.o;cases us with
     |true=>exact af6
     |false=>
      cases Z with
      |true=>
       cases on with
       |true=>exact af6
       |false=>
        go_wp2_with first
         |(go_at_call 139;refine(Y _ lG).r λw4 aV=>?_;refine QT λb0 b1 sE bW vI CB pR il=>?_;have G:(Instr.lookup 225 (.map (some (w.heap.size+1))) (.int .i64 d.kind) false).run prog w4= .ok (.bool false) w4:=by exact QU
           clear aV BD vL uH uI EK EL lF)
         |(refine fh rfl (Zt 60) (Zt 62) (Zu (Zp XR)) 225 (.inl rfl) 3 4 (.int Yo) underlying225 XZ cJ (w+1) _ rfl pR (d.kind:Int) (Zp XR) rfl rfl ?_;intro w5 qX jU;refine QV λc0 c1 mh zv CC nN gK=>?_;clear qX jU b0 b1 sE)
         |(go_at_call 196;refine(wG _).r λw6 cL=>?_;refine QW λd0 d1 yH G0 te rW nL=>?_;clear cL c0 c1 mh)
         |(at_lookup;refine Cn rfl (.tmp 63) (.tmp 66) 224 false rfl 3 3 (.int .i64) underlying224 underlying3 cJ w _ rfl te (sc:Int) (.int .i64 0) rfl (zeroValue3 _) ?_
           rw[D.o];simp only[Yh,if_false])
         |(refine fh rfl (Zt 63) (Zt 66) (Zt 68) 224 (.inl rfl) 3 3 (.int Yo) underlying224 XZ cJ w _ rfl te (sc:Int) (ah ((cn:Int)+1)) rfl (by go_num) ?_;intro w7 qY lW;refine QX λe0 e1 qe Eh tr uk j'=>?_;clear qY lW d0 d1 yH)
        exact bn7
      |false=>
       go_wp2_with first
        |(go_at_call 139;refine(Y _ lG).r λw4 aV=>?_;refine QT λb0 b1 sE bW vI CB pR il=>?_;have G:(Instr.lookup 225 (.map (some (w.heap.size+1))) (.int .i64 d.kind) false).run prog w4= .ok (.bool on) w4:=by exact QU
          clear aV BD vL uH uI EK EL lF)
        |(refine fh rfl (Zt 60) (Zt 62) (Zu (Zp XR)) 225 (.inl rfl) 3 4 (.int Yo) underlying225 XZ cJ (w+1) _ rfl pR (d.kind:Int) (Zp XR) rfl rfl ?_;intro w5 qX jU;refine QV λc0 c1 mh zv CC nN gK=>?_;clear qX jU b0 b1 sE)
        |(go_at_call 196;refine(wG _).r λw6 cL=>?_;refine QW λd0 d1 yH G0 te rW nL=>?_;clear cL c0 c1 mh)
        |(at_lookup;refine Cn rfl (.tmp 63) (.tmp 66) 224 false rfl 3 3 (.int .i64) underlying224 underlying3 cJ w _ rfl te (sc:Int) (.int .i64 0) rfl (zeroValue3 _) ?_
          rw[D.o];simp only[Yh,if_false])
        |(refine fh rfl (Zt 63) (Zt 66) (Zt 68) 224 (.inl rfl) 3 3 (.int Yo) underlying224 XZ cJ w _ rfl te (sc:Int) (ah ((cn:Int)+1)) rfl (by go_num) ?_;intro w7 qY lW;refine QX λe0 e1 qe Eh tr uk j'=>?_;clear qY lW d0 d1 yH)
       exact bn7
    |true=>
     have kn:=xT.o;cases Z with
     |true=>
      cases on with
      |true=>exact af6
      |false=>
       go_wp2_with first
        |(go_at_call 139;refine(Y _ lG).r λw4 aV=>?_;refine QT λb0 b1 sE bW vI CB pR il=>?_;have G:(Instr.lookup 225 (.map (some (w.heap.size+1))) (.int .i64 d.kind) false).run prog w4= .ok (.bool false) w4:=by exact QU
          clear aV BD vL uH uI EK EL lF)
        |(refine fh rfl (Zt 60) (Zt 62) (Zu (Zp XR)) 225 (.inl rfl) 3 4 (.int Yo) underlying225 XZ cJ (w+1) _ rfl pR (d.kind:Int) (Zp XR) rfl rfl ?_;intro w5 qX jU;refine QV λc0 c1 mh zv CC nN gK=>?_;clear qX jU b0 b1 sE)
        |(go_at_call 196;refine(wG _).r λw6 cL=>?_;refine QW λd0 d1 yH G0 te rW nL=>?_;clear cL c0 c1 mh)
        |(at_lookup;refine Cn rfl (.tmp 63) (.tmp 66) 224 false rfl 3 3 (.int .i64) underlying224 underlying3 cJ w _ rfl te (sc:Int) (.int .i64 0) rfl (zeroValue3 _) ?_
          rw[D.o];simp only[Yh,if_false])
        |(refine fh rfl (Zt 63) (Zt 66) (Zt 68) 224 (.inl rfl) 3 3 (.int Yo) underlying224 XZ cJ w _ rfl te (sc:Int) (ah ((cn:Int)+1)) rfl (by go_num) ?_;intro w7 qY lW;refine QX λe0 e1 qe Eh tr uk j'=>?_;clear qY lW d0 d1 yH)
       exact bn8
     |false=>
      go_wp2_with first
       |(go_at_call 139;refine(Y _ lG).r λw4 aV=>?_;refine QT λb0 b1 sE bW vI CB pR il=>?_;have G:(Instr.lookup 225 (.map (some (w.heap.size+1))) (.int .i64 d.kind) false).run prog w4= .ok (.bool on) w4:=by exact QU
         clear aV BD vL uH uI EK EL lF)
       |(refine fh rfl (Zt 60) (Zt 62) (Zu (Zp XR)) 225 (.inl rfl) 3 4 (.int Yo) underlying225 XZ cJ (w+1) _ rfl pR (d.kind:Int) (Zp XR) rfl rfl ?_;intro w5 qX jU;refine QV λc0 c1 mh zv CC nN gK=>?_;clear qX jU b0 b1 sE)
       |(go_at_call 196;refine(wG _).r λw6 cL=>?_;refine QW λd0 d1 yH G0 te rW nL=>?_;clear cL c0 c1 mh)
       |(at_lookup;refine Cn rfl (.tmp 63) (.tmp 66) 224 false rfl 3 3 (.int .i64) underlying224 underlying3 cJ w _ rfl te (sc:Int) (.int .i64 0) rfl (zeroValue3 _) ?_
         rw[D.o];simp only[Yh,if_false])
       |(refine fh rfl (Zt 63) (Zt 66) (Zt 68) 224 (.inl rfl) 3 3 (.int Yo) underlying224 XZ cJ w _ rfl te (sc:Int) (ah ((cn:Int)+1)) rfl (by go_num) ?_;intro w7 qY lW;refine QX λe0 e1 qe Eh tr uk j'=>?_;clear qY lW d0 d1 yH)
      exact bn8
  .have pf:k=n:=by omega
   subst pf;have OW:ks [] [] l= .ok t:=by rw[I.o,List.drop_of_length_le (by rw[J.o];exact ar _)];exact bm9
   go_wp2_with fail
   go_ret2
   refine⟨nM,?_⟩;obtain rfl:t=t0:=Except.ok.inj (OW.symm.t mP);exact⟨rfl,zx⟩
def kT(l:List Nat):Int:=gj (l.drop (l.length - 1)) 0
def fs1(l:List Nat)(k:Nat):kT (l++[k])=(k:Int):=by unfold kT gj;simp
def fs2(rb Mb:Nat)(t:dK)(d:aG)(rv nv:XP)(w:XO)(hr:ae w rb (.map (XL Mb)))(hM:dN mW w Mb (mz t))
 (fR:bg w w rv d.refs)(iy:aS w w nv (d.nums.map λx:Nat=>(x:Int)))(hv:bK d=XR)(Fi:10<=d.kind):
 X4 X3 92 #[az rb,Zr #[d.kind,bs d.name,rv,nv,d.by_,Zp d.always]] w λe w'=>
  ∃o,e=YT (Zr ((oa t d).vals o))/\w'.ownsRow w 3 1 o (oa t d).ms.length ((oa t d).ms.map (X1 .i64))/\Below w w w':=by
 have yp:=mX hv;refine L5 λi0 hi cA a_ bd=>?_;obtain⟨RA,rn,rc,rfl,dz,_,_⟩:=fR.sk.form;obtain⟨NA,nn,nc,rfl,cS,_,_⟩:=iy.sk.form;rw[XY]at cS;have Vt:=yp.1;have hd8:IntKind.i64.wrap ((d.kind:Int) - 10)=(d.kind:Int) - 10:=Yr _ Zv;have hc0:rn<=17:=by have:=yp.2.2.1;omega
 have ht8:nn<=4:=by have:=yp.2.2.2.1;omega
 have oI:=aj λW(J:Below w w W)=>ZJ rb Mb t (Zk RA rn rc) d.refs W (kc J hr) (hM.later J) ((fR.below J (ar _)).more J.size) Zv;rw[dz]at oI;have X:=aj (show ∀o,(oa t d).vals o= #[ah ((d.kind:Int) - 10),ah (gV (d.refs.map (bT t)) 0),ah (if d.kind=14 then gV (d.refs.map (bT t)) 1 else 0),ah (kT d.nums),ah d.by_,Zp d.always,o]from λo=>rfl);have Et:=aj dz;have pp:=aj cS;have Ez:=aj yp;have Ej:=aj iy;have jY:=aj (show(oa t d).ms=if d.kind=13 then ql ((d.refs.map (bT t)).drop 1)else[]from rfl);generalize oa t d=rl at X jY;obtain⟨L,hL⟩:∃L,d.refs.map (bT t)=L:=⟨_,rfl⟩;rw[hL]at oI X jY;have gv6:L.length=rn:=by rw[<-hL,XY,dz]
 have li:=aj gv6;obtain⟨y,ng⟩:∃y,(L++[0,0])[0]?=XL y:=⟨_,XT Zy⟩;have ct1:gV L 0=y:=by
  unfold gV;rw[X9];cases L with
  |nil=>simp at ng⊢;exact ng
  |cons a l=>simp at ng⊢;exact ng
 rw[ct1]at X;simp only[az]at oI⊢
 clear hr hM fR iy dz cS yp hv hL ct1;go_enter func92,ntmps92;go_upto_region 1 with(fail)
 refine ez (λW=>Below w w W/\af W w.heap.size #[d.kind,bs d.name,Zk RA rn rc,Zk NA nn nc,d.by_,Zp d.always] 100/\af W (w.heap.size+1) #[ah 0,ah 0,ah 0,ah 0,ah 0,Zp XQ,Zk XM 0 0] 88) ⟨ak (ak (am w) _) _,(tR w _ _ _ _).1,(tR w _ _ _ _).2⟩ ?_;intro W1 ⟨bc,cX,Fg⟩;have x2:=ag (o:=2) cX rfl;have ba:=aj bc;have lJ:=aj cX;have Tu:=aj Fg;have hf0:=blk_lt Fg;clear bc cX Fg
 go_upto_region 2 with(first
  |(go_at_call 91;refine(oI _ ba).q λw2 u O au=>?_;have bs9:=aj O;have aX:=aj au;clear O au)
  |(at_builtin;refine wpList_append_own _ rfl (.tmp 12) (.tmp 13) _ rfl W1.heap.size 3 i0 _ 1 8 underlying30 hi cA a_ bd rfl (by decide) _ rn (L.map λx=>Value.int .i64 x) rfl (bs9.alloc _) ⟨w2,0,none⟩ 2 2 [.int .i64 0,.int .i64 0] rfl rfl (pA rfl) (by simp[Value.oneCell']) (by simp[maxLen];omega) (by omega) (by have:=aX.size;simp;omega) ?_
    intro v' w3 ii bF _;have ko:=aj ii;have bE:=aj (AI (bs9.alloc (Zq #[ah 0,ah 0] 3)) (ak aX _) (ar _) bF);clear ii bF))
 have co5:=lJ.o;have mi:=ai co5 bE.o;have yx:=ai Tu bE.o;have y0:=ag (o:=0) mi rfl;have y2:=ag (o:=2) mi rfl;have y4:=ag (o:=4) mi rfl;have y5:=ag (o:=5) mi rfl;have IF:((L.map λx=>X1 .i64 x)++[ah 0,ah 0])=(L++[0,0]).map (X1 .i64):=Zy;have j9:=Sl.of_own ko.o;rw[IF]at j9;obtain⟨VA,vc,cx6,fS,k_,B4⟩:=j9;rw[XY,X0,li.o]at cx6 fS;subst cx6;obtain⟨gb,go,rfl,Ij,Ig⟩:=B4 Zy;have aa0:aa w3 gb go (ah y):=Ig 0 _ (by rw[X5,ng];rfl);have Bd:=aj Ig;have tG:(0:Int)<(rn:Int)+2:=Zv;have hy1:rn+2<=vc:=fS;obtain⟨b6,cL⟩:∃b,w3.heap.size=b:=⟨_,rfl⟩;have jc:=aj mi;have SX:=aj yx;have gJ:=bE.size;have sJ:=ba.size;clear Ig mi co5 yx fS B4 IF ng x2;refine eT (S:=λw'=>ae w' w (ah d.kind)/\aa w' w 4 (ah d.by_)/\aa w' w 5 (Zp d.always)/\aa w' gb go (ah y)/\Below w3 w3 w') 13 13 (by exact⟨y0,y4,y5,aa0,aW (am w3)⟩) λhS=>?_;iterate 11 refine da 13 15 ?_
 refine bt 11 λK hK=>?_;go_simp;refine bo2 λhS=>?_;clear hK;refine aH ?_;refine bt 12 λK hK=>?_;go_simp;refine bo2 λhS=>?_;clear hK;refine aH ?_;refine gc ?_;go_upto_region 3 with(fail)
 refine ez (λW=>Below w3 w3 W/\af W w3.heap.size #[ah ((d.kind:Int) - 10),ah y,ah 0,ah (0:Int),d.by_,Zp d.always,Zk XM 0 0] 88) ⟨by first|exact aW (ak (am w3) _)|exact ak (aW (am w3)) _,by first|exact cR w3 _|exact cR w3.drew _⟩ ?_;intro W4 ⟨gP,OD⟩;clear y0 y2 y4 y5 aa0 hS;rw[cL]at OD;have bW:=aj gP;have vX:=gP.size;have hz1:=blk_lt OD;have wK:=aj (ai jc gP);have bq9:=aj (ai SX gP);have SR:=aj OD;have x3:=ag (o:=3) wK rfl;clear gP OD;try simp only[cL]
 go_wp2_with fail
 go_loopw [29] (λi wr=>∃k:Nat,k<=nn/\i=ah k/\af wr b6 #[ah ((d.kind:Int) - 10),ah y,ah 0,ah (kT (d.nums.take k)),d.by_,Zp d.always,Zk XM 0 0] 88/\aL W4 b6 W4 wr) (λi _=>nn - (X8 i).toNat)
 case atStart=>exact⟨0,bU _,rfl,SR,aL.refl _ _ _⟩
 case round=>
  obtain⟨k,hk,rfl,KJ,og⟩:=hrel;have U:=aj og;have I:=aj KJ;by_cases ap:k<nn
  .obtain⟨eC,bh⟩:=dt ap;obtain⟨q,hq⟩:=iT pp ap;have dg6:=aj (show kT (d.nums.take (k+1))=(q:Int)by rw[List.take_add_one,hq];exact fs1 _ _);obtain⟨qb,qo,rfl,hb4,ot⟩:=aS.cell Ej (j:=k) (x:=(q:Int)) (by rw[List.getElem?_map,hq];rfl);have hb5:¬qb=b6:=by omega
   have cq:aa wr qb (qo+k) (ah q):=(og.cell (qo+k) Zv hb5).t (((aq (aq ba bE) bW).cell (p:=⟨qb,qo+k,XM⟩) hb4).t ot);have g3:=ag (o:=3) KJ rfl;have z3:=cO KJ 3;clear KJ og hq ot;go_wp2_with fail
   refine⟨⟨k+1,by omega,by go_num,?_,U.set (.inl rfl) _⟩,by simp[X8];omega⟩;rw[dg6.o];exact bf I 3 _
  .have hI:=eS ap;have cm1:kT (d.nums.take k)=kT d.nums:=by rw[List.take_of_length_le (by rw[pp.o];omega)]
   rw[cm1]at I;have Km:Hid (Below w w wr):=(aq (aq ba bE) bW).t ((U.below Zv).mono Zv);have bu8:=aj (U.blk wK (blk_lt wK) Zv);have Bg:=aj (U.blk bq9 (blk_lt bq9) Zv);have fk:=ag (o:=0) bu8 rfl;have Iq:=ag (o:=2) bu8 rfl;have hf1:=U.size;have cr0:gb<W4:=Zv;clear KJ og cm1;by_cases Z:d.kind=13
   .have nx:((d.kind:Int)==13)=true:=by simp;omega
    have V:¬d.kind=14:=Zv;have Ph:2<=rn:=by have:=Ez.2.2.2.2.2.2.2.2.2.2.2.1 Z;have:=Et.o;omega
    have OE:(1:Int)<=(rn:Int):=Zv;have Hz:(rn:Int)<=(rn:Int)+2:=Zv;have hy2:¬vc=1:=Zv;have Sn:=aj Z;have So:=aj V;clear Z V
    have tt:=aj (show ∀W,Below wr wr W->Sl W W.heap.size (Zk (XL (gb (go+1) XM)) (rn - 1) (vc - 1)) ((L.drop 1).map (X1 .i64))from λW J=>by
     refine⟨XL (gb (go+1) XM),vc - 1,by rw[XY,Ym,li.o],by rw[XY,Ym,li.o];omega,bC (Nat.sub_le _ _) k_,λ_=>⟨gb,go+1,rfl,by have:=J.size;omega,λj u O=>?_⟩⟩;have aT:¬gb=b6:=Zv;refine(J.cell (p:=⟨gb,go+1+j,XM⟩) (show gb<wr by omega)).t ((U.cell (go+1+j) cr0 aT).t ((bW.cell (p:=⟨gb,go+1+j,XM⟩) Ij).t ?_));rw[show go+1+j=go+(1+j)by omega];refine Bd (1+j) u ?_;rw[X5,List.getElem?_drop]at O;rw[X5,YN (by
      have h1:1+j<L.length:=by
       rcases Yt (1+j) L.length with h|h
       .exact h
       .rw[List.getElem?_eq_none h]at O;simp at O
      exact h1)]
     exact O)
    have uy:=aj (λW Bs(h1:Bs<W.heap.size)(h2:aa W Bs 0 (Zk (XL (gb (go+1) XM)) (rn - 1) (vc - 1)))h3=>bi6 Bs (Zk (XL (gb (go+1) XM)) (rn - 1) (vc - 1)) (L.drop 1) (by rw[Ym,li.o];omega) W h1 h2 h3);rw[bi9,Ym,li.o]at uy
    go_upto_region 13 with(first
     |(go_at_call 213;refine(bi1 (XL (gb (go+1) XM)) (rn - 1) (vc - 1) _).z ?_;simp only[bH,az])
     |(go_at_call 212;refine(uy _ wr Zy (ag (cR wr _) rfl) (tt _ (ak (am wr) _))).q λw7 o7 tK jj=>?_;obtain⟨SA,sn,zj,rfl⟩:=eW tK;have tr:=aj tK;have Y:Hid (Below wr wr w7):=aq (ak (am wr) _) jj;have OX:=ai I Y.o;have g6:=ag (o:=6) OX rfl;have z6:=cO OX 6;have de3:=aj OX;clear tK jj OX))
    refine ez (λW=>af W b6 #[ah ((d.kind:Int) - 10),ah y,ah 0,ah (kT d.nums),d.by_,Zp d.always,Zk SA sn zj] 88/\aL w7 b6 w7 W) ⟨bf de3 6 _,aL.set (aL.refl _ _ _) (.inl rfl) _⟩ ?_;intro z ⟨Uw,F⟩;have JU:=aj Uw;have C:=aj (F.blk (ai Bg Y) (blk_lt (ai Bg Y)) Zv);obtain⟨p0,p1,p2,p3,p4,p5,p6⟩:=gM JU.o;obtain⟨q0,q1,q2,q3,q4,q5,q6⟩:=gM C.o;obtain⟨z0,z1,z2,z3,z4,z5,z6⟩:=DZ C.o;go_wp2_with fail
    have G:((((((((((((((z).setCell ⟨w+1,0,XM⟩ (ah ((d.kind:Int) - 10)))).setCell ⟨w+1,1,XM⟩ (ah y))).setCell ⟨w+1,2,XM⟩ (ah 0))).setCell ⟨w+1,3,XM⟩ (ah (kT d.nums)))).setCell ⟨w+1,4,XM⟩ (ah d.by_))).setCell ⟨w+1,5,XM⟩ (Zp d.always))).setCell ⟨w+1,6,XM⟩ (Zk SA sn zj)).heap[w.heap.size+1]?=XL (Zq #[ah ((d.kind:Int) - 10),ah y,ah 0,ah (kT d.nums),d.by_,Zp d.always,Zk SA sn zj] 88 (0,0)):=(bf (bf (bf (bf (bf (bf (bf (C) 0 (ah ((d.kind:Int) - 10))) 1 (ah y)) 2 (ah 0)) 3 (ah (kT d.nums))) 4 (ah d.by_)) 5 (Zp d.always)) 6 (Zk SA sn zj)).t rfl;have D:aL z (w+1) z ((((((((((((((z).setCell ⟨w+1,0,XM⟩ (ah ((d.kind:Int) - 10)))).setCell ⟨w+1,1,XM⟩ (ah y))).setCell ⟨w+1,2,XM⟩ (ah 0))).setCell ⟨w+1,3,XM⟩ (ah (kT d.nums)))).setCell ⟨w+1,4,XM⟩ (ah d.by_))).setCell ⟨w+1,5,XM⟩ (Zp d.always))).setCell ⟨w+1,6,XM⟩ (Zk SA sn zj)):=aL.set (aL.set (aL.set (aL.set (aL.set (aL.set (aL.set (aL.refl _ _ _) (.inl rfl) _) (.inl rfl) _) (.inl rfl) _) (.inl rfl) _) (.inl rfl) _) (.inl rfl) _) (.inl rfl) _;generalize ((((((((((((((z).setCell ⟨w+1,0,XM⟩ (ah ((d.kind:Int) - 10)))).setCell ⟨w+1,1,XM⟩ (ah y))).setCell ⟨w+1,2,XM⟩ (ah 0))).setCell ⟨w+1,3,XM⟩ (ah (kT d.nums)))).setCell ⟨w+1,4,XM⟩ (ah d.by_))).setCell ⟨w+1,5,XM⟩ (Zp d.always))).setCell ⟨w+1,6,XM⟩ (Zk SA sn zj))=W7 at G D⊢
    obtain⟨f0,f1,f2,f3,f4,f5,f6⟩:=gM G;refine bodyPost_ret (v:=Zr #[ah ((d.kind:Int) - 10),ah y,ah 0,ah (kT d.nums),d.by_,Zp d.always,Zk SA sn zj]) ?_ rfl ?_
    .simp[results,Tryz.f92,go_sem,f0,f1,f2,f3,f4,f5,f6]
    .refine⟨.slice SA sn zj,by rw[X.o,if_neg So.o],?_,((Km.t (Y.mono (by have:=Km.size;omega))).t ((F.below (by have:=Y.size;omega)).mono (by omega))).t ((D.below (by have:=F.size;have:=Y.size;omega)).mono (Nat.le_succ _))⟩;rw[jY.o,if_pos Sn.o];have h7:=tr.o;have j9:(ql (L.drop 1)).length=rn - 1:=by rw[(Jp _).length_eq,List.length_drop,li.o]
     rw[<-j9]at h7;have E6:=Km.size;exact QY (qu (qu h7 F (ar _) bN) D (ar _) bN) bN
   .have nx:((d.kind:Int)==13)=false:=by simp;omega
    by_cases V:d.kind=14
    .have lK:((d.kind:Int)==14)=true:=by simp;omega
     have Ph:rn=2:=by have:=Ez.2.2.2.2.2.2.2.2.2.2.2.2.1 V;have:=Et.o;omega
     obtain⟨A,gR⟩:∃A,L[1]?=XL A:=⟨_,XT Of⟩;have jq:=aj (show gV L 1=A by unfold gV;rw[X9,gR];rfl);have aT:¬gb=b6:=Zv;have hm0:aa wr gb (go+1) (ah A):=(U.cell (go+1) cr0 aT).t ((bW.cell (p:=gb (go+1) XM) Ij).t (Bd 1 _ (by rw[X5,YN Of,gR];rfl)));have aC:(1:Int)<(rn:Int)+2:=Zv;have g2:=ag (o:=2) I rfl;have z2:=cO I 2;have So:=aj V;have Sn:=aj Z;clear gR Ph V Z;go_upto_region 13 with(fail)
     refine ez (λW=>af W b6 #[ah ((d.kind:Int) - 10),ah y,ah A,ah (kT d.nums),d.by_,Zp d.always,Zk XM 0 0] 88/\aL wr b6 wr W) ⟨bf I 2 _,aL.set (aL.refl _ _ _) (.inl rfl) _⟩ ?_;intro z ⟨Uw,F⟩;have JU:=aj Uw;have C:=aj (F.blk Bg (blk_lt Bg) Zv);obtain⟨p0,p1,p2,p3,p4,p5,p6⟩:=gM JU.o;obtain⟨q0,q1,q2,q3,q4,q5,q6⟩:=gM C.o;obtain⟨z0,z1,z2,z3,z4,z5,z6⟩:=DZ C.o;go_wp2_with fail
     have G:((((((((((((((z).setCell ⟨w+1,0,XM⟩ (ah ((d.kind:Int) - 10)))).setCell ⟨w+1,1,XM⟩ (ah y))).setCell ⟨w+1,2,XM⟩ (ah A))).setCell ⟨w+1,3,XM⟩ (ah (kT d.nums)))).setCell ⟨w+1,4,XM⟩ (ah d.by_))).setCell ⟨w+1,5,XM⟩ (Zp d.always))).setCell ⟨w+1,6,XM⟩ (Zk XM 0 0)).heap[w.heap.size+1]?=XL (Zq #[ah ((d.kind:Int) - 10),ah y,ah A,ah (kT d.nums),d.by_,Zp d.always,Zk XM 0 0] 88 (0,0)):=(bf (bf (bf (bf (bf (bf (bf (C) 0 (ah ((d.kind:Int) - 10))) 1 (ah y)) 2 (ah A)) 3 (ah (kT d.nums))) 4 (ah d.by_)) 5 (Zp d.always)) 6 (Zk XM 0 0)).t rfl;have D:aL z (w+1) z ((((((((((((((z).setCell ⟨w+1,0,XM⟩ (ah ((d.kind:Int) - 10)))).setCell ⟨w+1,1,XM⟩ (ah y))).setCell ⟨w+1,2,XM⟩ (ah A))).setCell ⟨w+1,3,XM⟩ (ah (kT d.nums)))).setCell ⟨w+1,4,XM⟩ (ah d.by_))).setCell ⟨w+1,5,XM⟩ (Zp d.always))).setCell ⟨w+1,6,XM⟩ (Zk XM 0 0)):=aL.set (aL.set (aL.set (aL.set (aL.set (aL.set (aL.set (aL.refl _ _ _) (.inl rfl) _) (.inl rfl) _) (.inl rfl) _) (.inl rfl) _) (.inl rfl) _) (.inl rfl) _) (.inl rfl) _;generalize ((((((((((((((z).setCell ⟨w+1,0,XM⟩ (ah ((d.kind:Int) - 10)))).setCell ⟨w+1,1,XM⟩ (ah y))).setCell ⟨w+1,2,XM⟩ (ah A))).setCell ⟨w+1,3,XM⟩ (ah (kT d.nums)))).setCell ⟨w+1,4,XM⟩ (ah d.by_))).setCell ⟨w+1,5,XM⟩ (Zp d.always))).setCell ⟨w+1,6,XM⟩ (Zk XM 0 0))=W7 at G D⊢
     obtain⟨f0,f1,f2,f3,f4,f5,f6⟩:=gM G;refine bodyPost_ret (v:=Zr #[ah ((d.kind:Int) - 10),ah y,ah A,ah (kT d.nums),d.by_,Zp d.always,Zk XM 0 0]) ?_ rfl ?_
     .simp[results,Tryz.f92,go_sem,f0,f1,f2,f3,f4,f5,f6]
     .refine⟨Zk XM 0 0,by rw[X.o,if_pos So.o,jq.o],?_,(Km.t ((F.below Zv).mono Zv)).t ((D.below (by have:=F.size;omega)).mono (Y5 _))⟩;rw[jY.o,if_neg Sn.o];exact Yc _ _ _ _
    .have lK:((d.kind:Int)==14)=false:=by simp;omega
     go_upto_region 13 with(fail)
     have JU:=aj I.o;have C:=aj Bg.o;obtain⟨p0,p1,p2,p3,p4,p5,p6⟩:=gM JU.o;obtain⟨q0,q1,q2,q3,q4,q5,q6⟩:=gM C.o;obtain⟨z0,z1,z2,z3,z4,z5,z6⟩:=DZ C.o;go_wp2_with fail
     have G:((((((((((((((wr).setCell ⟨w+1,0,XM⟩ (ah ((d.kind:Int) - 10)))).setCell ⟨w+1,1,XM⟩ (ah y))).setCell ⟨w+1,2,XM⟩ (ah 0))).setCell ⟨w+1,3,XM⟩ (ah (kT d.nums)))).setCell ⟨w+1,4,XM⟩ (ah d.by_))).setCell ⟨w+1,5,XM⟩ (Zp d.always))).setCell ⟨w+1,6,XM⟩ (Zk XM 0 0)).heap[w.heap.size+1]?=XL (Zq #[ah ((d.kind:Int) - 10),ah y,ah 0,ah (kT d.nums),d.by_,Zp d.always,Zk XM 0 0] 88 (0,0)):=(bf (bf (bf (bf (bf (bf (bf (C) 0 (ah ((d.kind:Int) - 10))) 1 (ah y)) 2 (ah 0)) 3 (ah (kT d.nums))) 4 (ah d.by_)) 5 (Zp d.always)) 6 (Zk XM 0 0)).t rfl;have D:aL wr (w+1) wr ((((((((((((((wr).setCell ⟨w+1,0,XM⟩ (ah ((d.kind:Int) - 10)))).setCell ⟨w+1,1,XM⟩ (ah y))).setCell ⟨w+1,2,XM⟩ (ah 0))).setCell ⟨w+1,3,XM⟩ (ah (kT d.nums)))).setCell ⟨w+1,4,XM⟩ (ah d.by_))).setCell ⟨w+1,5,XM⟩ (Zp d.always))).setCell ⟨w+1,6,XM⟩ (Zk XM 0 0)):=aL.set (aL.set (aL.set (aL.set (aL.set (aL.set (aL.set (aL.refl _ _ _) (.inl rfl) _) (.inl rfl) _) (.inl rfl) _) (.inl rfl) _) (.inl rfl) _) (.inl rfl) _) (.inl rfl) _;generalize ((((((((((((((wr).setCell ⟨w+1,0,XM⟩ (ah ((d.kind:Int) - 10)))).setCell ⟨w+1,1,XM⟩ (ah y))).setCell ⟨w+1,2,XM⟩ (ah 0))).setCell ⟨w+1,3,XM⟩ (ah (kT d.nums)))).setCell ⟨w+1,4,XM⟩ (ah d.by_))).setCell ⟨w+1,5,XM⟩ (Zp d.always))).setCell ⟨w+1,6,XM⟩ (Zk XM 0 0))=W7 at G D⊢
     obtain⟨f0,f1,f2,f3,f4,f5,f6⟩:=gM G;refine bodyPost_ret (v:=Zr #[ah ((d.kind:Int) - 10),ah y,ah 0,ah (kT d.nums),d.by_,Zp d.always,Zk XM 0 0]) ?_ rfl ?_
     .simp[results,Tryz.f92,go_sem,f0,f1,f2,f3,f4,f5,f6]
     .refine⟨Zk XM 0 0,by rw[X.o,if_neg V],?_,Km.t ((D.below Zv).mono (Y5 _))⟩;rw[jY.o,if_neg Z];exact Yc _ _ _ _
end
def bo3(b r:List aG)(t:dK)(d:aG):ks b t (d::r)=
 if bK d=XQ then .error (b.length,1)else if F6 t b d=XR then .error (b.length,5)
 else ks (b++[d]) (if d.name=[]then t else t++[(d.name,d.kind,jk (b++[d]) (cB d.kind))]) r:=by
 cases hv:bK d with
 |false=>rw[bm6 hv];rfl
 |true=>
  cases hb:F6 t b d with
  |true=>rw[bm7 hv hb];rfl
  |false=>rw[bm8 hv hb];rfl
def bo4:∀(r b:List aG)(t j:dK),ks b t r= .ok j->∀d∈r,bK d=XR
 |[],b,t,j,h,d,c=>by simp at c
 |x::r,b,t,j,h,d,c=>by
  rw[bo3]at h;split at h
  .cases h
  .split at h
   .cases h
   .rename_i y z;rcases List.mem_cons.1 c with rfl|c
    .simpa using y
    .exact bo4 r _ _ j h d c
def bo5:∀(r b:List aG)(t z:dK),ks b t r= .ok z->(∀x∈t,x.2.2<=b.length)->∀x∈z,x.2.2<=b.length+r.length
 |[],b,t,z,h,ht,x,hx=>by rw[bm9]at h;injection h with h;subst h;exact bC (ht x hx) (Nat.le_add_right _ _)
 |d::r,b,t,z,h,ht,x,hx=>by
  rw[bo3]at h;split at h
  .cases h
  .split at h
   .cases h
   .have:=bo5 r _ _ z h (λy j=>by
     rw[X0,Yl];split at j
     .exact Nat.le_succ_of_le (ht y j)
     .rcases List.mem_append.1 j with j|j
      .exact Nat.le_succ_of_le (ht y j)
      .rw[List.mem_singleton.1 j];have:=List.length_filter_le (λx:aG=>XN (cB x.kind=cB d.kind)) (b++[d]);rw[X0,Yl]at this;exact this) x hx
    simp only[X0,YF,Zn]at this⊢
    omega
def fp3{l:List aG}{t:dK}(h:ks [] [] l= .ok t)(c:l.length<=1000000)(s:ay):aN (bT t s):=by
 unfold bT el;cases hf:t.find? (λx=>XN (x.1=s))with
 |none=>exact rM (n:=0) aD
 |some x=>have:=bo5 l [] [] t h (λx hx=>by simp at hx) x (List.mem_of_find?_eq_some hf);exact rM (n:=x.2.2) (by simp at this;omega)
def fp4{t:dK}{i:Nat}{m:aU}{d:aG}{r:List aG}(h:¬n_ t d=0):t6 t i m (d::r)= .error (i,n_ t d):=by rw[t6,if_pos h]
def fp5{t:dK}{i:Nat}{m:aU}{d:aG}{r:List aG}(h:n_ t d=0):t6 t i m (d::r)=t6 t (i+1) (fv t m d) r:=by rw[t6,if_neg (by simp[h])]
def fp6{l:List aG}{x:Nat×Nat}(h:ks [] [] l= .error x):ru l= .error x:=by unfold ru;rw[h]
def fp7{l:List aG}{t:dK}{x:Nat×Nat}(h:ks [] [] l= .ok t)(c:t6 t 0 {} l= .error x):ru l= .error x:=by unfold ru;rw[h];simp only[c]
def fp8{l:List aG}{t:dK}{m:aU}(h:ks [] [] l= .ok t)(c:t6 t 0 {} l= .ok m)(j:(l.any λd=>XN (d.kind=8))=XQ):ru l= .error (l.length,6):=by unfold ru;rw[h];simp only[c,j];rfl
def fp9{l:List aG}{t:dK}{m:aU}(h:ks [] [] l= .ok t)(c:t6 t 0 {} l= .ok m)(j:(l.any λd=>XN (d.kind=8))=XR):ru l=if ew m then .ok m else .error (l.length,2):=by unfold ru;rw[h];simp only[c,j];rfl
def fq0{t:dK}{d:aG}(A:bK d=XR)(z:∀s,aN (bT t s))(F:aN d.by_):Jy (oa t d)/\∀y∈(oa t d).ms,aN y:=by
 have j:∀i,aN (gV (d.refs.map (bT t)) i):=λi=>by
  unfold gV;rw[X9,X5];cases d.refs[i]? with
  |none=>exact rM (n:=0) aD
  |some s=>exact z s
 have G:=(mX A).1;refine⟨⟨⟨?_,?_⟩,j 0,?_,?_,F⟩,λy D=>?_⟩
 .show -9223372036854775808<=(d.kind:Int) - 10;omega
 .show(d.kind:Int) - 10<=9223372036854775807;omega
 .show aN (if d.kind=14 then gV (d.refs.map (bT t)) 1 else 0);split
  .exact j 1
  .exact rM (n:=0) aD
 .show aN (gj (d.nums.drop (d.nums.length - 1)) 0);have:=F7 A (d.nums.length - 1);unfold gj at this⊢
  rw[X9]at this⊢
  rw[List.getElem?_drop];exact this
 .have c:y∈(if d.kind=13 then ql ((d.refs.map (bT t)).drop 1)else[]):=D;split at c
  .have C:=(Jp _).mem_iff.1 c;obtain⟨s,_,rfl⟩:=List.mem_map.1 (Y6 C);exact z s
  .simp at c
def fq1{t:dK}{m:aU}{d:aG}(h:10<=d.kind):fv t m d={m with rules:=m.rules++[oa t d]}:=by
 obtain⟨kind,nm,rf,nu,b,al⟩:=d;dsimp only at h
 match kind,h with
 |k+10,_=>rfl
def gz.nil_(w:XO)(B:Nat):gz w B 0 {} ⟨Zk XM 0 0,Zk XM 0 0,Zk XM 0 0,Zk XM 0 0,Zk XM 0 0,Zk XM 0 0,Zk XM 0 0⟩:=
 ⟨World.ownsRow_nil _ _ _ _,World.ownsRow_nil _ _ _ _,World.ownsRow_nil _ _ _ _,World.ownsRow_nil _ _ _ _,World.ownsRow_nil _ _ _ _,⟨[],World.ownsRow_nil _ _ _ _,rfl,λj x h=>by simp at h⟩,⟨[],World.ownsRow_nil _ _ _ _,rfl,λj x h=>by simp at h⟩,
  λk h=>by simp[YC]at h,by simp,λx h=>by simp at h,λx h=>by simp at h,λx h=>by simp at h,⟨rM (n:=0) aD,rM (n:=0) aD,rM (n:=0) aD,rM (n:=0) aD⟩⟩
section
open Go.MapKept
def km(pb:Nat)(l:List aG)(W:XO)(u:XP):Prop:=
 ∃rows,W.ownsRow (pb+1) 100 6 u l.length rows.flatten/\rH W pb rows l
def km.form{pb:Nat}{l:List aG}{W:XO}{u:XP}(h:km pb l W u):∃A n c,u=Zk A n c:=by obtain⟨rows,h1,_⟩:=h;exact eW h1
def km.to{pb:Nat}{l c:List aG}{W:XO}{u:XP}(h:km pb l W u)(e:l=c):km pb c W u:=e▸h
def km.later{pb:Nat}{l:List aG}{w w':XO}{u:XP}(h:km pb l w u)(c:Below w w w'):km pb l w' u:=by obtain⟨rows,h1,h2⟩:=h;exact⟨rows,eI h1 c,h2.kp (aL.of_below c (ar _) c.size)⟩
def km.sl{pb:Nat}{l:List aG}{w:XO}{u:XP}(h:km pb l w u):ci 6 mS w w u l:=by obtain⟨rows,h1,h2⟩:=h;exact h2.sl h1
def wu(pb:Nat)(W:XO)(d:aG)(rv nv:XP):Prop:=
 W.ownsRow (pb+1) 9 1 rv d.refs.length (d.refs.map λs=>X2 (bs s))/\W.ownsRow (pb+1) 3 1 nv d.nums.length (d.nums.map fun(k:Nat)=>X1 .i64 k)/\d.kind<=1000000/\d.by_<=1000000/\∀k∈d.nums,k<=2000000
section
variable {W:XO} {o:YO} {a:Act} {K:Act->XO->Prop} {Q:Exit->Act->XO->Prop}
def bz7(s x:Operand)(ho:o.op= .call {callee:= .builtin .append,args:= #[s,x],argTypes:= #[59,59]})(pb:Nat)(l:List aG)(d:aG)(u rv nv:XP)(C:Array XP)(g:Nat)
 (U:a.eval s=u)(hx:a.eval x=Zk (XL (g 0 XM)) 1 1)(J:af W g C 100)(G:C.toList=tQ d rv nv)(j:km pb l W u)(V:l.length<1000000)(I:wu pb W d rv nv)(z:pb+1<=W)
 (h:∀A n c w',km pb (l++[d]) w' (Zk A n c)->Below (pb+1) W w'->K (a.put o.dst (Zk A n c)) w'):o.wp X3 a W K Q:=by
 obtain⟨rows,j,pB⟩:=j;obtain⟨hr,hn,h5⟩:=I;obtain⟨i0,hi,cA,a_,bd⟩:=Y0 ZR;have D:=bf1 J;rw[G]at D;obtain⟨rA,rn,rc,rfl⟩:=eW hr;obtain⟨nA,nn,nc,rfl⟩:=eW hn;refine wp_append_own _ s x 59 ho (pb+1) 100 i0 _ 6 88 underlying59 hi cA a_ bd rfl aD u l.length rows.flatten U j (g 0 XM) 1 1 (tQ d (Zk rA rn rc) (Zk nA nn nc)) hx rfl D (by simp[tQ,YH]) uE Zv z λv' w' F y _=>?_;obtain⟨A,n,c,rfl⟩:=eW F;refine h A n c w' ⟨rows++[tQ d (Zk rA rn rc) (Zk nA nn nc)],?_,?_⟩ ?_
 .rw[List.flatten_append,X0,Yl];simpa using F
 .exact(pB.grown j y).snoc (YU _) (Js j y hr aD) (Js j y hn aD) h5
 .exact((am W).mono z).grown y z (λk O=>(X6 j k O).1)
def gg5{ops:Array YO}{E:Prop}(O:o.guard=XM)(s x:Operand)(ho:o.op= .call {callee:= .builtin .append,args:= #[s,x],argTypes:= #[59,59]})(pb:Nat)(l:List aG)(d:aG)(u rv nv:XP)(C:Array XP)(g:Nat)
 (G:a.eval s=u)(hx:a.eval x=Zk (XL (g 0 XM)) 1 1)(D:af W g C 100)(y:C.toList=tQ d rv nv)(j:km pb l W u)(F:l.length<1000000)(z:wu pb W d rv nv)(J:pb+1<=W)
 (h:∀A n c w',km pb (l++[d]) w' (Zk A n c)->Below (pb+1) W w'->K (a.put o.dst (Zk A n c)) w'):
 if YB o (yielded ops a.tmps)=XR then Zm X3 o a W K Q else E:=by
 have I:YB o (yielded ops a.tmps)=true:=by simp[YB,O]
 rw[if_pos I];exact bz7 s x ho pb l d u rv nv C g G hx D y j F z J h
def RJ{ops:Array YO}{rest:List YO}(V:o.guard=XM)(s x:Operand)(ho:o.op= .call {callee:= .builtin .append,args:= #[s,x],argTypes:= #[59,59]})(pb:Nat)(l:List aG)(d:aG)(u rv nv:XP)(C:Array XP)(g:Nat)
 (O:a.eval s=u)(hx:a.eval x=Zk (XL (g 0 XM)) 1 1)(I:af W g C 100)(D:C.toList=tQ d rv nv)(j:km pb l W u)(J:l.length<1000000)(G:wu pb W d rv nv)(U:pb+1<=W)
 (h:∀A n c w',km pb (l++[d]) w' (Zk A n c)->Below (pb+1) W w'->wpList X3 ops Q rest (a.put o.dst (Zk A n c)) w'):wpList X3 ops Q (o::rest) a W:=
 wpList_plain V λ_ F=>bz7 s x ho pb l d u rv nv C g O hx I D j J G U λA n c w' y z=>F _ _ (h A n c w' y z)
end
def wu.later{pb:Nat}{w w':XO}{d:aG}{rv nv:XP}(h:wu pb w d rv nv)(c:Below w w w'):wu pb w' d rv nv:=⟨eI h.1 c,eI h.2.1 c,h.2.2⟩
section
variable {W:XO} {o:YO} {a:Act} {K:Act->XO->Prop} {Q:Exit->Act->XO->Prop}
def Jk{ops:Array YO}{E:Prop}(O:o.guard=XM)(s x:Operand)(ho:o.op= .call {callee:= .builtin .append,args:= #[s,x],argTypes:= #[59,59]})(pb:Nat)(l:List aG)(d:aG)(u rv nv:XP)(C:Array XP)
 (I:a.eval s=u)(hx:a.eval x=Zk (XL (W 0 XM)) 1 1)(D:C.toList=tQ d rv nv)(j:km pb l W u)(G:l.length<1000000)(F:wu pb W d rv nv)(J:pb+1<=W)
 (h:∀A n c w',km pb (l++[d]) w' (Zk A n c)->Below (pb+1) W w'->K (a.put o.dst (Zk A n c)) w'):
 if YB o (yielded ops a.tmps)=XR then Zm X3 o a (W.alloc (Zq C 100)) K Q else E:=
 gg5 O s x ho pb l d u rv nv C W I hx (cR W _) D (j.later (ak (am W) _)) G (F.later (ak (am W) _)) bN λA n c w' y z=>h A n c w' y (((ak (am W) _).mono J).t z)
end
def wu.bare{pb:Nat}{W:XO}{d:aG}(h:d.refs=[])(j:d.nums=[])(c:d.kind<=1000000/\d.by_<=1000000):wu pb W d (Zk XM 0 0) (Zk XM 0 0):=by unfold wu;rw[h,j];exact⟨Yc _ _ _ _,Yc _ _ _ _,c.1,c.2,by simp⟩
end
def gh6(k:Nat)(c:k=0\/k=1\/k=2\/k=3\/k=6\/k=8\/k=9\/k=11\/k=13\/k=17):(bs (cb k)).size<=8:=by rw[eM];rcases c with rfl|rfl|rfl|rfl|rfl|rfl|rfl|rfl|rfl|rfl<;>decide
def gh7(x:aQ)(m s:XP)(w:XO)(hx:x.In w w m s)(z:ea x=XR)(C:x.ms.length<=100)(D:x.ss.length<=100)(k:Nat)(hk:x.kind=k)(y:k=0\/k=1\/k=2\/k=3\/k=6\/k=8\/k=9\/k=11\/k=13\/k=17):
 aR 33 #[Zr (x.cells m s)] w (X2 (bs (dW x))):=by
 obtain⟨Am,nm,cm,rfl,fG,_,fQ⟩:=hx.ms.form;obtain⟨As,ns,cs,rfl,gh,_,fj⟩:=hx.ss.form;have HX:=aj hx;have F:=hx.a;have ib:=hx.b;have ic:=hx.c;have iv:=hx.val;have io:=hx.old;have gA:=we z;refine xO λvalid'=>?_;rw[z]at valid';have G:=aj valid';have hM:=aj C;have hS:=aj D;have HT:Hid (dW x=cb k++YJ [32] (dH x)):=by rw[LK,hk,Int.toNat_natCast];rfl
 have word':=λW=>yZ k Zv W;rw[show(k:Int)=x.kind from hk.symm]at word';have I:=aj word';clear valid' word' hx z fG gh C D;have pi:(bs (cb k)).size<=8:=gh6 k y;have bZ:=DQ [x.a] (by simpa using F) Zy;have HA:Hid (dH x=[XS x.a]):=by rcases y with rfl|rfl|rfl|rfl|rfl|rfl|rfl|rfl|rfl|rfl<;>simp[Hid,dH,hk]
 have k4:(x.kind==4)=false:=CS;have B7:(x.kind==16)=false:=CS;have Du:(x.kind==15)=false:=CS;have k5:(x.kind==5)=false:=CS;have k7:(x.kind==7)=false:=CS;have LM:(x.kind==14)=false:=CS;have IL:(x.kind==12)=false:=CS;have IK:(x.kind==10)=false:=CS;clear hk y;rw[aQ.cells_def];go_enter func33,ntmps33
 go_wp2_with(first
  |(go_at_call 29;refine(G _ (ak (am w) _)).r λw1 c=>?_;have V:=aq (ak (am w) _) c;have U:w.heap.size<w1:=dQ c Zy;obtain⟨br,bM⟩:=dE c)
  |(go_at_call 76;refine(I _).r λA j=>?_;have O:=aq V j;have X:w.heap.size<A:=dQ j U;obtain⟨cM,cj⟩:=dE j;have Z:w.heap.size<A+1:=Yw X;have Ar:w.heap.size<A+1+1:=Yw Z))
 refine(gh4 x.a F _ _ _ Zy).r λw3 J=>?_;have Y:=aq (ak (ak O _) _) J;go_wp2_with fail
 go_ret;refine⟨mQ (a:=bs (cb k)++bs (fV [x.a])) ?_,Y⟩;exact RC
def gh8(x:aQ)(m s:XP)(w:XO)(hx:x.In w w m s)(c:ea x=XR)(j:x.ms.length<=100)(y:x.ss.length<=100)(hk:x.kind=4):
 aR 33 #[Zr (x.cells m s)] w (X2 (bs (dW x))):=by
 obtain⟨Am,nm,cm,rfl,fG,_,fQ⟩:=hx.ms.form;obtain⟨As,ns,cs,rfl,gh,_,fj⟩:=hx.ss.form;have HX:=aj hx;have D:=hx.a;have F:=hx.b;have G:=hx.c;have J:=hx.val;have I:=hx.old;have z:=we c;refine xO λvalid'=>?_;rw[c]at valid';have HV:=aj valid';have A:=aj j;have C:=aj y;have HT:Hid (dW x=cb 4++YJ [32] (dH x)):=zI;have word':=λW=>yZ 4 aD W;rw[show((((4:Nat):Int)))=x.kind from hk.symm]at word';have HW:=aj word';clear valid' word' hx c fG gh j y;have U:(bs (cb 4)).size<=8:=zJ;have HA:Hid (dH x=[]):=CY;have O:(x.kind==4)=true:=eN;exact cb1
def gh9(x:aQ)(m s:XP)(w:XO)(hx:x.In w w m s)(D:ea x=XR)(G:x.ms.length<=100)(I:x.ss.length<=100)(hk:x.kind=5):
 aR 33 #[Zr (x.cells m s)] w (X2 (bs (dW x))):=by
 obtain⟨Am,nm,cm,rfl,fG,_,fQ⟩:=hx.ms.form;obtain⟨As,ns,cs,rfl,gh,_,fj⟩:=hx.ss.form;have HX:=aj hx;have O:=hx.a;have ib:=hx.b;have ic:=hx.c;have iv:=hx.val;have io:=hx.old;have gA:=we D;refine xO λvalid'=>?_;rw[D]at valid';have X:=aj valid';have hM:=aj G;have J:=aj I;have V:Hid (dW x=cb 5++YJ [32] (dH x)):=zI;have word':=λW=>yZ 5 aD W;rw[show((((5:Nat):Int)))=x.kind from hk.symm]at word';have Y:=aj word';clear valid' word' hx D fG gh G I;have pi:(bs (cb 5)).size<=8:=zJ;have bZ:=DQ [x.a] (by simpa using O) Zy;have bL:=DQ x.ss HX.ss.2 J.o;have U:Hid (dH x=XS x.a::x.ss.map XS):=CY;have k4:(x.kind==4)=false:=eN;have B7:(x.kind==16)=false:=eN;have Du:(x.kind==15)=false:=eN;have k5:(x.kind==5)=true:=eN;clear hk;rw[aQ.cells_def];go_enter func33,ntmps33
 go_wp2_with(first
  |(go_at_call 29;refine(X _ (ak (am w) _)).r λw1 j=>?_;have bP:=aq (ak (am w) _) j;have a_:w.heap.size<w1:=dQ j Zy;obtain⟨br,bM⟩:=dE j)
  |(go_at_call 76;refine(Y _).r λF A=>?_;have Z:=aq bP A;have bd:w.heap.size<F:=dQ A a_;obtain⟨cM,cj⟩:=dE A;have pm:w.heap.size<F+1:=Yw bd;have Ar:w.heap.size<F+1+1:=Yw pm))
 have tL:¬9223372036854775807<(bs (cb 5)).size+(bs (fV [x.a])).size:=Zv;have lE:¬9223372036854775807<(bs (cb 5)).size+(bs (fV [x.a])).size+(bs (fV x.ss)).size:=Zv;go_region_held3 (λw'=>aa w' w 1 (ah x.a)/\aa w' w 9 (Zk As ns cs)) (go_simp)
  (first
    |(go_at_call_of 77 (Zk As ns cs);refine(Gv _ x.ss _ ((HX.ss.below C (ar _)).more (Below.size C)) (bC J aD)).r λw4 z=>?_;have gP:=aq C z;have vX:w.heap.size<w4:=dQ z gJ;obtain⟨mE,o9⟩:=dE z)
    |(go_at_call 77;refine(Gv _ [x.a] _ (aS.of1 jM Zy O) Zy).r λw3 y=>?_;have C:=aq (aW (ak (ak Z _) _)) y;have gJ:w.heap.size<w3:=dQ y bN;obtain⟨kE,pF⟩:=dE y))
 go_wp2_with fail
 go_ret;refine⟨mQ (a:=bs (cb 5)++bs (fV [x.a])++bs (fV x.ss)) ?_,gP⟩;rw[V.o,U.o,fU,fU,IQ,IQ];simp[YJ]
def gi0(x:aQ)(m s:XP)(w:XO)(hx:x.In w w m s)(y:ea x=XR)(A:x.ms.length<=100)(C:x.ss.length<=100)(hk:x.kind=7):
 aR 33 #[Zr (x.cells m s)] w (X2 (bs (dW x))):=by
 obtain⟨Am,nm,cm,rfl,fG,_,fQ⟩:=hx.ms.form;obtain⟨As,ns,cs,rfl,gh,_,fj⟩:=hx.ss.form;have HX:=aj hx;have D:=hx.a;have F:=hx.b;have ic:=hx.c;have iv:=hx.val;have io:=hx.old;have gA:=we y;refine xO λvalid'=>?_;rw[y]at valid';have G:=aj valid';have hM:=aj A;have hS:=aj C;have HT:Hid (dW x=cb 7++YJ [32] (dH x)):=zI;have word':=λW=>yZ 7 aD W;rw[show((((7:Nat):Int)))=x.kind from hk.symm]at word';have I:=aj word';clear valid' word' hx y fG gh A C;have pi:(bs (cb 7)).size<=8:=zJ;have bZ:=DQ [x.a,x.b] (by simpa using⟨D,F⟩) Zy;have HA:Hid (dH x=[XS x.a,XS x.b]):=CY;have k4:(x.kind==4)=false:=eN;have B7:(x.kind==16)=false:=eN;have Du:(x.kind==15)=false:=eN;have k5:(x.kind==5)=false:=eN;have k7:(x.kind==7)=true:=eN;clear hk;rw[aQ.cells_def];go_enter func33,ntmps33
 go_wp2_with(first
  |(go_at_call 29;refine(G _ (ak (am w) _)).r λw1 c=>?_;have V:=aq (ak (am w) _) c;have U:w.heap.size<w1:=dQ c Zy;obtain⟨br,bM⟩:=dE c)
  |(go_at_call 76;refine(I _).r λz j=>?_;have O:=aq V j;have X:w.heap.size<z:=dQ j U;obtain⟨cM,cj⟩:=dE j;have Z:w.heap.size<z+1:=Yw X;have Ar:w.heap.size<z+1+1:=Yw Z))
 refine(RB x.a x.b D F _ _ _ Zy).r λw3 J=>?_;have Y:=aq (ak (ak O _) _) J;go_wp2_with fail
 go_ret;refine⟨mQ (a:=bs (cb 7)++bs (fV [x.a,x.b])) ?_,Y⟩;exact RC
def gi1(x:aQ)(m s:XP)(w:XO)(hx:x.In w w m s)(y:ea x=XR)(z:x.ms.length<=100)(A:x.ss.length<=100)(hk:x.kind=10)(ho:x.ok=0):
 aR 33 #[Zr (x.cells m s)] w (X2 (bs (dW x))):=by
 obtain⟨Am,nm,cm,rfl,fG,_,fQ⟩:=hx.ms.form;obtain⟨As,ns,cs,rfl,gh,_,fj⟩:=hx.ss.form;have HX:=aj hx;have ia:=hx.a;have ib:=hx.b;have ic:=hx.c;have iv:=hx.val;have io:=hx.old;have gA:=we y;refine xO λvalid'=>?_;rw[y]at valid';have C:=aj valid';have hM:=aj z;have hS:=aj A;have HT:Hid (dW x=cb 10++YJ [32] (dH x)):=zI;have word':=λW=>yZ 10 aD W;rw[show((((10:Nat):Int)))=x.kind from hk.symm]at word';have D:=aj word';clear valid' word' hx y fG gh z A;have pi:(bs (cb 10)).size<=8:=zJ;refine RO λbZ kZ LB HA=>?_;have HO:Hid (kN x=[[103,101,116],x.key.data.toList]):=by simp[Hid,kN,ho]
 have k4:(x.kind==4)=false:=eN;have V:(x.kind==16)=false:=eN;have X:(x.kind==15)=false:=eN;have k5:(x.kind==5)=false:=eN;have k7:(x.kind==7)=false:=eN;have LM:(x.kind==14)=false:=eN;have Z:(x.kind==12)=false:=eN;have Y:(x.kind==10)=true:=eN;clear hk;have o0:(x.ok==0)=true:=Hq;have o1:(x.ok==1)=false:=Hq;have o2:(x.ok==2)=false:=Hq;clear ho;rw[aQ.cells_def];go_enter func33,ntmps33
 go_wp2_with(first
  |(go_at_call 29;refine(C _ (ak (am w) _)).r λO c=>?_;have G:=aq (ak (am w) _) c;have F:w.heap.size<O:=dQ c Zy;obtain⟨br,bM⟩:=dE c)
  |(go_at_call 76;refine(D _).r λw2 j=>?_;have aZ:=aq G j;have I:w.heap.size<w2:=dQ j F;obtain⟨cM,cj⟩:=dE j;have J:w.heap.size<w2+1:=Yw I;have U:w.heap.size<w2+1+1:=Yw J))
 refine(RB x.a x.b ia ib _ _ _ Zy).r λw3 aM=>?_;refine RP λdu gJ nj kE pF Ps rj cd=>?_;go_wp2_with fail
 go_ret;refine⟨mQ (a:=bs (cb 10)++bs (fV [x.a,x.b])++bs [32,103,101,116,32]++x.key) ?_,du⟩;exact cb2
def cb3(x:aQ)(m s:XP)(w:XO)(hx:x.In w w m s)(A:ea x=XR)(C:x.ms.length<=100)(D:x.ss.length<=100)(hk:x.kind=10)(z:Bool)(o0:(x.ok==0)=XQ)(o1:(x.ok==1)=z)(o2:(x.ok==2)=XQ)(G:Hid (kN x=[if z then[112,117,116]else[97,100,100],x.key.data.toList,XS x.val])):
 aR 33 #[Zr (x.cells m s)] w (X2 (bs (dW x))):=by
 obtain⟨Am,nm,cm,rfl,fG,_,fQ⟩:=hx.ms.form;obtain⟨As,ns,cs,rfl,gh,_,fj⟩:=hx.ss.form;have HX:=aj hx;have ia:=hx.a;have ib:=hx.b;have ic:=hx.c;have iv:=hx.val;have io:=hx.old;have gA:=we A;refine xO λvalid'=>?_;rw[A]at valid';have J:=aj valid';have hM:=aj C;have hS:=aj D;have I:Hid (dW x=cb 10++YJ [32] (dH x)):=zI;have word':=λW=>yZ 10 aD W;rw[show((((10:Nat):Int)))=x.kind from hk.symm]at word';have O:=aj word';clear valid' word' hx A fG gh C D;have pi:(bs (cb 10)).size<=8:=zJ;refine RO λbZ kZ LB HA=>?_;have k4:(x.kind==4)=false:=eN;have B7:(x.kind==16)=false:=eN;have Du:(x.kind==15)=false:=eN;have k5:(x.kind==5)=false:=eN;have k7:(x.kind==7)=false:=eN;have LM:(x.kind==14)=false:=eN;have IL:(x.kind==12)=false:=eN;have IK:(x.kind==10)=true:=eN
 clear hk;cases z;all_goals
  rw[aQ.cells_def];go_enter func33,ntmps33
  go_wp2_with(first
   |(go_at_call 29;refine(J _ (ak (am w) _)).r λZ c=>?_;have V:=aq (ak (am w) _) c;have U:w.heap.size<Z:=dQ c Zy;obtain⟨br,bM⟩:=dE c)
   |(go_at_call 76;refine(O _).r λw2 y=>?_;have aZ:=aq V y;have X:w.heap.size<w2:=dQ y U;obtain⟨cM,cj⟩:=dE y;have Y:w.heap.size<w2+1:=Yw X;have Ar:w.heap.size<w2+1+1:=Yw Y))
  refine(RB x.a x.b ia ib _ _ _ Zy).r λw3 aM=>?_;refine RP λdu gJ nj kE pF Ps rj cd=>?_;have cZ:¬9223372036854775807<(bs (cb 10)).size+(bs (fV [x.a,x.b])).size+5+x.key.size+1:=Zv;have V2:¬9223372036854775807<(bs (cb 10)).size+(bs (fV [x.a,x.b])).size+5+x.key.size+1+(bs (XS x.val)).size:=Zv;go_wp2_with fail
  go_region_held3 (λw'=>aa w' w2 1 (X2 x.key)/\aa w' w2 2 (ah x.val)/\aa w' w2 3 (ah x.old)) (go_simp)
   (first
     |(go_at_call 78;refine(Ni _ iv _).r λw4 j=>?_;have F:=aq (aW du) j;have Wq:w2.heap.size<w4:=dQ j nj;obtain⟨mE,o9⟩:=oQ j))
  go_wp2_with fail
  go_ret;first
   |refine⟨mQ (a:=bs (cb 10)++bs (fV [x.a,x.b])++bs [32,112,117,116,32]++x.key++bs [32]++bs (XS x.val)) ?_,F⟩
   |refine⟨mQ (a:=bs (cb 10)++bs (fV [x.a,x.b])++bs [32,97,100,100,32]++x.key++bs [32]++bs (XS x.val)) ?_,F⟩
  obtain⟨kl,Io⟩:∃kl,x.key=bs kl:=⟨_,(nY _).symm⟩;rw[I.o,HA.o,G.o,Io,ie];simp only[fU,IQ];simp[YJ]
def gi2(x:aQ)(m s:XP)(w:XO)(hx:x.In w w m s)(A:ea x=XR)(C:x.ms.length<=100)(D:x.ss.length<=100)(hk:x.kind=10)(ho:x.ok=2):
 aR 33 #[Zr (x.cells m s)] w (X2 (bs (dW x))):=by
 obtain⟨Am,nm,cm,rfl,fG,_,fQ⟩:=hx.ms.form;obtain⟨As,ns,cs,rfl,gh,_,fj⟩:=hx.ss.form;have HX:=aj hx;have ia:=hx.a;have ib:=hx.b;have ic:=hx.c;have iv:=hx.val;have io:=hx.old;have gA:=we A;refine xO λvalid'=>?_;rw[A]at valid';have F:=aj valid';have hM:=aj C;have hS:=aj D;have HT:Hid (dW x=cb 10++YJ [32] (dH x)):=zI;have word':=λW=>yZ 10 aD W;rw[show((((10:Nat):Int)))=x.kind from hk.symm]at word';have G:=aj word';clear valid' word' hx A fG gh C D;have pi:(bs (cb 10)).size<=8:=zJ;refine RO λbZ kZ LB HA=>?_;have HO:Hid (kN x=[[99,97,115],x.key.data.toList,XS x.old,XS x.val]):=by simp[Hid,kN,ho]
 have k4:(x.kind==4)=false:=eN;have B7:(x.kind==16)=false:=eN;have Du:(x.kind==15)=false:=eN;have k5:(x.kind==5)=false:=eN;have k7:(x.kind==7)=false:=eN;have LM:(x.kind==14)=false:=eN;have IL:(x.kind==12)=false:=eN;have IK:(x.kind==10)=true:=eN;clear hk;have o0:(x.ok==0)=false:=Hq;have o1:(x.ok==1)=false:=Hq;have o2:(x.ok==2)=true:=Hq;clear ho;rw[aQ.cells_def];go_enter func33,ntmps33
 go_wp2_with(first
  |(go_at_call 29;refine(F _ (ak (am w) _)).r λw1 c=>?_;have O:=aq (ak (am w) _) c;have J:w.heap.size<w1:=dQ c Zy;obtain⟨br,bM⟩:=dE c)
  |(go_at_call 76;refine(G _).r λw2 y=>?_;have aZ:=aq O y;have U:w.heap.size<w2:=dQ y J;obtain⟨cM,cj⟩:=dE y;have Z:w.heap.size<w2+1:=Yw U;have Ar:w.heap.size<w2+1+1:=Yw Z))
 refine(RB x.a x.b ia ib _ _ _ Zy).r λw3 aM=>?_;refine RP λdu gJ nj kE pF Ps rj cd=>?_;have cZ:¬9223372036854775807<(bs (cb 10)).size+(bs (fV [x.a,x.b])).size+5+x.key.size+1:=Zv;have V2:¬9223372036854775807<(bs (cb 10)).size+(bs (fV [x.a,x.b])).size+5+x.key.size+1+(bs (XS x.old)).size:=Zv;have sE:¬9223372036854775807<(bs (cb 10)).size+(bs (fV [x.a,x.b])).size+5+x.key.size+1+(bs (XS x.old)).size+1:=Zv;have mh:¬9223372036854775807<(bs (cb 10)).size+(bs (fV [x.a,x.b])).size+5+x.key.size+1+(bs (XS x.old)).size+1+(bs (XS x.val)).size:=Zv;go_wp2_with fail
 go_region_held3 (λw'=>aa w' w2 1 (X2 x.key)/\aa w' w2 2 (ah x.val)/\aa w' w2 3 (ah x.old)) (go_simp)
  (first
    |(go_at_call_of 78 (ah x.old);refine(Ni _ io _).r λw4 j=>?_;have V:=aq (aW du) j;have I:w2.heap.size<w4:=dQ j nj;obtain⟨mE,o9⟩:=oQ j)
    |(go_at_call_of 78 (ah x.val);refine(Ni _ iv _).r λw5 z=>?_;have Y:=aq V z;have X:w2.heap.size<w5:=dQ z I;obtain⟨KV,OU⟩:=dE z))
 go_wp2_with fail
 go_ret;refine⟨mQ (a:=bs (cb 10)++bs (fV [x.a,x.b])++bs [32,99,97,115,32]++x.key++bs [32]++bs (XS x.old)++bs [32]++bs (XS x.val)) ?_,Y⟩;exact cb2
def gi3(x:aQ)(m s:XP)(w:XO)(hx:x.In w w m s)(C:ea x=XR)(D:x.ms.length<=100)(F:x.ss.length<=100)(hk:x.kind=12):
 aR 33 #[Zr (x.cells m s)] w (X2 (bs (dW x))):=by
 obtain⟨Am,nm,cm,rfl,fG,_,fQ⟩:=hx.ms.form;obtain⟨As,ns,cs,rfl,gh,_,fj⟩:=hx.ss.form;have HX:=aj hx;have G:=hx.a;have I:=hx.b;have ic:=hx.c;have J:=hx.val;have io:=hx.old;have gA:=we C;refine xO λvalid'=>?_;rw[C]at valid';have Y:=aj valid';have hM:=aj D;have hS:=aj F;have X:Hid (dW x=cb 12++YJ [32] (dH x)):=zI;have word':=λW=>yZ 12 aD W;rw[show((((12:Nat):Int)))=x.kind from hk.symm]at word';have Z:=aj word';clear valid' word' hx C fG gh D F;have pi:(bs (cb 12)).size<=8:=zJ;have bZ:=DQ [x.a,x.b] (by simpa using⟨G,I⟩) Zy;have kZ:=WU x.val J;have V:Hid (dH x=[XS x.a,XS x.b,XS x.val]):=CY;have k4:(x.kind==4)=false:=eN;have B7:(x.kind==16)=false:=eN;have Du:(x.kind==15)=false:=eN;have k5:(x.kind==5)=false:=eN;have k7:(x.kind==7)=false:=eN;have LM:(x.kind==14)=false:=eN;have IL:(x.kind==12)=true:=eN;clear hk;rw[aQ.cells_def];go_enter func33,ntmps33
 go_wp2_with(first
  |(go_at_call 29;refine(Y _ (ak (am w) _)).r λw1 z=>?_;have bP:=aq (ak (am w) _) z;have a_:w.heap.size<w1:=dQ z Zy;obtain⟨br,bM⟩:=dE z)
  |(go_at_call 76;refine(Z _).r λc A=>?_;have aZ:=aq bP A;have bd:w.heap.size<c:=dQ A a_;obtain⟨cM,cj⟩:=dE A;have pm:w.heap.size<c+1:=Yw bd;have Ar:w.heap.size<c+1+1:=Yw pm))
 have tL:¬9223372036854775807<(bs (cb 12)).size+(bs (fV [x.a,x.b])).size:=Zv;have lE:¬9223372036854775807<(bs (cb 12)).size+(bs (fV [x.a,x.b])).size+1:=Zv;have cv5:¬9223372036854775807<(bs (cb 12)).size+(bs (fV [x.a,x.b])).size+1+(bs (XS x.val)).size:=Zv;have hy9:c.heap.size<c+1+1:=Zv;go_region_held3 (λw'=>aa w' w 1 (ah x.a)/\aa w' w 2 (ah x.b)/\aa w' c 2 (ah x.val)) (go_simp)
  (first
    |(go_at_call 78;refine(Ni _ J _).r λU y=>?_;have gP:=aq du y;have vX:w.heap.size<U:=dQ y gJ;have Wq:c.heap.size<U:=dQ y nj;obtain⟨mE,o9⟩:=dE y)
    |(go_at_call 77;refine(Gv _ [x.a,x.b] _ (aS.of2 jM jM Zy G I) Zy).r λO j=>?_;have du:=aq (aW (ak (ak aZ _) _)) j;have gJ:w.heap.size<O:=dQ j bN;have nj:c.heap.size<O:=dQ j bN;obtain⟨kE,pF⟩:=dE j))
 go_wp2_with fail
 go_ret;refine⟨mQ (a:=bs (cb 12)++bs (fV [x.a,x.b])++bs [32]++bs (XS x.val)) ?_,gP⟩;rw[X.o,V.o,fU,fU,fU,IQ];simp[YJ]
def gi4(x:aQ)(m s:XP)(w:XO)(hx:x.In w w m s)(y:ea x=XR)(A:x.ms.length<=100)(C:x.ss.length<=100)(hk:x.kind=14):
 aR 33 #[Zr (x.cells m s)] w (X2 (bs (dW x))):=by
 obtain⟨Am,nm,cm,rfl,fG,_,fQ⟩:=hx.ms.form;obtain⟨As,ns,cs,rfl,gh,_,fj⟩:=hx.ss.form;have HX:=aj hx;have D:=hx.a;have F:=hx.b;have G:=hx.c;have iv:=hx.val;have io:=hx.old;have gA:=we y;refine xO λvalid'=>?_;rw[y]at valid';have I:=aj valid';have hM:=aj A;have hS:=aj C;have HT:Hid (dW x=cb 14++YJ [32] (dH x)):=zI;have word':=λW=>yZ 14 aD W;rw[show((((14:Nat):Int)))=x.kind from hk.symm]at word';have J:=aj word';clear valid' word' hx y fG gh A C;have pi:(bs (cb 14)).size<=8:=zJ;have bZ:=DQ [x.a,x.b,x.c] (by simpa using⟨D,F,G⟩) Zy;have HA:Hid (dH x=[XS x.a,XS x.b,XS x.c]):=CY;have k4:(x.kind==4)=false:=eN;have B7:(x.kind==16)=false:=eN;have Du:(x.kind==15)=false:=eN;have k5:(x.kind==5)=false:=eN;have k7:(x.kind==7)=false:=eN;have LM:(x.kind==14)=true:=eN;clear hk;rw[aQ.cells_def];go_enter func33,ntmps33
 go_wp2_with(first
  |(go_at_call 29;refine(I _ (ak (am w) _)).r λw1 c=>?_;have X:=aq (ak (am w) _) c;have V:w.heap.size<w1:=dQ c Zy;obtain⟨br,bM⟩:=dE c)
  |(go_at_call 76;refine(J _).r λz j=>?_;have U:=aq X j;have Y:w.heap.size<z:=dQ j V;obtain⟨cM,cj⟩:=dE j;have pm:w.heap.size<z+1:=Yw Y;have Ar:w.heap.size<z+1+1:=Yw pm))
 refine(gh5 x.a x.b x.c D F G _ _ _ Zy).r λw3 O=>?_;have Z:=aq (ak (ak U _) _) O;go_wp2_with fail
 go_ret;refine⟨mQ (a:=bs (cb 14)++bs (fV [x.a,x.b,x.c])) ?_,Z⟩;exact RC
def gf2(x:aQ)(m s:XP)(w:XO)(hx:x.In w w m s)(A:ea x=XR)(D:x.ms.length<=100)(F:x.ss.length<=100)(hk:x.kind=15):
 aR 33 #[Zr (x.cells m s)] w (X2 (bs (dW x))):=by
 obtain⟨Am,nm,cm,rfl,fG,_,fQ⟩:=hx.ms.form;obtain⟨As,ns,cs,rfl,gh,_,fj⟩:=hx.ss.form;have HX:=aj hx;have ia:=hx.a;have ib:=hx.b;have ic:=hx.c;have iv:=hx.val;have io:=hx.old;have gA:=we A;refine xO λvalid'=>?_;rw[A]at valid';have I:=aj valid';have G:=aj D;have hS:=aj F;have HT:Hid (dW x=cb 15++YJ [32] (dH x)):=zI;have word':=λW=>yZ 15 aD W;rw[show((((15:Nat):Int)))=x.kind from hk.symm]at word';have J:=aj word';clear valid' word' hx A fG gh D F;have pi:(bs (cb 15)).size<=8:=zJ;have bL:=DQ x.ms HX.ms.2 G.o;have HA:Hid (dH x=x.ms.map XS):=CY;have k4:(x.kind==4)=false:=eN;have B7:(x.kind==16)=false:=eN;have Du:(x.kind==15)=true:=eN;clear hk;rw[aQ.cells_def];go_enter func33,ntmps33
 go_wp2_with(first
  |(go_at_call 29;refine(I _ (ak (am w) _)).r λw1 j=>?_;have V:=aq (ak (am w) _) j;have U:w.heap.size<w1:=dQ j Zy;obtain⟨br,bM⟩:=dE j)
  |(go_at_call 76;refine(J _).r λC z=>?_;have y:=aq V z;have X:w.heap.size<C:=dQ z U;obtain⟨cM,cj⟩:=dE z;have Z:w.heap.size<C+1:=Yw X;have Ar:w.heap.size<C+1+1:=Yw Z))
 refine(Gv _ x.ms _ ((HX.ms.below (ak y _) (ar _)).more (Below.size (ak y _))) (bC G aD)).r λw3 O=>?_;have Y:=aq (ak y _) O;go_wp2_with fail
 go_ret;refine⟨mQ (a:=bs (cb 15)++bs (fV x.ms)) ?_,Y⟩;exact RC
def gf3(x:aQ)(m s:XP)(w:XO)(hx:x.In w w m s)(c:ea x=XR)(j:x.ms.length<=100)(y:x.ss.length<=100)(hk:x.kind=16):
 aR 33 #[Zr (x.cells m s)] w (X2 (bs (dW x))):=by
 obtain⟨Am,nm,cm,rfl,fG,_,fQ⟩:=hx.ms.form;obtain⟨As,ns,cs,rfl,gh,_,fj⟩:=hx.ss.form;have HX:=aj hx;have F:=hx.a;have G:=hx.b;have I:=hx.c;have O:=hx.val;have J:=hx.old;have A:=we c;refine xO λvalid'=>?_;rw[c]at valid';have HV:=aj valid';have C:=aj j;have D:=aj y;have HT:Hid (dW x=cb 16++YJ [32] (dH x)):=zI;have word':=λW=>yZ 16 aD W;rw[show((((16:Nat):Int)))=x.kind from hk.symm]at word';have HW:=aj word';clear valid' word' hx c fG gh j y;have V:(bs (cb 16)).size<=8:=zJ;have HA:Hid (dH x=[]):=CY;have U:(x.kind==4)=false:=eN;have z:(x.kind==16)=true:=eN;exact cb1
def gf4(x:aQ)(m s:XP)(w:XO)(hx:x.In w w m s)(c:ea x=XQ):
 aR 33 #[Zr (x.cells m s)] w (X2 (bs [])):=by
 obtain⟨Am,nm,cm,rfl,_,_,_⟩:=hx.ms.form;obtain⟨As,ns,cs,rfl,_,_,_⟩:=hx.ss.form;have HX:=aj hx;refine xO λvalid'=>?_;rw[c]at valid';have j:=aj valid';clear valid' hx c;rw[aQ.cells_def];go_enter func33,ntmps33;go_wp2_with(go_at_call 29;refine(j _ (ak (am w) _)).r λA y=>?_;have z:=aq (ak (am w) _) y)
 go_ret;exact⟨rfl,z⟩
def gf5(x:aQ)(m s:XP)(w:XO)(hx:x.In w w m s)(c:x.ms.length<=100)(j:x.ss.length<=100):
 aR 33 #[Zr (x.cells m s)] w (X2 (bs (AB x))):=by
 unfold AB;cases hv:ea x with
 |false=>exact gf4 x m s w hx hv
 |true=>
  obtain⟨h0,oX⟩:=DR (DS hv);by_cases V:x.kind=0\/x.kind=1\/x.kind=2\/x.kind=3\/x.kind=6\/x.kind=8\/x.kind=9\/x.kind=11\/x.kind=13\/x.kind=17
  .exact gh7 x m s w hx hv c j x.kind.toNat Zv Zv
  by_cases F:x.kind=4
  .exact gh8 x m s w hx hv c j F
  by_cases G:x.kind=5
  .exact gh9 x m s w hx hv c j G
  by_cases I:x.kind=7
  .exact gi0 x m s w hx hv c j I
  by_cases D:x.kind=12
  .exact gi3 x m s w hx hv c j D
  by_cases O:x.kind=14
  .exact gi4 x m s w hx hv c j O
  by_cases U:x.kind=15
  .exact gf2 x m s w hx hv c j U
  by_cases J:x.kind=16
  .exact gf3 x m s w hx hv c j J
  have z:x.kind=10:=Zv;by_cases A:x.ok=0
  .exact gi1 x m s w hx hv c j z A
  by_cases y:x.ok=1
  .exact cb3 x m s w hx hv c j z XR (by rw[y];rfl) (by rw[y];rfl) (by rw[y];rfl) (by simp[Hid,kN,y])
  by_cases C:x.ok=2
  .exact gi2 x m s w hx hv c j z C
  exact cb3 x m s w hx hv c j z XQ (by simp[A]) (by simp[y]) (by simp[C]) (by simp[Hid,kN,A,y,C])
end Go.Proofs.YtihhpjmclebfpaaGreatDoor
