/- A part of the proof. -/
import Derived.Test.YtklfdkdebgfmiaaGreatDoorQbc
set_option linter.defProp false
set_option linter.unusedVariables false
set_option linter.unusedSimpArgs false
set_option maxRecDepth 100000
set_option maxHeartbeats 32000000
open Option renaming none->Wr,some->Ws
open Decidable renaming decide->Wt
open Go renaming World->Wu,Value->Wv,Calls->WJ,TypeId->WQ,maxLen->Xe,undef->XE,Oper->XH,execOp->XX,Ending->X0,Addr->X8
open Bool renaming false->Ww,true->Wz
open List renaming range->Xs
open Go.RowKit renaming Hid->WA
open Go.Lib renaming itoa->WB
open Go.Proofs renaming intOf->WS
open Go.Proofs.Tryz renaming prog->WH
open Go.Value renaming int->WK,string->WM,slice->Yb,bool->Yc,agg->Ye,pointer->Yf
open Go.Instr renaming lookup->WT
open Go.World renaming setCell->XD,cell?->X3
open Go.IntKind renaming i64->Xr
open Go.Region renaming ready->XC,Mode->X6
open Go.Ending renaming returned->Xz
open Go.Obj renaming cells->Yd
open Go.Operand renaming tmp->Yg,const->Yh
namespace Go.Proofs.YtklfdkdebgfmiaaGreatDoor
section
open Go Go.Proofs.Tryz
section
variable {P:Program} {ops:Array XH} {Q:Exit->Act->Wu->Prop} {md:X6} {S:Wu->Prop} {N:Nat}
def Me (md:X6) (ops:Array XH):Nat->Nat->Nat->Bool
 |0,_,_=>Ww
 |n+1,j,i=>h_ md ops j i||(Xs ops.size).any λk=>h_ md ops j k&&Me md ops n k i
def Ik (md:X6) (ops:Array XH) (listed:Array Bool):Bool:=
 (Xs ops.size).all λj=> !listed.getD j Wz||(Xs ops.size).all λi=> !h_ md ops j i||listed.getD i Wz
def Il (md:X6) (ops:Array XH) (listed:Array Bool):Prop:= ∀j i,j<ops.size->i<ops.size->listed.getD j Wz=Wz->h_ md ops j i=Wz->listed.getD i Wz=Wz
def do5 {listed:Array Bool} (h:Ik md ops listed=Wz):Il md ops listed:=by intro j i z y A C;have c:=List.all_eq_true.1 h j (List.mem_range.2 z);simp only[A,Bool.not_true,Bool.false_or] at c;have g:=List.all_eq_true.1 c i (List.mem_range.2 y);simpa[C] using g
def ab9 {listed:Array Bool} (g:Il md ops listed): ∀(n j i:Nat),i<ops.size->(∀k,k<ops.size->h_ md ops j k=Wz->listed.getD k Wz=Wz)->Me md ops n j i=Wz->listed.getD i Wz=Wz
 |0,_,_,_,_,h=>by cases h
 |n+1,j,i,hi,hj,h=>by
  rw[Me,XK] at h;rcases h with h|h
  .exact hj i hi h
  .obtain⟨k,hk,h⟩:=List.any_eq_true.1 h;rw[WC] at h;have c:=List.mem_range.1 hk;exact ab9 g n k i hi (λq y z=>g k q c y (hj k c h.1) z) h.2
def aa7 {listed:Array Bool} {j:Nat} (z:j∈XC md ops listed) (D:listed.size=ops.size): ∀k,k<ops.size->h_ md ops j k=Wz->listed.getD k Wz=true:=by
 intro k C A;obtain⟨hl,o,ho,kE⟩:=mem_ready.1 z;obtain⟨o',c,e,he,hb,rfl⟩:=V' A;rw[ho] at c;injection c with c;subst c;have g:=kE e he hb;have y:e.on<listed.size:=Yi;simp[y] at g⊢
 exact g
def Il.set {listed:Array Bool} {j:Nat} (C:Il md ops listed) (D:j∈XC md ops listed) (F:listed.size=ops.size):Il md ops (listed.setIfInBounds j Wz):=by
 intro a i A g y z;by_cases e:i=j
 .subst e;exact V_
 .rw[getD_set_ne true (λh=>e h.symm)];by_cases c:a=j
  .subst c;exact aa7 D F i g z
  .rw[getD_set_ne Wz (λh=>c h.symm)] at y;exact C a i A g y z
def Fu (md:X6) (ops:Array XH) (N i:Nat):Bool:=(Xs ops.size).all λj=>Wt (j<N)||Me md ops ops.size j i
def do6 {i j:Nat} (h:Fu md ops N i=Wz) (hj:j<ops.size) (c:N<=j):Me md ops ops.size j i=true:=by exact ab5
def do7 {i:Nat} {g:XH} {v:Wv} (hi:ops[i]? =Ws g) (Lk:i<N) (G: ∀(j:Nat) (o:XH) z b,ops[j]? =Ws o->o.op≠ .select z b) (X:Fu md ops N i=Wz)
 (hQ: ∀c a w,Q (.panic c) (a.put g.dst v) w->Q (.panic c) a w):
 ∀(fuel:Nat) (listed:Array Bool) (a:Act) (w:World),listed.size=ops.size->Il md ops listed->
  (∀j y,ops[j]? =Ws y->j≠i->listed.getD j Wz=Ww->(∀e∈y.after,Region.binds md e=Wz->e.on≠i)->g.apart ops y=Wz)->
  i∈XC md ops listed->YieldsIf P ops S g v a->S w->
  gx P md ops Q S N fuel (listed.setIfInBounds i Wz) (a.put g.dst v) w->gx P md ops Q S N (fuel+1) listed a w:=by
 intro fuel;induction fuel with
 |zero=>intro listed a w A D _ hr hy hS H;exact ab6
 |succ fuel ih=>
  intro listed a w A D I hr hy hS H;refine⟨λh=>(by rw[h] at hr;cases hr),λj hj=> ?_⟩;by_cases pY:j=i
  .subst pY;exact hy.wpOp hi hS ⟨λ_=>hS,H⟩
  .have h1:=H.2 j (ready_mono hj pY);obtain⟨Lm,y,zI,dw⟩:=mem_ready.1 hj;have O: ∀e∈y.after,Region.binds md e=true->e.on≠i:=λe he hb heq=>by exact ab7
   have U:j<N:=by
    rcases Xk j N with h|h
    .exact h
    .have:=ab9 D _ j i (Array.getElem?_eq_some_iff.1 hi).1 (aa7 hj A) (do6 X (Array.getElem?_eq_some_iff.1 zI).1 h);rw[(mem_ready.1 hr).1] at this;cases this
   have Z:=wpOp_putIf zI (I j y zI pY Lm O) (λz b=>G i g z b hi) (λz b=>G j y z b zI) hQ hy h1;have hfree': ∀k ok,ops[k]? =Ws ok->k≠i->(listed.setIfInBounds j Wz).getD k Wz=Ww->
    (∀e∈ok.after,Region.binds md e=Wz->e.on≠i)->g.apart ops ok=true:=λk ok hk V F qY=>by
    refine I k ok hk V ?_ qY;by_cases J:j=k
    .subst J;exact Lm
    .rw[getD_set_ne Wz J] at F;exact F
   refine wpOp_mono (λY w' C=>⟨C.2.1,ih (listed.setIfInBounds j Wz) Y w' (by simp[A]) (D.set hj A) hfree' (ready_mono hr (Ne.symm pY)) C.1 (C.2.1 U) ?_⟩) Z;rw[Array.setIfInBounds_comm _ _ pY];exact C.2.2
def do8 {i:Nat} {j:XH} {v:Wv} {fuel:Nat} {listed:Array Bool} {a:Act} {w:Wu} (d:Option Tmp) (y:ops[i]? =Ws j) (D:j.dst=d) (z:Wt (i<N)=Wz)
 (I:Region.noSelect ops=Wz) (F:Region.free md ops listed i=Wz) (G:(XC md ops listed).contains i=Wz) (g:(Fu md ops N i&&Ik md ops listed&&Wt (listed.size=ops.size))=Wz)
 (A: ∀c a w,Q (.panic c) (a.put d v) w->Q (.panic c) a w) (J:YieldsIf P ops S j v a) (C:S w)
 (h:gx P md ops Q S N fuel (listed.setIfInBounds i Wz) (a.put d v) w):gx P md ops Q S N (fuel+1) listed a w:=by
 subst D;simp only[WC,decide_eq_true_eq] at g;exact do7 y (of_decide_eq_true z) (Region.noSelect_spec I) g.1.1 A fuel listed a w g.2 (do5 g.1.2) (Region.free_spec y F) (by simpa using G) J C h
def gx0 (m s:Nat) {g:XH} {v:Wv} {fuel:Nat} {listed:Array Bool} {a:Act} {w:Wu} (hi:ops[m - (fuel+1)]? =Ws g) (hk:(mS md ops listed (m - (fuel+1)) (s+(m - (fuel+1)))&&(Wt (m - (fuel+1)<N)&&(Fu md ops N (m - (fuel+1))&&Ik md ops listed&&Wt (listed.size=ops.size))))=Wz)
 (hQ: ∀c a w,Q (.panic c) (a.put (Ws (s+(m - (fuel+1)))) v) w->Q (.panic c) a w) (hy:YieldsIf P ops S g v a) (hS:S w)
 (h:gx P md ops Q S N fuel (listed.setIfInBounds (m - (fuel+1)) Wz) (a.put (Ws (s+(m - (fuel+1)))) v) w):gx P md ops Q S N (fuel+1) listed a w:=by
 exact aa8
def do9 (i t:Nat) {g:XH} {v:Wv} {fuel:Nat} {listed:Array Bool} {a:Act} {w:Wu} (hi:ops[i]? =Ws g) (hk:(mS md ops listed i t&&(Wt (i<N)&&(Fu md ops N i&&Ik md ops listed&&Wt (listed.size=ops.size))))=Wz)
 (hQ: ∀c a w,Q (.panic c) (a.put (Ws t) v) w->Q (.panic c) a w) (hy:YieldsIf P ops S g v a) (hS:S w)
 (h:gx P md ops Q S N fuel (listed.setIfInBounds i Wz) (a.put (Ws t) v) w):gx P md ops Q S N (fuel+1) listed a w:=by
 exact aa8
def pK (m s:Nat) {g:XH} {v:Wv} {fuel:Nat} {listed:Array Bool} {a:Act} {w:Wu} {p:Prop} (h:p) (hS:S w:=by exact hS)
 (y:ops[m - (fuel+1)]? =Ws g:=by rfl) (z:(mS md ops listed (m - (fuel+1)) (s+(m - (fuel+1)))&&(Wt ((m - (fuel+1))<N)&&(Fu md ops N (m - (fuel+1))&&Ik md ops listed&&Wt (listed.size=ops.size))))=true:=by kernel_rfl)
 (j: ∀c a w,Q (.panic c) (a.put (Ws (s+(m - (fuel+1)))) v) w->Q (.panic c) a w:=by exact λ_ _ _ h=>h) (C:YieldsIf P ops S g v a:=by(refine Or.inl ⟨by rfl,?_⟩;intro w il;(try have il:=du.out w il);(try dsimp only at il);go_simp;try with_reducible rfl))
 (A:p->gx P md ops Q S N fuel (listed.setIfInBounds (m - (fuel+1)) Wz) (a.put (Ws (s+(m - (fuel+1)))) v) w:=by(intro hq;simp only[Act.put,sN,sP,sO,Nat.reduceSub,Nat.reduceAdd];exact hq)):gx P md ops Q S N (fuel+1) listed a w:=
 gx0 m s y z j C hS (A h)
def rh (i t:Nat) {g:XH} {v:Wv} {fuel:Nat} {listed:Array Bool} {a:Act} {w:Wu} {p:Prop} (h:p) (hS:S w:=by exact hS)
 (y:ops[i]? =Ws g:=by rfl) (z:(mS md ops listed i t&&(Wt (i<N)&&(Fu md ops N i&&Ik md ops listed&&Wt (listed.size=ops.size))))=true:=by kernel_rfl)
 (j: ∀c a w,Q (.panic c) (a.put (Ws t) v) w->Q (.panic c) a w:=by exact λ_ _ _ h=>h) (C:YieldsIf P ops S g v a:=by(refine Or.inl ⟨by rfl,?_⟩;intro w il;(try have il:=du.out w il);(try dsimp only at il);go_simp;try with_reducible rfl))
 (A:p->gx P md ops Q S N fuel (listed.setIfInBounds i Wz) (a.put (Ws t) v) w:=by(intro hq;simp only[Act.put,sN,sP,sO];exact hq)):gx P md ops Q S N (fuel+1) listed a w:=
 do9 i t y z j C hS (A h)
end
end
section
open Go Go.RowKit Go.Proofs.Tryz
def Fb (w:Wu) (p:UInt8->Bool) (e:X0) (w':Wu):Prop:= ∃g caps,e=Xz (.func (.func g) #[] caps)/\ju w' (bm g caps) p/\Below w w w'
def ag8 (a b:UInt8) (w:Wu):WJ WH 188 #[.int .u8 a.toNat,.int .u8 b.toNat] w (Fb w λc=>Wt (a.toNat<=c.toNat)&&Wt (c.toNat<=b.toNat)):=
 (dm5 a b w).mono λe w' ⟨h,g⟩=>⟨_,_,h,g▸dm7 a b w,g▸ae (ae (af w) _) _⟩
def Py (w:Wu):WJ WH 188 #[.int .u8 97,.int .u8 122] w (Fb w kL):=ag8 97 122 w
def Fc (w:Wu):WJ WH 188 #[.int .u8 48,.int .u8 57] w (Fb w bT):=ag8 48 57 w
def ag9 (s:ByteArray) (w:Wu):WJ WH 186 #[s] w (Fb w λc=>Wt (c∈s.data.toList)):=
 (ag3 s w).mono λe w' ⟨h,g⟩=>⟨_,_,h,g▸ag4 s w,g▸ae (af w) _⟩
def Wb (w:Wu):WJ WH 186 #[WM ⟨#[95]⟩] w (Fb w λc=>c==95):=by
 have h:=ag9 ⟨#[95]⟩ w;have e:(λc:UInt8=>Wt (c∈(⟨#[95]⟩:ByteArray).data.toList))=λc=>c==95:=by funext c;rw[WU];simp
 rw[e] at h;exact h
def dr9 (w:Wu):WJ WH 186 #[WM ⟨#[59,44]⟩] w (Fb w λc=>c==59||c==44):=by
 have h:=ag9 ⟨#[59,44]⟩ w;have e:(λc:UInt8=>Wt (c∈(⟨#[59,44]⟩:ByteArray).data.toList))=λc=>c==59||c==44:=by funext c;rw[WU];simp
 rw[e] at h;exact h
def Wc (v:Wv) (g:List (UInt8->Bool)) (w:Wu) (h:bW 1 wT w w v g):WJ WH 282 #[v] w (Fb w λc=>g.any λp=>p c):=by obtain⟨A,n,c,e,_⟩:=h.form;exact(dm8 v w ⟨A,n,c,e⟩).mono λe w' ⟨y,j⟩=>⟨_,_,y,j▸dn1 v g w h,j▸ae (af w) _⟩
def ah0 (w:Wu) (t:WQ) (y:List Wv) (g:List (UInt8->Bool)) (n:Nat) (z:g.length=n) (D:n<=100) (C:0<n)
 (h: ∀(j:Nat) p,g[j]? =Ws p->∃v,y[j]? =Ws v/\ju w v p):bW 1 wT (w.alloc (Yd y.toArray t)) (w.alloc (Yd y.toArray t)).heap.size (Yb (Ws (w 0 Wr)) n n) g:=by
 subst z;refine⟨_,_,rfl,ag _,by simp[Xe];omega,λ_=>⟨w.heap.size,0,rfl,by simp,λj p A=> ?_⟩⟩;obtain⟨v,hv,hc⟩:=h j p A;refine⟨[v],rfl,(hc.later (ae (af w) _)).toR,λi u c=> ?_⟩
 match i,c with
 |0,c=>injection c with c;subst c;rw[Xa];simpa using hv
def ds0 (c:UInt8):([kL,bT,λc=>c==95]:List (UInt8->Bool)).any (λp=>p c)=cX c:=by simp[cX,Bool.or_assoc]
def ah1 (c:UInt8):([kL,λc=>c==95]:List (UInt8->Bool)).any (λp=>p c)=gy c:=by simp[gy]
def jx (k:Nat) (t:ak) (n p:Nat):Value:=Ye #[k,bs t,n,p]
def LT (w:Wu) (r:Except Nat (Nat×ak×Nat)) (e:X0) (w':Wu):Prop:=
 Below w w w'/\match r with
  | .error c=>e=Xz (.tuple #[jx 0 [] 0 0,c])
  | .ok (k,t,n)=>e=Xz (.tuple #[jx k t n 0,WK Xr 0])
def LU (p:UInt8->Bool) (s:ByteArray):s.extract 0 (gd p s)=bs (s.data.toList.takeWhile p):=by
 have h: ∀l:List UInt8,l.take (l.takeWhile p).length=l.takeWhile p:=λl=>by have:=List.takeWhile_prefix p (l:=l);exact(List.prefix_iff_eq_take.1 this).symm
 rw[<-nB (s.extract 0 (gd p s))];congr 1;unfold gd;simp[ByteArray.data_extract,h]
def ah2 (p:UInt8->Bool) (s:ByteArray):gd p s<=s.size:=by have:=Mo p s.data.toList;rw[j5] at this;exact this
def ds1 (s:ByteArray) (w:Wu) (hG:fD w) (hs:s.size<=16384):
 WJ WH 189 #[s] w (LT w (Aj s.data.toList)):=by
 have HG:=aa hG;have hz:s.size<=9223372036854775807:=Yi;have fI:=ah2 cX s;have HX:=aa (LU cX s);obtain⟨n,hn⟩: ∃n,gd cX s=n:=⟨_,rfl⟩;have I:Hid (Aj s.data.toList=if 31<n then .error 8 else if(s.data.toList.takeWhile cX)∈dH then .ok (2,s.data.toList.takeWhile cX,0) else .ok (1,s.data.toList.takeWhile cX,0)):=by rw[<-hn];rfl
 generalize s.data.toList.takeWhile cX=t at I HX;have HR:Hid (∀W F,ju W F cX->aQ 185 #[s,F] W (WK Xr n)):=λW F h=>by
  have:=Ml s F cX W hz h
  rwa [hn] at this
 rw[hn] at fI HX;refine Io λlN lO se=> ?_;clear hG hn;go_enter func189,ntmps189;go_wp2_with(go_at_call_of 188 (WK IntKind.u8 97);refine(Py _).m ?_;rintro e w1 ⟨g1,c1,rfl,me,V⟩;have c_:=ai (ae (af w) _) V)
 refine(Fc _).m ?_;rintro e w2 ⟨g2,c2,rfl,C,O⟩;have aV:=ai c_ O;go_wp2_with(go_at_call 186;refine(Wb _).m ?_;rintro e w3 ⟨g3,c3,rfl,oE,z⟩;have ik:=ai aV z)
 have hS:=ah0 w3 227 [bm g1 c1,bm g2 c2,bm g3 c3] [kL,bT,λc=>c==95] 3 rfl Yi Yi (λj p g=>by
  match j,g with
  |0,g=>injection g with g;subst g;exact⟨_,rfl,me.later (ai O z)⟩
  |1,g=>injection g with g;subst g;exact⟨_,rfl,C.later z⟩
  |2,g=>injection g with g;subst g;exact⟨_,rfl,oE⟩)
 have hA:=Wc _ _ _ hS;refine hA.m ?_;rintro e w4 ⟨g4,c4,rfl,Cz,U⟩;have lE:=ai (ae ik _) U;go_wp2_with fail
 refine(HR.out w4 _ (Cz.congr ds0)).m ?_;rintro e w5 ⟨rfl,X⟩;have lZ:=ai lE X;have iF:=aq (aq (bQ w _) V) (ai O (ai z (ai (ae (af w3) _) (ai U X))));have wL:=blk_lt iF;refine Pz λc0 xE uw xF f0 f1 f2 f3=> ?_;have HB:=aa iF;have A:=aa (HG.out.step lZ);have aO: ¬w.heap.size=w5.heap.size:=Yi;have go7: ¬w5.heap.size=w.heap.size:=Yi;clear iF me C oE Cz hS hA V O z U X c_ aV ik lE HG HR;by_cases J:31<n
 .have Y:(31:Int)<n:=by omega
  have G:Hid (31<n):=J;clear J;go_wp2_with fail
  refine bodyPost_ret (v:= .tuple #[jx 0 [] 0 0,WK Xr 8]) (by simp[results,results189,go_sem,jx,bs,c0,xE,uw,xF]) rfl ?_;rw[I.out,if_pos G.out];exact⟨cF (cF (cF (cF lZ (ag _) _) (ag _) _) (ag _) _) (ag _) _,rfl⟩
 .have Y: ¬(31:Int)<n:=by omega
  have G:Hid (¬31<n):=J;clear J;have D:Hid (∀v W B,bG W B v dH->WJ WH 199 #[v,WM (s.extract 0 n)] W λe w'=>e=Xz (Yc (Wt (t∈dH)))/\w'=W):=λv W B h=>by rw[HX.out];exact Px v dH t W B h
  cases hk:Wt (t∈dH) with
  |true=>
   rw[hk] at D;have Z:=aa (of_decide_eq_true hk);clear hk;go_wp2_with fail
   go_region_held3 (λw'=>w'.cell? (w5 1 Wr)=Ws (WM (s.extract 0 n))) (go_simp)
    (first
      |(go_at_call 226;refine(YK _ (A.out.step (aX (ae (af w5) _)))).m ?_;rintro e w6 ⟨v6,rfl,y,bM⟩;obtain⟨A6,n6,gg5,rfl,_⟩:=cD.form y;obtain⟨UE,UM⟩:=af5 bM)
      |(go_at_call 199;refine(D.out _ _ _ y).m ?_;rintro e w7 ⟨rfl,rfl⟩))
   refine ah3 λfU eE E6 eB t0 t1 t2 t3 q0 q1 q2 q3 r0 r1 r2 r3 p0 p1 p2 p3 Em=> ?_;clear UE UM fU eE bM y c0 xE uw xF f0 f1 f2 f3;go_wp2_with fail
   refine bodyPost_ret (v:= .tuple #[jx 2 t 0 0,WK Xr 0]) bz7 rfl ?_;rw[I.out,if_neg G.out,if_pos Z.out];exact ah4
  |false=>
   rw[hk] at D;have Z:=aa (of_decide_eq_false hk);clear hk;go_wp2_with fail
   go_region_held3 (λw'=>w'.cell? (w5 1 Wr)=Ws (WM (s.extract 0 n))) (go_simp)
    (first
      |(go_at_call 226;refine(YK _ (A.out.step (aX (ae (af w5) _)))).m ?_;rintro e w6 ⟨v6,rfl,y,bM⟩;obtain⟨A6,n6,gg5,rfl,_⟩:=cD.form y;obtain⟨UE,UM⟩:=af5 bM)
      |(go_at_call 199;refine(D.out _ _ _ y).m ?_;rintro e w7 ⟨rfl,rfl⟩))
   refine ah3 λfU eE E6 eB t0 t1 t2 t3 q0 q1 q2 q3 r0 r1 r2 r3 p0 p1 p2 p3 Em=> ?_;clear UE UM fU eE bM y c0 xE uw xF f0 f1 f2 f3;go_wp2_with fail
   refine bodyPost_ret (v:= .tuple #[jx 1 t 0 0,WK Xr 0]) bz7 rfl ?_;rw[I.out,if_neg G.out,if_neg Z.out];exact ah4
def ds2 {s:ByteArray} (h:0<s.size):s.data.toList.head?=Ws s[0]:=by have:=PV h;rw[<-this];cases s.data.toList<;>rfl
def ac7 (w:Wu) (g y:Wv) (z A:UInt8->Bool) (C:ju w g z) (D:ju w y A):bW 1 wT (w.alloc (Yd #[g,y] 227)) (w.alloc (Yd #[g,y] 227)).heap.size (Yb (Ws (w 0 Wr)) 2 2) [z,A]:=
 ah0 w _ [g,y] [z,A] 2 rfl Yi Yi (λj p c=>by
  match j,c with
  |0,c=>injection c with c;subst c;exact⟨_,rfl,C⟩
  |1,c=>injection c with c;subst c;exact⟨_,rfl,D⟩)
def Fd (t:ak):Except Nat (Nat×ak×Nat):=match mr 0 t with|none=> .error 2|some m=> .ok (3,t,m)
def ds3 {a w:Wu} (h:Below a a w) {e:WQ} {s:ByteArray}:Below a a (Lib.bytesWorld w e s):=
 ⟨h.os,h.tape,h.output,by rw[Lib.bytesWorld_size];exact Nat.le_succ_of_le h.size,λi g=>(Lib.bytesWorld_at_old w e s i (bq g h.size)).trans (h.block i g)⟩
def ac8 (a:Nat) (c:UInt8) (r:ak):mr a (c::r)=if 1048576<10*a+(c.toNat - 48) then Wr else mr (10*a+(c.toNat - 48)) r:=rfl
def ds4 (s:ByteArray) (w:Wu) (X:s.size<=16384) (V:0<s.size) (n:Nat) (hn:gd bT s=n) (G:1<n) (y:s[0]=48):
 aQ 190 #[s] w (.tuple #[jx 0 [] 0 0,WK Xr 3]):=by
 refine LW λhz fI=> ?_;have C:Hid (∀W F,ju W F bT->aQ 185 #[s,F] W (WK Xr n)):=λW F h=>by exact LX
 rw[hn] at fI;refine Io λlN lO se=> ?_;have Y:Wt ((1:Int)<n)=true:=bI;have zy:((s[0].toNat:Int)==48)=true:=by rw[y];rfl
 have J:(0:Int)<s.size:=Yi;clear hn G y;go_enter func190,ntmps190;go_wp2_with(go_at_call 188;refine(Fc _).m ?_;rintro e I ⟨U,O,rfl,A,j⟩;have z:=ai (ae (af w) _) j)
 refine(C.out I _ A).m ?_;rintro e Z ⟨rfl,g⟩;have c:=ai z g;have iF:=aq (aq (bQ w _) j) g;refine Pz λc0 xE uw xF f0 f1 f2 f3=> ?_;have D:=blk_lt iF;clear iF j g z A;go_wp2_with fail
 go_quiet (fail)
 go_wp2_with fail
 refine bodyPost_ret (v:= .tuple #[jx 0 [] 0 0,WK Xr 3]) (by simp[results,results190,go_sem,jx,bs,c0,xE,uw,xF,D]) rfl ?_;exact⟨rfl,by repeat' first|with_reducible exact c|with_reducible exact aX c|with_reducible exact zw c _|with_reducible refine cF ?_ AX _|with_reducible refine ae ?_ _⟩
def ds5 (s:ByteArray) (w:Wu) (I:s.size<=16384) (C:0<s.size) (n r:Nat) (hn:gd bT s=n) (hq:gd gy (s.extract n s.size)=r) (D:n<=1) (G:r≠0):
 aQ 190 #[s] w (.tuple #[jx 0 [] 0 0,WK Xr 3]):=by
 refine LW λhz fI=> ?_;have tG:(s.extract n s.size).size<=9223372036854775807:=zj;have HR:Hid (∀W F,ju W F bT->aQ 185 #[s,F] W (WK Xr n)):=λW F h=>by exact LX
 have HQ:Hid (∀W F,ju W F gy->aQ 185 #[WM (s.extract n s.size),F] W (WK Xr r)):=λW F h=>by exact PA
 rw[hn] at fI;refine Io λlN lO se=> ?_;have O:Wt ((1:Int)<n)=false:=bI;have y:(0:Int)<s.size:=Yi;have g:=aa (LU bT s);rw[hn] at g;clear hn hq;have J:Wt ((0:Int)<r)=true:=bI;go_enter func190,ntmps190;go_wp2_with(go_at_call 188;refine(Fc _).m ?_;rintro e j ⟨A,z,rfl,c,ap⟩;have c_:=ai (ae (af w) _) ap)
 refine(HR.out j _ c).m ?_;rintro e w2 ⟨rfl,am⟩;refine PB λaV iF HB bd=> ?_;clear iF ap am c_ c;go_wp2_with fail
 refine pD 18 ?_;iterate 3 refine ja 18 11 ?_
 iterate 3 refine E7 18 11 ?_
 iterate 5 refine ja 18 11 ?_
 exact ac9
def ds6 (s:ByteArray) (w:Wu) (J:s.size<=16384) (D:0<s.size) (n r:Nat) (hn:gd bT s=n) (hq:gd gy (s.extract n s.size)=r) (G:1<n) (g:s[0]≠48) (I:r≠0):
 aQ 190 #[s] w (.tuple #[jx 0 [] 0 0,WK Xr 3]):=by
 refine LW λhz fI=> ?_;have tG:(s.extract n s.size).size<=9223372036854775807:=zj;have HR:Hid (∀W F,ju W F bT->aQ 185 #[s,F] W (WK Xr n)):=λW F h=>by exact LX
 have HQ:Hid (∀W F,ju W F gy->aQ 185 #[WM (s.extract n s.size),F] W (WK Xr r)):=λW F h=>by exact PA
 rw[hn] at fI;refine Io λlN lO se=> ?_;have U:Wt ((1:Int)<n)=true:=bI;have V:((s[0].toNat:Int)==48)=false:=by have:=YG g;simp[bne] at this⊢;exact this
 have z:(0:Int)<s.size:=Yi;have j:=aa (LU bT s);rw[hn] at j;clear hn hq;have O:Wt ((0:Int)<r)=true:=bI;go_enter func190,ntmps190;go_wp2_with(go_at_call 188;refine(Fc _).m ?_;rintro e y ⟨C,A,rfl,c,ap⟩;have c_:=ai (ae (af w) _) ap)
 refine(HR.out y _ c).m ?_;rintro e w2 ⟨rfl,am⟩;refine PB λaV iF HB bd=> ?_;clear iF ap am c_ c;go_wp2_with fail
 refine pD 18 ?_;iterate 11 refine ja 18 11 ?_
 exact ac9
def ds7 (s:ByteArray) (w:Wu) (hs:s.size<=16384) (O:0<s.size) (n r:Nat) (hn:gd bT s=n) (hq:gd gy (s.extract n s.size)=r) (U:n<=1) (C:r=0):
 WJ WH 190 #[s] w (LT w (Fd (s.data.toList.takeWhile bT))):=by
 refine LW λhz fI=> ?_;have tG:(s.extract n s.size).size<=9223372036854775807:=zj;have HR:Hid (∀W F,ju W F bT->aQ 185 #[s,F] W (WK Xr n)):=λW F h=>by exact LX
 have HQ:Hid (∀W F,ju W F gy->aQ 185 #[WM (s.extract n s.size),F] W (WK Xr r)):=λW F h=>by exact PA
 rw[hn] at fI;refine Io λlN lO se=> ?_;have V:Wt ((1:Int)<n)=false:=bI;have G:(0:Int)<s.size:=Yi;have HX:=aa (LU bT s);rw[hn] at HX;have g:Hid ((s.data.toList.takeWhile bT).length=n):=hn;have Gh:Hid (∀c∈s.data.toList.takeWhile bT,bT c=Wz):=λc A=>List.all_eq_true.1 (List.all_takeWhile) c A;generalize s.data.toList.takeWhile bT=t at HX g Gh⊢
 have HL:Hid (t.length=n):=g.out;have HD:Hid (∀k,k<n->48<=(t.getD k 0).toNat/\(t.getD k 0).toNat<=57):=λk hk=>by exact ad0
 have kc: ∀W:Wu,Sem.run WH (convert 9 66 (WM (s.extract 0 n))) W= .ok (Yb (Ws ⟨W.heap.size,0,Wr⟩) n (grownCap W (s.extract 0 n).size 0 5)) (Lib.bytesWorld W 5 (s.extract 0 n)):=λW=>by exact ad1
 clear hn hq g Gh;subst C;go_enter func190,ntmps190;go_wp2_with(go_at_call 188;refine(Fc _).m ?_;rintro e D ⟨J,I,rfl,z,ap⟩;have c_:=ai (ae (af w) _) ap)
 refine(HR.out D _ z).m ?_;rintro e w2 ⟨rfl,am⟩;refine PB λaV iF HB bd=> ?_;clear iF ap am c_ z;go_wp2_with fail
 refine pD 18 ?_;iterate 3 refine ja 18 11 ?_
 iterate 3 refine E7 18 11 ?_
 iterate 5 refine ja 18 11 ?_
 exact ad2
def ds8 (s:ByteArray) (w:Wu) (hs:s.size<=16384) (U:0<s.size) (n r:Nat) (hn:gd bT s=n) (hq:gd gy (s.extract n s.size)=r) (V:1<n) (A:s[0]≠48) (D:r=0):
 WJ WH 190 #[s] w (LT w (Fd (s.data.toList.takeWhile bT))):=by
 refine LW λhz fI=> ?_;have tG:(s.extract n s.size).size<=9223372036854775807:=zj;have HR:Hid (∀W F,ju W F bT->aQ 185 #[s,F] W (WK Xr n)):=λW F h=>by exact LX
 have HQ:Hid (∀W F,ju W F gy->aQ 185 #[WM (s.extract n s.size),F] W (WK Xr r)):=λW F h=>by exact PA
 rw[hn] at fI;refine Io λlN lO se=> ?_;have X:Wt ((1:Int)<n)=true:=bI;have Y:((s[0].toNat:Int)==48)=false:=by have:=YG A;simp[bne] at this⊢;exact this
 have I:(0:Int)<s.size:=Yi;have HX:=aa (LU bT s);rw[hn] at HX;have g:Hid ((s.data.toList.takeWhile bT).length=n):=hn;have Gh:Hid (∀c∈s.data.toList.takeWhile bT,bT c=Wz):=λc C=>List.all_eq_true.1 (List.all_takeWhile) c C;generalize s.data.toList.takeWhile bT=t at HX g Gh⊢
 have HL:Hid (t.length=n):=g.out;have HD:Hid (∀k,k<n->48<=(t.getD k 0).toNat/\(t.getD k 0).toNat<=57):=λk hk=>by exact ad0
 have kc: ∀W:Wu,Sem.run WH (convert 9 66 (WM (s.extract 0 n))) W= .ok (Yb (Ws ⟨W.heap.size,0,Wr⟩) n (grownCap W (s.extract 0 n).size 0 5)) (Lib.bytesWorld W 5 (s.extract 0 n)):=λW=>by exact ad1
 clear hn hq g Gh;subst D;go_enter func190,ntmps190;go_wp2_with(go_at_call 188;refine(Fc _).m ?_;rintro e G ⟨O,J,rfl,z,ap⟩;have c_:=ai (ae (af w) _) ap)
 refine(HR.out G _ z).m ?_;rintro e w2 ⟨rfl,am⟩;refine PB λaV iF HB bd=> ?_;clear iF ap am c_ z;go_wp2_with fail
 refine pD 18 ?_;iterate 11 refine ja 18 11 ?_
 exact ad2
def bL (s:ByteArray):Option Int:=
 match Lib.atoiAll s.data.toList with
 | .ok v=>if bs (WB v)=s then Ws v else Wr
 |_=>Wr
def dU:List ByteArray->Option (List Int)
 |[]=>Ws []
 |s::r=>match bL s with
  |none=>Wr
  |some v=>(dU r).map (v:: ·)
def rj (cs:Array Wv):List Nat->List Int->Array Wv
 |o::os,v::vs=>rj (cs.setIfInBounds o (WK Xr v)) os vs
 |_,_=>cs
def L4: ∀(os:List Nat) (g:List Int) (c:Array Wv),(rj c os g).size=c.size
 |[],_,c=>by simp[rj]
 |_::_,[],c=>by simp[rj]
 |o::os,v::g,c=>by rw[rj,L4 os g];simp
def ae4: ∀(os:List Nat) (c:List Int) (g:Array Wv) (o:Nat) (v:Int),os.length=c.length->rj g (os++[o]) (c++[v])=(rj g os c).setIfInBounds o (WK Xr v)
 |[],[],g,o,v,_=>rfl
 |[],_::_,_,_,_,h=>by simp at h
 |_::_,[],_,_,_,h=>by simp at h
 |o'::os,v'::c,g,o,v,h=>by show rj (g.setIfInBounds o' (WK Xr v')) (os++[o]) (c++[v])=_;rw[ae4 os c _ o v zi];rfl
def De: ∀{l:List ByteArray} {c:List Int},dU l=Ws c->c.length=l.length
 |[],c,h=>by simp[dU] at h;subst h;rfl
 |s::r,c,h=>by
  rw[dU] at h;split at h
  .cases h
  .obtain⟨us,hu,rfl⟩:=Option.map_eq_some_iff.1 h;simp[De hu]
def Ps: ∀(l:List ByteArray) (s:ByteArray),dU (l++[s])=(dU l).bind λc=>(bL s).map λv=>c++[v]
 |[],s=>by cases h:bL s<;>simp[dU,h]
 |x::r,s=>by
  rw[WZ,dU,dU];cases hx:bL x with
  |none=>rfl
  |some v=>
   rw[Ps r s];cases dU r with
   |none=>rfl
   |some c=>cases bL s<;>simp
def ae5: ∀(l r:List ByteArray),dU l=Wr->dU (l++r)=Wr
 |[],_,h=>by simp[dU] at h
 |x::l,r,h=>by
  rw[WZ,dU];rw[dU] at h;cases hx:bL x with
  |none=>rfl
  |some v=>rw[hx] at h;have:dU l=none:=zi;simp[ae5 l r this]
def IU {s:ByteArray} {v:Int} (h:bL s=Ws v):aK v:=by
 unfold bL at h;split at h
 .rename_i v' g;split at h
  .injection h with h;subst h;have c:Lib.parseIntB 64 s.data.toList= .ok v':=by rw[Lib.parseIntB_64];exact g
   have:=Lib.parseIntB_bounds c;exact⟨by omega,by omega⟩
  .cases h
 .cases h
def ae6 (w:Wu) (b:Nat) (t:WQ) (cs:Array Wv) (offs:List Nat) (l:List ByteArray) (e:X0) (w':Wu):Prop:=
 w.grownBy w' (Ws b)/\match dU l with
  |some vs=>e=Xz (Yc Wz)/\w'.heap[b]? =Ws (Yd (rj cs offs vs) t (0,0))
  |none=>e=Xz (Yc Ww)/\∃cs',w'.heap[b]? =Ws (Yd cs' t (0,0))/\cs'.size=cs.size
def uV {a w w':Wu} {j:Option Nat} (h:a.grownBy w j) (g:Below w w w'):a.grownBy w' j:=
 ⟨g.os.trans h.os,g.tape.trans h.tape,g.output.trans h.output,bo h.size g.size,λi y z=>(g.block i (bq y h.size)).trans (h.block i y z)⟩
def L5 (w:Wu) (c:Option Nat):w.grownBy w c:=Ya w c
def cD.grown {w w':Wu} {B b:Nat} {v:Wv} {l:List ByteArray} (h:cD w B v l) (g:w.grownBy w' (Ws b)) (y:B<=b) (z:B<=w.heap.size):cD w' B v l:=
 Sl.keep h λc o j=>XN (g.block c Yi Oh)
def cH.grown {w w':Wu} {b:Nat} (h:cH w) (c:w.grownBy w' (Ws b)) (g:8<=b):cH w':=
 h.below (B:=8) ⟨c.os,c.tape,c.output,c.size,λk j=>c.block k (by have:=h.size;omega) Oh⟩ (ag _)
def jN {w:Wu} {b:Nat} {C:Array Wv} {t:WQ} (h:w.heap[b]? =Ws (Yd C t (0,0))) (o:Nat) (u:Wv):(w.setCell (b o Wr) u).heap[b]? =Ws (Yd (C.setIfInBounds o u) t (0,0)):=by simp[XD,Array.getElem?_modify,h]
def uW {a w:Wu} {b:Nat} (h:a.grownBy w (Ws b)) (o:Nat) (u:Wv):a.grownBy (w.setCell (b o Wr) u) (Ws b):=
 ⟨h.os,h.tape,h.output,by simpa[XD] using h.size,λi c aO=>(Below.heap_setCell w (b o Wr) u i Oi).trans (h.block i c aO)⟩
def kl {w:Wu} {b:Nat} {C:Array Wv} {t:WQ} (h:w.heap[b]? =Ws (Yd C t (0,0))) {o:Nat} (ho:o<C.size):w.cell? (b o Wr)=Ws C[o]:=by simp[X3,h,ho]
def nH {w:Wu} {b:Nat} {C:Array Wv} {t:WQ} (h:w.heap[b]? =Ws (Yd C t (0,0))) (o:Nat):w.frozen? (b o Wr)=false:=by simp[World.frozen?,h]
def sw (l:List Nat) (k:Nat):Nat:=l.getD k 0
def Wi (l:List ByteArray) (k:Nat) (h:k<l.length):l.take (k+1)=l.take k++[aJ l k]:=by rw[List.take_succ_eq_append_getElem h,YI h]
def dq3 (l:List Nat) (k:Nat) (h:k<l.length):l.take (k+1)=l.take k++[sw l k]:=by rw[List.take_succ_eq_append_getElem h];simp[sw,List.getD,Wy h]
def BI {l:List ByteArray} {k:Nat} (h:k<l.length):aJ l k∈l:=by rw[YI h];exact List.getElem_mem h
def dq4 (l:List ByteArray) (k:Nat) (h:k<l.length):l=l.take k++(aJ l k::l.drop (k+1)):=by rw[YI h,<-List.drop_eq_getElem_cons h,List.take_append_drop]
def ae7 (v:Wv) (l:List ByteArray) (offs:List Nat) (bu I b:Nat) (t:WQ) (cs:Array Wv) (w:Wu) (z:cH w) (B:Nat)
 (h:cD w B v l) (O:B<=b) (J:B<=w.heap.size) (y: ∀s∈l,s.size<=1000000) (g:l.length=offs.length) (U:l.length<=100000)
 (C: ∀j,j<offs.length->w.cell? (bu j Wr)=Ws (Yf (Ws ⟨b,sw offs j,Wr⟩))) (D:bu≠b) (lH:bu<w.heap.size) (eL:8<=b)
 (hU:w.heap[b]? =Ws (Yd cs t (0,0))) (F: ∀j,j<offs.length->sw offs j<cs.size):
 WJ WH 53 #[v,Yb (Ws (bu 0 Wr)) offs.length I] w (ae6 w b t cs offs l):=by
 obtain⟨A,n,c,rfl,hl,hc,hm⟩:=h.form;have ci2:b<w.heap.size:=by exact Pt
 rw[<-g,hl];have jp:=aa hl;have Gv:=aa (g.symm.trans hl);have H:=aa h;have HG:=aa z;have sZ:=aa y;have HU:=aa C;have G:=aa hU;have HI:=aa F;have X:n<=100000:=Yi;have bj9:=aa D;clear hl g h z y C hU F U D;go_enter func53,ntmps53;go_wp2_with fail
 go_loopw [16] (λi wr=> ∃(k:Nat) (vs:List Int),k<=n/\i=WK Xr k/\dU (l.take k)=Ws vs/\w.grownBy wr (Ws b)/\wr.heap[b]? =Ws (Yd (rj cs (offs.take k) vs) t (0,0))) (λi _=>n - (WS i).toNat)
 case atStart=>exact⟨0,[],bU _,rfl,rfl,L5 _ _,G.out⟩
 case round=>
  obtain⟨k,vs,hk,rfl,CZ,hg,hU⟩:=hrel;have HV:=aa CZ;have rM:=aa hg;have jI:=aa hU;clear CZ hg hU;by_cases ar:k<n
  .obtain⟨bl,ol,rfl,ir,bk⟩:=(H.out.grown rM.out O J).at_ k ar;have V:=bk k ar;have h2:wr.cell? ⟨bu,k,none⟩=some (.pointer (some ⟨b,sw offs k,none⟩)):=by exact ae8
   clear bk;exact ae9
  .exact af0
def dq5 {s:ByteArray} {v:Int} (h:Lib.parseIntB 64 s.data.toList= .ok v):bL s=if bs (WB v)=s then Ws v else none:=by
 have:Lib.atoiAll s.data.toList= .ok v:=by rw[<-Lib.parseIntB_64];exact h
 simp[bL,this]
def dq6 {s:ByteArray} (h: ∀v,Lib.parseIntB 64 s.data.toList≠ .ok v):bL s=none:=by
 have: ∀v,Lib.atoiAll s.data.toList≠ .ok v:=λv=>by rw[<-Lib.parseIntB_64];exact h v
 unfold bL;split
 .rename_i v c;exact absurd c (this v)
 .rfl
def dq7 (w:Wu) (b:Nat) (t:WQ) (cs:Array Wv) (o:Nat) (s:ByteArray) (e:X0) (w':Wu):Prop:=
 w.grownBy w' (Ws b)/\∃v:Int,w'.heap[b]? =Ws (Yd (cs.setIfInBounds o (WK Xr v)) t (0,0))/\e=Xz (Yc (bL s).isSome)/\∀u,bL s=Ws u->v=u
def Pu (s:ByteArray) (b o:Nat) (t:WQ) (D:Array Wv) (w:Wu) (V:cH w) (hs:s.size<=1000000) (eL:8<=b)
 (hU:w.heap[b]? =Ws (Yd D t (0,0))) (ho:o<D.size):
 WJ WH 100 #[s,Yf (Ws (b o Wr))] w (dq7 w b t D o s):=by
 have Y:b<w.heap.size:=by exact Pt
 have J:=aa hU;have O:=aa V;clear hU V;cases hp:Lib.parseIntB 64 s.data.toList with
 |ok v=>
  have Z:aK v:=by have:=Lib.parseIntB_bounds hp;exact⟨by omega,by omega⟩
  have y:=λW=>dk2 s Yi v hp W;have F:=aa y;have z:=aa (dq5 hp);clear y hp;have key: ∀r:Bool,((bs (WB v)).toList==s.toList)=r->(bL s).isSome=r/\∀u,bL s=Ws u->v=u:=λr X=>by
   rw[z.out];by_cases C:bs (WB v)=s
   .rw[if_pos C];refine⟨?_,λu h=>by injection h⟩;rw[<-X,C];simp
   .rw[if_neg C];refine⟨?_,λu h=>by cases h⟩;rw[<-X];symm;show _=Ww;rw[beq_eq_false_iff_ne];intro h;exact C (by rw[<-nB s,<-jr,<-h,jr,gI])
  have j:=aa key;clear key;go_enter func100,ntmps100
  go_wp2_with(first
   |(go_at_call 181;refine(F.out _).m ?_;rintro e w1 ⟨rfl,g⟩;have c:=(g.block b Y).trans J.out;have UF:=kl c ho;have G:=nH c o;have A:=uW (uV (L5 w (Ws b)) g) o (WK Xr v))
   |(go_at_call 102;refine(PW _ Z _ (O.out.grown A eL)).m ?_;rintro e w2 ⟨rfl,U⟩))
  go_ret;exact⟨uV A U,v,(U.block b (by simp[XD];have:=g.size;omega)).trans (jN c _ _),(cE (j.out _ rfl).1.symm),(j.out _ rfl).2⟩
 |_=>
  have I: ∀v,Lib.parseIntB 64 s.data.toList≠ .ok v:=by intro v h;rw[hp] at h;cases h
  have y:=λW=>dk3 s Yi I W;have F:=aa y;have z:=aa (dq6 I);clear y hp I;go_enter func100,ntmps100
  go_wp2_with(first
   |(go_at_call 181;refine(F.out _ O.out).m ?_;rintro e w1 ⟨v1,t1,p1,rfl,g⟩;have c:=(g.block b Y).trans J.out;have UF:=kl c ho;have G:=nH c o;have A:=uW (uV (L5 w (Ws b)) g) o (WK Xr v1)))
  go_ret;exact⟨A,_,jN c _ _,by rw[z.out];rfl,by rw[z.out];intro u h;cases h⟩
def dq8 (n:Nat) (j:n<=1000000) (W:Wu):
 (Instr.makeSlice 31 (WK Xr (n:Int)) (WK Xr (n:Int))).run WH W= .ok (Yb (Ws (W 0 Wr)) n n) (W.alloc (Yd (Array.replicate n (WK Xr 0)) 3)):=by
 refine L6 λi0 hi cJ ba bd=> ?_;have g:(i0.bytes:Int)*(n:Int)<=281474976710656:=by rw[bd];omega
 have c:=run_make (P:=WH) W 31 3 i0 _ underlying31 hi cJ .i64 .i64 n n Yi Yi g Yi;simp only[Int.toNat_natCast] at c;rw[c,ba];congr 3;apply Array.ext<;>simp[madeCells,Value.cells,Nat.mod_one]
def Df (w:Wu) (l:List ByteArray) (e:X0) (w':Wu):Prop:=
 Below w w w'/\match dU l with
  |some vs=> ∃b n c,e=Xz (.tuple #[Yb (Ws ⟨b,0,Wr⟩) n c,Yc Wz])/\aW w' w' (Yb (Ws ⟨b,0,Wr⟩) n c) vs/\w.heap.size<=b
  |none=>e=Xz (.tuple #[Yb Wr 0 0,Yc Ww])
def L7: ∀{l:List ByteArray} {c:List Int},dU l=Ws c->∀x∈c,aK x
 |[],c,h=>by simp[dU] at h;subst h;simp
 |s::r,c,h=>by
  rw[dU] at h;split at h
  .cases h
  .rename_i v g;obtain⟨us,hu,rfl⟩:=Option.map_eq_some_iff.1 h;intro x hx;rcases List.mem_cons.1 hx with rfl|hx
   .exact IU g
   .exact L7 hu x hx
def cD.cut1 {w:Wu} {B:Nat} {b o n c:Nat} {l:List ByteArray} (h:cD w B (Yb (Ws (b o Wr)) n c) l) (k:Nat) (C:k<n):
 cD w B (Yb (Ws ⟨b,o+k,Wr⟩) 1 (c - k)) [aJ l k]:=by
 obtain⟨A,n',c',he,hl,wz,hm⟩:=h.form;injection he with g y D;subst g y D;obtain⟨b',o',z,hb,bk⟩:=h.at_ k C;injection z with z;injection z with g y;subst g y;refine⟨_,c - k,rfl,by simp;omega,by simp[Xe];omega,λ_=>⟨b,o+k,rfl,hb,λj u hj=> ?_⟩⟩
 match j,hj with
 |0,hj=>exact(bk k C).trans Cq
def dq9 (v:Wv) (s:ByteArray) (o c z b:Nat) (t:WQ) (g:Array Wv) (w:Wu) (G:cH w) (B:Nat)
 (h:cD w B v [s]) (F:B<=b) (D:B<=w.heap.size) (A:s.size<=1000000)
 (J:w.cell? c=Ws (Yf (Ws (b o Wr)))) (U:c≠b) (O:c<w.heap.size) (C:8<=b)
 (I:w.heap[b]? =Ws (Yd g t (0,0))) (V:o<g.size):
 WJ WH 53 #[v,Yb (Ws (c 0 Wr)) 1 z] w λe w'=>e=Xz (Yc (bL s).isSome)/\w.grownBy w' (Ws b)/\∃cs',w'.heap[b]? =Ws (Yd cs' t (0,0))/\cs'.size=g.size/\∀u,bL s=Ws u->cs'=g.setIfInBounds o (WK Xr u):=by
 refine(ae7 v [s] [o] c z b t g w G B h F D (by simpa using A) rfl Yl (λj y=> ?_) U O C I (λj y=> ?_)).mono λe w' ⟨hg,hp⟩=> ?_
 .have:j=0:=by simpa using y
  subst this;exact J
 .have:j=0:=by simpa using y
  subst this;exact V
 .exact af1
def dr0 {c:List Int} {u:Int} {j:Nat} (h:j<c.length):cT (c++[u]) j=cT c j:=by simp[cT,Xx h]
def dr1 {c:List Int} {u:Int}:cT (c++[u]) c.length=u:=by simp[cT]
def ac0 {a w w':Wu} {B:Nat} (h:Below B a w) (j:w.grownBy w' (Ws B)) (g:B<=w.heap.size):Below B a w':=
 h.grown j g (λk c=>by injection c with c;omega)
def IV (v:Wv) (l:List ByteArray) (w:Wu) (hG:cH w) (h:cD w w v l) (a_: ∀s∈l,s.size<=1000000) (hn:l.length<=100000):
 WJ WH 54 #[v] w (Df w l):=by
 obtain⟨A,n,c,rfl,y,hc,hm⟩:=h.form;have jp:=aa y;have H:=aa h;have Z:=aa hG;have sZ:=aa a_;have iI:n<=100000:=Yi;have U:=dq8 n Yi;clear y h hG a_ hn;go_enter func54,ntmps54;go_wp2_with fail
 clear U;go_loopw [11] (λi wr=> ∃(k:Nat) (g:List Int) (C:Array Wv),k<=n/\i=WK Xr k/\dU (l.take k)=Ws g/\Below w w wr/\wr.heap[w.heap.size]? =Ws (Yd C 3 (0,0))/\C.size=n/\∀j,j<k->C[j]? =Ws (WK Xr (cT g j))) (λi _=>n - (WS i).toNat)
 case atStart=>exact⟨0,[],_,bU _,rfl,rfl,ae (af w) _,by rw[Xn],by simp,by omega⟩
 case round=>
  obtain⟨k,g,C,hk,rfl,CZ,hb,hU,hC,fW⟩:=hrel;have HV:=aa CZ;have jI:=aa hU;have I:=aa hC;have pr:=aa fW;clear CZ hU hC fW;by_cases ar:k<n
  .obtain⟨bl,ol,rfl,ir,bk⟩:=(H.out.below hb (ag _)).at_ k ar;have hcut:=(H.out.below hb (ag _)).cut1 k ar;have Gg:=aa hcut;clear bk hcut;have i1:(0:Int)<=(k:Int):=by omega
   have i2:(k:Int)<(n:Int):=Yi;refine Pv λi3=> ?_;have i4:((k:Int)+1).toNat=k+1:=Yi;have i5:(0:Int)<=(k:Int)+1:=Yi;have i6:(k:Int)+1<=(c:Int):=Yi;have i7:k+1<=c:=Yi;have OP: ¬c=k:=Yi;have CJ:=hb;have lH:w.heap.size<wr.heap.size:=by exact ac1
   have z:=aX (ae hb (Yd #[Yf (Ws (w k Wr))] 126));have call:=dq9 (Yb (Ws ⟨bl,ol+k,Wr⟩) 1 (c - k)) (aJ l k) k wr.heap.size 1 w.heap.size 3 C (wr.alloc (Yd #[Yf (Ws (w k Wr))] 126)).drew
    (Z.out.step z) w.heap.size (Sl.belowM Gg.out (aX (ae (af wr) _)) Yi) (ag _) bI (sZ.out _ (BI Kn))
    jJ Yi Yl Z.out.size ((Below.heap_alloc wr _ _ lH).trans jI.out) (by rw[I.out];exact ar)
   have D:=aa call;have stop:bL (aJ l k)=Wr->dU l=none:=λh=>by exact ac2
   have STOP:=aa stop;clear call stop CJ;cases hp:bL (aJ l k) with
   |some u=>
    have J:=aa hp;rw[hp] at D;clear hp;go_wp2_with fail
    go_region_with (go_at_call 53;refine D.out.m ?_;rintro e w1 ⟨rfl,O,Y,rX,me,sj⟩)
    all_goals go_wp2_with fail
    all_goals
     have G:g.length=k:=by rw[De HV.out,XW,jp.out];omega
     have V:=sj u rfl;have zM:dU (l.take (k+1))=Ws (g++[u]):=by rw[Wi l k Kn,Ps,HV.out,J.out];rfl
     exact⟨⟨k+1,g++[u],Y,by omega,by go_num,zM,ac0 z O z.size,rX,by rw[me,I.out],λj F=>by
      rw[V];by_cases e:j=k
      .subst e;rw[Array.getElem?_setIfInBounds_self_of_lt (by rw[I.out];exact ar),<-G,dr1]
      .rw[Array.getElem?_setIfInBounds_ne Yi,pr.out j Yi,dr0 Yi]⟩,by simp[WS];omega⟩
   |none=>
    have J:=aa hp;rw[hp] at D;clear hp;go_wp2_with fail
    go_region_with (go_at_call 53;refine D.out.m ?_;rintro e w1 ⟨rfl,O,Y,rX,me,sj⟩)
    all_goals go_wp2_with fail
    all_goals go_ret2
    all_goals
     refine⟨ac0 z O z.size,?_⟩;rw[STOP.out J.out];rfl
  .go_wp2_with fail
   go_ret2
   have qX:k=n:=Yi;have y:dU l=Ws g:=by have:=HV.out;rwa [WY Og] at this
   refine⟨hb,?_⟩;rw[y];have G:g.length=n:=by rw[De y,jp.out]
   refine⟨w.heap.size,n,n,rfl,⟨⟨_,n,by rw[WF,G],by rw[WF,G];exact ag _,by simp[Xe];omega,λaO=>⟨w.heap.size,0,rfl,?_,λj u F=> ?_⟩⟩,L7 y⟩,ag _⟩
   .exact ac1
   .have X:j<g.length:=by
     rcases Xk j g.length with h|h
     .exact h
     .rw[List.getElem?_eq_none zi] at F;cases F
    have:=pr.out j Yi;simp only[X3,jI.out,XP];simp only[Option.isSome_none,WW,if_false];rw[this,<-F,WN,Wy X,LP X];rfl
end
section
open Go Go.RowKit Go.MapKept Go.ChangeMaps Go.Proofs.Tryz
def BT (r:Nat):Bool:=Wt (r<33)||Wt (126<r)
def dr5 {s:ByteArray} {i:Nat} (h:yr (s.get! i)=Wz):Utf8.decode s i=((s.get! i).toNat,1):=by have:=(LY _).1 h;unfold Utf8.decode;simp only[WR];rw[if_pos Yi]
def dr6 {s:ByteArray} {i:Nat} (h:yr (s.get! i)=Ww):BT (Utf8.decode s i).1=true:=by
 have c: ¬(33<=(s.get! i).toNat/\(s.get! i).toNat<=126):=by rw[<-LY,h];simp
 unfold Utf8.decode BT;simp only[WR,Utf8.runeError];split
 .simp;omega
 .exact ak2
def ak3 (s:ByteArray): ∀(f pos:Nat),s.size<=pos+f->(0<=Lib.idxFuncFrom BT Wz s f pos↔∃k,pos<=k/\k<s.size/\yr (s.get! k)=Ww)
 |0,pos,h=>by simp only[Lib.idxFuncFrom];exact Ql
 |f+1,pos,h=>by
  simp only[Lib.idxFuncFrom];by_cases c:pos<s.size
  .rw[if_pos c];cases ho:yr (s.get! pos) with
   |true=>
    have g:=dr5 ho;have j:BT (s.get! pos).toNat=false:=by have:=(LY _).1 ho;simp[BT];omega
    rw[g];simp only[j,WW,if_false];rw[ak3 s f (pos+1) Yi];exact ak4
   |false=>rw[if_pos (dr6 ho)];exact⟨λ_=>⟨pos,ag _,c,ho⟩,λ_=>by omega⟩
  .rw[if_neg c];exact Ql
def Wl (s:ByteArray) (k:Nat) (h:k<s.size):s.get! k=s[k]:=by rw[ByteArray.getElem_eq_getElem_data];exact getElem!_pos s.data k h
def dr7 (s:ByteArray):Wt (0<=Lib.idxFunc BT Wz s)= !wU s:=by
 have h:=ak3 s s.size 0 Yi;cases c:wU s with
 |true=>
  simp only[Bool.not_true,decide_eq_false_iff_not];rw[Lib.idxFunc,h];rintro ⟨k,_,g,j⟩;rw[Wl s k g] at j;rw[ad7 g (by simp[j])] at c;cases c
 |false=>
  simp only[Bool.not_false,decide_eq_true_eq];rw[Lib.idxFunc,h];apply Classical.byContradiction;intro y;rw[ad6 (λk c=>by
   cases ho:yr s[k] with
   |true=>rfl
   |false=>exact absurd ⟨k,bU _,c,by rw[Wl s k c];exact ho⟩ y)] at c
  cases c
def dr8 (w:Wu):PredAt WH 179 #[] Go.Proofs.encR BT w:=by
 intro W r _;show WJ _ _ _ _ _;go_enter func179,ntmps179
 go_wp2
 .go_ret;refine⟨?_,0,rfl⟩;have c:Wt ((r:Int)<33)=Wt (r<33):=decide_eq_decide.2 Yi;have g:Wt ((126:Int)<r)=Wt (126<r):=decide_eq_decide.2 Yi;show Xz (Yc (Wt ((r:Int)<33)||Wt ((126:Int)<r)))=_;rw[c,g];rfl
 .go_ret;refine⟨?_,0,rfl⟩;show Xz (Yc Wz)=_;simp only[BT,Ending.returned.injEq,Value.bool.injEq];simp;omega
def ak5 {s:ByteArray}:s.toList=[]↔s.size=0:=by rw[jr];have e:s.size=s.data.toList.length:=Oj;rw[e];exact List.length_eq_zero_iff.symm
def dp2 (x:aP) (w:Wu):
 aQ 92 #[Ye (Al x)] w (Yc (uU x)):=by
 have g:=λW=>strings_ContainsFunc 179 #[] (WD func179 aC rfl) BT x.key W (dr8 W);simp only[dr7] at g;have j:=aa g;clear g;rw[Al];go_enter func92,ntmps92;go_wp2_with(go_at_call 180;refine(j.out _).m ?_;rintro e C ⟨rfl,c⟩;have y:=ai (ae (af w) _) c;have z:w.heap.size<C.heap.size:=jM c Yl;obtain⟨bt,cr⟩:=gw c)
 all_goals
  go_ret;refine⟨cE ?_,by first|exact y|exact ae (af w) _⟩;clear j;rw[WU];simp_all only[uU,ak5,List.isEmpty_iff,WC,XK,decide_eq_true_eq,beq_iff_eq,X2,bne_iff_ne,beq_eq_false_iff_ne,not_or,WW,false_iff,ne_eq,true_iff,not_true,not_false_iff,Bool.not_eq_false,Bool.not_eq_true];try clear c
  try clear bt
  try clear cr
  try clear y
  try clear z
  try(cases A:wU x.key<;>simp only[A,false_and,or_self,List.isEmpty_eq_false_iff,ak5,ne_eq,Bool.not_eq_false',Bool.not_true,Bool.not_false,WW,and_false,not_false_iff,and_true,or_true,or_false,Bool.true_eq_false,reduceCtorEq,false_or,true_and,not_true_eq_false,not_false_eq_true] at* <;>omega)
def wN (x:aP):List ByteArray:=
 if x.ok=0 then[bs [103,101,116],x.key] else if x.ok=1 then[bs [112,117,116],x.key,bs (WB x.val)] else
 if x.ok=2 then[bs [99,97,115],x.key,bs (WB x.old),bs (WB x.val)] else[bs [97,100,100],x.key,bs (WB x.val)]
def BU {k:Int}:IsKey (.int .i64) (.int .i64 k):=rfl
def yv (W:Wu) (k:Nat) (l:List ByteArray):Prop:=k<W.heap.size/\∀j u,(l.map WM)[j]? =Ws u->W.cell? (k j Wr)=Ws u
def Dh {W c:Wu} {b k j:Nat} {o:Obj} (h:jv (W.alloc o) c b) (y:k<W.heap.size) (g:k≠b):c.cell? (k j Wr)=W.cell? (k j Wr):=
 (h.cell (by simpa using g)).trans ((ae (af W) o).cell (p:=k j Wr) y)
def BV {W c:Wu} {b k:Nat} {o:Obj} (g:jv (W.alloc o) c b) (h:k<W.heap.size):k<c.heap.size:=by rw[g.2.1];simp;omega
def yv.put {W c:Wu} {b k:Nat} {o:Obj} {l:List ByteArray} (h:yv W k l) (g:jv (W.alloc o) c b) (y:k≠b):yv c k l:=
 ⟨BV g h.1,λj u z=>(Dh g h.1 y).trans (h.2 j u z)⟩
def yv.new_ {W c:Wu} {b t:Nat} {C:Array Wv} {l:List ByteArray} (g:jv (W.alloc (Yd C t)) c b) (A:b<W.heap.size) (y:C=(l.map WM).toArray):yv c W l:=
 ⟨by rw[g.2.1];simp,λj u z=>by rw[g.cell bI,y];simp only[X3,Xn];simpa using z⟩
def yv.slS {W:Wu} {k n:Nat} {l:List ByteArray} (h:yv W k l) (c:n=l.length) (y:l.length<=100):cD W W (Yb (Ws (k 0 Wr)) n n) l:=by subst c;exact⟨_,l.length,by simp,by simp,by simp[Xe];omega,λ_=>⟨k,0,rfl,h.1,λj u g=>by rw[XP];exact h.2 j u g⟩⟩
def dp3 (x:aP) (w:Wu) (hG:cH w) (h0:0<=x.ok) (h3:x.ok<=3) (hv:aK x.val) (ho:aK x.old):
 WJ WH 96 #[Ye (Al x)] w λe w'=> ∃u,e=Xz u/\cD w' w' u (wN x)/\Below w w w':=by
 have H0:=aa h0;have H3:=aa h3;have O:=aa (λW (hg:cH W)=>PW x.val hv W hg);have Gj:=aa (λW (hg:cH W)=>PW x.old ho W hg);have HG:=aa hG;refine tP λlM=> ?_;clear h0 h3 hG hv ho;rw[Al];go_enter func96,ntmps96;go_wp2_with fail
 go_region_held3 (λw'=>w'.cell? (w 2 Wr)=Ws (WK Xr x.val)/\w'.cell? (w 3 Wr)=Ws (WK Xr x.old)) (go_simp)
  (first
    |(go_at_call_of 102 (WK Xr x.val);refine(O.out _ (HG.out.step (aX (ae (af w) _)))).m ?_;rintro e w1 ⟨rfl,I⟩;have U:=ai (aX (ae (af w) _)) I;have ba:w.heap.size<w1.heap.size:=jM I Yl;obtain⟨bt,cr⟩:=Ih I)
    |(go_at_call_of 102 (WK Xr x.old);refine(Gj.out _ (HG.out.step U)).m ?_;rintro e c ⟨rfl,G⟩;have aV:=ai U G;have bd:w.heap.size<c.heap.size:=jM G ba;obtain⟨cR,cL⟩:=gw G))
 have OF:=fF.made c;have y: ¬w.heap.size=c.heap.size:=Yi;have hm4:w.heap.size<c.heap.size+1:=Yi;have hm5:w.heap.size<c.heap.size+1+1:=Yi;have k1:c.cell? (w 1 Wr)=Ws (WM x.key):=jJ;have k0:c.cell? w=Ws (WK Xr x.ok):=jJ;have V:=ae aV (.map #[] 0);clear bt cr cR cL I G U aV
 go_wp2_with(first
  |(refine wV _ rfl (.tmp 11) (.const (.int .i64 0)) (.tmp 14) 187 (.inr rfl) 3 23 _ underlying187 underlying3 c.heap.size _ rfl (OF.later (ae (af _) _)) (.int .i64 0) (.slice (some ⟨c.heap.size+1,0,none⟩) 2 2) rfl rfl BU (by simp) ?_;intro A jj F;have m3:c.heap.size<A.heap.size:=BV F (by simp);have z3:w.heap.size<A.heap.size:=BV F (by simp;omega);have z3a:w.heap.size<A.heap.size+1:=by omega
    have k3:A.cell? (w 1 Wr)=Ws (WM x.key):=(Dh F bI y).trans jJ;have o3:A.cell? w=Ws (WK Xr x.ok):=(Dh F bI y).trans jJ;have s3:=yv.new_ (l:=[bs [103,101,116],x.key]) F Yl rfl;have ik:=F.1 w.heap.size w (ae V _) Yi)
  |(refine wV _ rfl (.tmp 11) (.const (.int .i64 1)) (.tmp 18) 187 (.inr rfl) 3 23 _ underlying187 underlying3 c.heap.size _ rfl (jj.later (ae (af _) _)) (.int .i64 1) (.slice (some ⟨A.heap.size,0,none⟩) 3 3) rfl rfl BU (by simp[BU]) ?_;intro C jk z;have m4:c.heap.size<C.heap.size:=BV z m3;have z4:w.heap.size<C.heap.size:=BV z z3;have z4a:w.heap.size<C.heap.size+1:=by omega
    have k4:C.cell? (w 1 Wr)=Ws (WM x.key):=(Dh z z3 y).trans k3;have o4:C.cell? w=Ws (WK Xr x.ok):=(Dh z z3 y).trans o3;have s4:=yv.new_ (l:=[bs [112,117,116],x.key,bs (WB x.val)]) z m3 rfl;have X:=s3.put z Yl;have lE:=z.1 w.heap.size w (ae ik _) Yi)
  |(refine wV _ rfl (.tmp 11) (.const (.int .i64 2)) (.tmp 23) 187 (.inr rfl) 3 23 _ underlying187 underlying3 c.heap.size _ rfl (jk.later (ae (af _) _)) (.int .i64 2) (.slice (some ⟨C.heap.size,0,none⟩) 4 4) rfl rfl BU (by simp[BU]) ?_;intro D jl g;have m5:c.heap.size<D.heap.size:=BV g m4;have z5:w.heap.size<D.heap.size:=BV g z4;have z5a:w.heap.size<D.heap.size+1:=by omega
    have k5:D.cell? (w 1 Wr)=Ws (WM x.key):=(Dh g z4 y).trans k4;have o5:D.cell? w=Ws (WK Xr x.ok):=(Dh g z4 y).trans o4;have s5:=yv.new_ (l:=[bs [99,97,115],x.key,bs (WB x.old),bs (WB x.val)]) g m4 rfl;have Y:=X.put g Yl;have gw5:=s4.put g Yi;have lZ:=g.1 w.heap.size w (ae lE _) Yi)
  |(refine wV _ rfl (Yg 11) (Yh (WK Xr 3)) (Yg 27) 187 (.inr rfl) 3 23 _ Xm WI c.heap.size _ rfl (jl.later (ae (af _) _)) (WK Xr 3) (Yb (Ws (D 0 Wr)) 3 3) rfl rfl BU (by simp[BU]) ?_;intro w6 uB j;have m6:c.heap.size<w6.heap.size:=BV j m5;have z6:w.heap.size<w6.heap.size:=BV j z5;have o6:w6.cell? w=Ws (WK Xr x.ok):=(Dh j z5 y).trans o5;have s6:=yv.new_ (l:=[bs [97,100,100],x.key,bs (WB x.val)]) j m5 rfl;have Z:=Y.put j Yl;have gw6:=gw5.put j Yi;have gw7:=s5.put j Yi;have J:=j.1 w.heap.size w (ae lZ _) Yi)
  |(refine ac6 _ rfl (Yg 28) (Yg 30) 187 Ww rfl 3 23 _ Xm WI c.heap.size _ rfl uB (WK Xr x.ok)
     (if x.ok=0 then .slice (Ws ⟨c.heap.size+1,0,Wr⟩) 2 2 else if x.ok=1 then .slice (Ws (A 0 Wr)) 3 3 else if x.ok=2 then .slice (Ws (C 0 Wr)) 4 4 else .slice (Ws (D 0 Wr)) 3 3) rfl BU (by simp[BU])
     (λp hp he=>by simp only[Xl,WZ,Xj,Xi,or_false] at hp;rcases hp with rfl|rfl|rfl|rfl<;>simp only[Value.int.injEq,true_and] at he<;>simp[<-he])
     (by have h0:=H0.out;have h3:=H3.out;rcases(show x.ok=0\/x.ok=1\/x.ok=2\/x.ok=3 by omega) with h|h|h|h<;>simp[h]) ?_))
 .go_ret;refine⟨_,rfl,?_,J⟩;rw[wN,if_pos vZ];have h:=Z.slS (n:=2) rfl Yl;rw[show(c.alloc (Obj.map #[] 0)).heap.size=c.heap.size+1 by simp] at h;exact h
 .go_ret;refine⟨_,rfl,?_,J⟩;rw[wN,if_neg vZ,if_pos vZ];exact gw6.slS rfl Yl
 .go_ret;refine⟨_,rfl,?_,J⟩;rw[wN,if_neg vZ,if_neg vZ,if_pos vZ];exact gw7.slS rfl Yl
 .go_ret;refine⟨_,rfl,?_,J⟩;rw[wN,if_neg vZ,if_neg vZ,if_neg vZ];exact s6.slS rfl Yl
def cj (k:Int):aP:={kind:=k,a:=0,b:=0,c:=0,ok:=0,key:=⟨#[]⟩,val:=0,old:=0,ms:=[],ss:=[]}
def aN:Value:=Yb Wr 0 0
def eY (w:Wu) (b:Nat) (x:aP) (m s:Wv):Prop:=w.heap[b]? =Ws (Yd (x.cells m s) 46 (0,0))
def eY.lies {w:Wu} {b:Nat} {x:aP} {m s:Wv} (h:eY w b x m s):j6 w b x m s:=by refine⟨?_,?_,?_,?_,?_,?_,?_,?_,?_,?_⟩<;>exact kl h tj
def eY.lt {w:Wu} {b:Nat} {x:aP} {m s:Wv} (h:eY w b x m s):b<w.heap.size:=(Array.getElem?_eq_some_iff.1 h).1
def eY.turns {w w':Wu} {b c:Nat} {x:aP} {m s:Wv} (h:eY w b x m s) (j:jv w w' c) (g:b≠c):eY w' b x m s:=(j.2.2 b g).trans h
def MN (w:Wu) (b:Nat):jv w w b:=⟨λ_ _ h _=>h,rfl,λ_ _=>rfl⟩
def MO {w w':Wu} {b:Nat} (h:jv w w' b):jv w w'.drew b:=⟨λB j g c=>by have:=h.1 B j g c;exact⟨this.os,this.tape,this.output,this.size,this.block⟩,h.2.1,h.2.2⟩
def MP {w w':Wu} {b:Nat} (h:jv w w' b) (o:Nat) (u:Wv):jv w (w'.setCell (b o Wr) u) b:=
 ⟨λB y j c=>(h.1 B y j c).setCell c u,by rw[<-h.2.1];simp[XD],λi g=>(Below.heap_setCell w' (b o Wr) u i (by intro e;exact g e)).trans (h.2.2 i g)⟩
def nJ (k:Int):(cj k).cells aN aN= #[WK Xr k,WK Xr 0,WK Xr 0,WK Xr 0,WK Xr 0,WM ⟨#[]⟩,WK Xr 0,WK Xr 0,aN,aN]:=rfl
def MQ (w:Wu):w.drew.heap=w.heap:=rfl
def Ap (W:Wu) (px:Nat) (y:aP) (m s:Wv) (e:X0) (w':Wu):Prop:=(∃v,e=Xz v)/\jv W w' px/\eY w' px y m s
def Aq (k:Int) (x:aP) (m s:Wv) (W:Wu) (px pa:Nat) (hm: ∃A n c,m=Yb A n c) (g: ∃A n c,s=Yb A n c) (hp:eY W px (cj k) aN aN) (ha:j6 W pa x m s) (aO:px≠pa):
 WJ WH 170 #[aj px,aj pa] W (Ap W px ({cj k with a:=x.a}) aN aN):=by
 obtain⟨Am,nm,cm,rfl⟩:=hm;obtain⟨As,ns,cs,rfl⟩:=g;have y:W.cell? (px 1 Wr)=Ws (WK Xr 0):=kl hp (o:=1) tj;have j:W.frozen? (px 1 Wr)=false:=nH hp 1;refine Di λl0 l1 l2 l3 l4 l5 l6 l7 l8 l9 Bt gU HP=> ?_;clear ha;clear hp aO;simp only[aj];go_enter func170,ntmps170;exact ak8
def ak9 (k:Int) (x:aP) (m s:Wv) (W:Wu) (px pa:Nat) (hm: ∃A n c,m=Yb A n c) (g: ∃A n c,s=Yb A n c) (hp:eY W px (cj k) aN aN) (ha:j6 W pa x m s) (aO:px≠pa):
 WJ WH 174 #[aj px,aj pa] W (Ap W px (cj k) aN aN):=by
 obtain⟨Am,nm,cm,rfl⟩:=hm;obtain⟨As,ns,cs,rfl⟩:=g;refine Di λl0 l1 l2 l3 l4 l5 l6 l7 l8 l9 Bt gU HP=> ?_;clear ha;clear hp aO;simp only[aj];go_enter func174,ntmps174;go_wp2_with fail
 all_goals
  go_end0
  refine⟨⟨_,rfl⟩,?_,?_⟩
  .repeat' first|with_reducible refine MP ?_ _ _|with_reducible refine MO ?_ |with_reducible exact MN _ _
  .have h:=HP.out;clear HP;unfold eY at h⊢
   rw[nJ] at h;try rw[MQ]
   exact h
def dx7 (k:Int) (x:aP) (m s:Wv) (W:Wu) (px pa:Nat) (hm: ∃A n c,m=Yb A n c) (g: ∃A n c,s=Yb A n c) (hp:eY W px (cj k) aN aN) (ha:j6 W pa x m s) (aO:px≠pa):
 WJ WH 79 #[aj px,aj pa] W (Ap W px ({cj k with a:=x.a,ss:=x.ss}) aN s):=by
 obtain⟨Am,nm,cm,rfl⟩:=hm;obtain⟨As,ns,cs,rfl⟩:=g;have z:W.cell? (px 1 Wr)=Ws (WK Xr 0):=kl hp (o:=1) tj;have j:W.frozen? (px 1 Wr)=false:=nH hp 1;have C:W.cell? (px 9 Wr)=Ws aN:=kl hp (o:=9) tj;have y:W.frozen? (px 9 Wr)=false:=nH hp 9;refine Di λl0 l1 l2 l3 l4 l5 l6 l7 l8 l9 Bt gU HP=> ?_;clear ha;clear hp aO;simp only[aj];go_enter func79,ntmps79;exact al0
def dx8 (k:Int) (x:aP) (m s:Wv) (W:Wu) (px pa:Nat) (hm: ∃A n c,m=Yb A n c) (g: ∃A n c,s=Yb A n c) (hp:eY W px (cj k) aN aN) (ha:j6 W pa x m s) (aO:px≠pa):
 WJ WH 85 #[aj px,aj pa] W (Ap W px ({cj k with a:=x.a,b:=x.b}) aN aN):=by
 obtain⟨Am,nm,cm,rfl⟩:=hm;obtain⟨As,ns,cs,rfl⟩:=g;refine Qm λz1 f1 z2 f2=> ?_;refine Di λl0 l1 l2 l3 l4 l5 l6 l7 l8 l9 Bt gU HP=> ?_;clear ha;clear hp aO;simp only[aj];go_enter func85,ntmps85;exact al0
def dx9 (k:Int) (x:aP) (m s:Wv) (W:Wu) (px pa:Nat) (hm: ∃A n c,m=Yb A n c) (g: ∃A n c,s=Yb A n c) (hp:eY W px (cj k) aN aN) (ha:j6 W pa x m s) (aO:px≠pa):
 WJ WH 89 #[aj px,aj pa] W (Ap W px ({cj k with a:=x.a,b:=x.b,ok:=x.ok,key:=x.key,val:=x.val,old:=x.old}) aN aN):=by
 obtain⟨Am,nm,cm,rfl⟩:=hm;obtain⟨As,ns,cs,rfl⟩:=g;refine Qm λz1 f1 z2 f2=> ?_;have C:W.cell? (px 4 Wr)=Ws (WK Xr 0):=kl hp (o:=4) tj;have j:W.frozen? (px 4 Wr)=false:=nH hp 4;have D:W.cell? (px 5 Wr)=Ws (WM ⟨#[]⟩):=kl hp (o:=5) tj;have f5:W.frozen? (px 5 Wr)=false:=nH hp 5;have F:W.cell? (px 6 Wr)=Ws (WK Xr 0):=kl hp (o:=6) tj;have y:W.frozen? (px 6 Wr)=false:=nH hp 6;have G:W.cell? (px 7 Wr)=Ws (WK Xr 0):=kl hp (o:=7) tj;have z:W.frozen? (px 7 Wr)=false:=nH hp 7;refine Di λl0 l1 l2 l3 l4 l5 l6 l7 l8 l9 Bt gU HP=> ?_;clear ha;clear hp aO;simp only[aj];go_enter func89,ntmps89;go_wp2_with fail
 go_region
 all_goals
  go_end0
  refine⟨⟨_,rfl⟩,?_,?_⟩
  .repeat' first|with_reducible refine MP ?_ _ _|with_reducible refine MO ?_ |with_reducible exact MN _ _
  .have h:=HP.out;clear HP;unfold eY at h⊢
   rw[nJ] at h;try rw[MQ]
   refine(jN (jN (jN (jN (jN (jN (h) _ _) _ _) _ _) _ _) _ _) _ _).trans ?_;exact Qn
def dy0 (k:Int) (x:aP) (m s:Wv) (W:Wu) (px pa:Nat) (hm: ∃A n c,m=Yb A n c) (g: ∃A n c,s=Yb A n c) (hp:eY W px (cj k) aN aN) (ha:j6 W pa x m s) (aO:px≠pa):
 WJ WH 97 #[aj px,aj pa] W (Ap W px ({cj k with a:=x.a,b:=x.b,val:=x.val}) aN aN):=by
 obtain⟨Am,nm,cm,rfl⟩:=hm;obtain⟨As,ns,cs,rfl⟩:=g;refine Qm λz1 f1 z2 f2=> ?_;have y:W.cell? (px 6 Wr)=Ws (WK Xr 0):=kl hp (o:=6) tj;have j:W.frozen? (px 6 Wr)=false:=nH hp 6;refine Di λl0 l1 l2 l3 l4 l5 l6 l7 l8 l9 Bt gU HP=> ?_;clear ha;clear hp aO;simp only[aj];go_enter func97,ntmps97;exact al1
def dy1 (k:Int) (x:aP) (m s:Wv) (W:Wu) (px pa:Nat) (hm: ∃A n c,m=Yb A n c) (g: ∃A n c,s=Yb A n c) (hp:eY W px (cj k) aN aN) (ha:j6 W pa x m s) (aO:px≠pa):
 WJ WH 103 #[aj px,aj pa] W (Ap W px ({cj k with a:=x.a,b:=x.b,c:=x.c}) aN aN):=by
 obtain⟨Am,nm,cm,rfl⟩:=hm;obtain⟨As,ns,cs,rfl⟩:=g;refine Qm λz1 f1 z2 f2=> ?_;have j:W.cell? (px 3 Wr)=Ws (WK Xr 0):=kl hp (o:=3) tj;have f3:W.frozen? (px 3 Wr)=false:=nH hp 3;refine Di λl0 l1 l2 l3 l4 l5 l6 l7 l8 l9 Bt gU HP=> ?_;clear ha;clear hp aO;simp only[aj];go_enter func103,ntmps103;exact al1
def dy2 (k:Int) (x:aP) (m s:Wv) (W:Wu) (px pa:Nat) (hm: ∃A n c,m=Yb A n c) (g: ∃A n c,s=Yb A n c) (hp:eY W px (cj k) aN aN) (ha:j6 W pa x m s) (aO:px≠pa):
 WJ WH 107 #[aj px,aj pa] W (Ap W px ({cj k with ms:=x.ms}) m aN):=by
 obtain⟨Am,nm,cm,rfl⟩:=hm;obtain⟨As,ns,cs,rfl⟩:=g;have y:W.cell? (px 8 Wr)=Ws aN:=kl hp (o:=8) tj;have j:W.frozen? (px 8 Wr)=false:=nH hp 8;refine Di λl0 l1 l2 l3 l4 l5 l6 l7 l8 l9 Bt gU HP=> ?_;clear ha;clear hp aO;simp only[aj];go_enter func107,ntmps107;exact ak8
def gD (s:ByteArray):Option Int:=
 if s=bs [103,101,116] then Ws 0 else if s=bs [112,117,116] then Ws 1 else if s=bs [99,97,115] then Ws 2 else if s=bs [97,100,100] then Ws 3 else Wr
def j7 (n:Nat) (f:Nat->ByteArray):Option Int->Option (Int×ByteArray×Int×Int)
 |none=>Wr
 |some k=>
  if k=0 then(if n=2 then Ws (0,f 1,0,0) else Wr)
  else if k=2 then(if n=4 then(bL (f 2)).bind λo=>(bL (f 3)).map λv=>(2,f 1,v,o) else Wr)
  else(if n=3 then(bL (f 2)).map λv=>(k,f 1,v,0) else Wr)
def wO (l:List ByteArray):Option (Int×ByteArray×Int×Int):=
 match gD (aJ l 0) with
 |none=>Wr
 |some k=>
  if k=0 then(if l.length=2 then Ws (0,aJ l 1,0,0) else Wr)
  else if k=2 then(if l.length=4 then(bL (aJ l 2)).bind λo=>(bL (aJ l 3)).map λv=>(2,aJ l 1,v,o) else Wr)
  else(if l.length=3 then(bL (aJ l 2)).map λv=>(k,aJ l 1,v,0) else Wr)
def dz0 (l:List ByteArray):wO l=j7 l.length (aJ l) (gD (aJ l 0)):=by unfold wO;cases gD (aJ l 0)<;>rfl
def pJ (r:Int×ByteArray×Int×Int):Value:=Ye #[r.1,WM r.2.1,r.2.2.1,r.2.2.2]
def sA (w:Wu) (p:Option (Int×ByteArray×Int×Int)) (e:X0) (w':Wu):Prop:=
 Below w w w'/\∃r,e=Xz (.tuple #[pJ r,Yc p.isSome])/\∀q,p=Ws q->q=r
def sA.mk {w w':Wu} {p:Option (Int×ByteArray×Int×Int)} {e:X0} (r:Int×ByteArray×Int×Int) (b:Bool) (j:e=Xz (.tuple #[pJ r,Yc b])) (h:Below w w w') (c:p.isSome=b) (g: ∀q,p=Ws q->q=r):sA w p e w':=
 ⟨h,r,by rw[j,c],g⟩
def uY {s:ByteArray}:IsKey .string (.string s):=trivial
def Au:List (Wv×Wv):=[(WM (bs [103,101,116]),WK Xr 0),(WM (bs [112,117,116]),WK Xr 1),(WM (bs [99,97,115]),WK Xr 2),(WM (bs [97,100,100]),WK Xr 3)]
def dz1: ∀p∈Au,IsKey .string p.1:=by simp[Au,uY]
def al4 {s:ByteArray} {k:Int} (h:gD s=Ws k):(∀p∈Au,p.1=WM s->p.2=WK Xr k)/\∃p∈Au,p.1=WM s:=by
 unfold gD at h;repeat' split at h
 all_goals first|(cases h;done)|(subst s;injection h with h;subst h;refine⟨?_,by simp[Au]⟩;simp[Au,bs])
def dz2 {s:ByteArray} (h:gD s=Wr): ∀p∈Au,IsKey .string p.1/\p.1≠ .string s:=by
 unfold gD at h;repeat (split at h;cases h)
 rename_i c g j y;simp only[Au,Xj,Xi,or_false];rintro p (rfl|rfl|rfl|rfl)<;>refine⟨trivial,λe=> ?_⟩<;>simp only[Value.string.injEq] at e<;>exact absurd e.symm vZ
def dz3 (w:Wu):(zeroValue 3).run WH w= .ok (WK Xr 0) w:=aC
def jv.trans {w y z:Wu} {b:Nat} (h:jv w y b) (k:jv y z b):jv w z b:=
 ⟨λB j A c=>k.1 B j (h.1 B j A c) c,k.2.1.trans h.2.1,λi g=>(k.2.2 i g).trans (h.2.2 i g)⟩
section
variable {ops:Array XH} {Q:Exit->Act->Wu->Prop} {o:XH} {rest:List XH} {a:Act} {w:Wu}
def dv1 (y:o.guard=Wr) (m x:Operand) (g:o.op=Op.lookup 221 m x Wz) (b:Nat) (hm:a.eval m= .map (Ws b)) (j:fF w b Au) (s:ByteArray) (hx:a.eval x=WM s) {k:Option Int} (c:gD s=k)
 (h:wpList WH ops Q rest (a.put o.dst (.tuple #[WK Xr (k.getD 0),Yc k.isSome])) w):wpList WH ops Q (o::rest) a w:=by
 cases k with
 |none=>exact dr3 _ y m x _ Wz g _ _ _ underlying221 Xw b _ hm j (WM s) (WK Xr 0) hx uY (dz2 c) (dz3 _) h
 |some k=>exact ac6 _ y m x _ Wz g _ _ _ underlying221 Xw b _ hm j (WM s) (WK Xr k) hx uY dz1 (al4 c).1 (al4 c).2 h
def Qo (j:o.guard=Wr) (m:Operand) (s:ByteArray) (n:Int) (c:o.op=Op.insert 221 m (.const (.string s)) (.const (.int .i64 n))) (b:Nat) (l:List (Wv×Wv)) (hm:a.eval m= .map (Ws b)) (h:fF w b l) (y: ∀p∈l,IsKey .string p.1/\p.1≠ .string s)
 (g: ∀w',fF w' b (l++[(WM s,WK Xr n)])->jv w w' b->wpList WH ops Q rest (a.put o.dst XE) w'):wpList WH ops Q (o::rest) a w:=
 wV _ j m _ _ _ (.inr c) _ _ _ underlying221 Xw b l hm h (WM s) (WK Xr n) rfl rfl uY y g
end
def IY {W:Wu} {b:Nat} {c g j y:Wv} {t:WQ} (h:W.heap[b]? =Ws (Yd #[c,g,j,y] t (0,0))):(W.cell? b=Ws c/\W.cell? (b 1 Wr)=Ws g/\W.cell? (b 2 Wr)=Ws j/\W.cell? (b 3 Wr)=Ws y)/\
 W.frozen? b=Ww/\W.frozen? (b 1 Wr)=Ww/\W.frozen? (b 2 Wr)=Ww/\W.frozen? (b 3 Wr)=false:=by
 simp[X3,World.frozen?,h]
def dv2 (v:Wv) (l:List ByteArray) (w:Wu) (h:cD w w v l) (g:l.length<2):
 WJ WH 94 #[v] w λe w'=>Below w w w'/\∃r,e=Xz (.tuple #[pJ r,Yc Ww]):=by
 obtain⟨A,n,c,rfl,hl,hc,hm⟩:=h.form;have j:((n:Int)<2):=Yi;clear h hl hc hm g;go_enter func94,ntmps94;go_wp2_with fail
 refine bodyPost_ret (v:= .tuple #[pJ (0,bs [],0,0),Yc Ww]) (by simp[results,results94,go_sem];try rfl) rfl ?_;exact⟨ae (af w) _,_,rfl⟩
def dv3 (v:Wv) (l:List ByteArray) (w:Wu) (hG:cH w) (h:cD w w v l) (a_: ∀s∈l,s.size<=1000000) (kX:2<=l.length):
 WJ WH 94 #[v] w (sA w (wO l)):=by
 obtain⟨A,n,c,rfl,hl,hc,hm⟩:=h.form;obtain⟨bl,ol,rfl,ir,bk⟩:=h.at_ 0 Yi;obtain⟨k,hk⟩: ∃q,gD (aJ l 0)=q:=⟨_,rfl⟩;rw[dz0,hk,hl];have D:=aa bk;have HK:=aa hk;have HG:=aa hG;have sZ:=aa a_;have HN:=aa hl;have J:=aa ir;have g1: ¬((n:Int)<2):=Yi;have i0:(0:Int)<n:=Yi;have i1:(1:Int)<n:=Yi;refine tP λlM=> ?_;have OF: ∀o,fF ((w.alloc o).alloc (.map #[] 0)) (w.heap.size+1) []:=λo=>by have:=fF.made (w.alloc o);simpa using this
 obtain⟨P,hP⟩: ∃q,j7 n (aJ l) k=q:=⟨_,rfl⟩;have HP:=aa hP;rw[hP];clear bk hk hG a_ hl h hP;go_enter func94,ntmps94
 go_upto_region 5 with (first
  |(refine Qo rfl (Yg 14) _ 0 rfl (w.heap.size+1) _ rfl (OF _) Yl ?_;intro w1 jj dK)
  |(refine Qo rfl (Yg 14) _ 1 rfl (w.heap.size+1) _ rfl jj (by simp[uY]) ?_;intro w2 jk eT)
  |(refine Qo rfl (Yg 14) _ 2 rfl (w.heap.size+1) _ rfl jk (by simp[uY]) ?_;intro w3 jl fj)
  |(refine Qo rfl (.tmp 14) _ 3 rfl (w.heap.size+1) _ rfl jl (by simp[uY]) ?_;intro j uB kD;have I:=dK.trans (eT.trans (fj.trans kD));have hL:fF j (w.heap.size+1) Au:=uB;have z4:j.heap.size=w.heap.size+2:=by rw[I.2.1];simp
    have O:Below w w j:=I.1 _ _ (ae (ae (af w) _) _) Yi;have e0:j.cell? (bl ol Wr)=Ws (WM (aJ l 0)):=(O.cell (p:=bl ol Wr) ir).trans (D.out 0 Yi);have e1:j.cell? (bl (ol+1) Wr)=Ws (WM (aJ l 1)):=(O.cell (p:=bl (ol+1) Wr) ir).trans (D.out 1 Yi);have r4:j.heap[w.heap.size]? =Ws (Yd #[WK Xr 0,WM {data:= #[]},WK Xr 0,WK Xr 0] 44 (0,0)):=by rw[I.2.2 _ Yi,(ae (af (w.alloc _)) _).block _ Yl,Xn]
    have Z:=aa r4;have bE:=aa O;have V:=aa z4;clear jj jk jl uB dK eT fj kD OF I r4 O z4)
  |(refine dv1 rfl (Yg 15) (Yg 18) rfl (w.heap.size+1) rfl hL (aJ l 0) rfl HK.out ?_))
 refine cP (λW=>Below w w W/\W.heap[w.heap.size]? =Ws (Yd #[WK Xr 0,WM {data:= #[]},WK Xr 0,WK Xr 0] 44 (0,0))/\W.heap[j.heap.size]? =Ws (Yd #[WK Xr (k.getD 0),WM (aJ l 1),WK Xr 0,WK Xr 0] 44 (0,0))/\w.heap.size<j.heap.size) ⟨ae bE.out _,aq Z.out (ae (af _) _),bQ _ _,blk_lt Z.out⟩ ?_;intro w5 ⟨lZ,xJ,X,wL⟩;generalize j.heap.size=ob at X wL⊢
 obtain⟨⟨d0,d1,d2,d3⟩,f0,f1,f2,f3⟩:=IY xJ;have bY:=aa lZ;have D0:=aa xJ;have og:=aa X;clear lZ xJ X hL e0 e1 Z bE V lM i0 i1;cases k with
 |none=>
  go_wp2_with fail
  refine bodyPost_ret (v:= .tuple #[pJ (0,bs [],0,0),Yc Ww]) (by simp[results,results94,go_sem,pJ, *];try rfl) rfl ?_;exact sA.mk (0,bs [],0,0) Ww rfl (cF (cF (cF (cF bY.out (ag _) _) (ag _) _) (ag _) _) (ag _) _) (by rw[<-HP.out];rfl) (by rw[<-HP.out];intro q hq;cases hq)
 |some k=>
  simp only[Option.getD_some,Option.isSome_some] at og⊢
  obtain⟨⟨o0,o1,o2,o3⟩,_⟩:=IY og.out;by_cases k0:k=0
  .subst k0;by_cases n2:n=2
   .subst n2;have hx:j7 2 (aJ l) (some 0)=some (0,aJ l 1,0,0):=rfl;go_wp2_with fail
    refine bodyPost_ret (v:= .tuple #[pJ (0,aJ l 1,0,0),Yc Wz]) Ef rfl ?_;exact sA.mk (0,aJ l 1,0,0) Wz rfl (cF (cF (cF (cF bY.out (ag _) _) (ag _) _) (ag _) _) (ag _) _) Of (by rw[<-HP.out,hx];intro q hq;injection hq with hq;exact hq.symm)
   .have g2:((n:Int)==2)=false:=by simp;omega
    have hx:j7 n (aJ l) (Ws 0)=none:=by simp[j7,n2]
    go_wp2_with fail
    refine bodyPost_ret (v:= .tuple #[pJ (0,aJ l 1,0,0),Yc Ww]) Ef rfl ?_;exact sA.mk (0,aJ l 1,0,0) Ww rfl (cF (cF (cF (cF bY.out (ag _) _) (ag _) _) (ag _) _) (ag _) _) Of TF
  .have e0:(k==0)=false:=by simp[k0]
   by_cases F:k=2
   .subst F;by_cases n4:n=4
    .subst n4;have c2:w5.cell? ⟨bl,ol+2,none⟩=some (.string (aJ l 2)):=(bY.out.cell (p:=⟨bl,ol+2,none⟩) J.out).trans (D.out 2 (by omega));obtain⟨b2,am⟩: ∃q,(bL (aJ l 2)).isSome=q:=⟨_,rfl⟩;obtain⟨b3,aL⟩: ∃q,(bL (aJ l 3)).isSome=q:=⟨_,rfl⟩;have z:=aa am;have H3:=aa aL;have hx:j7 4 (aJ l) (some 2)=(bL (aJ l 2)).bind λo=>(bL (aJ l 3)).map λv=>(2,aJ l 1,v,o):=rfl;have C:=aa hx;clear am aL hx k0;cases b2 with
     |false=>
      go_wp2_with(first
       |(go_at_call_of 100 (WM (aJ l 2));refine al5 ?_;rintro e w6 ⟨hg,u2,hb,g,dq⟩;rw[z.out] at g;subst g;refine Wp λGG cK hr d0 d1 d2 d3 f0 f1 f2 f3 o0 o1 o2 o3=> ?_;have G:=aa hr;have Y:=aa hb;have c3:w6.cell? (bl (ol+3) Wr)=Ws (WM (aJ l 3)):=(cK.out.cell (p:=bl (ol+3) Wr) J.out).trans (D.out 3 Yi);clear hg hb hr dq))
      refine bodyPost_ret (v:= .tuple #[pJ (2,aJ l 1,0,u2),Yc Ww]) Ef rfl ?_;exact sA.mk (2,aJ l 1,0,u2) Ww rfl (cF (cF (cF (cF cK.out (ag _) _) (ag _) _) (ag _) _) (ag _) _) (by rw[<-HP.out,C.out,show bL (aJ l 2)=Wr from Option.isNone_iff_eq_none.1 (by have h:=z.out;simpa using h)];rfl) (by rw[<-HP.out,C.out,show bL (aJ l 2)=Wr from Option.isNone_iff_eq_none.1 (by have h:=z.out;simpa using h)];intro q hq;cases hq)
     |true=>
      go_wp2_with(first
       |(go_at_call_of 100 (WM (aJ l 2));refine al5 ?_;rintro e w6 ⟨hg,u2,hb,g,dq⟩;rw[z.out] at g;subst g;refine Wp λGG cK hr d0 d1 d2 d3 f0 f1 f2 f3 o0 o1 o2 o3=> ?_;have G:=aa hr;have Y:=aa hb;have c3:w6.cell? (bl (ol+3) Wr)=Ws (WM (aJ l 3)):=(cK.out.cell (p:=bl (ol+3) Wr) J.out).trans (D.out 3 Yi);clear hg hb hr dq)
       |(go_at_call_of 100 (WM (aJ l 3));refine(Pu (aJ l 3) ob 2 44 #[WK Xr 2,WM (aJ l 1),WK Xr 0,u2] _ (HG.out.step cK.out) (sZ.out _ (BI AY)) (by have:=HG.out.size;omega) Y.out Yl).m ?_;rintro e w7 ⟨hg,u3,hb,g,Hy⟩;rw[H3.out] at g;subst g;have U:=aa Hy;have iL:Hid (Below w w w7):=cK.out.grown hg (by have:=cK.out.size;omega) (λk hk=>by injection hk with hk;omega);have hr:=(hg.block _ (by have:=blk_lt G.out;omega) Oh).trans G.out;obtain⟨⟨d0,d1,d2,d3⟩,f0,f1,f2,f3⟩:=IY hr;obtain⟨⟨o0,o1,o2,o3⟩,_⟩:=IY hb;have bn8:=aa hr;have vG:=aa hb;clear hg hb hr Hy))
      refine bodyPost_ret (v:= .tuple #[pJ (2,aJ l 1,u3,u2),Yc b3]) Ef rfl ?_;exact sA.mk (2,aJ l 1,u3,u2) b3 rfl (cF (cF (cF (cF iL.out (ag _) _) (ag _) _) (ag _) _) (ag _) _) (by rw[<-HP.out,C.out];obtain⟨o,ho⟩:=Option.isSome_iff_exists.1 z.out;rw[ho,Option.bind_some,Option.isSome_map,H3.out]) (by rw[<-HP.out,C.out];intro q hq;obtain⟨o,ho,hq⟩:=Option.bind_eq_some_iff.1 hq;obtain⟨y,hy,rfl⟩:=Option.map_eq_some_iff.1 hq;rw[GG.out _ ho,U.out _ hy])
    .have g2:((n:Int)==4)=false:=by simp;omega
     have hx:j7 n (aJ l) (Ws 2)=none:=by simp[j7,n4]
     go_wp2_with fail
     refine bodyPost_ret (v:= .tuple #[pJ (2,aJ l 1,0,0),Yc Ww]) Ef rfl ?_;exact sA.mk (2,aJ l 1,0,0) Ww rfl (cF (cF (cF (cF bY.out (ag _) _) (ag _) _) (ag _) _) (ag _) _) Of TF
   .have e2:(k==2)=false:=by simp[F]
    by_cases n3:n=3
    .subst n3;have c2:w5.cell? ⟨bl,ol+2,none⟩=some (.string (aJ l 2)):=(bY.out.cell (p:=⟨bl,ol+2,none⟩) J.out).trans (D.out 2 (by omega));obtain⟨b2,am⟩: ∃q,(bL (aJ l 2)).isSome=q:=⟨_,rfl⟩;have z:=aa am;have C:=aa (show j7 3 (aJ l) (some k)=(bL (aJ l 2)).map λv=>(k,aJ l 1,v,0) by simp[j7,k0,F]);clear am k0 F
     go_wp2_with(first
      |(go_at_call_of 100 (WM (aJ l 2));refine(Pu (aJ l 2) ob 2 44 #[k,WM (aJ l 1),WK Xr 0,WK Xr 0] _ (HG.out.step bY.out) (sZ.out _ (BI AY)) (by have:=HG.out.size;omega) og.out Yl).m ?_;rintro e w6 ⟨hg,u2,hb,g,dq⟩;rw[z.out] at g;subst g;refine Wp λGG cK hr d0 d1 d2 d3 f0 f1 f2 f3 o0 o1 o2 o3=> ?_;have G:=aa hr;have Y:=aa hb;clear hg hb hr dq))
     refine bodyPost_ret (v:= .tuple #[pJ (k,aJ l 1,u2,0),Yc b2]) Ef rfl ?_;exact sA.mk (k,aJ l 1,u2,0) b2 rfl (cF (cF (cF (cF cK.out (ag _) _) (ag _) _) (ag _) _) (ag _) _) (by rw[<-HP.out,C.out,Option.isSome_map,z.out]) (by rw[<-HP.out,C.out];intro q hq;obtain⟨y,hy,rfl⟩:=Option.map_eq_some_iff.1 hq;rw[GG.out _ hy])
    .have g2:((n:Int)==3)=false:=by simp;omega
     have hx:j7 n (aJ l) (Ws k)=none:=by simp[j7,k0,F,n3]
     clear k0 F;go_wp2_with fail
     refine bodyPost_ret (v:= .tuple #[pJ (k,aJ l 1,0,0),Yc Ww]) Ef rfl ?_;exact sA.mk (k,aJ l 1,0,0) Ww rfl (cF (cF (cF (cF bY.out (ag _) _) (ag _) _) (ag _) _) (ag _) _) Of TF
def al6 (v:Wv) (l:List ByteArray) (w:Wu) (j:cH w) (h:cD w w v l) (g: ∀s∈l,s.size<=1000000):
 WJ WH 94 #[v] w (sA w (if l.length<2 then Wr else wO l)):=by
 by_cases c:l.length<2
 .rw[if_pos c];exact(dv2 v l w h c).mono λe w' ⟨y,r,z⟩=>⟨y,r,z,λq A=>by cases A⟩
 .rw[if_neg c];exact dv3 v l w j h g Yi
end
section
open Go Go.RowKit Go.Proofs.Tryz
def Mr (n k:Int) (w:Wu):WJ WH 211 #[n,k] w λe w'=>e=Xz (Yc (aD n 1 k))/\w'=w:=by
 go_enter func211,ntmps211
 go_wp2
 all_goals (go_ret;exact⟨cE Kj,rfl⟩)
def as2 (n:Int) (w:Wu):WJ WH 218 #[n] w λe w'=>e=Xz (Yc (aD n 0 1048576))/\w'=w:=by
 go_enter func218,ntmps218
 go_wp2
 all_goals (go_ret;exact⟨cE Kj,rfl⟩)
def Is (x y:mU):Bool:=Wt (y.feed=x.feed)&& !Wt (y.site=x.site)
def ei9 (m:aM) (x:mU) (b:List mU):jh m x b=(aH x.site m.sites.length&&aH x.feed m.feeds.length&& !b.any (Is x)):=rfl
def yz (a b:Int):(a==b)=Wt (a=b):=by rw[WU];simp
def ej0 (x y:mU) (z:List Wv) (xb:Nat) (w:Wu) (C:pM w w z y) (F:w.cell? (xb 1 Wr)=Ws (WK Xr x.site)) (G:w.cell? (xb 2 Wr)=Ws (WK Xr x.feed)) (I:xb<w.heap.size):
 aQ 214 #[Ye z.toArray,aj xb] w (Yc (Is x y)):=by
 obtain⟨rfl,dz,bJ⟩:=C;have D: ¬xb=w.heap.size:=Yi;have g:Hid (Is x y=(Wt (y.feed=x.feed)&& !Wt (y.site=x.site))):=rfl;generalize Is x y=r at g;clear dz bJ;simp only[aj];by_cases j:(y.feed==x.feed)=Wz
 .have c:=aa j;go_enter func214,ntmps214;go_wp2_with fail
  go_ret;refine⟨cE ?_,ae (af w) _⟩;have e:=c.out;rw[yz] at e;rw[g.out,e];simp[bne,yz]
 .have A:(y.feed==x.feed)=false:=by simpa using j
  clear j;have c:=aa A;go_enter func214,ntmps214;go_wp2_with fail
  go_ret;refine⟨cE ?_,ae (af w) _⟩;have e:=c.out;rw[yz] at e;rw[g.out,e];rfl
def aM.In.cells {m:aM} {w:Wu} {B:Nat} {v:MV} (h:m.In w B v):
 (∃A c,v.s=Yb A m.sites.length c/\m.sites.length<=c/\c<=9223372036854775807)/\(∃A c,v.f=Yb A m.feeds.length c/\m.feeds.length<=c/\c<=9223372036854775807)/\(∃A c,v.r=Yb A m.racks.length c/\m.racks.length<=c/\c<=9223372036854775807)/\
 (∃A c,v.m=Yb A m.machs.length c/\m.machs.length<=c/\c<=9223372036854775807)/\(∃A c,v.l=Yb A m.links.length c/\m.links.length<=c/\c<=9223372036854775807)/\(∃A c,v.i=Yb A m.items.length c/\m.items.length<=c/\c<=9223372036854775807)/\
 (∃A c,v.u=Yb A m.rules.length c/\m.rules.length<=c/\c<=9223372036854775807):=by
 have s1 {l:List ak} {v:Wv} (h:bG w B v l): ∃A c,v=Yb A l.length c/\l.length<=c/\c<=9223372036854775807:=by obtain⟨A,c,h1,h2,h3,_⟩:=h;simp only[WF] at h1 h2;exact⟨A,c,h1,h2,h3⟩
 have sk {α:Type} {k:Nat} {R:Wu->Nat->List Wv->α->Prop} {l:List α} {v:Wv} (h:bW k R w B v l): ∃A c,v=Yb A l.length c/\l.length<=c/\c<=9223372036854775807:=by obtain⟨A,c,h1,h2,h3,_⟩:=h;exact⟨A,c,h1,h2,h3⟩
 exact⟨s1 h.ss,s1 h.fs,sk h.rs,sk h.ms,sk h.ls,sk h.is,sk h.us⟩
def ej1 (m:aM) (v:MV) (mb:Nat) (x:mU) (D:List Wv) (b:List mU) (U:Wv) (w:Wu) (hm:w.heap[mb]? =Ws (Yd (m.cells v) 30 (0,0))) (X:m.In w w v) (hx:pM w w D x) (J:bW 3 pM w w U b):
 aQ 213 #[Ye D.toArray,U,aj mb] w (Yc (jh m x b)):=by
 obtain⟨rfl,dz,bJ⟩:=hx;obtain⟨⟨Sa,sc,hs,dh,bS⟩,⟨Fa,fc,hf,cr,cL⟩,_⟩:=X.cells;have eM:=blk_lt hm;have c0:w.cell? mb=Ws (Yb Sa m.sites.length sc):=by rw[<-hs];exact ah hm rfl
 have c1:w.cell? (mb 1 Wr)=Ws (Yb Fa m.feeds.length fc):=by rw[<-hf];exact ah hm rfl
 have aO: ¬mb=w.heap.size:=Yi;obtain⟨A,n,c,rfl,hl,hc,iG⟩:=J.form;have C:=aa (fun(W:Wu) (V:Below w w W) (xb:Nat) (h1:W.cell? (xb 1 Wr)=Ws (WK Xr x.site)) (h2:W.cell? (xb 2 Wr)=Ws (WK Xr x.feed)) (hx:xb<W.heap.size)=>
  dm1 pM pM.ab (Yb A n c) b 214 #[aj xb] (jg b (Is x)) W (J.to pM.ab V (ag _) V.size) (WD func214 aC rfl)
   (λj y D Y hy I hr _=>by rw[eW hy];exact ej0 x y D xb Y hr ((I.cell (p:=xb 1 Wr) hx).trans h1) ((I.cell (p:=xb 2 Wr) hx).trans h2) (bq hx I.size)))
 rw[BF] at C;have g:=λW=>Mr x.site m.sites.length W;have O:=λW=>Mr x.feed m.feeds.length W;have F:=aa g;have G:=aa O;refine ou λnV=> ?_;rw[ei9];unfold aH;generalize aD x.site 1 (m.sites.length:Nat)=r1 at F;generalize aD x.feed 1 (m.feeds.length:Nat)=r2 at G;generalize b.any (Is x)=r3 at C;have uM: ∀n:Nat,(w.alloc (Yd #[bs x.name,x.site,x.feed] 132)).cell? (w 1 Wr)=Ws (WK Xr x.site):=λ_=>ah (bQ w _) rfl;clear g O X hm J hs hf dz bJ hl uM;unfold bm aj at C;simp only[aj];cases r1 with
 |false=>
  go_enter func213,ntmps213;go_wp2_with(first|(go_at_call 211;refine(F.out _).m ?_;rintro e z ⟨rfl,rfl⟩))
  go_ret;exact⟨rfl,ae (af w) _⟩
 |true=>
  cases r2 with
  |false=>
   go_enter func213,ntmps213;have tok1:True:=trivial
   go_wp2_with(first
    |(go_at_call 211;have _t:=tok1;refine(F.out _).m ?_;rintro e z ⟨rfl,rfl⟩;clear tok1)
    |(go_at_call 211;refine(G.out _).m ?_;rintro e z ⟨rfl,rfl⟩))
   go_ret;exact⟨rfl,ae (af w) _⟩
  |true=>
   go_enter func213,ntmps213;have tok1:True:=trivial
   go_wp2_with(first
    |(go_at_call 211;have _t:=tok1;refine(F.out _).m ?_;rintro e z ⟨rfl,rfl⟩;clear tok1)
    |(go_at_call 211;refine(G.out _).m ?_;rintro e z ⟨rfl,rfl⟩))
   refine(C.out _ (ae (af w) _) w.heap.size (ah (bQ w _) rfl) (ah (bQ w _) rfl) Yl).m ?_;rintro e z ⟨rfl,Z⟩;go_wp2_with fail
   go_ret;exact⟨by simp,ai (ae (af w) _) Z⟩
end
section
open Go Go.RowKit Go.MapKept Go.ChangeMaps Go.Proofs.Tryz
section
variable {κ:Type} [DecidableEq κ]
def lk:List (κ×Wv)->κ->Option Wv
 |[],_=>Wr
 |p::r,k=>if k=p.1 then Ws p.2 else lk r k
def Ms {k:κ}: ∀{l:List (κ×Wv)},lk l k=Wr->∀p∈l,p.1≠k
 |[],_,p,h=>by simp at h
 |q::r,h,p,c=>by
  rw[lk] at h;split at h
  .cases h
  .rename_i g;rcases List.mem_cons.1 c with rfl|c
   .exact λe=>g e.symm
   .exact Ms h p c
def Zp {k:κ} {v:Wv}: ∀{l:List (κ×Wv)},lk l k=Ws v->(k,v)∈l
 |[],h=>by cases h
 |q::r,h=>by
  rw[lk] at h;split at h
  .rename_i e;injection h with h;subst e h;simp
  .exact List.mem_cons_of_mem _ (Zp h)
def ao0 {k:κ} {v:Wv}: ∀{l:List (κ×Wv)},(l.map (·.1)).Nodup->(k,v)∈l->lk l k=Ws v
 |[],_,h=>by simp at h
 |q::r,hn,h=>by
  rw[WO,List.nodup_cons] at hn;rw[lk];rcases List.mem_cons.1 h with rfl|h
  .rw[if_pos rfl]
  .rw[if_neg (λe=>hn.1 (List.mem_map.2 ⟨_,h,e⟩))];exact ao0 hn.2 h
def aY (f:κ->Option Wv) (k:κ) (v:Wv):κ->Option Value:=λx=>if x=k then Ws v else f x
def zV (f:κ->Option Wv) (k:κ) (v:Wv) (x:κ):aY f k v x=if x=k then Ws v else f x:=rfl
def eg0 (f:κ->Option Wv) (k:κ) (v:Wv):aY f k v k=Ws v:=if_pos rfl
def ao1 (f:κ->Option Wv) {k:κ} (v:Wv) {x:κ} (h:x≠k):aY f k v x=f x:=if_neg h
def eg1 {l:List (κ×Wv)} {k:κ} (v:Wv) (h: ∀p∈l,p.1≠k) (x:κ):lk (l++[(k,v)]) x=aY (lk l) k v x:=by
 rw[zV];induction l with
 |nil=>simp[lk]
 |cons q r c=>
  have g:=h q Yl;have c:=c λp j=>h p (by simp[j]);rw[WZ,lk,lk];by_cases e:x=q.1
  .rw[if_pos e,if_pos e,if_neg (by rw[e];exact g)]
  .rw[if_neg e,if_neg e,c]
def eg2 {l:List (κ×Wv)} {k:κ} {y:Wv} (v:Wv) {j:Nat} (c:(l.map (·.1)).Nodup) (hj:l[j]? =Ws (k,y)) (x:κ):lk (l.set j (k,v)) x=aY (lk l) k v x:=by
 rw[zV];induction l generalizing j with
 |nil=>simp at hj
 |cons q r ih=>
  rw[WO,List.nodup_cons] at c;cases j with
  |zero=>
   simp at hj;subst hj;rw[List.set_cons_zero,lk,lk];by_cases e:x=k
   .rw[if_pos e,if_pos e]
   .rw[if_neg e,if_neg e,if_neg e]
  |succ j=>
   have g:r[j]? =Ws (k,y):=Cq;have z:q.1≠k:=λe=>c.1 (List.mem_map.2 ⟨_,eD g,e.symm⟩);rw[List.set_cons_succ,lk,lk,ih c.2 g];by_cases e:x=q.1
   .rw[if_pos e,if_pos e,if_neg (by rw[e];exact z)]
   .rw[if_neg e,if_neg e]
omit [DecidableEq κ] in
def eg3 {l:List (κ×Wv)} {k:κ} {g v:Wv} {j:Nat} (c:l[j]? =Ws (k,g)):(l.set j (k,v)).map (·.1)=l.map (·.1):=by
 rw[List.map_set];refine List.ext_getElem? λi=> ?_;rw[List.getElem?_set];split
 .rename_i e;subst e;have:j<(l.map (·.1)).length:=by rw[List.length_map];exact(List.getElem?_eq_some_iff.1 c).1
  rw[if_pos this,WN,c];rfl
 .rfl
structure Dn (d:TypeDesc) (enc:κ->Wv):Prop where
 inj: ∀x y,enc x=enc y->x=y
 key: ∀x,IsKey d (enc x)
 bits: ∀x,Instr.sameBits 10000 (enc x) (enc x)=Wz
def da (enc:κ->Wv) (l:List (κ×Wv)):List (Wv×Wv):=l.map λp=>(enc p.1,p.2)
def de (enc:κ->Wv) (w:Wu) (b:Nat) (f:κ->Option Wv):Prop:= ∃l:List (κ×Wv),fF w b (da enc l)/\(l.map (·.1)).Nodup/\∀k,f k=lk l k
variable {enc:κ->Wv} {w w':Wu} {b B:Nat} {f:κ->Option Wv}
def de.lt (h:de enc w b f):b<w.heap.size:=by obtain⟨l,h,_⟩:=h;exact h.lt
def de.below (h:de enc w b f) (g:Below B w w') (c:b<B):de enc w' b f:=by obtain⟨l,h,h2⟩:=h;exact⟨l,h.below g c,h2⟩
def de.later (h:de enc w b f) (c:Below w w w'):de enc w' b f:=h.below c h.lt
def de.blk (h:de enc w b f) (e:w'.heap[b]? =w.heap[b]?):de enc w' b f:=by obtain⟨l,h,h2⟩:=h;exact⟨l,e.trans h,h2⟩
def de.made (enc:κ->Wv) (w:Wu):de enc (w.alloc (.map #[] 0)) w.heap.size (λ_=>Wr):=⟨[],fF.made w,by simp,λ_=>rfl⟩
def de.of_eq (h:de enc w b f) {g:κ->Option Wv} (e: ∀k,g k=f k):de enc w b g:=by obtain⟨l,h1,h2,h3⟩:=h;exact⟨l,h1,h2,λk=>(e k).trans (h3 k)⟩
def eg4 {l:List (Wv×Wv)} {j:Nat} {key h val:Wv} (c:l[j]? =Ws (key,h)):(bK 0 l).toArray.modify j (λe=>{e with key:=key,val:=val})=(bK 0 (l.set j (key,val))).toArray:=by
 refine Array.ext_getElem? λi=> ?_;rw[Array.getElem?_modify];simp only[List.getElem?_toArray,Qk,List.getElem?_set];split
 .rename_i e;subst e;have g:j<l.length:=(List.getElem?_eq_some_iff.1 c).1;rw[if_pos g,c];rfl
 .rfl
def P2 {P:Program} {t G e:WQ} {d:TypeDesc} (D:P.underlying t=Ws (.map G e)) (A:P.underlying G=Ws d) (E:Dn d enc) (h:de enc w b f) (k:κ) (val:Wv):
 ∃o,(Instr.mapUpdate t (.map (Ws b)) (enc k) val).run P w= .ok () (setBlock w b o)/\de enc (setBlock w b o) b (aY f k val):=by
 obtain⟨l,hl,hn,hf⟩:=h;have z:w.heap[b]? =Ws (.map (bK 0 (da enc l)).toArray (da enc l).length):=hl;cases fJ:lk l k with
 |none=>
  have O: ∀p∈da enc l,IsKey d p.1/\p.1≠enc k:=λp g=>by obtain⟨q,hq,rfl⟩:=List.mem_map.1 g;exact⟨E.key _,λe=>Ms fJ q hq (E.inj _ _ e)⟩
  refine⟨_,ac5 D A hl val (E.key k) O,l++[(k,val)],?_,?_,λx=> ?_⟩
  .have c:=heap_setBlock_same z (.map (bK 0 (da enc l++[(enc k,val)])).toArray (da enc l++[(enc k,val)]).length);show fF _ _ _;unfold fF;rw[show da enc (l++[(k,val)])=da enc l++[(enc k,val)] from by simp[da]];exact c
  .rw[Xb,List.nodup_append];refine⟨hn,by simp,λx hx y F=> ?_⟩;obtain⟨p,g,rfl⟩:=List.mem_map.1 hx;simp at F;subst F;exact Ms fJ p g
  .rw[eg1 val (Ms fJ)];simp only[zV,hf]
 |some v0=>
  have Z: ∀x∈bK 0 (da enc l),IsKey d x.key:=λx hx=>by obtain⟨j,hj,_⟩:=Dg hx;obtain⟨q,hq,e⟩:=List.mem_map.1 (eD hj);injection e with U e2;rw[<-U];exact E.key _
  rcases findNow_spec (E.key k) (bK 0 (da enc l)) 0 Z with ⟨_,c⟩|⟨j,x,V,c,X⟩
  .obtain⟨i,hi⟩:=List.mem_iff_getElem?.1 (Zp fJ);have:(da enc l)[i]? =some (enc k,v0):=by simp[da,hi]
   exact absurd rfl (c _ (Pw _ 0 i _ this))
  .rw[Qk] at c;cases g:(da enc l)[j]? with
   |none=>rw[g] at c;cases c
   |some p=>
    rw[g] at c;injection c with c;have hx:x.key=p.1:=by rw[<-c]
    obtain⟨q,hq⟩: ∃q,l[j]? =Ws q:=by
     cases hq:l[j]? with
     |none=>simp[da,hq] at g
     |some q=>exact⟨q,rfl⟩
    have I:p=(enc q.1,q.2):=by simp[da,hq] at g;exact g.symm
    have C:q.1=k:=E.inj _ _ (by rw[<-X,hx,I]);obtain⟨qk,qv⟩:=q;simp only at C;subst C;subst I;have Y:Instr.findNow d (enc qk) (bK 0 (da enc l)).toArray.toList 0=Ws (Ws (j,x.val)):=by simpa using V
    have J:(((bK 0 (da enc l)).toArray[j]?).map (·.key)).getD (enc qk)=enc qk:=by simp only[List.getElem?_toArray,Qk,g];rfl
    refine⟨.map (bK 0 ((da enc l).set j (enc qk,val))).toArray (da enc l).length,?_,l.set j (qk,val),?_,?_,λx=> ?_⟩
    .have hm:=eg4 (val:=val) g;simp only[Instr.mapUpdate,run_underlying D,MapKept.run_getObj_map z,MapKept.run_checkKey A (E.key qk),MapKept.run_findKey A Y,Result.andThen,Sem.run_bind,J,Instr.keyThatStays,E.bits,if_true,hm,MapKept.run_setObj_map _ z,setBlock];simp[MapKept.run_setObj_map _ z,Result.andThen];rw[List.modify_toArray] at hm;exact congrArg (λa=>w.heap.setIfInBounds b (Obj.map a (da enc l).length)) hm
    .have c:=heap_setBlock_same z (.map (bK 0 ((da enc l).set j (enc qk,val))).toArray (da enc l).length);show fF _ _ _;unfold fF;rw[show da enc (l.set j (qk,val))=(da enc l).set j (enc qk,val) from by simp[da,List.map_set],List.length_set];exact c
    .rw[eg3 hq];exact hn
    .rw[eg2 val hn hq];simp only[zV,hf]
def qm {P:Program} {t A e:WQ} {d:TypeDesc} (y:P.underlying t=Ws (.map A e)) (j:P.underlying A=Ws d) (E:Dn d enc) (h:de enc w b f) (k:κ) {z:Wv} (c:Bool) (D:(zeroValue e).run P w= .ok z w):
 (WT t (.map (Ws b)) (enc k) c).run P w= .ok (if c then .tuple #[(f k).getD z,Yc (f k).isSome] else(f k).getD z) w:=by
 obtain⟨l,hl,hn,hf⟩:=h;have F: ∀p∈da enc l,IsKey d p.1:=λp g=>by obtain⟨q,hq,rfl⟩:=List.mem_map.1 g;exact E.key _
 rw[hf];cases fJ:lk l k with
 |none=>
  exact L9 y j hl c (E.key k) (λp g=>by obtain⟨q,hq,rfl⟩:=List.mem_map.1 g;exact⟨E.key _,λe=>Ms fJ q hq (E.inj _ _ e)⟩) D
 |some v=>exact L8 y j hl c (E.key k) F (λp g e=>by obtain⟨q,hq,rfl⟩:=List.mem_map.1 g;have C:q.1=k:=E.inj _ _ e;have:=ao0 (k:=q.1) (v:=q.2) hn hq;rw[C,fJ] at this;injection this with this;exact this.symm) ⟨_,List.mem_map.2 ⟨_,Zp fJ,rfl⟩,rfl⟩
variable {P:Program} {ops:Array XH} {rest:List XH} {o:XH} {a:Act} {Q:Exit->Act->Wu->Prop}
def ev (z:o.guard=Wr) (m x v:Operand) (t:WQ) (dg:o.op=Op.mapUpdate t m x v\/o.op=Op.insert t m x v)
 (j e:WQ) (d:TypeDesc) (C:P.underlying t=Ws (.map j e)) (A:P.underlying j=Ws d) (E:Dn d enc) (b:Nat) (f:κ->Option Wv) (hm:a.eval m= .map (Ws b)) (y:de enc w b f)
 (k:κ) (val:Wv) (hx:a.eval x=enc k) (hv:a.eval v=val)
 (g: ∀w',de enc w' b (aY f k val)->jv w w' b->wpList P ops Q rest (a.put o.dst XE) w'):
 wpList P ops Q (o::rest) a w:=by
 refine wpList_plain z λD c=> ?_;obtain⟨ob,eG,hM⟩:=P2 C A E y k val;unfold Oper.wp;have h4:=c _ _ (g _ hM (IW _ _ _));clear hM g c;generalize setBlock w b ob=W at eG h4;exact Wj
def B3 (y:o.guard=Wr) (m x:Operand) (t:WQ) (c:Bool) (dg:o.op=Op.lookup t m x c)
 (g e:WQ) (d:TypeDesc) (C:P.underlying t=Ws (.map g e)) (A:P.underlying g=Ws d) (E:Dn d enc) (b:Nat) (f:κ->Option Wv) (hm:a.eval m= .map (Ws b)) (j:de enc w b f)
 (k:κ) (z:Wv) (hx:a.eval x=enc k) (D:(zeroValue e).run P w= .ok z w)
 (hK:wpList P ops Q rest (a.put o.dst (if c then .tuple #[(f k).getD z,Yc (f k).isSome] else(f k).getD z)) w):
 wpList P ops Q (o::rest) a w:=by
 refine wpList_plain y λF gO=> ?_;have eG:=qm C A E j k c D;exact Wk
end
def iO (k:Int):Value:=WK Xr k
def lV (s:ak):Value:=WM (bs s)
def co:Dn (TypeDesc.int .i64) iO:=⟨λx y e=>by injection e,λx=>rfl,λx=>by simp[iO,Instr.sameBits]⟩
def Do:Dn TypeDesc.string lV:=⟨λx y e=>by injection e with e;exact LS e,λx=>trivial,λx=>by unfold lV;rw[Instr.sameBits];exact(bytes_beq _ _).2 rfl⟩
def eh6 (x:aP) (m s:Wv) (w:Wu) (C:aW w w m x.ms) (V:x.ms.length<=1000000):
 aQ 108 #[Ye (x.cells m s)] w (Yc (su x.ms)):=by
 obtain⟨A,n,c,rfl,hn,hc,hm⟩:=C.form;have HL:=aa hn;have H:=aa C;have Y:n<=1000000:=Yi;clear C hn V;rw[aP.cells_def];go_enter func108,ntmps108;go_wp2_with fail
 go_loopw [8] (λi wr=> ∃k:Nat,k<=n/\i=WK Xr k/\Below w w wr/\w.heap.size<wr.heap.size/\wr.cell? (w 8 Wr)=Ws (Yb A n c)/\∀j,j<k->yt x.ms j) (λi _=>n - (WS i).toNat)
 case atStart=>exact⟨0,bU _,rfl,ae (af w) _,by simp,by go_simp,by omega⟩
 case round=>
  obtain⟨k,hk,rfl,hb,fk,eF,xZ⟩:=hrel;have G:=aa xZ;clear xZ;by_cases ar:k<n
  .obtain⟨b,o,rfl,CJ,bk⟩:=(H.out.below hb (ag _)).at_ k ar;have O:=bk k ar;have U:=bk (k - 1) (by omega);clear bk;refine Pv λi3=> ?_;have g:=λW=>yu (cT x.ms k) W;by_cases J:k=0
   .subst J;rw[Nat.add_zero] at O;clear U;have X:IntKind.i64.wrap ((0:Int)+1)=1:=by decide
    cases hg:dT (cT x.ms 0) 1 16 with
    |true=>
     rw[hg] at g;have y:=aa g;clear g;go_wp2_with(go_at_call 73;refine(y.out _).m ?_;rintro e z ⟨rfl,rfl⟩)
     exact⟨⟨1,by omega,by go_num,hb,fk,eF,λj F=>by have:j=0:=Yi;subst this;exact⟨PF.1 hg,λh=>by omega⟩⟩,by simp[WS];omega⟩
    |false=>
     rw[hg] at g;have y:=aa g;clear g;go_wp2_with(go_at_call 73;refine(y.out _).m ?_;rintro e z ⟨rfl,rfl⟩)
     go_ret;exact⟨cE (PD (k:=0) we (λh=>by rw[PF.2 h.1] at hg;cases hg)).symm,hb⟩
   .have j0:decide (0<k)=true:=by simp;omega
    have j1:IntKind.i64.wrap ((k:Int) - 1)=(k:Int) - 1:=Xf _ Yi;have Z:((k:Int) - 1).toNat=k - 1:=Yi;have j3:(0:Int)<=(k:Int) - 1:=Yi;have j4:(k:Int) - 1<(n:Int):=Yi;cases hg:dT (cT x.ms k) 1 16 with
    |true=>
     rw[hg] at g;have y:=aa g;clear g;by_cases I:cT x.ms k<=cT x.ms (k - 1)
     .have D:decide (cT x.ms k<=cT x.ms (k - 1))=true:=by simpa using I
      go_wp2_with(go_at_call 73;refine(y.out _).m ?_;rintro e z ⟨rfl,rfl⟩)
      go_ret;exact⟨cE (PD (k:=k) we (λh=>by have:=h.2 Yi;omega)).symm,hb⟩
     .have D:decide (cT x.ms k<=cT x.ms (k - 1))=false:=by simpa using I
      go_wp2_with(go_at_call 73;refine(y.out _).m ?_;rintro e z ⟨rfl,rfl⟩)
      exact⟨⟨k+1,by omega,by go_num,hb,fk,eF,λj F=>by
       by_cases e:j=k
       .subst e;exact⟨PF.1 hg,λ_=>by omega⟩
       .exact G.out j Yi⟩,by simp[WS];omega⟩
    |false=>
     rw[hg] at g;have y:=aa g;clear g;go_wp2_with(go_at_call 73;refine(y.out _).m ?_;rintro e z ⟨rfl,rfl⟩)
     go_ret;exact⟨cE (PD (k:=k) we (λh=>by rw[PF.2 h.1] at hg;cases hg)).symm,hb⟩
  .go_wp2_with fail
   go_ret;exact⟨cE (ae1 (λj F=>G.out j (by rw[HL.out] at F;omega))).symm,hb⟩
def zW (word:ByteArray) (k:Int) (u f r t:Wv):Value:=Ye #[word,k,u,f,r,t]
def eh7 (word:ByteArray) (k:Int) (w:Wu):
 aQ 77 #[word,k] w (zW word k (bm 174 #[]) (bm 175 #[]) (bm 176 #[]) (bm 177 #[])):=by
 go_enter func77,ntmps77;go_wp2_with fail
 refine bodyPost_ret (v:=zW word k (bm 174 #[]) (bm 175 #[]) (bm 176 #[]) (bm 177 #[])) (by simp[results,results77,go_sem,zW,bm]) rfl ?_;exact⟨rfl,by repeat' first|with_reducible exact af w|with_reducible refine cF ?_ (ag _) _|with_reducible refine ae ?_ _⟩
def eh8 (word:ByteArray) (k:Int) (g:Nat) (w:Wu):
 WJ WH 75 #[word,k,bm g #[]] w λe w'=>e=Xz (zW word k (bm 170 #[]) (bm 171 #[aj w.heap.size]) (bm 172 #[]) (bm 173 #[]))/\Below w w w'/\w'.cell? w=Ws (bm g #[])/\w.heap.size<w'.heap.size:=by
 refine ou λnV=> ?_;simp only[bm];go_enter func75,ntmps75;go_wp2_with fail
 refine bodyPost_ret (v:=zW word k (bm 170 #[]) (bm 171 #[aj w.heap.size]) (bm 172 #[]) (bm 173 #[])) (by simp[results,results75,go_sem,zW,bm,aj]) rfl ?_;exact⟨rfl,ae (ae (af w) _) _,by go_simp,by simp;omega⟩
end
section
open Go Go.RowKit Go.Proofs.Tryz
structure ez5 where
 name:Bool
 least:Nat
 most:Nat
 nums:Nat
 alw:Bool
def Aa (k:Nat):ez5:=
 match k with
 |0=>⟨Wz,0,0,0,Ww⟩
 |1=>⟨Wz,0,0,0,Ww⟩
 |2=>⟨Wz,2,2,0,Ww⟩
 |3=>⟨Wz,1,1,1,Ww⟩
 |4=>⟨Ww,2,2,1,Ww⟩
 |5=>⟨Wz,1,16,3,Ww⟩
 |6=>⟨Wz,1,16,4,Ww⟩
 |7=>⟨Wz,1,1,3,Ww⟩
 |8=>⟨Ww,1,1,2,Ww⟩
 |9=>⟨Ww,0,0,0,Ww⟩
 |10=>⟨Ww,1,1,0,Ww⟩
 |11=>⟨Ww,1,1,1,Wz⟩
 |12=>⟨Ww,1,1,1,Ww⟩
 |13=>⟨Ww,2,17,0,Ww⟩
 |14=>⟨Ww,2,2,0,Ww⟩
 |15=>⟨Ww,0,0,1,Ww⟩
 |16=>⟨Ww,1,1,1,Ww⟩
 |_=>⟨Ww,0,0,0,Ww⟩
def QG (k n:Nat):Bool:=if k=9 then Wt (1<=n)&&Wt (n<=7) else if k=12 then Wt (2<=n)&&Wt (n<=4) else Wt (n=0)
def vJ {k:Nat} (h:k<=16):k=0\/k=1\/k=2\/k=3\/k=4\/k=5\/k=6\/k=7\/k=8\/k=9\/k=10\/k=11\/k=12\/k=13\/k=14\/k=15\/k=16:=Yi
def Z4 (d:au) (k:Nat) (g:k<=16) (c:d.kind=k):
 je d=(Wt ((Aa k).least<=d.refs.length)&&(Wt (d.refs.length<=(Aa k).most)&&(Wt (d.nums.length=(Aa k).nums)&&(QG k d.by_&&(((Aa k).alw|| !d.always)&&(if(Aa k).name then br d.name else Wt (d.name=[]))))))):=by
 rcases vJ g with rfl|rfl|rfl|rfl|rfl|rfl|rfl|rfl|rfl|rfl|rfl|rfl|rfl|rfl|rfl|rfl|rfl<;>simp only[je,c,iz,Aa,QG]<;>(rw[WU];simp[and_assoc,and_comm,and_left_comm])
def ez6 (d:au) (h:16<d.kind):je d=false:=by unfold je;split<;>first|omega|rfl
end
section
open Go Go.RowKit Go.Shelf Go.Proofs.Tryz
attribute [local go_sem] Oper.semAt_some
def oT {α:Type} (f:Nat->α) (k:Nat):List α:=(Xs k).map f
def ay6 {α:Type} (f:Nat->α) (k:Nat):oT f (k+1)=oT f k++[f k]:=by simp[oT,List.range_succ]
def ex2 {α:Type} (f:Nat->α) (k:Nat):(oT f k).length=k:=by simp[oT]
def ff8 {α:Type} (l:List α) (d:α):oT (λj=>l.getD j d) l.length=l:=by
 apply List.ext_getElem
 .simp[oT]
 .intro i g c;simp[oT,c]
def ff9 {α:Type} (l:List α) (d:α) {k:Nat} (g:k<=l.length):oT (λj=>l.getD j d) k=l.take k:=by
 apply List.ext_getElem
 .simp[oT,g]
 .intro i c h;have:i<l.length:=by simp[oT] at c;omega
  simp[oT,this]
def fg0 (F:Fence) (n:Nat) (A:F.fn 207) (G:F.round=Wr) (I:1<=n) (l g n₀ b off len cap:Nat) (f:Nat->ByteArray) (hreach:len<=1000000) (C:b<n₀) (J y:List ByteArray->Wu->Prop)
 (hY: ∀pre x W,J pre W->pre.length<len->YieldAt F (n - 1) WH l #[WM x] W λe c=>(e=Xz (Yc Wz)/\J (pre++[x]) c/\Below n₀ W c)\/(e=Xz (Yc Ww)/\y (pre++[x]) c))
 (W:Wu) (O:W.cell? g=Ws (Yb (Ws (b off Wr)) len cap)) (D: ∀j,j<len->W.cell? ⟨b,off+j,Wr⟩=Ws (WM (f j))) (z:J [] W):
 CallsIn F n WH 207 #[.func (.yield l) #[] #[],Yf (Ws g)] W λe c=>(∃v,e=Xz v)/\
  ((∃ys,ys=oT f len/\J ys c)\/(∃pre,(∃k,k<=len/\pre=oT f k)/\y pre c)):=by
 refine callsIn_of_wp func207 rfl A ?_ G;simp only[ntmps207,List.size_toArray,Xg,XO,Nat.reduceAdd,Nat.reduceSub,Array.replicate_succ,Array.replicate_zero,List.push_toArray,List.append_toArray,Xl,WZ]
 gi_wp2
 gi_loopw [7] (λi wr=> ∃k:Nat,k<=len/\i=WK Xr k/\J (oT f k) wr/\Below n₀ W wr)
  (λi _=>len - (WS i).toNat)
 case atStart=>exact⟨0,bU _,rfl,z,XA _ _⟩
 case round=>obtain⟨k,hk,rfl,Ep,CS⟩:=hrel;have lJ:k<len->wr.cell? ⟨b,off+k,Wr⟩=Ws (WM (f k)):=λh=>(CS.cell (p:=⟨b,off+k,Wr⟩) C).trans (D k h);exact ay7
def fg1 (F:Fence) (n:Nat) (y:F.fn 207) (z:F.round=Wr) (l g c:Nat) (A:Option X8) (J:List ByteArray->Wu->Prop) (W:Wu) (C:W.cell? g=Ws (Yb A 0 c)) (j:J [] W):
 CallsIn F n WH 207 #[.func (.yield l) #[] #[],Yf (Ws g)] W λe h=>(∃v,e=Xz v)/\J [] h:=by
 refine callsIn_of_wp func207 rfl y ?_ z;simp only[ntmps207,List.size_toArray,Xg,XO,Nat.reduceAdd,Nat.reduceSub,Array.replicate_succ,Array.replicate_zero,List.push_toArray,List.append_toArray,Xl,WZ]
 gi_wp2
 gi_loopw [7] (λi wr=>i=WK Xr 0/\J [] wr) (λ_ _=>0)
 case atStart=>exact⟨rfl,j⟩
 case round=>
  obtain⟨rfl,Ep⟩:=hrel
  gi_wp2
  go_end0
  exact⟨⟨_,rfl⟩,Ep⟩
def QP (a:Option X8) (len cap:Nat) (w:Wu):
 WJ WH 140 #[Yb a len cap] w λe w'=>e=Xz (bm 207 #[aj w.heap.size])/\w'=w.alloc (Yd #[Yb a len cap] 23):=by
 simp only[bm,aj];go_enter func140,ntmps140
 go_wp2
 go_ret;exact⟨rfl,rfl⟩
def fg2 (F:Fence) (n:Nat) (C:F.fn 207) (G:F.round=Wr) (hn:1<=n) (g n₀:Nat) (I:Wv) (zs:List ByteArray) (hreach:zs.length<=1000000) (w:Wu) (kb:g<w.heap.size) (hn₀:n₀<=w.heap.size)
 (Z:w.cell? g=Ws I) (V:Sl w n₀ I (zs.map (WM))):
 SeqStopsK F n WH 207 #[Yf (Ws g)] (λx:ByteArray=> #[WM x]) (Below n₀) (λys=>ys=zs) (λpre=>pre<+:zs) zs.length w:=λl J O W D _ _ X z=>by
 have y:=(D.cell (p:=g) kb).trans Z;rcases(V.below (D.mono hn₀)).cases_ with ⟨he,A,c,rfl,_⟩|⟨zJ,b,off,cap,rfl,_,_,Y,U⟩
 .have hz:zs=[]:=by simpa using he
  subst hz;exact(fg1 F n C G l g c A J W y z).mono λe W' ⟨he,hj⟩=>⟨he,.inl ⟨_,rfl,hj⟩⟩
 .rw[WF] at y;refine(fg0 F n C G hn l g n₀ b off zs.length cap (λj=>zs.getD j default) hreach Y J O X W y (λj hj=>U j _ (by simp[hj])) z).mono ?_;exact ay8
def fg3 (F:Fence) (n:Nat) (A:F.fn 210) (G:F.round=Wr) (I:1<=n) (l g n₀ b off len cap:Nat) (f:Nat->Int) (hreach:len<=1000000) (C:b<n₀) (J y:List Int->Wu->Prop)
 (hY: ∀pre x W,J pre W->pre.length<len->YieldAt F (n - 1) WH l #[WK Xr x] W λe c=>(e=Xz (Yc Wz)/\J (pre++[x]) c/\Below n₀ W c)\/(e=Xz (Yc Ww)/\y (pre++[x]) c))
 (W:Wu) (O:W.cell? g=Ws (Yb (Ws (b off Wr)) len cap)) (D: ∀j,j<len->W.cell? ⟨b,off+j,Wr⟩=Ws (WK Xr (f j))) (z:J [] W):
 CallsIn F n WH 210 #[.func (.yield l) #[] #[],Yf (Ws g)] W λe c=>(∃v,e=Xz v)/\
  ((∃ys,ys=oT f len/\J ys c)\/(∃pre,(∃k,k<=len/\pre=oT f k)/\y pre c)):=by
 refine callsIn_of_wp func210 rfl A ?_ G;simp only[ntmps210,List.size_toArray,Xg,XO,Nat.reduceAdd,Nat.reduceSub,Array.replicate_succ,Array.replicate_zero,List.push_toArray,List.append_toArray,Xl,WZ]
 gi_wp2
 gi_loopw [7] (λi wr=> ∃k:Nat,k<=len/\i=WK Xr k/\J (oT f k) wr/\Below n₀ W wr)
  (λi _=>len - (WS i).toNat)
 case atStart=>exact⟨0,bU _,rfl,z,XA _ _⟩
 case round=>obtain⟨k,hk,rfl,Ep,CS⟩:=hrel;have lJ:k<len->wr.cell? ⟨b,off+k,Wr⟩=Ws (WK Xr (f k)):=λh=>(CS.cell (p:=⟨b,off+k,Wr⟩) C).trans (D k h);exact ay7
def fg4 (F:Fence) (n:Nat) (y:F.fn 210) (z:F.round=Wr) (l g c:Nat) (A:Option X8) (J:List Int->Wu->Prop) (W:Wu) (C:W.cell? g=Ws (Yb A 0 c)) (j:J [] W):
 CallsIn F n WH 210 #[.func (.yield l) #[] #[],Yf (Ws g)] W λe h=>(∃v,e=Xz v)/\J [] h:=by
 refine callsIn_of_wp func210 rfl y ?_ z;simp only[ntmps210,List.size_toArray,Xg,XO,Nat.reduceAdd,Nat.reduceSub,Array.replicate_succ,Array.replicate_zero,List.push_toArray,List.append_toArray,Xl,WZ]
 gi_wp2
 gi_loopw [7] (λi wr=>i=WK Xr 0/\J [] wr) (λ_ _=>0)
 case atStart=>exact⟨rfl,j⟩
 case round=>
  obtain⟨rfl,Ep⟩:=hrel
  gi_wp2
  go_end0
  exact⟨⟨_,rfl⟩,Ep⟩
def ay9 (a:Option X8) (len cap:Nat) (w:Wu):
 WJ WH 143 #[Yb a len cap] w λe w'=>e=Xz (bm 210 #[aj w.heap.size])/\w'=w.alloc (Yd #[Yb a len cap] 31):=by
 simp only[bm,aj];go_enter func143,ntmps143
 go_wp2
 go_ret;exact⟨rfl,rfl⟩
def fg5 (F:Fence) (n:Nat) (C:F.fn 210) (G:F.round=Wr) (hn:1<=n) (g n₀:Nat) (I:Wv) (zs:List Int) (hreach:zs.length<=1000000) (w:Wu) (kb:g<w.heap.size) (hn₀:n₀<=w.heap.size)
 (Z:w.cell? g=Ws I) (V:Sl w n₀ I (zs.map (WK .i64))):
 SeqStopsK F n WH 210 #[Yf (Ws g)] (λx:Int=> #[WK .i64 x]) (Below n₀) (λys=>ys=zs) (λpre=>pre<+:zs) zs.length w:=λl J O W D _ _ X z=>by
 have y:=(D.cell (p:=g) kb).trans Z;rcases(V.below (D.mono hn₀)).cases_ with ⟨he,A,c,rfl,_⟩|⟨zJ,b,off,cap,rfl,_,_,Y,U⟩
 .have hz:zs=[]:=by simpa using he
  subst hz;exact(fg4 F n C G l g c A J W y z).mono λe W' ⟨he,hj⟩=>⟨he,.inl ⟨_,rfl,hj⟩⟩
 .rw[WF] at y;refine(fg3 F n C G hn l g n₀ b off zs.length cap (λj=>zs.getD j default) hreach Y J O X W y (λj hj=>U j _ (by simp[hj])) z).mono ?_;exact ay8
end
end Go.Proofs.YtklfdkdebgfmiaaGreatDoor
