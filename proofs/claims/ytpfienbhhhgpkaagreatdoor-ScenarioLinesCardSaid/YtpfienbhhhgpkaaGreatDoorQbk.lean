/- A part of the proof. -/
import Derived.Test.YtpfienbhhhgpkaaGreatDoorQbj
set_option linter.defProp false
set_option linter.unusedVariables false
set_option linter.unusedSimpArgs false
set_option maxRecDepth 100000
set_option maxHeartbeats 32000000
open Option renaming some->WX,none->WY
open Decidable renaming decide->WZ
open Go renaming World->Xa,Value->Xb,Calls->Xq,TypeId->Xv,maxLen->XF,Oper->Yf,Ending->Ys,Addr->Yy,Program->YA
open Bool renaming false->Xc,true->Xe
open Go.RowKit renaming Hid->Xf
open Go.Lib renaming itoa->Xg,decDigits->Xx,countB->Yj
open Go.Proofs.Tryz renaming prog->Xn
open Go.Proofs renaming intOf->Xw
open Go.Value renaming int->Xo,string->Xp,oneCell'->X4,slice->YG,bool->YH,agg->YJ,pointer->YK
open Go.Instr renaming lookup->XB
open Go.World renaming setCell->Ye
open Go.IntKind renaming i64->XO
open Go.Region renaming ready->Yc,Mode->Yq
open Go.Ending renaming returned->Ya
open UInt8 renaming ofNat->Yn
open Go.Obj renaming cells->YI
open Go.Operand renaming tmp->YL,const->YM
namespace Go.Proofs.YtpfienbhhhgpkaaGreatDoor
section
open Go Go.RowKit Go.Proofs.Tryz
def E9(p:UInt8->Bool)(s:ar):Prop:=∀c,s.head?=WX c->p c=Xc
def O6{p:UInt8->Bool}:∀(w s:ar),w.all p=Xe->E9 p s->(w++s).takeWhile p=w
 |[],s,_,h=>by
  cases s with
  |nil=>rfl
  |cons c r=>have:=h c rfl;simp[List.takeWhile_cons,this]
 |c::w,s,hw,h=>by simp only[List.all_cons,Xh]at hw;rw[XI,List.takeWhile_cons,if_pos hw.1,O6 w s hw.2 h]
def dp0(w s:ar)(A:w.all cX=Xe)(j:kE (w.headD 0)=Xe)(C:w.length<=31)(z:E9 cX s):
 tok (w++s)= .ok (if w∈dP then 2 else 1,w,0):=by
 cases w with
 |nil=>exact absurd j aF
 |cons c r=>show tok (c::(r++s))=_;unfold tok;simp only;have y:kE c=true:=j;rw[if_pos y];unfold Bk;have:=O6 (p:=cX) (c::r) s A z;rw[XI]at this;simp only[this];rw[if_neg YN];split<;>rfl
def dp1{c:UInt8}(h:bX c=Xe):kE c=false:=by
 unfold bX at h;unfold kE;simp at h⊢
 omega
def ad2(a:Nat)(c:UInt8)(r:ar):lR a (c::r)=if 1048576<10*a+(c.toNat - 48)then WY else lR (10*a+(c.toNat - 48)) r:=rfl
def ak6:∀(l:ar)(a:Nat)(r:ar),lR a (l++r)=(lR a l).bind λb=>lR b r
 |[],a,r=>rfl
 |c::l,a,r=>by
  rw[XI,ad2,ad2];split
  .rfl
  .exact ak6 l _ r
def ak7:∀(n u:Nat),u<=n->u<=1048576->lR 0 (Xx u)=WX u
 |0,u,hn,_=>by have:u=0:=YN;subst this;rw[Xx,dif_pos YN];rfl
 |n+1,u,hn,hu=>by
  rw[Xx];by_cases c:u<10
  .rw[dif_pos c];unfold lR;simp only
   rw[E5 u c,if_neg YN];unfold lR;congr 1;omega
  .rw[dif_neg c,ak6,ak7 n (u / 10) (by omega) (by omega)];show lR (u / 10) [UInt8.ofNat (48+u%10)]=_;unfold lR;simp only
   rw[E5 (u%10) YN,if_neg YN];unfold lR;congr 1;omega
def Vn(u:Nat):Xg (u:Int)=Xx u:=by unfold Xg;rw[if_neg YN];simp
def ak8:∀(n u:Nat),u<=n->(Xx u).head?=WX 48->u=0
 |0,u,hn,_=>by omega
 |n+1,u,hn,h=>by
  rw[Xx]at h;by_cases j:u<10
  .rw[dif_pos j]at h;have y:Yn (48+u)=48:=XY h;have:=congrArg UInt8.toNat y;rw[E5 u j]at this;have e:(48:UInt8).toNat=48:=rfl;omega
  .rw[dif_neg j]at h;cases hd:Lib.decDigits (u / 10)with
   |nil=>exact absurd hd (Lj _)
   |cons c r=>rw[hd]at h;have:=ak8 n (u / 10) YN (by rw[hd];exact h);omega
def dp2(u:Nat)(s:ar)(O:u<=1048576)(D:E9 cX s):tok (Xx u++s)= .ok (3,Xx u,u):=by
 have y:(Xx u).all bX=true:=by rw[XM];intro c j;have:=E6 u u (am _) c j;unfold bX;simp;omega
 have z:E9 bX s:=λc j=>by have:=D c j;unfold cX at this;simp at this;simp[this]
 have U:E9 gF s:=λc j=>by have:=D c j;unfold cX at this;simp at this;unfold gF;simp[this]
 have A:=O6 (p:=bX) _ s y z;have F:(s.takeWhile gF)=[]:=by have:=O6 (p:=gF) [] s rfl U;simpa using this
 cases hd:Xx u with
 |nil=>exact absurd hd (Lj _)
 |cons c r=>
  rw[hd]at A y;have j:bX c=true:=by simp at y;exact y.1
  show tok (c::(r++s))=_;unfold tok;simp only;rw[if_neg (by rw[dp1 j];simp),if_pos j];unfold zP;rw[XI]at A;simp only[A];have V:(List.drop (c::r).length (c::(r++s)))=s:=YQ;rw[V,F];rw[if_neg (by
   rintro(⟨C,I⟩|h)
   .have J:(Lib.decDigits u).head?=some 48:=by rw[hd];simpa using I
    have G:=ak8 u u (am _) J;subst G;rw[Xx,dif_pos YN]at hd;rw[<-hd]at C;simp at C
   .exact h rfl)]
  rw[<-hd,ak7 u u (am _) O]
abbrev de:=Nat×ar×Nat
def kX(x:de):Prop:=
 (x.2.1.all cX=Xe/\kE (x.2.1.headD 0)=Xe/\x.2.1.length<=31/\x.1=(if x.2.1∈dP then 2 else 1)/\x.2.2=0)\/
 (x.1=3/\x.2.1=Xx x.2.2/\x.2.2<=1048576)\/(x.1=4/\x.2.2=0/\(x.2.1=[59]\/x.2.1=[44]))
def iq:List de->ar
 |[]=>[]
 |x::r=>(if x.1=4 then x.2.1 else 32::x.2.1)++iq r
def fI.strip(t:fI):de:=(t.kind,t.text,t.n)
def kX.head{x:de}(h:kX x):∃c r,x.2.1=c::r/\gX c=Xc/\c≠35:=by
 rcases h with⟨_,h,_⟩|⟨_,h,_⟩|⟨_,_,h⟩
 .cases hx:x.2.1 with
  |nil=>rw[hx]at h;exact absurd h aF
  |cons c r=>
   rw[hx]at h;have j:kE c=true:=h;refine⟨c,r,rfl,?_,?_⟩
   .unfold kE at j;unfold gX;simp at j⊢
    refine⟨⟨⟨?_,?_⟩,?_⟩,?_⟩<;>rintro rfl<;>revert j<;>decide
   .rintro rfl;revert j;decide
 .cases hx:Lib.decDigits x.2.2 with
  |nil=>exact absurd hx (Lj _)
  |cons c r=>
   have j:=E6 x.2.2 x.2.2 (am _) c (by rw[hx];simp);refine⟨c,r,by rw[h,hx],?_,?_⟩
   .unfold gX;simp;refine⟨⟨⟨?_,?_⟩,?_⟩,?_⟩<;>rintro rfl<;>revert j<;>decide
   .rintro rfl;revert j;decide
 .rcases h with h|h
  .exact⟨59,[],h,by decide,by decide⟩
  .exact⟨44,[],h,by decide,by decide⟩
def kX.tok{x:de}(h:kX x)(s:ar)(C:E9 cX s):tok (x.2.1++s)= .ok x:=by
 obtain⟨k,t,n⟩:=x;rcases h with⟨c,j,y,z,A⟩|⟨c,j,y⟩|⟨c,j,y⟩
 .dsimp only at c j y z A⊢
  rw[dp0 t s c j y C,z,A]
 .dsimp only at c j y⊢
  rw[j,dp2 n s y C,c]
 .dsimp only at c j y⊢
  subst c;subst j;rcases y with rfl|rfl<;>rfl
def Lm(x:de)(r:List de):iq (x::r)=(if x.1=4 then x.2.1 else 32::x.2.1)++iq r:=rfl
def dp3(r:List de)(s:ar)(z:∀x∈r,kX x):E9 cX (iq r++10::s):=by
 cases r with
 |nil=>intro c j;injection j with j;subst j;rfl
 |cons x r=>
  intro c j;unfold iq at j;by_cases y:x.1=4
  .rw[if_pos y]at j;rcases z x (by simp)with⟨_,_,_,h,_⟩|⟨h,_⟩|⟨_,_,h⟩
   .rw[y]at h;split at h<;>omega
   .omega
   .rcases h with h|h<;>rw[h]at j<;>injection j with j<;>subst j<;>rfl
  .rw[if_neg y]at j;injection j with j;subst j;rfl
def ak9:∀(ts:List de)(s:ar)(len:Nat),(∀x∈ts,kX x)->
 ∃l:List fI,l.map fI.strip=ts/\gU len (ch (iq ts++10::s))=(gU len (ch s)).map (l++ ·)
 |[],s,len,_=>by
  refine⟨[],rfl,?_⟩;rw[iq,XZ,Vd aF];cases gU len (ch s)<;>rfl
 |x::r,s,len,h=>by
  obtain⟨l,hl,hs⟩:=ak9 r s len λy hy=>h y rr;have hx:=h x YQ;obtain⟨c,q,hq,hb,mE⟩:=hx.head;have C:=dp3 r s λy hy=>h y rr;have j:ch (iq (x::r)++10::s)=c::(q++(iq r++10::s)):=by
   rw[Lm];split
   .rw[hq];simp only[XI,XJ];rw[ZZ hb mE]
   .rw[hq];simp only[XI,XJ];rw[Vd aF,ZZ hb mE]
  have z:tok (c::(q++(iq r++10::s)))= .ok x:=by have:=hx.tok _ C;rw[hq]at this;exact this
  rw[j,gU,z];simp only
  have A:(q++(iq r++10::s)).drop (x.2.1.length - 1)=iq r++10::s:=by rw[hq];simp
  rw[A,hs];refine⟨⟨x.1,x.2.1,x.2.2,len - ((q++(iq r++10::s)).length+1)⟩::l,by simp[hl,fI.strip],?_⟩;cases gU len (ch s)<;>rfl
end
section
open Go Go.RowKit Go.MapKept Go.Proofs.Tryz
def dx8(xb:Nat)(k:Nat):LG xb k=if k=0 then WX (.func (.func 255) #[] #[aq xb])else if k=1 then WX (.func (.func 256) #[] #[aq xb])else if k=2 then WX (.func (.func 257) #[] #[aq xb])else none:=by
 unfold LG aX;by_cases c:k=0
 .subst c;rfl
 by_cases j:k=1
 .subst j;rfl
 by_cases y:k=2
 .subst y;rfl
 have z:¬(k:Int)=0:=YN;have A:¬(k:Int)=1:=YN;have C:¬(k:Int)=2:=YN;simp[c,j,y,z,A,C]
def dx9(m:aT)(v:MV)(x:em)(A:Option Yy)(n c:Nat)(w:Xa)(X:m.In w w v)(V:¬(0<=x.kind/\x.kind<=2)):
 aR 167 #[YJ (m.cells v),YJ (x.vals (YG A n c))] w (YH Xc):=by
 have O:=ah (show LG (w+1) x.kind=WY from by unfold LG aX;rw[if_neg YN,if_neg YN,if_neg YN]);refine uC λlZ=>?_;refine nL λnq=>?_;have Y:=ah (as6 w);have j:=ah (sC w (m.cells v) (x.vals (YG A n c)) 29 92);have lj:=λw=>dx7 w;rw[em.vals_def]at j⊢
 rw[aT.cells_def]at j⊢
 clear X V;go_enter func167,ntmps167;go_wp2_with first
  |(refine ea rfl (YL 7) (YM (Xo XO 0)) (YL 8) 258 (.inr rfl) 3 36 (.int XO) underlying258 Xj co (w+1+1) (λ_=>WY) rfl (Y.o _ _) 0 (.func (.func 255) #[] #[aq (w+1)]) rfl rfl ?_;intro w1 F y)
  |(refine ea rfl (YL 7) (YM (Xo XO 1)) (YL 9) 258 (.inr rfl) 3 36 (.int XO) underlying258 Xj co (w+1+1) _ rfl F 1 (.func (.func 256) #[] #[aq (w+1)]) rfl rfl ?_;intro w2 G z)
  |(refine ea rfl (YL 7) (YM (Xo XO 2)) (YL 10) 258 (.inr rfl) 3 36 (.int XO) underlying258 Xj co (w+1+1) _ rfl G 2 (.func (.func 257) #[] #[aq (w+1)]) rfl rfl ?_;intro w3 I C;have Z:=ah (C.1 _ _ (z.1 _ _ (y.1 _ _ (ai (ai (ai (aj w) _) _) _) YN) YN) YN);have U:=ah (λi(D:¬i=w.heap.size+1+1)=>(C.2.2 i D).trans ((z.2.2 i D).trans (y.2.2 i D)));have J:=(U.o (w+1) YN).trans (jO j.o.2 (ai (aj _) _) (blk_lt j.o.2));have a1:w3.cell? ⟨w+1,1,WY⟩=WX (Xo XO x.kind):=ap J rfl;have rd:=ah I;clear F y G z I C J)
  |(at_lookup;refine Bz rfl (.tmp 12) (.tmp 14) 258 false rfl 3 36 (.int .i64) underlying258 underlying3 co (w+1+1) _ rfl rd.o x.kind .nilFunc rfl (zeroValue36 _) ?_
    rw[show aX (aX (aX (λ_=>WY) 0 (Value.func (.func 255) #[] #[aq (w+1)])) 1 (.func (.func 256) #[] #[aq (w+1)])) 2 (.func (.func 257) #[] #[aq (w+1)]) x.kind=WY from O.o];simp only[Option.getD_none,XC,if_false])
 go_ret;exact⟨rfl,Z.o⟩
def ef9(m:aT)(v:MV)(x:em)(o:Xb)(w:Xa)(C:m.In w w v)(ho:aW w w o x.on):
 aR 167 #[YJ (m.cells v),YJ (x.vals o)] w (YH (dN m x)):=by
 by_cases h:0<=x.kind/\x.kind<=2
 .obtain⟨k,hk⟩:∃k:Nat,x.kind=k:=⟨x.kind.toNat,by omega⟩;have D:k<=2:=by omega
  rw[ea3 m x k D hk];have z:=dx8 (w+1) k;rw[<-hk]at z;have:k=0\/k=1\/k=2:=YN;rcases this with rfl|rfl|rfl
  .exact VW m v x o w _ _ (Xk func255 aI rfl) C ho z (λW j y=>dx3 x o _ W j y)
  .exact VW m v x o w _ _ (Xk func256 aI rfl) C ho z (λW j y=>dx4 x o _ W j)
  .exact VW m v x o w _ _ (Xk func257 aI rfl) C ho z (λW j y=>dx5 x o _ W j y)
 .rw[dx2 m x h];obtain⟨A,n,c,rfl,_,_,_⟩:=ho.sk.form;exact dx9 m v x A n c w C h
def P3:Int->Option Value:=(aX (aX (aX (aX (aX (aX (aX (λ_=>WY) 0 (YJ #[.func (.func 330) #[] #[],.func (.func 332) #[] #[]])) 1 (YJ #[.func (.func 333) #[] #[],.func (.func 334) #[] #[]])) 2 (YJ #[.func (.func 335) #[] #[],.func (.func 336) #[] #[]])) 3 (YJ #[.func (.func 337) #[] #[],.func (.func 338) #[] #[]])) 4 (YJ #[.func (.func 339) #[] #[],.func (.func 340) #[] #[]])) 5 (YJ #[.func (.func 341) #[] #[],.func (.func 342) #[] #[]])) 6 (YJ #[.func (.func 343) #[] #[],.func (.func 344) #[] #[]]))
def as9(w:Xa):
 Xq Xn 260 #[] w λe w'=>∃M,e=Ya (.map (WX M))/\dg iK w' M P3/\w.heap.size<=M/\Below w w w':=by
 refine uC λlZ=>?_;go_enter func260,ntmps260;go_wp2_with first
  |(refine ea rfl (YL 1) (YM (Xo XO 0)) (YL 2) 264 (.inr rfl) 3 262 (.int XO) underlying264 Xj co w (λ_=>WY) rfl (dg.made iK w) 0 (YJ #[.func (.func 330) #[] #[],.func (.func 332) #[] #[]]) rfl rfl ?_;intro Z D y)
  |(refine ea rfl (YL 1) (YM (Xo XO 1)) (YL 3) 264 (.inr rfl) 3 262 (.int XO) underlying264 Xj co w _ rfl D 1 (YJ #[.func (.func 333) #[] #[],.func (.func 334) #[] #[]]) rfl rfl ?_;intro w2 F z)
  |(refine ea rfl (YL 1) (YM (Xo XO 2)) (YL 4) 264 (.inr rfl) 3 262 (.int XO) underlying264 Xj co w _ rfl F 2 (YJ #[.func (.func 335) #[] #[],.func (.func 336) #[] #[]]) rfl rfl ?_;intro w3 G A)
  |(refine ea rfl (YL 1) (YM (Xo XO 3)) (YL 5) 264 (.inr rfl) 3 262 (.int XO) underlying264 Xj co w _ rfl G 3 (YJ #[.func (.func 337) #[] #[],.func (.func 338) #[] #[]]) rfl rfl ?_;intro w4 V U)
  |(refine ea rfl (YL 1) (YM (Xo XO 4)) (YL 6) 264 (.inr rfl) 3 262 (.int XO) underlying264 Xj co w _ rfl V 4 (YJ #[.func (.func 339) #[] #[],.func (.func 340) #[] #[]]) rfl rfl ?_;intro w5 J C)
  |(refine ea rfl (YL 1) (YM (Xo XO 5)) (YL 7) 264 (.inr rfl) 3 262 (.int XO) underlying264 Xj co w _ rfl J 5 (YJ #[.func (.func 341) #[] #[],.func (.func 342) #[] #[]]) rfl rfl ?_;intro w6 j X)
  |(refine ea rfl (YL 1) (YM (Xo XO 6)) (YL 8) 264 (.inr rfl) 3 262 (.int XO) underlying264 Xj co w _ rfl j 6 (YJ #[.func (.func 343) #[] #[],.func (.func 344) #[] #[]]) rfl rfl ?_;intro w7 O I;have Y:=ah (I.1 _ _ (X.1 _ _ (C.1 _ _ (U.1 _ _ (A.1 _ _ (z.1 _ _ (y.1 _ _ (ai (aj w) _) (am _)) (am _)) (am _)) (am _)) (am _)) (am _)) (am _));have c:=ah O;clear D y F z G A V U J C j X O I)
 go_ret;exact⟨_,rfl,c.o,am _,Y.o⟩
def eg0{k:Int}(h:¬(0<=k/\k<=6)):P3 k=none:=by unfold P3 aX;repeat rw[if_neg YN]
end
section
open Go Go.RowKit Go.MapKept Go.ChangeMaps Go.Proofs.Tryz
def LJ(w:Xa)(l:List ByteArray)(e:Ys)(w':Xa):Prop:=
 Below w w w'/\match iX l with
  |some y=>∃m s,e=Ya (.tuple #[YJ (y.cells m s),Xo XO 0])/\y.In w' w' m s/\jQ w m/\jQ w s
  |none=>e=Ya (.tuple #[YJ ((bW 0).cells aM aM),Xo XO 3])
def P5(b:Nat->Nat):List (Xb×Xb):=(items b).map kI.kv
def V7(b:Nat->Nat):∀p∈P5 b,IsKey .string p.1:=by intro p c;obtain⟨x,_,rfl⟩:=List.mem_map.1 c;exact uB
def V8(b:Nat->Nat){j:Nat}{x:kI}(h:(items b)[j]?=WX x):∃k,xX[j]?=WX k/\x.word=bH k:=by
 have c:((items b).map (·.word))[j]?=WX x.word:=by rw[Xr,h];rfl
 rw[at0,Xr]at c;obtain⟨k,hk,e⟩:=Option.map_eq_some_iff.1 c;exact⟨k,hk,e.symm⟩
def ap2:∀k∈xX,k<18:=aF
def ap3(b:Nat->Nat){s:ByteArray}(h:pS s=WY):∀p∈P5 b,IsKey .string p.1/\p.1≠ .string s:=by
 intro p y;refine⟨V7 b p y,λe=>?_⟩;obtain⟨x,hx,rfl⟩:=List.mem_map.1 y;obtain⟨j,hj⟩:=List.mem_iff_getElem?.1 hx;obtain⟨k,hk,hw⟩:=V8 b hj;have c:bs x.word=s:=by injection e
 rw[hw]at c;have:=O3 k (ap2 k (fK hk));rw[c,h]at this;cases this
def ec8(b:Nat->Nat){s:ByteArray}{k:Nat}(h:pS s=WX k):
 ∃(j:Nat)(x:kI),(items b)[j]?=WX x/\xX[j]?=WX k/\(∀p∈P5 b,p.1=Xp s->p.2=x.val)/\∃p∈P5 b,p.1=Xp s:=by
 obtain⟨bz9,hs⟩:=Vm h;obtain⟨j,hj⟩:=List.mem_iff_getElem?.1 (ao7 k bz9);have D:j<18:=(List.getElem?_eq_some_iff.1 hj).1;obtain⟨x,hx⟩:∃x,(items b)[j]?=WX x:=⟨_,Xd (by rw[P4];exact D)⟩;obtain⟨k',z,hw⟩:=V8 b hx;rw[hj]at z;injection z with z;subst z;refine⟨j,x,hx,hj,λp F e=>?_,⟨x.kv,List.mem_map.2 ⟨x,fK hx,rfl⟩,by show Xp (bs x.word)=_;rw[hw,hs]⟩⟩;obtain⟨y,hy,rfl⟩:=List.mem_map.1 F;obtain⟨i,c⟩:=List.mem_iff_getElem?.1 hy;obtain⟨k2,gE,lH⟩:=V8 b c;have C:bs y.word=s:=by injection e
 rw[lH]at C;have:=O3 k2 (ap2 k2 (fK gE));rw[C,h]at this;injection this with this;subst this;have A:j=i:=(List.getElem?_inj (List.getElem?_eq_some_iff.1 hj).1 (by decide:xX.Nodup)).1 (hj.trans gE.symm);subst A;rw[hx]at c;injection c with c;subst c;rfl
def ap4(w:Xa):(zeroValue 73).run Xn w= .ok (YJ #[Xp ⟨#[]⟩,Xo XO 0,.nilFunc,.nilFunc,.nilFunc,.nilFunc]) w:=aI
def ap5(s:ByteArray)(F:s.size<=100000):(cP s).length<=100001/\∀x∈cP s,x.size<=100000:=by
 refine⟨?_,λx hx=>?_⟩
 .unfold cP;have j:=Lib.splitB_length_le (bs [32]) 0 (Yj s (bs [32])) s;have z:=Lib.countB_le (bs [32]) aF s.size s (am _);omega
 .obtain⟨w,r,j,z⟩:=Ll s;rw[j]at hx;have A:s.size=(Lib.join ((w::r).map (·.data.toList)) [32]).length:=by rw[<-dd,z]
  rw[XA,Lib.join_length]at A;have C:x.data.toList.length<=Lib.lens (w.data.toList::r.map (·.data.toList)):=by
   have:∀l:List (List UInt8),∀y∈l,y.length<=Lib.lens l:=by
    intro l;induction l with
    |nil=>intro y c;cases c
    |cons a t ih=>
     intro y c;have e:Lib.lens (a::t)=a.length+Lib.lens t:=by simp[Lib.lens]
     rcases List.mem_cons.1 c with rfl|c
     .omega
     .have:=ih y c;omega
   exact this _ _ (by
    rcases List.mem_cons.1 hx with rfl|hx
    .simp
    .exact List.mem_cons_of_mem _ (List.mem_map.2 ⟨x,hx,rfl⟩))
  have D:x.data.toList.length=x.size:=Nz;omega
def P6{w:Xa}{r:Nat}{c j y z A C D F G I:Xb}{t:Xv}(h:w.heap[r]?=WX (YI #[c,j,y,z,A,C,D,F,G,I] t (0,0))):
 (w.cell? r=WX c/\w.cell? (r 1 WY)=WX j/\w.cell? (r 2 WY)=WX y/\w.cell? (r 3 WY)=WX z/\w.cell? (r 4 WY)=WX A/\w.cell? (r 5 WY)=WX C/\w.cell? (r 6 WY)=WX D/\w.cell? (r 7 WY)=WX F/\w.cell? (r 8 WY)=WX G/\w.cell? (r 9 WY)=WX I)/\
 ∀o,w.frozen? (r o WY)=false:=by
 refine⟨⟨?_,?_,?_,?_,?_,?_,?_,?_,?_,?_⟩,λo=>mZ h o⟩<;>exact j8 h sQ
def ec9{s:ByteArray}(h:pS (aJ (cP s) 0)=WY):iX (cP s)=none:=by
 obtain⟨w,r,h1,_⟩:=Ll s;rw[h1]at h⊢
 have c:pS w=none:=h;simp[iX,c]
def V9{s:ByteArray}{k:Nat}(h:pS (aJ (cP s) 0)=WX k):iX (cP s)=(ip k ((cP s).drop 1)).bind λy=>if dx y then WX y else none:=by
 obtain⟨w,r,h1,_⟩:=Ll s;rw[h1]at h⊢
 have c:pS w=WX k:=h;simp[iX,c]
def ap6{k:Nat}{l:List ByteArray}{y:aS}(h:ip k l=WX y):y.ms.length<=l.length/\y.ss.length<=l.length:=by
 have c:∀(k:Int)(j:Nat),lU k j l=WX y->y.ms.length<=l.length/\y.ss.length<=l.length:=λk j h=>by obtain⟨vs,_,rfl⟩:=Option.map_eq_some_iff.1 h;simp[bW]
 unfold ip at h;split at h
 .unfold CS at h;split at h
  .injection h with h;subst h;simp[bW]
  .cases h
 split at h
 .unfold qW at h;split at h
  .cases h
  .obtain⟨vs,hv,h⟩:=Option.bind_eq_some_iff.1 h;obtain⟨a,ha,rfl⟩:=Option.map_eq_some_iff.1 h;have:=CJ hv;rw[XG]at this;exact⟨by simp[bW],by show vs.length<=_;omega⟩
 split at h
 .exact c _ _ h
 split at h
 .unfold qX at h;split at h
  .cases h
  .obtain⟨q,hq,h⟩:=Option.bind_eq_some_iff.1 h;obtain⟨vs,hv,rfl⟩:=Option.map_eq_some_iff.1 h;simp[bW]
 split at h
 .unfold tx at h;split at h
  .obtain⟨vs,hv,h⟩:=Option.bind_eq_some_iff.1 h;obtain⟨u,hu,rfl⟩:=Option.map_eq_some_iff.1 h;simp[bW]
  .cases h
 split at h
 .exact c _ _ h
 split at h
 .obtain⟨vs,hv,rfl⟩:=Option.map_eq_some_iff.1 h;have:=CJ hv;exact⟨by show vs.length<=_;omega,by simp[bW]⟩
 .exact c _ _ h
def ed0{k:Nat}{l:List ByteArray}{y:aS}(h:ip k l=WX y)(A:k<18)(j:∀x∈l,x.size<=100000){w:Xa}{B:Nat}{m s:Xb}(hm:aW w B m y.ms)(z:aW w B s y.ss):y.In w B m s:=by
 obtain⟨h1,_,hN,cj,c⟩:=ad1 h;refine⟨?_,hN.a,hN.b,hN.c,cj,?_,hN.val,hN.old,hm,z⟩
 .rw[h1];exact⟨by omega,by omega⟩
 .rcases c with c|c
  .rw[c];exact cb _
  .have:=j _ c;omega
def ed1(wc:Xa)(k:Nat)(c:Int)(h:c=k):eZ (wc.alloc (YI #[c,Xo XO 0,Xo XO 0,Xo XO 0,Xo XO 0,Xp ⟨#[]⟩,Xo XO 0,Xo XO 0,YG WY 0 0,YG WY 0 0] 45)) wc (bW k) aM aM:=by unfold eZ;rw[nd,<-h];exact X1 wc _
def Sl.set{w:Xa}{B r:Nat}{v:Xb}{xs:List Xb}(h:Sl w B v xs)(y:∀a n c,v=YG (WX a) n c->¬a.block=r)(o:Nat)(u:Xb):Sl (w.setCell (r o WY) u) B v xs:=by obtain⟨A,c,rfl,h1,h2,h3⟩:=h;refine⟨A,c,rfl,h1,h2,λz=>?_⟩;obtain⟨b,o',rfl,hb,hc⟩:=h3 z;exact⟨b,o',rfl,hb,λj D C=>(Vj (y _ _ _ rfl)).trans (hc j D C)⟩
def In.set{y:aS}{w:Xa}{r:Nat}{m s:Xb}(h:y.In w w m s)(hm:∀a n c,m=YG (WX a) n c->¬a.block=r)(j:∀a n c,s=YG (WX a) n c->¬a.block=r)(o:Nat)(u:Xb):y.In (w.setCell (r o WY) u) (w.setCell (r o WY) u).heap.size m s:=by
 have e:(w.setCell (r o WY) u).heap.size=w.heap.size:=by simp[Ye]
 rw[e];exact⟨h.kind,h.a,h.b,h.c,h.ok,h.key,h.val,h.old,⟨Sl.set h.ms.1 hm o u,h.ms.2⟩,⟨Sl.set h.ss.1 j o u,h.ss.2⟩⟩
def ed2{s:ByteArray}{k:Nat}(h:pS s=WX k):k<18:=(Vm h).1
def V_(w1:Xa)(k:Nat)(p:Xb)(wx:Xa):Prop:=
 ∃(pb:Nat)(x:kI),p=aq pb/\w1.heap.size<=pb/\jR wx k x/\Below w1 w1 wx/\wx.heap[pb]?=WX (YI #[bs x.word,x.kind,bq x.gu #[],bq x.gf x.caps,bq x.gr #[],bq x.gt #[]] 73 (0,0))
def ed3(s:ByteArray)(w:Xa)(hG:cV w)(hs:s.size<=100000)(hk:pS (aJ (cP s) 0)=WY):
 Xq Xn 10 #[s] w (LJ w (cP s)):=by
 have SP:=λW(h:cV W)=>Pf s W h YN;simp only[show Lib.splitB (bs [32]) 0 (Yj s (bs [32])) s=cP s from rfl]at SP;refine P7 λAn HP HG yu HK=>?_;clear hk;clear SP hG;go_enter func10,ntmps10;go_upto_region 2 with(go_at_call 20;refine(An.o _ (HG.o.step (ai (aj w) _))).m ?_;rintro e w1 ⟨v,rfl,hv,V,ay⟩)
 obtain⟨A,n,c,rfl,hn,mJ,fk⟩:=hv.form;have O:1<=n:=YN;obtain⟨bl,ol,rfl,ig,bb⟩:=hv.at_ 0 O;have lo:=bb 0 O;rw[Xt]at lo;refine P8 λi0 n0 i1 i2 i3 n2 HV HN HR aZ bk=>?_;clear hv hn bb ay V;go_cut [5,6] (λ_ q wx=>q=YH Xc/\Below w1 w1 wx)
 case first=>
  rename_i J K' G F;have U:=ah G;have tL:=ah F;clear G F;go_region_held3 (λw'=>w'.cell? (bl ol WY)=WX (Xp (aJ (cP s) 0))) (go_simp)
   (first
     |(go_at_call 29;refine(HP.o _).m ?_;rintro e j ⟨M,b,rfl,C,I,vO,Z,z⟩;have y:Below w1 w1 j:=by first|exact ak (a_ (aj w1)) z|exact ak (a_ (ai (aj w1) _)) z
       have jJ:(XB 75 (.map (WX M)) (Xp (aJ (cP s) 0)) Xe).run Xn j= .ok (.tuple #[YJ #[Xp ⟨#[]⟩,Xo XO 0,.nilFunc,.nilFunc,.nilFunc,.nilFunc],YH Xc]) j:=K8 underlying75 X0 C Xe uB (ap3 b HK.o) (ap4 _);have gE:∀o,(XB 75 (.map (WX M)) (Xp (aJ (cP s) 0)) Xe).run Xn (j.alloc o)= .ok (.tuple #[YJ #[Xp ⟨#[]⟩,Xo XO 0,.nilFunc,.nilFunc,.nilFunc,.nilFunc],YH Xc]) (j.alloc o):=λo=>K8 underlying75 X0 (C.later (ai (aj j) o)) Xe uB (ap3 b HK.o) (ap4 _);have dp:∀b o,b<w1.heap.size->j.cell? ⟨b,o,WY⟩=w1.cell? ⟨b,o,WY⟩:=λb o h=>y.cell (p:=⟨b,o,WY⟩) h;obtain⟨iB,AQ⟩:=nH z;try(have ij:w1.heap.size<j:=by(have hq:=z.size;simp at hq;omega))
       have X:bl<j:=bt ig y.size;have Y:¬bl=j:=YN;have bh:w.heap.size<j:=bt aZ y.size;have HL:=ah C;have HX:=ah I;clear C I vO Z z))
  all_goals (dsimp only[Exit.then];refine tL.o _ _ (Met.intro (U.o _ _ ?_));(repeat apply Exists.intro);refine⟨⟨rfl,?_⟩,rfl⟩;first|with_reducible exact ai y _|(repeat' first|with_reducible exact y|with_reducible refine cF ?_ (am _) _))
 case rest=>
  obtain⟨rfl,y⟩:=hcut;have D:=(y.block w aZ).trans HR.o;rw[nd]at D;obtain⟨⟨d0,d1,d2,d3,d4,d5,d6,d7,d8,d9⟩,fr⟩:=P6 D;refine P9 λf0 f1 f2 f3 f4 f5 f6 f7 f8 f9=>?_;clear D fr;go_wp2_with fail
  refine V' ?_;refine⟨?_,?_⟩
  .have hb:=bk.o.trans (y.mono bk.o.size);repeat' first|with_reducible exact hb|with_reducible refine cF ?_ (am _) _
  .rw[ec9 HK.o]
def ed4(s:ByteArray)(w:Xa)(hG:cV w)(hs:s.size<=100000)(k:Nat)(hk:pS (aJ (cP s) 0)=WX k)(F:ip k ((cP s).drop 1)=WY):
 Xq Xn 10 #[s] w (LJ w (cP s)):=by
 have SP:=λW(h:cV W)=>Pf s W h YN;simp only[show Lib.splitB (bs [32]) 0 (Yj s (bs [32])) s=cP s from rfl]at SP;refine P7 λAn HP HG yu HK=>?_;have yA:=ah F;clear F;clear hk;clear SP hG;go_enter func10,ntmps10;go_upto_region 2 with(go_at_call 20;refine(An.o _ (HG.o.step (ai (aj w) _))).m ?_;rintro e w1 ⟨v,rfl,hv,O,ay⟩)
 obtain⟨A,n,c,rfl,hn,mJ,fk⟩:=hv.form;have G:1<=n:=YN;obtain⟨bl,ol,rfl,ig,bb⟩:=hv.at_ 0 G;have U:=bb 0 G;rw[Xt]at U;refine P8 λi0 n0 i1 i2 i3 n2 HV HN HR aZ bk=>?_;clear hv hn bb ay O;go_cut [5,6] (λp q V=>q=YH Xe/\V_ w1 k p V)
 case first=>exact Wa
 case rest=>
  obtain⟨rfl,pb,⟨word,kind,gu,gf,caps,gr,gt⟩,rfl,mf,hF,ba,vI⟩:=hcut;have Y:=ah vI;obtain⟨⟨p0,p1,p2,p3,p4,p5⟩,_⟩:=LI vI;have t_:kind=k:=hF.kind;have er:=hF.er;unfold dw at er;simp only at er;refine Wb λks tK gw bh aU uX=>?_;simp only[bq]at p4;clear hF ba vI t_ p0 p2 p3 p5;simp only[aq];go_wp2_with fail
  refine Wc ?_;intro W ⟨aY,gW,Z,X⟩;refine Wd λbo iU F' h8 pR Gv BU=>?_;clear aY gW p1 p4;have C:∀z∈(cP s).drop 1,z.size<=1000000:=λz h=>by have:=yu.o.2 z (X8 h);omega
  have I:((cP s).drop 1).length<=100000:=Sg;have Dy:=ah C;have Ag:=ah I;clear C I;by_cases D:¬c=1
  .have y:cB W.drew wc (.slice (some ⟨bl,ol+1,none⟩) (n - 1) (c - 1)) ((cP s).drop 1):=
    cB.below (((HV.o.drop 1 YN).below aU.o (am _)).more aU.o.size) (a_ bo.o) (am _)
   have DJ:=ah y;clear y;refine po 11 ?_;refine lw 0 24 ?_;iterate 2 refine iT 12 24 ?_
   refine fi 1 λK hK=>?_;go_simp;refine hK _ _ ?_;clear hK K;refine aO ?_;refine fi 4 λK hK=>?_;go_simp;refine We ?_;exact ap7
  .obtain rfl:c=1:=Classical.not_not.1 D;obtain rfl:n=1:=by omega
   have hd:(cP s).drop 1=[]:=R8;have y:cB W.drew wc (YG (WX (bl ol WY)) 0 0) ((cP s).drop 1):=JM;have DJ:=ah y;clear y D hd;refine po 11 ?_;refine lw 0 24 ?_;iterate 2 refine iT 12 24 ?_
   refine fi 1 λK hK=>?_;go_simp;refine hK _ _ ?_;clear hK K;refine aO ?_;refine fi 4 λK hK=>?_;go_simp;refine Wg ?_;exact ap7
def ed5(s:ByteArray)(w:Xa)(hG:cV w)(hs:s.size<=100000)(k:Nat)(hk:pS (aJ (cP s) 0)=WX k)(y:aS)(G:ip k ((cP s).drop 1)=WX y)(hv:dx y=Xc):
 Xq Xn 10 #[s] w (LJ w (cP s)):=by
 have SP:=λW(h:cV W)=>Pf s W h YN;simp only[show Lib.splitB (bs [32]) 0 (Yj s (bs [32])) s=cP s from rfl]at SP;refine P7 λAn HP HG yu HK=>?_;have yA:=ah G;have Jz:=ah hv;clear G hv;clear hk;clear SP hG;go_enter func10,ntmps10;go_upto_region 2 with(go_at_call 20;refine(An.o _ (HG.o.step (ai (aj w) _))).m ?_;rintro e w1 ⟨v,rfl,hv,U,ay⟩)
 obtain⟨A,n,c,rfl,hn,mJ,fk⟩:=hv.form;have I:1<=n:=YN;obtain⟨bl,ol,rfl,ig,bb⟩:=hv.at_ 0 I;have V:=bb 0 I;rw[Xt]at V;refine P8 λi0 n0 i1 i2 i3 n2 HV HN HR aZ bk=>?_;clear hv hn bb ay U;go_cut [5,6] (λp q X=>q=YH Xe/\V_ w1 k p X)
 case first=>exact Wa
 case rest=>
  obtain⟨rfl,pb,⟨word,kind,gu,gf,caps,gr,gt⟩,rfl,mf,hF,ba,vI⟩:=hcut;have Y:=ah vI;obtain⟨⟨p0,p1,p2,p3,p4,p5⟩,_⟩:=LI vI;have t_:kind=k:=hF.kind;have er:=hF.er;unfold dw at er;simp only at er;refine Wb λks tK gw bh aU uX=>?_;simp only[bq]at p4;clear hF ba vI t_ p0 p2 p3 p5;simp only[aq];go_wp2_with fail
  refine Wc ?_;intro W ⟨aY,gW,Z,Cl⟩;refine Wd λbo iU F' h8 pR Gv BU=>?_;clear aY gW p1 p4;have D:∀C∈(cP s).drop 1,C.size<=1000000:=λC h=>by have:=yu.o.2 C (X8 h);omega
  have O:((cP s).drop 1).length<=100000:=Sg;have Dy:=ah D;have Ag:=ah O;clear D O;by_cases F:¬c=1
  .have z:cB W.drew wc (.slice (some ⟨bl,ol+1,none⟩) (n - 1) (c - 1)) ((cP s).drop 1):=
    cB.below (((HV.o.drop 1 YN).below aU.o (am _)).more aU.o.size) (a_ bo.o) (am _)
   have DJ:=ah z;clear z;refine po 11 ?_;refine lw 0 24 ?_;iterate 2 refine iT 12 24 ?_
   refine fi 1 λK hK=>?_;go_simp;refine hK _ _ ?_;clear hK K;refine aO ?_;refine fi 4 λK hK=>?_;go_simp;refine We ?_;exact ap8
  .obtain rfl:c=1:=Classical.not_not.1 F;obtain rfl:n=1:=by omega
   have hd:(cP s).drop 1=[]:=R8;have z:cB W.drew wc (YG (WX (bl ol WY)) 0 0) ((cP s).drop 1):=JM;have DJ:=ah z;clear z F hd;refine po 11 ?_;refine lw 0 24 ?_;iterate 2 refine iT 12 24 ?_
   refine fi 1 λK hK=>?_;go_simp;refine hK _ _ ?_;clear hK K;refine aO ?_;refine fi 4 λK hK=>?_;go_simp;refine Wg ?_;exact ap8
def el8(s:ByteArray)(w:Xa)(hG:cV w)(hs:s.size<=100000)(k:Nat)(hk:pS (aJ (cP s) 0)=WX k)(y:aS)(G:ip k ((cP s).drop 1)=WX y)(hv:dx y=Xe):
 Xq Xn 10 #[s] w (LJ w (cP s)):=by
 have SP:=λW(h:cV W)=>Pf s W h YN;simp only[show Lib.splitB (bs [32]) 0 (Yj s (bs [32])) s=cP s from rfl]at SP;refine P7 λAn HP HG yu HK=>?_;have yA:=ah G;have Jz:=ah hv;clear G hv;clear hk;clear SP hG;go_enter func10,ntmps10;go_upto_region 2 with(go_at_call 20;refine(An.o _ (HG.o.step (ai (aj w) _))).m ?_;rintro e w1 ⟨v,rfl,hv,U,ay⟩)
 obtain⟨A,n,c,rfl,hn,mJ,fk⟩:=hv.form;have I:1<=n:=YN;obtain⟨bl,ol,rfl,ig,bb⟩:=hv.at_ 0 I;have V:=bb 0 I;rw[Xt]at V;refine P8 λi0 n0 i1 i2 i3 n2 HV HN HR aZ bk=>?_;clear hv hn bb ay U;go_cut [5,6] (λp q X=>q=YH Xe/\V_ w1 k p X)
 case first=>exact Wa
 case rest=>
  obtain⟨rfl,pb,⟨word,kind,gu,gf,caps,gr,gt⟩,rfl,mf,hF,ba,vI⟩:=hcut;have Y:=ah vI;obtain⟨⟨p0,p1,p2,p3,p4,p5⟩,_⟩:=LI vI;have t_:kind=k:=hF.kind;have er:=hF.er;unfold dw at er;simp only at er;refine Wb λks tK gw bh aU uX=>?_;simp only[bq]at p4;clear hF ba vI t_ p0 p2 p3 p5;simp only[aq];go_wp2_with fail
  refine Wc ?_;intro W ⟨aY,gW,Z,Cl⟩;refine Wd λbo iU F' h8 pR Gv BU=>?_;clear aY gW p1 p4;have D:∀C∈(cP s).drop 1,C.size<=1000000:=λC h=>by have:=yu.o.2 C (X8 h);omega
  have O:((cP s).drop 1).length<=100000:=Sg;have Dy:=ah D;have Ag:=ah O;clear D O;by_cases F:¬c=1
  .have z:cB W.drew wc (.slice (some ⟨bl,ol+1,none⟩) (n - 1) (c - 1)) ((cP s).drop 1):=
    cB.below (((HV.o.drop 1 YN).below aU.o (am _)).more aU.o.size) (a_ bo.o) (am _)
   have DJ:=ah z;clear z;refine po 11 ?_;refine lw 0 24 ?_;iterate 2 refine iT 12 24 ?_
   refine fi 1 λK hK=>?_;go_simp;refine hK _ _ ?_;clear hK K;refine aO ?_;refine fi 4 λK hK=>?_;go_simp;refine We ?_;exact ap9
  .obtain rfl:c=1:=Classical.not_not.1 F;obtain rfl:n=1:=by omega
   have hd:(cP s).drop 1=[]:=R8;have z:cB W.drew wc (YG (WX (bl ol WY)) 0 0) ((cP s).drop 1):=JM;have DJ:=ah z;clear z F hd;refine po 11 ?_;refine lw 0 24 ?_;iterate 2 refine iT 12 24 ?_
   refine fi 1 λK hK=>?_;go_simp;refine hK _ _ ?_;clear hK K;refine aO ?_;refine fi 4 λK hK=>?_;go_simp;refine Wg ?_;exact ap9
def aq0(s:ByteArray)(w:Xa)(c:cV w)(h:s.size<=100000):
 Xq Xn 10 #[s] w (LJ w (cP s)):=by
 cases hk:pS (aJ (cP s) 0)with
 |none=>exact ed3 s w c h hk
 |some k=>
  cases hr:ip k ((cP s).drop 1)with
  |none=>exact ed4 s w c h k hk hr
  |some y=>
   cases hv:dx y with
   |false=>exact ed5 s w c h k hk y hr hv
   |true=>exact el8 s w c h k hk y hr hv
end
section
open Go Go.RowKit Go.MapKept Go.Proofs.Tryz
section
variable {P:YA} {ops:Array Yf} {Q:Exit->Act->Xa->Prop} {md:Yq} {S:Xa->Prop}
def aq1{i:Nat}{j:Yf}{v:Xb}{fuel:Nat}{listed:Array Bool}{a:Act}{w:Xa}(d:Option Tmp)(D:ops[i]?=WX j)(A:j.dst=d)
 (G:Region.noSelect ops=Xe)(C:Region.free md ops listed i=Xe)(F:(Yc md ops listed).contains i=Xe)
 (y:∀c a w,Q (.panic c) (a.put d v) w->Q (.panic c) a w)(I:YieldsIf P ops S j v a)(z:S w)
 (h:wpAnyH P md ops Q S fuel (listed.setIfInBounds i Xe) (a.put d v) w):wpAnyH P md ops Q S (fuel+1) listed a w:=by
 subst A;exact wpAnyH_take D G C F y I z h
end
def el9(m:aT)(v:MV)(x:ci)(A:Option Yy)(n c:Nat)(w:Xa)(hv:m.In w w v)(I:¬(0<=x.kind/\x.kind<=6)):
 aR 170 #[YJ (m.cells v),YJ (x.vals (YG A n c))] w (YH Xc):=by
 refine qP λSa sc hs cz bD Fa fc cC bT cG Ra rc hr ca cQ Ma mc hm cJ cD La lc hl cS du Ia ic hi dG ew Ua uc hu dH dC HS=>?_;have HF:=ah (eg0 I);have X:=ah (λW=>as9 W);rw[HS.o,ci.vals_def];clear hv I hs cC hr hm hl hi hu;go_enter func170,ntmps170;go_upto_region 1 with(fail)
 refine aq2 ?_;intro W1 ⟨y,D,j⟩;have Y:=ap (o:=0) j rfl;have z:=blk_lt j;have cE:¬w.heap.size+1=W1.heap.size:=YN;have C:=ah y;have gS:=ah D;have lr:=ah j;clear y D j;go_cut [5,6] (λp q wx=>q=YH Xc/\Below w w wx)
 case first=>
  rename_i J K' G F;have U:=ah G;have Z:=ah F;clear G F;go_region_held3 (λw'=>w'.cell? ⟨w+1,0,WY⟩=WX (Xo XO x.kind)) (go_simp)
   (first
     |(go_at_call 260;refine(X.o _).m ?_;rintro e w2 ⟨M,rfl,hM,O,au⟩;refine LK λba=>?_;have jJ:(Instr.lookup 264 (.map (some M)) (.int .i64 x.kind) true).run prog w2= .ok (.tuple #[.agg #[.nilFunc,.nilFunc],.bool false]) w2:=by exact aq3
       have gE:∀o,(XB 264 (.map (WX M)) (Xo XO x.kind) Xe).run Xn (w2.alloc o)= .ok (.tuple #[YJ #[.nilFunc,.nilFunc],YH Xc]) (w2.alloc o):=λo=>by exact aq4
       have c0:w2.cell? ⟨w+1,0,WY⟩=WX (Xo XO x.kind):=(ba.cell (p:=⟨w+1,0,WY⟩) z).trans Y;obtain⟨iB,AQ⟩:=nH au;try(have ij:W1.heap.size<w2:=by(have hq:=au.size;simp at hq;omega))
       have bh:w.heap.size+1<w2:=bt z ba.size;have iC:¬w.heap.size+1=w2.heap.size:=YN;have iU:=ah au.block;clear hM O au))
  all_goals
   dsimp only[Exit.then];refine Z.o _ _ (Met.intro (U.o _ _ ?_))
   (repeat apply Exists.intro)
   refine⟨⟨rfl,?_⟩,rfl⟩;have V:=ak C.o ba
   (repeat' first|with_reducible exact V|with_reducible refine cF ?_ (by dsimp only;have:=C.o.size;omega) _|with_reducible refine ai ?_ _)
 case rest=>
  obtain⟨rfl,hB⟩:=hcut;go_wp2_with fail
  refine po 17 ?_;iterate 2 refine iT 17 14 ?_
  iterate 5 refine EY 17 14 ?_
  iterate 2 refine iT 17 14 ?_
  iterate 6 refine EY 17 14 ?_
  refine lw 15 29 ?_;refine lw 16 4 ?_;refine vz ?_;go_wp2_with fail
  go_ret;exact⟨rfl,a_ hB⟩
def Ff(m:aT)(v:MV)(x y:ci)(o o2:Xb)(w:Xa)(go gn:Nat)(rk:Bool)(eo:dw go)(en:dw gn)(hv:m.In w w v)(ho:aW w w o x.ms)
 (hf:P3 x.kind=WX (YJ #[.func (.func go) #[] #[],.func (.func gn) #[] #[]]))(Ck:∀W,Below w w W->aR go #[YJ (m.cells v),YJ (x.vals o)] W (YH rk))
 (G6:∀W,Below w w W->aR gn #[YJ (x.vals o)] W (YJ (y.vals o2)))
 (ue:∀W,Below w w W->aW W W.heap.size o2 y.ms):
 aR 170 #[YJ (m.cells v),YJ (x.vals o)] w (YH (rk&&Fc x y)):=by
 have Y:=ah (λW(hW:Below w w W)=>dy2 x y o o2 W ((ho.below hW (am _)).more hW.size) (ue W hW));have qi:=ah Ck;have Ri:=ah G6;refine qP λSa sc hs cz bD Fa fc cC bT cG Ra rc hr ca cQ Ma mc hm cJ cD La lc hl cS du Ia ic hi dG ew Ua uc hu dH dC HS=>?_;have HF:=ah hf;have kS:=ah (λW=>as9 W);obtain⟨A,n,c,rfl,hn,hc,fk⟩:=ho.sk.form;obtain⟨A2,n2,c2,rfl,_,_,_⟩:=(ue w (aj w)).sk.form;generalize Fc x y=rs at Y;rw[HS.o]at qi⊢
 rw[ci.vals_def]at qi Ri Y⊢
 rw[ci.vals_def]at Ri Y;unfold dw at eo en;clear hv ho hf Ck G6 ue hs cC hr hm hl hi hu hn;go_enter func170,ntmps170;go_upto_region 1 with(fail)
 refine aq2 ?_;intro W1 ⟨aY,dq,cO⟩;have q0:=ap (o:=0) cO rfl;have aZ:=blk_lt cO;have cE:¬w.heap.size+1=W1.heap.size:=YN;have bo:=ah aY;have gS:=ah dq;have lr:=ah cO;clear aY dq cO;go_cut [5,6] (λp q wx=>q=YH Xe/\∃fb,p=aq fb/\W1.heap.size<=fb/\Below W1 W1 wx/\wx.heap[fb]?=WX (YI #[.func (.func go) #[] #[],.func (.func gn) #[] #[]] 262 (0,0)))
 case first=>
  rename_i J K' hJ g_;have HJ:=ah hJ;have tL:=ah g_;clear hJ g_;go_region_held3 (λw'=>w'.cell? ⟨w+1,0,WY⟩=WX (Xo XO x.kind)) (go_simp)
   (first
     |(go_at_call 260;refine(kS.o _).m ?_;rintro e w2 ⟨M,rfl,hM,Ed,au⟩;refine LK λba=>?_;have jJ:(Instr.lookup 264 (.map (some M)) (.int .i64 x.kind) true).run prog w2= .ok (.tuple #[.agg #[.func (.func go) #[] #[],.func (.func gn) #[] #[]],.bool true]) w2:=by exact aq3
       have gE:∀o,(XB 264 (.map (WX M)) (Xo XO x.kind) Xe).run Xn (w2.alloc o)= .ok (.tuple #[YJ #[.func (.func go) #[] #[],.func (.func gn) #[] #[]],YH Xe]) (w2.alloc o):=λo=>by exact aq4
       have c0:w2.cell? ⟨w+1,0,WY⟩=WX (Xo XO x.kind):=(ba.cell (p:=⟨w+1,0,WY⟩) aZ).trans q0;obtain⟨iB,AQ⟩:=nH au;try(have ij:W1.heap.size<w2:=by(have hq:=au.size;simp at hq;omega))
       have bh:w.heap.size+1<w2:=bt aZ ba.size;have iC:¬w.heap.size+1=w2.heap.size:=YN;have iU:=ah au.block;clear hM Ed au))
  all_goals
   dsimp only[Exit.then];refine tL.o _ _ (Met.intro (HJ.o _ _ ?_))
   (repeat apply Exists.intro)
   refine⟨⟨rfl,?_⟩,rfl⟩
  .exact⟨w2.heap.size,rfl,ba.size,ai ba _,X1 w2 _⟩
  .exact⟨w2.heap.size,rfl,ba.size,ai ba _,X1 w2 _⟩
  .refine⟨W1.heap.size,rfl,am _,?_,?_⟩
   .repeat' first|with_reducible exact ba|with_reducible refine cF ?_ (am _) _
   .have h0:=(iU.o W1 YQ).trans (X1 W1 _);exact(bc (bc h0 _ _) _ _).trans rfl
 case rest=>
  obtain⟨rfl,fb,rfl,C,ba,rS⟩:=hcut;have kj:=aC gS.o ba;have vV:=aC lr.o ba;obtain⟨Ss,St,Sv,Sw,Sy,Sz,SB,SD,SE,SF,Su⟩:=eR kj;obtain⟨yL,vt,yM,yO,yP,yQ,SG⟩:=gY vV;have DX:=ap (o:=0) rS rfl;have DY:=ap (o:=1) rS rfl;have ij:=blk_lt vV;have hm0:=blk_lt rS;have ti:w.heap.size<wc:=blk_lt kj;have Z:=ah (ak bo.o ba);have O:=ah kj;have JH:=ah vV;have JF:=ah rS;clear kj vV rS ba q0;simp only[aq];cases rk with
  |false=>
   go_wp2_with fail
   refine an2 λhS=>?_;iterate 6 refine mX 17 14 ?_
   refine jr 6 λK z=>?_;go_simp;refine(qi.o _ (a_ Z.o)).m ?_;rintro e w4 ⟨rfl,j⟩;have bB:=ah (ak (a_ Z.o) j);have F:=aC O.o (ak (a_ (aj wc)) j);have D:=aC JH.o (ak (a_ (aj wc)) j);have C:=aC JF.o (ak (a_ (aj wc)) j);obtain⟨SJ,SK,SM,SN,SO,SQ,SR,SS,ST,SU,SL⟩:=eR F;obtain⟨B9,ry,pp,pq,B_,rz,SV⟩:=gY D;have SI:=ap (o:=0) C rfl;have wN:=ap (o:=1) C rfl;have U:=ah F;have Ap:=ah D;have I:=ah C;clear j F D C Ss St Sv Sw Sy Sz SB SD SE SF Su yL vt yM yO yP yQ SG DX DY;try go_simp
   clear hS;refine z.o _ _ bx6 (λhS=>?_);clear z;refine aO ?_;iterate 2 refine mX 17 14 ?_
   iterate 6 refine gp4 17 14 ?_
   refine nI 15 29 ?_;refine nI 16 4 ?_;refine vB ?_;go_wp2_with fail
   go_ret;exact⟨by simp,bB.o⟩
  |true=>
   go_wp2_with fail
   refine an2 λhS=>?_;iterate 6 refine mX 17 14 ?_
   refine jr 6 λK z=>?_;go_simp;refine(qi.o _ (a_ Z.o)).m ?_;rintro e w4 ⟨rfl,j⟩;have bB:=ah (ak (a_ Z.o) j);have F:=aC O.o (ak (a_ (aj wc)) j);have D:=aC JH.o (ak (a_ (aj wc)) j);have C:=aC JF.o (ak (a_ (aj wc)) j);obtain⟨SJ,SK,SM,SN,SO,SQ,SR,SS,ST,SU,SL⟩:=eR F;obtain⟨B9,ry,pp,pq,B_,rz,SV⟩:=gY D;have SI:=ap (o:=0) C rfl;have wN:=ap (o:=1) C rfl;have U:=ah F;have Ap:=ah D;have I:=ah C;clear j F D C Ss St Sv Sw Sy Sz SB SD SE SF Su yL vt yM yO yP yQ SG DX DY;try go_simp
   clear hS;refine z.o _ _ bx6 (λhS=>?_);clear z;refine aO ?_;iterate 6 refine mX 17 14 ?_
   refine jr 13 λK z=>?_;go_simp;refine(Ri.o _ bB.o).m ?_;rintro e X ⟨rfl,G⟩;have bR:=ah (ak bB.o G);have jY:=aC U.o G;have th:=aC Ap.o G;have TJ:=aC I.o G;obtain⟨SX,by2,by4,by5,by6,by7,by8,by9,bz0,bz1,by3⟩:=eR jY;obtain⟨vv,qr,pr,pu,yS,yU,bz2⟩:=gY th;have SW:=ap (o:=0) TJ rfl;have V:=ap (o:=1) TJ rfl;clear G jY th TJ SJ SK SM SN SO SQ SR SS ST SU SL B9 ry pp pq B_ rz SV SI wN;try go_simp
   clear hS;refine z.o _ _ (by exact⟨SW,V,SX,by2,by4,by5,by6,by7,by8,by9,bz0,bz1,by3,vv,qr,pr,pu,yS,yU,bz2⟩) (λhS=>?_);clear z;refine aO ?_;refine jr 14 λK z=>?_;go_simp;refine(Y.o _ bR.o).m ?_;rintro e w6 ⟨rfl,bJ⟩;have cI:=ah (ak bR.o bJ);have yB:∀b o,b<X.heap.size->w6.cell? ⟨b,o,WY⟩=X.cell? ⟨b,o,WY⟩:=λb o h=>bJ.cell (p:=⟨b,o,WY⟩) h;have rZ:fb<X.heap.size/\w.heap.size<X/\w.heap.size+1<X:=⟨bK _ _ SW,bK _ _ SX,bK _ _ vv⟩;clear bJ;try go_simp
   clear hS;refine z.o _ _ (by simp only[yB _ _ rZ.1,yB _ _ rZ.2.1,yB _ _ rZ.2.2];exact⟨SW,V,SX,by2,by4,by5,by6,by7,by8,by9,bz0,bz1,by3,vv,qr,pr,pu,yS,yU,bz2⟩) (λhS=>?_);clear z;refine aO ?_;refine nI 15 29 ?_;refine nI 16 4 ?_;refine vB ?_;go_wp2_with fail
   go_ret;exact⟨by simp,cI.o⟩
def qQ.drew{m:aT}{v:MV}{mb B:Nat}{w:Xa}(h:qQ m v mb B w):qQ m v mb B w.drew:=⟨h.1,h.2.to (E0 (X6 B w)) (am _) (am _)⟩
def ej4{m:aT}{w:Xa}{W:Xa}{lb k:Nat}(h:W.heap[lb]?=WX (YI #[Xo XO (m.sites.length:Nat),.func (.func 318) #[] #[aq w],.func (.func 319) #[] #[],Xo XO (m.feeds.length:Nat),.func (.func 320) #[] #[aq w],.func (.func 321) #[] #[],Xo XO (m.racks.length:Nat),.func (.func 322) #[] #[aq w],.func (.func 323) #[] #[],Xo XO (m.machs.length:Nat),.func (.func 324) #[] #[aq w],.func (.func 325) #[] #[],Xo XO (m.items.length:Nat),.func (.func 326) #[] #[aq w],.func (.func 327) #[] #[aq w]] 291 (0,0)))(c:k<5):
 W.cell? ⟨lb,k*3,WY⟩=WX (Xo XO ((gz m k).length:Nat))/\W.cell? ⟨lb,k*3+1,WY⟩=WX (.func (.func (rL k)) #[] #[aq w])/\W.cell? ⟨lb,k*3+2,WY⟩=WX (.func (.func (rM k)) #[] (uv w k)):=by
 have:k=0\/k=1\/k=2\/k=3\/k=4:=YN;rcases this with rfl|rfl|rfl|rfl|rfl<;>refine⟨?_,?_,?_⟩<;>refine ap h ?_ <;>simp[gz,rL,rM,uv]
def ej5(m:aT){k j:Nat}{s:ar}(c:(gz m k)[j]?=WX s):wk m k++(gz m k).take (j+1)=wk m k++(gz m k).take j++[s]:=by have h:=(List.getElem?_eq_some_iff.1 c).1;rw[XU,c,XJ];rfl
def ej6(m:aT)(v:MV)(B ob g:Nat)(caps:Array Xb)(J:List ar->Xa->Prop)(w:Xa)(hv:m.In w B v)(D:B<=w)(xB:ob<w)(eg:dw g)
 (Z:∀(pre:List ar)(s:ar)(kd n:Int)(W:Xa),J pre W->pre.length<(cY m).length->Xq Xn g (#[Xp (bs s),Xo XO kd,Xo XO n]++caps) W λe z=>e=Ya (YH Xc)/\J (pre++[s]) z/\Below B W z/\mg ob W z)
 (hJ:∀pre W z,J pre W->Below W.heap.size W z->J pre z)(h0:J [] w):
 Xq Xn 250 #[YJ (m.cells v),bq g caps] w λe w'=>e=Ya (.tuple #[])/\J (cY m) w'/\Below B w w'/\mg ob w w':=by
 refine qP λSa sc hs cz bD Fa fc cC bT cG Ra rc hr ca cQ Ma mc hm cJ cD La lc hl cS du Ia ic hi dG ew Ua uc hu dH dC HS=>?_;have HV:=ah hv;have cu9:=ah Z;have Rm:=ah hJ;have cw2:=ah h0;refine nL λnq=>?_;unfold dw at eg;rw[HS.o];simp only[bq];clear hv Z hJ h0 hs cC hr hm hl hi hu;go_enter func250,ntmps250;go_wp2_with fail
 refine fe (λW=>Below w w W/\W.heap[w.heap.size]?=WX (YI #[YG Sa m.sites.length sc,YG Fa m.feeds.length fc,YG Ra m.racks.length rc,YG Ma m.machs.length mc,YG La m.links.length lc,YG Ia m.items.length ic,m.dark,m.slots,m.reserve,m.failures,YG Ua m.rules.length uc] 29 (0,0))/\W.heap[w.heap.size+1]?=WX (YI #[Xo XO (m.sites.length:Nat),.func (.func 318) #[] #[aq w],.func (.func 319) #[] #[],Xo XO (m.feeds.length:Nat),.func (.func 320) #[] #[aq w],.func (.func 321) #[] #[],Xo XO (m.racks.length:Nat),.func (.func 322) #[] #[aq w],.func (.func 323) #[] #[],Xo XO (m.machs.length:Nat),.func (.func 324) #[] #[aq w],.func (.func 325) #[] #[],Xo XO (m.items.length:Nat),.func (.func 326) #[] #[aq w],.func (.func 327) #[] #[aq w]] 291 (0,0))) ⟨ai (ai (aj w) _) _,(sC w _ _ _ _).1,(sC w _ _ _ _).2⟩ ?_;intro W1 ⟨aY,dq,Cl⟩;have C:=ah aY;have cy8:=ah dq;have cx9:=ah Cl;have aZ:=blk_lt Cl;clear aY dq Cl;go_loopw [37] (λi wr=>∃k:Nat,k<=5/\i=Xo XO k/\J (wk m k) wr/\Below B W1 wr/\mg ob W1 wr) (λi _=>5 - (Xw i).toNat)
 case atStart=>exact⟨0,by omega,rfl,Rm.o _ _ _ cw2.o C.o,X6 _ _,mg.refl _ _⟩
 case round=>
  obtain⟨k,hk,rfl,NW,jv,NR⟩:=hrel;obtain⟨wo,rfl⟩:∃wo:Xa,wo=wr:=⟨_,rfl⟩;by_cases G:k<5
  .have dh:(0:Int)<=k:=by omega
   have bF:(k:Int)<5:=YN;have Ky:=NR.2 _ _ _ _ cx9.o YN aF;obtain⟨r0,r1,r2⟩:=ej4 Ky G;have iP:=blk_lt Ky;obtain⟨gn,G6⟩:∃gn,rL k=gn:=⟨_,rfl⟩;obtain⟨gk,Ob⟩:∃gk,rM k=gk:=⟨_,rfl⟩;obtain⟨kc,fM⟩:∃kc,uv w k=kc:=⟨_,rfl⟩;obtain⟨n,hn⟩:∃n,(gz m k).length=n:=⟨_,rfl⟩;have en:=en8 G;have ek:=en9 G;unfold dw at en ek;rw[G6]at r1 en;rw[Ob,fM]at r2;rw[Ob]at ek;rw[hn]at r0;simp only[aq]at r1
   have eV:n<=9223372036854775807:=by rw[<-hn];have:k=0\/k=1\/k=2\/k=3\/k=4:=by omega
                                      rcases this with rfl|rfl|rfl|rfl|rfl<;>simp[gz]<;>omega
   have cv7:=ah G6;have cv6:=ah Ob;have cw8:=ah fM;have I:=ah hn;have cw6:=ah NW;have fG:=ah jv;have O:=ah NR;clear Ky G6 Ob fM hn NW jv NR;go_wp2_with fail
   refine eG ?_;intro W2 ⟨ba,dz⟩;obtain⟨W2b,NZ⟩:∃b,wo.heap.size=b:=⟨_,rfl⟩;have dd3:=ah NZ;rw[NZ]at dz;have a0:=ap (o:=0) dz rfl;have U:=ah ba;have sP:=ah dz;simp only[NZ];clear ba dz NZ r0 r1 r2;go_wp2_with fail
   go_loopw [43] (λi y=>∃j:Nat,j<=n/\i=Xo XO j/\J (wk m k++(gz m k).take j) y/\Below B W2 y/\mg ob W2 y) (λi _=>n - (Xw i).toNat)
   case atStart=>exact⟨0,cb _,rfl,by rw[List.take_zero,Yz];exact Rm.o _ _ _ cw6.o U.o,X6 _ _,mg.refl _ _⟩
   case round=>
    obtain⟨y,rfl⟩:∃y:Xa,y=wr:=⟨_,rfl⟩;obtain⟨j,hj,rfl,NV,J0,GL⟩:=hrel;by_cases ci7:j<n
    .have NU:(0:Int)<=j:=by omega
     have GN:(j:Int)<n:=YN;obtain⟨s,hs⟩:∃s,(gz m k)[j]?=WX s:=⟨_,Xd (by rw[I.o];exact ci7)⟩;have Uq:¬W2b=ob:=by have:=dd3.o;have:=O.o.1;have:=C.o.size;omega
     have oF:=GL.2 _ _ _ _ sP.o Uq aF;have b1:=ap (o:=1) oF rfl;have b2:=ap (o:=2) oF rfl;have dd8:=ah Uq;have cu0:=ah oF;have Cb:Below B w y:=(((C.o.mono D).trans fG.o).trans (U.o.mono (bQ D (bQ C.o.size O.o.1)))).trans J0;have Y:mg ob W1 y:=(O.o.trans (mg.of_below U.o)).trans GL;have V:Hid (qQ m v w B y):=⟨by rw[HS.o];exact Y.2 _ _ _ _ cy8.o YN aF,HV.o.to Cb (am _) (am _)⟩;have gz1:B<=y:=bQ D Cb.size;have qm:Hid (∀W,qQ m v w B W->Xq Xn gn #[j,YK (WX w)] W λe w'=>e=Ya (Xp (bs s))/\w'=W):=λW F=>by rw[<-cv7.o];exact en6 F (bQ D (eX (blk_lt F.1))) G hs
     have gw:Hid (∀W,qQ m v w B W->Xq Xn gk (#[Xo XO j]++kc) W λe w'=>(∃n:Int,e=Ya (Xo XO n))/\w'=W):=λW F=>by rw[<-cv6.o,<-cw8.o];exact en7 F (bQ D (eX (blk_lt F.1))) G (by rw[I.o];exact ci7)
     have Hi:(wk m k++(gz m k).take j).length<(cY m).length:=by have:=em4 m k G;rw[I.o]at this;rw[Xm,XQ,I.o];omega
     have I5:Hid (∀(kd nn:Int)(W:Xa),J (wk m k++(gz m k).take j) W->Xq Xn g (#[Xp (bs s),Xo XO kd,Xo XO nn]++caps) W λe z=>e=Ya (YH Xc)/\J (wk m k++(gz m k).take (j+1)) z/\Below B W z/\mg ob W z):=λkd nn W F=>by rw[ej5 m hs];exact cu9.o _ s kd _ W F Hi
     have cw3:=ah NV;have QZ:=ah J0;have Q_:=ah GL;clear NV J0 GL hs oF Uq Cb Y Hi;go_wp2_with fail
     refine yR (S:=λw'=>w'.cell? (W2b 1 WY)=WX (.func (.func gn) #[] #[YK (WX w)])/\w'.cell? (W2b 2 WY)=WX (.func (.func gk) #[] kc)) 12 (by exact⟨b1,b2⟩) λhS=>?_;iterate 4 refine mX 12 46 ?_
     iterate 3 refine mX 13 46 ?_
     iterate 2 refine mX 14 46 ?_
     refine jr 4 λK A=>?_;go_simp;have Ti:=hS;refine(qm.o _ (qQ.drew V.o)).m ?_;rintro e w4 ⟨rfl,rfl⟩;try go_simp
     clear hS;refine A.o _ _ (Ti) (λhS=>?_);clear A;refine aO ?_;refine jr 8 λK A=>?_;go_simp;have Ti:=hS;refine(gw.o _ (qQ.drew V.o)).m ?_;rintro e w4 ⟨⟨kn,rfl⟩,rfl⟩;try go_simp
     clear hS;refine A.o _ _ (Ti) (λhS=>?_);clear A;refine aO ?_;refine jr 11 λK A=>?_;go_simp;refine(I5.o kn _ _ (Rm.o _ _ _ cw3.o (a_ (aj y)))).m ?_;rintro e w5 ⟨rfl,ge8,bf,X⟩;have iA:=X.2 _ _ _ _ (show y.drew.heap[W2b]?=_ from cu0.o) dd8.o aF;have d1:w5.cell? (W2b 1 WY)=_:=ap iA rfl;have d2:w5.cell? (W2b 2 WY)=_:=ap iA rfl;try go_simp
     clear hS;refine A.o _ _ (by exact⟨d1,d2⟩) (λhS=>?_);clear A;refine aO ?_;refine vB ?_;go_wp2_with fail
     refine⟨⟨j+1,by omega,by go_num,ge8,QZ.o.trans ((E0 (X6 B y)).trans bf),Q_.o.trans ((mg.of_below (a_ (aj y))).trans X)⟩,by simp[Xw];omega⟩
    .have ci8:j=n:=by omega
     have cw5:=ah NV;have QZ:=ah J0;have Q_:=ah GL;have cw4:=ah ci8;clear NV J0 GL ci8;go_wp2_with fail
     refine⟨⟨k+1,by omega,by go_num,?_,(fG.o.trans (U.o.mono (bQ D (bQ C.o.size O.o.1)))).trans QZ.o,(O.o.trans (mg.of_below U.o)).trans Q_.o⟩,by simp[Xw];omega⟩;have h:=cw5.o;rw[cw4.o,<-I.o,List.take_length]at h;exact h
  .have kN:k=5:=by omega
   subst kN;go_wp2_with fail
   go_end0
   rw[em3]at NW;exact⟨rfl,NW,(C.o.mono D).trans jv,(mg.of_below C.o).trans NR⟩
end
section
open Go Go.RowKit Go.Proofs.Tryz
def ax8(s:ar):ch s=s.drop (s.length - (ch s).length):=by
 have j:∀s:ar,ch s<:+s:=by
  intro s
  fun_induction ch s with
  |case1 s h=>exact List.nil_suffix
  |case2 s r h ih=>exact ih.trans ((List.dropWhile_suffix _).trans (((List.suffix_cons 35 r).trans (h▸List.dropWhile_suffix gX))))
  |case3 s c r h hc=>exact h▸List.dropWhile_suffix gX
 exact(List.suffix_iff_eq_drop.1 (j s))
def YV{s:ar}{k:Nat}{t:ar}{n:Nat}(h:tok s= .ok (k,t,n)):1<=t.length/\t.length<=s.length/\(k<=4/\n<=1048576):=by
 have tw (p:UInt8->Bool) (c:UInt8) (r:ar) (A:p c=Xe):1<=((c::r).takeWhile p).length:=by rw[List.takeWhile_cons,if_pos A];simp
 cases s with
 |nil=>cases h
 |cons c r=>
  rw[tok]at h;split at h
  .rename_i z;unfold Bk at h;dsimp only at h;have C:cX c=true:=by simp[cX,z]
   split at h
   .cases h
   .split at h<;>(simp only[Except.ok.injEq,Prod.mk.injEq]at h;obtain⟨rfl,rfl,rfl⟩:=h;exact⟨tw _ _ _ C,LM _ _,by omega,by omega⟩)
  .split at h
   .rename_i y;unfold zP at h;dsimp only at h;split at h
    .cases h
    .split at h
     .cases h
     .rename_i m hm;simp only[Except.ok.injEq,Prod.mk.injEq]at h;obtain⟨rfl,rfl,rfl⟩:=h;refine⟨tw _ _ _ y,LM _ _,by omega,?_⟩;have big:∀(l:ar)(a m:Nat),a<=1048576->lR a l=some m->m<=1048576:=by
       intro l;induction l with
       |nil=>intro a m j h;rw[lR]at h;injection h with h;omega
       |cons c l ih=>
        intro a m j h;rw[ax1]at h;split at h
        .cases h
        .exact ih _ _ YN h
      exact big _ 0 m YN hm
   .split at h
    .simp only[Except.ok.injEq,Prod.mk.injEq]at h;obtain⟨rfl,rfl,rfl⟩:=h;simp
    .cases h
def ax9{s:ar}{x:Nat}(h:tok s= .error x):x=8\/x=3\/x=2:=by
 cases s with
 |nil=>rw[tok]at h;injection h with h;omega
 |cons c r=>
  rw[tok]at h;split at h
  .unfold Bk at h;dsimp only at h;split at h
   .injection h with h;omega
   .split at h<;>cases h
  .split at h
   .unfold zP at h;dsimp only at h;split at h
    .injection h with h;omega
    .split at h
     .injection h with h;omega
     .cases h
   .split at h
    .cases h
    .injection h with h;omega
def Px(t:fI):List Value:=[Xo XO t.kind,Xp (bs t.text),Xo XO t.n,Xo XO t.pos]
def Ik(l:List fI):List Value:=(l.map Px).flatten
def ay0(l:List fI)(t:fI):Ik (l++[t])=Ik l++Px t:=by simp[Ik]
def ei7{w:Xa}{base:Nat}{e:Xv}{v:Xb}{l:List fI}(h:w.ownsRow base e 4 v l.length (Ik l)):bU 4 mA w w v l:=
 bU.of_own (l.map Px) (λr c=>by obtain⟨t,_,rfl⟩:=List.mem_map.1 c;rfl) YQ h (λj r x c hx=>by rw[Xr,hx]at c;injection c with c;exact c.symm)
def YW(w:Xa)(r:Except (Nat×Nat) (List fI))(e:Ys)(w':Xa):Prop:=
 Below w w w'/\match r with
  | .error x=>e=Ya (.tuple #[YG WY 0 0,x.1,x.2])
  | .ok l=>∃v,e=Ya (.tuple #[v,Xo XO 0,Xo XO 0])/\bU 4 mA w' w' v l
def ei8:(Tryz.prog.info? 109).map (λi=>(i.zero,i.size,i.bytes))=WX (WX (YJ #[Xo XO 0,Xp ⟨#[]⟩,Xo XO 0,Xo XO 0]),4,40):=aI
def ay1(s:ByteArray)(w:Xa)(hG:iu w):Xq Xn 48 #[s] w (YW w (nF s.data.toList)):=by
 by_cases J:16384<s.size
 .have z:nF s.data.toList= .error (0,8):=by unfold nF;rw[if_pos (by rw[jS];exact J)]
  rw[z];have h1:(16384:Int)<s.size:=YN;clear z J;go_enter func48,ntmps48;go_wp2_with fail
  go_ret3
  exact⟨aj w,rfl⟩
 .have hs:s.size<=16384:=by omega
  have h1:¬(16384:Int)<s.size:=YN;have HR:Hid (nF s.data.toList=gU s.size (ch s.data.toList)):=by show nF _=_;unfold nF;rw[if_neg (by rw[jS];omega),jS]
  have HG:=ah hG;have HS:=ah (λW=>an6 s W hs);obtain⟨i0,hi,cE,aZ,bh⟩:=YB ei8;have G_:(ch s.data.toList).length<=s.size:=by have:=H_ s.data.toList;rw[jS]at this;exact this
  have HD:Hid (ch s.data.toList=s.data.toList.drop (s.size - (ch s.data.toList).length)):=by have:=ax8 s.data.toList;rw[jS]at this;exact this
  obtain⟨m,hm⟩:∃m,s.size - (ch s.data.toList).length=m:=⟨_,rfl⟩;have cH:m<=s.size:=YN;rw[hm]at HD;have RI:Hid (∀W,aR 131 #[s] W (Xo XO m)):=λW=>by
   have:=HS.o W
   rwa [hm]at this
  clear J hG G_ hm HS;go_enter func48,ntmps48;go_wp2_with(go_at_call 131;refine(RI.o _).m ?_;rintro e w1 ⟨rfl,ay⟩)
  go_loopw [5,6] (λv i wr=>∃(k:Nat)(l:List fI),k<=s.size/\i=Xo XO k/\l.length<=k/\gU s.size (ch s.data.toList)=(gU s.size (s.data.toList.drop k)).map (l++ ·)/\wr.ownsRow w 109 4 v l.length (Ik l)/\Below w w wr) (λ_ i _=>s.size - (Xw i).toNat)
  case atStart=>refine⟨m,[],cH,rfl,cb _,?_,XD _ _ _ _,ay⟩;rw[HD.o];cases gU s.size (s.data.toList.drop m)<;>simp[Except.map]
  case round=>
   obtain⟨k,l,hk,rfl,fE,KM,bN,hB⟩:=hrel;have uY:=ah KM;clear KM;by_cases az:k<s.size
   .have dh:(0:Int)<=k:=by omega
    have bF:(k:Int)<s.size:=YN;have AJ:(k:Int)<=s.size:=YN;have X:(s.extract k s.size).size=s.size - k:=yH;have C:=ah (ei6 (s.extract k s.size) wr (HG.o.step hB) YN YN);rw[Wi]at C;clear X;cases ht:tok (s.data.toList.drop k)with
    |error x=>
     rw[ht]at C;have U:=ah (ax9 ht);have O:Hid (nF s.data.toList= .error (k,x)):=by
      show _=_;rw[HR.o,uY.o];have Y:=List.drop_eq_getElem_cons (l:=s.data.toList) (i:=k) (by rw[jS];exact az);rw[Y]at ht⊢
      rw[gU,ht];simp only[Except.map];congr 2;simp[jS];omega
     clear ht;go_wp2_with fail
     refine C.o.m ?_;rintro e w2 ⟨I,z⟩;simp only at z;subst z;have aV:((x:Int)!=0)=true:=by have:=U.o;simp;omega
     unfold ja;go_wp2_with fail
     go_ret3
     rw[O.o];exact⟨ai (ak hB I) _,rfl⟩
    |ok y=>
     obtain⟨kd,t,nn⟩:=y;rw[ht]at C;obtain⟨rU,ku,xt,cR⟩:=YV ht;rw[XG,jS]at ku;have z:gU s.size (s.data.toList.drop k)=(gU s.size (ch (s.data.toList.drop (k+t.length)))).map (⟨kd,t,nn,k⟩:: ·):=by
      have Y:=List.drop_eq_getElem_cons (l:=s.data.toList) (i:=k) (by rw[jS];exact az);rw[Y]at ht⊢
      rw[gU,ht];simp only
      have e1:(s.data.toList.drop (k+1)).drop (t.length - 1)=s.data.toList.drop (k+t.length):=by rw[List.drop_drop];congr 1;omega
      have e2:s.size - ((s.data.toList.drop (k+1)).length+1)=k:=by rw[XG,jS];omega
      rw[e1,e2]
     have jn:=H_ (s.data.toList.drop (k+t.length));rw[XG,jS]at jn;have D:=ax8 (s.data.toList.drop (k+t.length));rw[XG,jS,List.drop_drop]at D;obtain⟨q,hq⟩:∃q,t.length=q:=⟨_,rfl⟩;have hT:(bs t).size=q:=by rw[dd];exact hq
     have HQ:Hid (∀W,aR 131 #[Xp (s.extract (k+q) s.size)] W (Xo XO ((s.size - (k+q) - (ch (s.data.toList.drop (k+q))).length:Nat):Int))):=λW=>by have:=an6 (s.extract (k+q) s.size) W yH;rw[Wi,Yv,Nat.min_self]at this;exact this
     rw[hq]at rU ku z jn D;obtain⟨d,ch4⟩:∃d,s.size - (k+q) - (ch (s.data.toList.drop (k+q))).length=d:=⟨_,rfl⟩;rw[ch4]at HQ D;have vK:k+q+d<=s.size:=YN;have HN:Hid (gU s.size (ch s.data.toList)=(gU s.size (s.data.toList.drop (k+q+d))).map (l++[⟨kd,t,nn,k⟩]++ ·)):=by show _=_;rw[uY.o,z,D];cases gU s.size (s.data.toList.drop (k+q+d))<;>simp[Except.map]
     have G:Hid (Px ⟨kd,t,nn,k⟩=[Xo XO kd,Xp (bs t),Xo XO nn,Xo XO k]):=rfl;obtain⟨T,Eg⟩:∃T,bs t=T:=⟨_,rfl⟩;have rj:Hid (aR 132 #[Xp (s.extract k s.size)] wr (.tuple #[YJ #[kd,Xp T,nn,Xo XO 0],Xo XO 0])):=
      C.o.mono λe w'⟨hb,he⟩=>⟨by rw[<-Eg];exact he,hb⟩
     rw[Eg]at hT G;clear ht z jn D ch4 hq Eg C;go_wp2_with fail
     refine rj.o.m ?_;rintro e w2 ⟨rfl,I⟩;have ba:=ak hB I;have A:=ah (eH bN I);clear bN
     go_wp2_with(first
      |(at_builtin;refine wpList_append_own _ rfl (.tmp 31) (.tmp 33) _ rfl w.heap.size 109 i0 _ 4 40 underlying102 hi cE aZ bh rfl (by decide) _ _ _ rfl ((A.o.alloc _).alloc _) ⟨w2+1,0,none⟩ 1 1 [.int .i64 kd,.string T,.int .i64 nn,.int .i64 k] rfl rfl (nJ (by simp)) (by simp[Value.oneCell']) (by simp[maxLen];omega) (by omega) (bQ ba.size (by simp;omega)) ?_;intro v' w3 V F _
        have jg:=nf (jO (cN w2 _) (ai (aj _) _) YQ) F (λj hj=>by have:=(Xs A.o j hj).2;omega);have t1:=ap (o:=1) jg rfl;have c_:=xR ((A.o.alloc _).alloc _) (ai (ai ba _) _) (am _) F;clear F jg)
      |(go_at_call 131;refine(HQ.o _).m ?_;rintro e w4 ⟨rfl,aQ⟩))
     refine⟨⟨k+q+d,l++[⟨kd,t,nn,k⟩],by omega,by go_num,by simp;omega,HN.o,?_,ak c_ aQ⟩,by simp[Xw];omega⟩;have:=eH V aQ;rw[Xm,ay0,G.o];exact this
   .have Z:k=s.size:=by omega
    have gs0:=ah Z;have O:Hid (nF s.data.toList= .ok (l++[⟨0,[],0,s.size⟩])):=by show _=_;rw[HR.o,uY.o,Z,List.drop_of_length_le (by rw[jS];omega),gU];rfl
    have A:=ah bN;clear Z bN;go_wp2_with(at_builtin;refine Yt _ rfl (YL 46) (YL 50) _ rfl w.heap.size 109 i0 _ 4 40 underlying102 hi cE aZ bh rfl aF _ _ _ rfl (A.o.alloc _) (wr 0 WY) 1 1 [Xo XO 0,Xp ⟨#[]⟩,Xo XO 0,Xo XO s.size] rfl rfl (nJ rfl) yF tV YN (bQ hB.size YQ) ?_;intro v' w3 V F _)
    go_ret3
    rw[O.o];refine⟨xR (A.o.alloc _) (ai hB _) (am _) F,_,rfl,?_⟩;have hw:w3.ownsRow w 109 4 v' (l++[⟨0,[],0,s.size⟩]:List fI).length (Ik (l++[⟨0,[],0,s.size⟩])):=by rw[Xm,ay0];exact V
    exact ei7 hw
def ei9(s:ByteArray)(k:Nat)(w:Xa)(Z:s.size<=1000000):
 Xq Xn 25 #[s,k] w λe w'=>∃c:Int,e=Ya (.tuple #[Xo XO (E8 s.data.toList k),c])/\w=w':=by
 have D:∀(t:ByteArray)W,Xq Xn 53 #[t,Xp {data:= #[10]}] W λe w'=>e=Ya (Xo XO (Lib.countByte t.data.toList 10))/\w'=W:=λt W=>strings_Count_one t 10 W;have J:=ah D;clear D;obtain⟨m,hm⟩:∃m,min k s.size=m:=⟨_,rfl⟩;have X:m<=s.size:=YN;have V:m<=k:=YN;have G:(s.extract 0 m).data.toList=s.data.toList.take k:=by
  have h:=jS s;have e:(s.extract 0 m).data.toList=s.data.toList.take m:=by simp[ByteArray.data_extract]
  rw[e,<-hm];rcases Nat.le_total k s.size with A|A
  .rw[Nat.min_eq_left A]
  .rw[Nat.min_eq_right A,Xu YN,Xu YN]
 have I:(s.extract 0 m).size=m:=yH;have z:(List.count 10 (s.data.toList.take k))<=1000000:=by have:=List.count_le_length (a:=(10:UInt8)) (l:=s.data.toList.take k);rw[XQ,jS]at this;omega
 have j:Hid (Lib.countByte (s.extract 0 m).data.toList 10=List.count 10 (s.data.toList.take k)):=by show _=_;rw[G];rfl
 have F:E8 s.data.toList k=1+List.count 10 (s.data.toList.take k):=rfl;rw[F];obtain⟨n,hn⟩:∃n,List.count 10 (s.data.toList.take k)=n:=⟨_,rfl⟩;rw[hn]at j z⊢
 obtain⟨T,Eg⟩:∃T,s.extract 0 m=T:=⟨_,rfl⟩;have O:=ah Eg;rw[Eg]at j I;have U:=ah (λW=>strings_LastIndexByte T 10 (by rw[I];omega) W);have y:Hid (min k s.size=m):=hm;have lj:(0:Int)<=n:=YN;have Y:(n:Int)<=1000000:=YN;clear G hn Eg F hm;go_enter func25,ntmps25;go_wp2_with fail
 have C:s.extract 0 (min (k:Int) (s.size:Int)).toNat=T:=by rw[<-O.o,<-y.o];congr 1;omega
 rw[C];refine(J.o T _).m ?_;rintro e w1 ⟨rfl,rfl⟩;rw[j.o];clear C;go_wp2_with(go_at_call 54;refine(U.o _).m ?_;rintro e w2 ⟨rfl,rfl⟩)
 go_ret2
 exact⟨_,rfl,rfl⟩
def PS.comma_le(p:PS):p.comma.1.ts.length<=p.ts.length:=by
 unfold PS.comma;split
 .exact am _
 .exact PS.take_le _ _ _
def PS.listGo_le(n:Nat)(p:PS):(PS.listGo n p).ts.length<=p.ts.length:=by
 fun_induction PS.listGo n p with
 |case1 n p h j=>
  refine bQ j (bQ (PS.ref_le _) ?_);have:=PS.comma_le p;split
  .rw[PS.fail_ts];exact this
  .exact this
 |case2 n p h=>exact PS.comma_le p
def PS.classGo_le(l:List ar)(p:PS):(PS.classGo l p).ts.length<=p.ts.length:=by
 rw[PS.classGo];split
 .rw[PS.fail_ts];exact am _
 .have j:=PS.take_le p 2 l;dsimp only;split
  .rename_i h;have y:=PS.comma_lt _ h;have:=PS.classGo_le (l.filter λs=> !WZ (s=(p.take 2 l).2.text)) (PS.comma {(p.take 2 l).1 with d:={(p.take 2 l).1.d with by_:=(p.take 2 l).1.d.by_+gI (p.take 2 l).2.text}}).1;refine bQ this (bQ (eX y) j)
  .exact bQ (PS.comma_le _) j
termination_by p.ts.length
decreasing_by exact bt y j
def PS.part_le(p:PS)(x:kF):(p.part x).ts.length<=p.ts.length:=by
 cases x with
 |name=>exact PS.take_le p 1 []
 |ref=>exact PS.ref_le p
 |number=>exact PS.take_le p 3 []
 |list=>exact bQ (PS.listGo_le 1 p.ref) (PS.ref_le p)
 |classes=>exact PS.classGo_le _ p
 |domain=>exact PS.take_le p 2 _
 |alw=>
  show p.alw.ts.length<=_;unfold PS.alw;split
  .exact PS.take_le p 2 []
  .exact am _
 |word s=>exact PS.take_le p 2 [s]
def PS.parts_le:∀(l:List kF)(p:PS),(p.parts l).ts.length<=p.ts.length
 |[],p=>am _
 |x::l,p=>by
  rw[PS.parts];refine bQ (PS.parts_le l _) ?_;split
  .exact PS.part_le p x
  .exact am _
def PS.parts_err:∀(l:List kF)(p:PS),p.e≠0->p.parts l=p
 |[],p,_=>rfl
 |x::l,p,h=>by rw[PS.parts,if_neg h];exact PS.parts_err l p h
def PS.take_err{p:PS}{k:Nat}{l:List ar}(h:p.e≠0):(p.take k l).1=p:=by unfold PS.take;rw[if_pos (.inl h)];show p.fail 3=p;unfold PS.fail;rw[if_neg h]
def PS.decl_lt{p:PS}(h:p.decl.1.e=0):p.decl.1.ts.length<p.ts.length:=by
 unfold PS.decl at h⊢
 cases hr:gj p.head with
 |none=>
  rw[hr]at h;simp only at h;unfold PS.fail at h;split at h
  .cases h
  .rename_i A;exact absurd h A
 |some i=>
  rw[hr]at h;simp only at h⊢
  have j:p.head.kind=2:=by
   unfold gj at hr;split at hr
   .assumption
   .cases hr
  refine Nat.lt_of_le_of_lt (PS.take_le _ _ _) (Nat.lt_of_le_of_lt (PS.parts_le _ _) ?_);show((p.take 2 []).1).ts.length<_;by_cases c:p.e=0
  .unfold PS.take;rw[if_neg (by simp[c,j])];cases ui:p.ts with
   |nil=>simp[PS.head,ui]at j
   |cons a l=>simp
  .have y:(p.take 2 []).1=p:=PS.take_err c;rw[y]at h;have z:=PS.parts_err (rules.getD i ([],[])).2 {p with d:={kind:=i}} c;rw[z,PS.take_err (p:={p with d:={kind:=i}}) c]at h;exact absurd h c
def er2{p:PS}{out:List aH}(h:¬p.head.kind=0)(j:¬out.length=1024)(c:p.decl.1.e=0):lV p out=lV p.decl.1 (out++[p.decl.2]):=by rw[lV,if_neg h];simp only[if_neg j];rw[if_neg (by simp[c]),dif_pos (PS.decl_lt c)]
def er3{p:PS}{out:List aH}(h:¬p.head.kind=0)(j:¬out.length=1024)(c:¬p.decl.1.e=0):lV p out= .error (p.decl.1.head.pos,p.decl.1.e):=by rw[lV,if_neg h];simp only[if_neg j];rw[if_pos c]
def eo0{p:PS}{out:List aH}(j:¬p.head.kind=0)(y:out.length=1024)(h:p.e=0):lV p out= .error (p.head.pos,p.beyond):=by
 rw[lV,if_neg j];simp only[if_pos y];have c:p.beyond≠0:=by unfold PS.beyond;split<;>decide
 have e:p.fail p.beyond={p with e:=p.beyond}:=by unfold PS.fail;rw[if_pos h]
 rw[e,if_pos c];rfl
def eo1{p:PS}{out:List aH}(c:p.head.kind=0):lV p out= .ok out:=by rw[lV,if_pos c]
end
section
open Go Go.RowKit Go.MapKept Go.Proofs.Tryz
def zE{a b:Bool}(h:a=b):Ya (Value.bool a)=Ya (YH b):=by rw[h]
def ez1(n:Nat)(w:Xa):aR 288 #[n] w (YH (WZ (n=0))):=by go_enter func288,ntmps288;exact PI
def ez2(n:Nat)(w:Xa):aR 301 #[n] w (YH (WZ (1<=n)&&WZ (n<=7))):=by
 by_cases j:1<=n
 .have c:decide ((1:Int)<=(n:Int))=true:=by simp;omega
  go_enter func301,ntmps301;exact PI
 .have c:decide ((1:Int)<=(n:Int))=false:=by simp;omega
  go_enter func301,ntmps301;exact PI
def WN:Int->Option Value:=aX (aX (aX (λ_=>WY) 2 (Xp ⟨#[114,97,99,107]⟩)) 3 (Xp ⟨#[102,101,101,100]⟩)) 4 (Xp ⟨#[115,105,116,101]⟩)
def FO(n:Nat):ar:=if n=2 then[114,97,99,107]else if n=3 then[102,101,101,100]else if n=4 then[115,105,116,101]else[]
def ez3(n:Nat):(WN n).getD (Xp ⟨#[]⟩)=Xp (bs (FO n)):=by
 unfold WN FO aX;by_cases c:n=2
 .subst c;rfl
 by_cases j:n=3
 .subst j;rfl
 by_cases y:n=4
 .subst y;rfl
 have z:¬(n:Int)=2:=YN;have A:¬(n:Int)=3:=YN;have C:¬(n:Int)=4:=YN;simp[c,j,y,z,A,C,bs]
def ez4(n:Nat)(w:Xa):aR 306 #[n] w (Xp (bs (FO n))):=by
 refine uC λlZ=>?_;have c:=ah (ez3 n);generalize FO n=sd at c;go_enter func306,ntmps306;go_wp2_with first
  |(refine ea rfl (YL 3) (YM (Xo XO 2)) (YM (Xp ⟨#[114,97,99,107]⟩)) 314 (.inr rfl) 3 9 (.int XO) underlying314 Xj co w (λ_=>WY) rfl (dg.made iK w) 2 (Xp ⟨#[114,97,99,107]⟩) rfl rfl ?_;intro I A j)
  |(refine ea rfl (YL 3) (YM (Xo XO 3)) (YM (Xp ⟨#[102,101,101,100]⟩)) 314 (.inr rfl) 3 9 (.int XO) underlying314 Xj co w _ rfl A 3 (Xp ⟨#[102,101,101,100]⟩) rfl rfl ?_;intro J C y)
  |(refine ea rfl (YL 3) (YM (Xo XO 4)) (YM (Xp ⟨#[115,105,116,101]⟩)) 314 (.inr rfl) 3 9 (.int XO) underlying314 Xj co w _ rfl C 4 (Xp ⟨#[115,105,116,101]⟩) rfl rfl ?_;intro O D z;have F:=ah (z.1 _ _ (y.1 _ _ (j.1 _ _ (ai (aj w) _) (am _)) (am _)) (am _));have G:=ah D;clear A j C y D z)
  |(at_lookup;refine Bz rfl (.tmp 4) (.tmp 5) 314 false rfl 3 9 (.int .i64) underlying314 underlying3 co w WN rfl G.o n (.string ⟨#[]⟩) rfl (zeroValue9 _) ?_
    rw[c.o];simp only[XC,if_false])
 go_ret;exact⟨rfl,F.o⟩
def ez5(n:Nat)(w:Xa):aR 305 #[n] w (YH (WZ (2<=n)&&WZ (n<=4))):=by
 have c:=ah (ez4 n w)
 have j:=ah (show(!(bs (FO n)).toList.isEmpty)=(WZ (2<=n)&&WZ (n<=4))from by
  rw[gK,eS];unfold FO;by_cases y:n=2
  .subst y;rfl
  by_cases z:n=3
  .subst z;rfl
  by_cases A:n=4
  .subst A;rfl
  rw[if_neg y,if_neg z,if_neg A];have:WZ (2<=n)=Xc\/WZ (n<=4)=false:=bP;rcases this with e|e<;>rw[e]<;>simp)
 generalize FO n=sd at c j;go_enter func305,ntmps305;go_wp2_with(go_at_call 306;refine c.o.m ?_;rintro e D ⟨rfl,C⟩)
 go_ret;exact⟨zE j.o,C⟩
def WO(n:Nat)(w:Xa):aR 227 #[n] w (YH (!WZ (n<=1048576))):=by have c:WZ ((n:Int)<0)=false:=YQ;go_enter func227,ntmps227;exact PI
def WP(s:ar)(w:Xa)(y:iu w):aR 229 #[bs s] w (YH (!br s)):=by
 have c:=ah (Za s w y);generalize br s=r at c;go_enter func229,ntmps229;go_wp2_with(go_at_call 164;refine c.o.m ?_;rintro e z ⟨rfl,j⟩)
 go_ret;exact⟨rfl,j⟩
end
end Go.Proofs.YtpfienbhhhgpkaaGreatDoor
