/- A part of the proof. -/
import Derived.Test.YtpfienbhhhgpkaaGreatDoorQba
set_option linter.defProp false
set_option linter.unusedVariables false
set_option linter.unusedSimpArgs false
set_option maxRecDepth 100000
set_option maxHeartbeats 32000000
open Option renaming some->WX,none->WY
open Decidable renaming decide->WZ
open Go renaming World->Xa,Value->Xb,Calls->Xq,TypeId->Xv,maxLen->XF,Oper->Yf,undef->Yg,execOp->Yr,Ending->Ys,Addr->Yy,Program->YA
open Bool renaming false->Xc,true->Xe
open List renaming range->XS
open Go.RowKit renaming Hid->Xf
open Go.Lib renaming itoa->Xg,decDigits->Xx,split->XL,joinTail->Yd,countB->Yj
open Go.Proofs.Tryz renaming prog->Xn
open Go.Proofs renaming intOf->Xw
open Go.Value renaming int->Xo,string->Xp,oneCell'->X4,slice->YG,bool->YH,agg->YJ,pointer->YK
open Go.Instr renaming lookup->XB
open Go.World renaming setCell->Ye,cell?->Yx
open Go.IntKind renaming i64->XO
open Go.Ending renaming returned->Ya
open UInt8 renaming ofNat->Yn
open Go.Oper renaming wp->YE
open Go.Obj renaming cells->YI
open Go.Operand renaming tmp->YL
namespace Go.Proofs.YtpfienbhhhgpkaaGreatDoor
section
open Go Go.RowKit Go.Proofs.Tryz
def xN(c:UInt8):Bool:=WZ (33<=c.toNat)&&WZ (c.toNat<=126)
def E1(x:aS):Array Value:= #[Xo XO x.ok,Xp x.key,Xo XO x.val,Xo XO x.old]
def vW(s:ByteArray):Bool:=s.data.toList.all xN
def Z3{s:ByteArray}(h:∀k(y:k<s.size),xN s[k]=Xe):vW s=true:=by rw[vW,XM];intro c j;obtain⟨i,hi,rfl⟩:=List.getElem_of_mem j;exact h i (by rw[Array.length_toList]at hi;exact hi)
def Z4{s:ByteArray}{k:Nat}(j:k<s.size)(h:¬xN s[k]=Xe):vW s=false:=by rw[Bool.eq_false_iff];intro c;rw[vW,XM]at c;exact h (c _ (Array.mem_toList_iff.2 (Array.getElem_mem j)))
def Lu(c:UInt8):xN c=Xe↔33<=c.toNat/\c.toNat<=126:=by simp[xN]
def ut(x:aS):Bool:=
 WZ (0<=x.ok)&&WZ (x.ok<=3)&&WZ (1<=x.key.size)&&WZ (x.key.size<=31)&&((x.old==0)||(x.ok==2))&&((x.val==0)|| !(x.ok==0))&&vW x.key
def dl9(x:aS)(w:Xa)(c:¬(0<=x.ok/\x.ok<=3/\1<=x.key.size/\x.key.size<=31/\(x.old=0\/x.ok=2)/\(x.val=0\/x.ok≠0))):
 aR 114 #[YJ (E1 x)] w (YH Xc):=by
 have j:=ah c;clear c;rw[E1];go_enter func114,ntmps114;go_wp2_with fail
 all_goals first
  |(go_ret;exact⟨rfl,ai (aj w) _⟩)
  |(exfalso;refine j.o ?_;simp only[bne_iff_ne,ne_eq,beq_iff_eq,beq_eq_false_iff_ne,bne_eq_false_iff_eq]at*;omega)
def dm0(x:aS)(w:Xa)(O:0<=x.ok/\x.ok<=3/\1<=x.key.size/\x.key.size<=31/\(x.old=0\/x.ok=2)/\(x.val=0\/x.ok≠0)):
 aR 114 #[YJ (E1 x)] w (YH (vW x.key)):=by
 obtain⟨h1,h2,h3,h4,c,y⟩:=O;have A:((x.old !=0)=Xc)\/((x.old !=0)=Xe/\(x.ok !=2)=Xc):=by
  rcases c with h|h
  .simp[h]
  .by_cases D:x.old=0<;>simp[h,D]
 have C:((x.val !=0)=Xc)\/((x.val !=0)=Xe/\(x.ok==0)=Xc):=by
  rcases y with h|h
  .simp[h]
  .by_cases D:x.val=0<;>simp[h,D]
 clear c y;rw[E1];rcases A with c|⟨c,I⟩<;>rcases C with y|⟨y,J⟩;all_goals
  go_enter func114,ntmps114;go_wp2_with fail
  go_loopw [3] (λi wr=>∃k:Nat,k<=x.key.size/\i=Xo XO k/\(∀j(z:j<x.key.size),j<k->xN x.key[j]=Xe)/\wr=w.alloc (YI #[x.ok,x.key,x.val,x.old] 43)) (λi _=>x.key.size - (Xw i).toNat)
  case atStart=>exact⟨0,cb _,rfl,by omega,rfl⟩
  case round=>
   obtain⟨k,hk,rfl,cj,rfl⟩:=hrel;have F:=ah cj;clear cj;by_cases G:k<x.key.size
   .go_wp2_with fail
    all_goals first
     |exact⟨⟨k+1,by omega,by go_num,(λj z U=>by
       by_cases e:j=k
       .subst e;rw[Lu];omega
       .exact F.o j z YN),trivial⟩,by simp[Xw];omega⟩
     |(go_ret;exact⟨cd (Z4 G (by rw[Lu];omega)).symm,ai (aj w) _⟩)
   .go_wp2_with fail
    go_ret;exact⟨cd (Z3 λj z=>F.o j z YN).symm,ai (aj w) _⟩
def Z5(x:aS)(w:Xa):
 aR 114 #[YJ (E1 x)] w (YH (ut x)):=by
 by_cases y:0<=x.ok/\x.ok<=3/\1<=x.key.size/\x.key.size<=31/\(x.old=0\/x.ok=2)/\(x.val=0\/x.ok≠0)
 .refine(dm0 x w y).mono λe w'⟨z,A⟩=>⟨?_,A⟩;obtain⟨h1,h2,h3,h4,c,j⟩:=y;rw[z];refine cd ?_;by_cases C:x.val=0<;>rcases c with c|c<;>rcases j with j|j<;>simp[ut,h1,h2,h3,h4,c,j,C]
 .refine(dl9 x w y).mono λe w'⟨z,A⟩=>⟨?_,A⟩;rw[z];refine cd ?_;simp only[ut];symm;rw[Bool.eq_false_iff];intro h;simp only[Xh,Ym,decide_eq_true_eq,beq_iff_eq,Yk,beq_eq_false_iff_ne]at h;exact y ⟨h.1.1.1.1.1.1,h.1.1.1.1.1.2,h.1.1.1.1.2,h.1.1.1.2,h.1.1.2,h.1.2⟩
def jP(w:Xa)(b:Nat)(x:aS)(m s:Xb):Prop:=
 w.cell? b=WX (Xo XO x.kind)/\w.cell? (b 1 WY)=WX (Xo XO x.a)/\w.cell? (b 2 WY)=WX (Xo XO x.b)/\w.cell? (b 3 WY)=WX (Xo XO x.c)/\w.cell? (b 4 WY)=WX (Xo XO x.ok)/\w.cell? (b 5 WY)=WX (Xp x.key)/\w.cell? (b 6 WY)=WX (Xo XO x.val)/\w.cell? (b 7 WY)=WX (Xo XO x.old)/\w.cell? (b 8 WY)=WX m/\w.cell? (b 9 WY)=WX s
def jP.keep{w w':Xa}{b:Nat}{x:aS}{m s:Xb}(h:jP w b x m s)(c:∀o,w'.cell? (b o WY)=w.cell? (b o WY)):jP w' b x m s:=by
 unfold jP at h⊢
 simp only[c];exact h
def jP.below{w w':Xa}{b B:Nat}{x:aS}{m s:Xb}(h:jP w b x m s)(j:Below B w w')(c:b<B):jP w' b x m s:=
 h.keep λ_=>j.cell c
def jP.new(w:Xa)(t:Xv)(x:aS)(m s:Xb):jP (w.alloc (YI (x.cells m s) t)) w x m s:=by simp[jP,aS.cells]
def zQ(n:Int):Prop:=0<=n/\n<=128
def xO(l:List Int)(j:Nat):Prop:=(1<=cM l j/\cM l j<=16)/\(0<j->cM l (j - 1)<cM l j)
instance(n:Int):Decidable (zQ n):=by unfold zQ;infer_instance
instance(l:List Int)(j:Nat):Decidable (xO l j):=by unfold xO;infer_instance
def sj(l:List Int):Bool:=(XS l.length).all λj=>WZ (zQ (cM l j))
def sq(l:List Int):Bool:=(XS l.length).all λj=>WZ (xO l j)
def Z9{l:List Int}(h:∀j,j<l.length->zQ (cM l j)):sj l=true:=by rw[sj,XM];intro j hj;exact decide_eq_true (h j Aw)
def Z_{l:List Int}{k:Nat}(j:k<l.length)(h:¬zQ (cM l k)):sj l=false:=by rw[Bool.eq_false_iff,sj];intro c;rw[XM]at c;exact h (of_decide_eq_true (c k (by simpa using j)))
def Z'{l:List Int}(h:∀j,j<l.length->xO l j):sq l=true:=by rw[sq,XM];intro j hj;exact decide_eq_true (h j Aw)
def Pg{l:List Int}{k:Nat}(j:k<l.length)(h:¬xO l k):sq l=false:=by rw[Bool.eq_false_iff,sq];intro c;rw[XM]at c;exact h (of_decide_eq_true (c k (by simpa using j)))
def E2(n a b:Int)(h:a<=n/\n<=b)(w:Xa):Xq Xn 113 #[n,a,b] w λe w'=>e=Ya (YH Xe)/\w'=w:=
 (Vc n a b w).mono λe w'⟨c,j⟩=>⟨by rw[c];simp[h.1,h.2],j.symm⟩
def VL(n a b:Int)(h:¬(a<=n/\n<=b))(w:Xa):Xq Xn 113 #[n,a,b] w λe w'=>e=Ya (YH Xc)/\w'=w:=
 (Vc n a b w).mono λe w'⟨c,j⟩=>⟨by rw[c];refine cd ?_;rw[Bool.eq_false_iff];simpa using h,j.symm⟩
def dU(n a b:Int):Bool:=WZ (a<=n)&&WZ (n<=b)
def Ph(n a b:Int)(w:Xa):Xq Xn 113 #[n,a,b] w λe w'=>e=Ya (YH (dU n a b))/\w'=w:=
 (Vc n a b w).mono λe w'⟨c,h⟩=>⟨c,h.symm⟩
def mY(x:aS):Bool:=
 if x.kind=0\/x.kind=1\/x.kind=2 then dU x.a 0 1048576
 else if x.kind=3\/x.kind=6\/x.kind=13\/x.kind=5 then dU x.a 1 16
 else if x.kind=4\/x.kind=16\/x.kind=15 then Xe
 else if x.kind=7 then dU x.a 1 16&&dU x.b 0 1048576
 else if x.kind=8\/x.kind=9 then dU x.a 1 16||dU x.a 101 108
 else if x.kind=10 then dU x.a 1 8&&dU x.b 0 8&&ut x
 else if x.kind=11 then dU x.a 1 8
 else if x.kind=12 then dU x.a 1 8&&dU x.b 1 8
 else if x.kind=14 then dU x.a 1 16&&dU x.c 1 16&&dU x.b 0 8
 else if x.kind=17 then dU x.a 1 200
 else Xc
def dx(x:aS):Bool:=my x (cy x)&&WZ (x.ss.length<=20)&&sj x.ss&&sq x.ms&&mY x
def dm2(x:aS)(m s:Xb)(w:Xa)(hx:x.In w w m s)(z:my x (cy x)=Xc):
 aR 34 #[YJ (x.cells m s)] w (YH Xc):=by
 obtain⟨Am,nm,cm,rfl,eV,_,fk⟩:=hx.ms.form;obtain⟨As,ns,cs,rfl,fl,_,eh⟩:=hx.ss.form;have HX:=ah hx;have X:=ah eV;have U:=ah fl;refine VM λused' same'=>?_;rw[z]at same';have D:=ah used';have C:=ah same';clear used' same' hx z eV fl;rw[aS.cells_def];go_enter func34,ntmps34;go_wp2_with fail
 first|(go_region_with
  (first
    |(go_at_call 112;refine(D.o _ (a_ (ai (aj w) _))).m ?_;rintro e J ⟨I,s1,rfl,A,j⟩;have y:=ak (a_ (ai (aj w) _)) j;have F:w.heap.size<J:=dB j YQ;obtain⟨bA,bT⟩:=dr j)
    |(go_at_call 19;refine(C.o _ I s1 y A).m ?_;rintro e O ⟨rfl,c⟩;have G:=ak y c;have V:w.heap.size<O:=dB c F;obtain⟨dp,cG⟩:=dr c)))|fail
 all_goals go_wp2_with fail
 all_goals go_ret
 all_goals exact⟨rfl,G⟩
def dm3(x:aS)(m s:Xb)(w:Xa)(hx:x.In w w m s)(A:my x (cy x)=Xe)(z:20<x.ss.length):
 aR 34 #[YJ (x.cells m s)] w (YH Xc):=by
 obtain⟨Am,nm,cm,rfl,eV,_,fk⟩:=hx.ms.form;obtain⟨As,ns,cs,rfl,fl,_,eh⟩:=hx.ss.form;have HX:=ah hx;have Z:=ah eV;have C:=ah fl;refine VM λused' same'=>?_;rw[A]at same';have G:=ah used';have F:=ah same';clear used' same' hx A eV fl;have Y:(20:Int)<ns:=by rw[C.o]at z;omega
 clear z;rw[aS.cells_def];go_enter func34,ntmps34;go_wp2_with fail
 go_region_held3 (λw'=>w'.cell? w=WX (Xo XO x.kind)/\w'.cell? (w 1 WY)=WX (Xo XO x.a)/\w'.cell? (w 2 WY)=WX (Xo XO x.b)/\w'.cell? (w 3 WY)=WX (Xo XO x.c)/\w'.cell? (w 4 WY)=WX (Xo XO x.ok)/\w'.cell? (w 5 WY)=WX (Xp x.key)/\w'.cell? (w 6 WY)=WX (Xo XO x.val)/\w'.cell? (w 7 WY)=WX (Xo XO x.old)/\w'.cell? (w 8 WY)=WX (YG Am nm cm)/\w'.cell? (w 9 WY)=WX (YG As ns cs)) (simp[*])
  (first
    |(go_at_call 112;refine(G.o _ (a_ (ai (aj w) _))).m ?_;rintro e U ⟨O,s1,rfl,D,j⟩;have y:=ak (a_ (ai (aj w) _)) j;have I:w.heap.size<U:=dB j YQ;obtain⟨bA,bT⟩:=dr j)
    |(go_at_call 19;refine(F.o _ O s1 y D).m ?_;rintro e V ⟨rfl,c⟩;have J:=ak y c;have X:w.heap.size<V:=dB c I;obtain⟨dp,cG⟩:=dr c))
 all_goals go_wp2_with fail
 all_goals go_ret
 all_goals exact⟨rfl,J⟩
def dm4(x:aS)(m s:Xb)(w:Xa)(hx:x.In w w m s)(hv:my x (cy x)=Xe)(hl:x.ss.length<=20):
 aR 34 #[YJ (x.cells m s)] w (YH (sj x.ss&&sq x.ms&&mY x)):=by
 obtain⟨Am,nm,cm,rfl,eV,_,fk⟩:=hx.ms.form;obtain⟨As,ns,cs,rfl,fl,_,eh⟩:=hx.ss.form;have HX:=ah hx;have qm:=ah eV;have Z:=ah fl;refine VM λused' same'=>?_;rw[hv]at same';have HU:=ah used';have HS:=ah same';clear used' same' hx hv eV fl;have eK:(ns:Int)<=20:=by rw[Z.o]at hl;omega
 clear hl;rw[aS.cells_def];go_enter func34,ntmps34;go_wp2_with fail
 go_region_held3 (λw'=>w'.cell? w=WX (Xo XO x.kind)/\w'.cell? (w 1 WY)=WX (Xo XO x.a)/\w'.cell? (w 2 WY)=WX (Xo XO x.b)/\w'.cell? (w 3 WY)=WX (Xo XO x.c)/\w'.cell? (w 4 WY)=WX (Xo XO x.ok)/\w'.cell? (w 5 WY)=WX (Xp x.key)/\w'.cell? (w 6 WY)=WX (Xo XO x.val)/\w'.cell? (w 7 WY)=WX (Xo XO x.old)/\w'.cell? (w 8 WY)=WX (YG Am nm cm)/\w'.cell? (w 9 WY)=WX (YG As ns cs)) (simp[*])
  (first
    |(go_at_call 112;refine(HU.o _ (a_ (ai (aj w) _))).m ?_;rintro e w1 ⟨m1,s1,rfl,G7,X⟩;have cA:=ak (a_ (ai (aj w) _)) X;have aZ:w.heap.size<w1:=dB X YQ;obtain⟨bA,bT⟩:=dr X)
    |(go_at_call 19;refine(HS.o _ m1 s1 cA G7).m ?_;rintro e w2 ⟨rfl,V⟩;have ba:=ak cA V;have bh:w.heap.size<w2:=dB V aZ;obtain⟨dp,cG⟩:=dr V))
 all_goals go_wp2_with fail
 have I:=HX.o.below ba (am _);have lJ:=ah I;clear I HU HS bA bT dp cG aZ X V G7 cA
 go_loop [3] (λi=>∃k:Nat,k<=ns/\i=Xo XO k/\∀j,j<k->zQ (cM x.ss j)) (λi=>ns - (Xw i).toNat)
 case atStart=>exact⟨0,cb _,rfl,by omega⟩
 case round=>
  obtain⟨k,hk,rfl,xm⟩:=hrel;have D:=ah xm;clear xm;by_cases az:k<ns
  .obtain⟨b,o,rfl,AO,bb⟩:=lJ.o.ss.at_ k az;have h1:=bb k az;clear bb;by_cases Y:zQ (cM x.ss k)
   .have G:=ah Y;clear Y;go_wp2_with(go_at_call 113;refine(E2 _ _ _ G.o _).m ?_;rintro e w3 ⟨rfl,rfl⟩)
    exact⟨⟨k+1,by omega,by go_num,(λj U=>by
     by_cases e:j=k
     .rw[e];exact G.o
     .exact D.o j YN)⟩,by simp[Xw];omega⟩
   .have G:=ah Y;clear Y;go_wp2_with(go_at_call 113;refine(VL _ _ _ G.o _).m ?_;rintro e w3 ⟨rfl,rfl⟩)
    go_ret;exact⟨cd (by rw[Z_ (by rw[Z.o];exact az) G.o];rfl),ba⟩
  .have da:sj x.ss=true:=Z9 λj U=>D.o j (by rw[Z.o]at U;omega);have RJ:=ah da;clear da D;go_wp2_with fail
   go_loopw [4] (λi wr=>∃k:Nat,k<=nm/\i=Xo XO k/\(∀j,j<k->xO x.ms j)/\∃q,wr=w2.drewN q) (λi _=>nm - (Xw i).toNat)
   case atStart=>exact⟨0,cb _,rfl,by omega,0,rfl⟩
   case round=>
    obtain⟨c,gE,rfl,xm,q,rfl⟩:=hrel;have D:=ah xm;clear xm;by_cases td:c<nm
    .obtain⟨b,o,rfl,AO,bb⟩:=lJ.o.ms.at_ c td;have h1:=bb c td;have F:0<c->w2.cell? ⟨b,o+(c - 1),none⟩=some (.int .i64 (cM x.ms (c - 1))):=λh=>bb (c - 1) (by omega);have i1:(0:Int)<=(c:Int):=by omega
     have i2:(c:Int)<(nm:Int):=YN;clear bb;have y:¬xO x.ms c->Hid (sq x.ms=Xc):=λh=>Pg (by rw[qm.o];exact td) h;have good:xO x.ms c->Hid (∀j,j<c+1->xO x.ms j):=λh j U=>by
      by_cases e:j=c
      .rw[e];exact h
      .exact D.o j YN
     by_cases A:1<=cM x.ms c/\cM x.ms c<=16
     .have z:=ah A;by_cases hz:c=0
      .have GOOD:=good ⟨A,λh=>by omega⟩;have gi8:decide (0<c)=false:=by simp;omega
       clear A y good F hz;go_wp2_with fail
       go_quiet ((go_at_call 113;first|exact Lp (E2 _ _ _ z.o _)|exact Calls.quiet_of_same (E2 _ _ _ z.o _)))
       go_wp2
       exact⟨⟨c+1,by omega,by go_num,GOOD.o,_,rfl⟩,by simp[Xw];omega⟩
      .have gd5:=F (by omega);have gi8:decide (0<c)=true:=by simp;omega
       have i3:IntKind.i64.wrap ((c:Int) - 1)=(c:Int) - 1:=XK _ YN;have i4:((c:Int) - 1).toNat=c - 1:=YN;have i5:(0:Int)<=(c:Int) - 1:=YN;have i6:(c:Int) - 1<(nm:Int):=YN;by_cases O:cM x.ms (c - 1)<cM x.ms c
       .have GOOD:=good ⟨A,λ_=>O⟩;have xl:decide (cM x.ms c<=cM x.ms (c - 1))=false:=by simpa using O
        clear A y good F hz O;go_wp2_with fail
        go_quiet ((go_at_call 113;first|exact Lp (E2 _ _ _ z.o _)|exact Calls.quiet_of_same (E2 _ _ _ z.o _)))
        clear i3 i4
        go_wp2
        exact⟨⟨c+1,by omega,by go_num,GOOD.o,_,rfl⟩,by simp[Xw];omega⟩
       .have C:=y (λh=>O (h.2 (by omega)));have xl:decide (cM x.ms c<=cM x.ms (c - 1))=true:=by simp;omega
        clear A y good F hz O;go_wp2_with fail
        go_quiet ((go_at_call 113;first|exact Lp (E2 _ _ _ z.o _)|exact Calls.quiet_of_same (E2 _ _ _ z.o _)))
        clear i3 i4
        go_wp2
        go_ret;exact⟨cd (by rw[RJ.o,C.o];rfl),ND⟩
     .have z:=ah A;have C:=y (λh=>A h.1);clear A y good F;go_wp2_with fail
      go_quiet ((go_at_call 113;first|exact Lp (VL _ _ _ z.o _)|exact Calls.quiet_of_same (VL _ _ _ z.o _)))
      go_wp2
      go_ret;exact⟨cd (by rw[RJ.o,C.o];rfl),ND⟩
    .have cH:sq x.ms=true:=Z' λj U=>D.o j (by rw[qm.o]at U;omega);have cy7:=ah cH;clear cH D;have J:∀b,b=mY x->(sj x.ss&&sq x.ms&&mY x)=b:=λb hb=>by rw[RJ.o,cy7.o,hb];rfl
     have tQ:=ah J;clear J;go_wp2_with fail
     go_quiet ((go_at_call 113;first|exact Lp (Ph _ _ _ _)|exact Calls.quiet_of_same (Ph _ _ _ _)))
     by_cases F:x.kind=0
     .exact p_
     have e0:(x.kind==0)=false:=by simp[F]
     by_cases h1:x.kind=1
     .exact p_
     have e1:(x.kind==1)=false:=by simp[h1]
     by_cases h2:x.kind=2
     .exact p_
     have e2:(x.kind==2)=false:=by simp[h2]
     by_cases h3:x.kind=3
     .exact p_
     have e3:(x.kind==3)=false:=by simp[h3]
     by_cases h6:x.kind=6
     .exact p_
     have e6:(x.kind==6)=false:=by simp[h6]
     by_cases kL:x.kind=13
     .exact p_
     have pw:(x.kind==13)=false:=by simp[kL]
     by_cases h5:x.kind=5
     .exact p_
     have e5:(x.kind==5)=false:=by simp[h5]
     by_cases h4:x.kind=4
     .exact p_
     have e4:(x.kind==4)=false:=by simp[h4]
     by_cases pD:x.kind=16
     .exact p_
     have py:(x.kind==16)=false:=by simp[pD]
     by_cases yY:x.kind=15
     .exact p_
     have qs:(x.kind==15)=false:=by simp[yY]
     by_cases h7:x.kind=7
     .exact p_
     have e7:(x.kind==7)=false:=by simp[h7]
     by_cases h8:x.kind=8
     .exact p_
     have e8:(x.kind==8)=false:=by simp[h8]
     by_cases h9:x.kind=9
     .exact p_
     have e9:(x.kind==9)=false:=by simp[h9]
     by_cases dD:x.kind=10
     .go_wp2_with(first
       |(go_at_call 113;refine(Ph _ _ _ _).m ?_;rintro e w3 ⟨rfl,rfl⟩)
       |(go_at_call 114;refine(Z5 x _).m ?_;rintro e w3 ⟨rfl,aN⟩))
      all_goals go_ret
      all_goals refine⟨cd (tQ.o _ (by simp[mY, *])).symm,?_⟩
      all_goals first|exact yX ba _|exact yX (yX ba _) _|exact ak (yX ba _) aN|exact ak (yX (yX ba _) _) aN
     have dL:(x.kind==10)=false:=by simp[dD]
     by_cases bz8:x.kind=11
     .exact p_
     have j6:(x.kind==11)=false:=by simp[bz8]
     by_cases D9:x.kind=12
     .exact p_
     have jN:(x.kind==12)=false:=by simp[D9]
     by_cases sT:x.kind=14
     .exact p_
     have mV:(x.kind==14)=false:=by simp[sT]
     by_cases oz:x.kind=17
     .exact p_
     have D3:(x.kind==17)=false:=by simp[oz]
     go_wp2_with fail
     go_ret;exact⟨cd (tQ.o _ (by simp[mY, *])).symm,ND⟩
def aa0(x:aS)(m s:Xb)(w:Xa)(hx:x.In w w m s):
 aR 34 #[YJ (x.cells m s)] w (YH (dx x)):=by
 cases hv:my x (cy x)with
 |false=>exact(dm2 x m s w hx hv).mono λe w'⟨c,j⟩=>⟨by rw[c];simp[dx,hv],j⟩
 |true=>
  by_cases y:x.ss.length<=20
  .exact(dm4 x m s w hx hv y).mono λe w'⟨c,j⟩=>⟨by rw[c];simp[dx,hv,y],j⟩
  .exact(dm3 x m s w hx hv YN).mono λe w'⟨c,j⟩=>⟨by rw[c];simp[dx,hv,y],j⟩
def dm5{n a b:Int}(h:n<a):dU n a b=false:=by simp[dU];omega
def Pi{n a b:Int}:dU n a b=Xe↔a<=n/\n<=b:=by simp[dU]
def xP(n:Int)(w:Xa):Xq Xn 69 #[n] w λe w'=>e=Ya (YH (dU n 1 16))/\w'=w:=by
 go_enter func69,ntmps69
 go_wp2
 all_goals (go_ret;exact⟨cd JN,rfl⟩)
def Lv(n:Int)(w:Xa):Xq Xn 70 #[n] w λe w'=>e=Ya (YH (dU n 1 8))/\w'=w:=by
 go_enter func70,ntmps70
 go_wp2
 all_goals (go_ret;exact⟨cd JN,rfl⟩)
def VO(n:Int)(w:Xa):Xq Xn 88 #[n] w λe w'=>e=Ya (YH (dU n 0 8))/\w'=w:=by
 go_enter func88,ntmps88
 go_wp2
 all_goals (go_ret;exact⟨cd JN,rfl⟩)
def Pj(n:Int)(w:Xa):Xq Xn 72 #[n] w λe w'=>e=Ya (YH (dU n 0 1048576))/\w'=w:=by
 go_enter func72,ntmps72
 go_wp2
 all_goals (go_ret;exact⟨cd JN,rfl⟩)
def dm6(n:Int)(w:Xa):Xq Xn 74 #[n] w λe w'=>e=Ya (YH (dU n 1 200))/\w'=w:=by
 go_enter func74,ntmps74
 go_wp2
 all_goals (go_ret;exact⟨cd JN,rfl⟩)
def dm7(n:Int)(w:Xa):Xq Xn 77 #[n] w λe w'=>e=Ya (YH (!dU n 0 128))/\w'=w:=by
 go_enter func77,ntmps77
 go_wp2
 all_goals (go_ret;exact⟨cd (by rw[Xz];simp[dU];try omega),rfl⟩)
def aa2(n:Int)(C:aP n)(w:Xa):Xq Xn 68 #[n] w λe w'=>e=Ya (YH (dU n 1 16||dU n 101 108))/\w'=w:=by
 have c:dU (n - 100) 1 8=dU n 101 108:=by simp only[dU];congr 1<;>exact decide_eq_decide.2 YN
 obtain⟨h1,h2⟩:=C;by_cases hm:dU n 1 16=Xe
 .go_enter func68,ntmps68;go_wp2_with(go_at_call 69;refine(xP _ _).m ?_;rintro e y ⟨rfl,rfl⟩)
  go_ret;exact⟨cd (by simp[hm]),rfl⟩
 .have j:dU n 1 16=false:=by simpa using hm
  clear hm;by_cases F: -9223372036854775808<=n - 100
  .go_enter func68,ntmps68;go_wp2_with(first|(go_at_call 69;refine(xP _ _).m ?_;rintro e y ⟨rfl,rfl⟩)|(go_at_call 70;refine(Lv _ _).m ?_;rintro e D ⟨rfl,rfl⟩))
   go_ret;exact⟨cd (by simp[j,c]),rfl⟩
  .have A:dU (n - 100) 1 8=false:=dm5 (by omega);have z:dU (wrap64 (n - 100)) 1 8=false:=by
    have:wrap64 (n - 100)=n - 100+18446744073709551616:=by unfold wrap64;omega
    rw[this];simp[dU];omega
   go_enter func68,ntmps68;go_wp2_with(first|(go_at_call 69;refine(xP _ _).m ?_;rintro e y ⟨rfl,rfl⟩)|(go_at_call 70;refine(Lv _ _).m ?_;rintro e D ⟨rfl,rfl⟩))
   go_ret;exact⟨cd (by simp[j,<-c,A,z]),rfl⟩
def dm8{w w':Xa}{base:Nat}{e:Xv}{y:Nat}{v:Xb}{n:Nat}{xs:List Xb}(h:w.ownsRow base e y v n xs)(A:Below w w w'):w'.ownsRow base e y v n xs:=by
 obtain⟨hl,h⟩:=h;refine⟨hl,?_⟩;rcases h with h|⟨g,cap,c,D,C,j,F⟩
 .exact .inl h
 .refine .inr ⟨g,cap,c,D,C,?_,F⟩;have z:g<w:=by
   rcases XN g w with h|h
   .exact h
   .rw[Array.getElem?_eq_none h]at j;cases j
  rw[A.block g z];exact j
def Pk:(Tryz.prog.info? 9).map (λi=>(i.zero,i.size,i.bytes))=WX (WX (Xp ⟨#[]⟩),1,16):=aI
def dI(w:Xa)(base:Nat)(v:Xb)(l:List ByteArray):Prop:=w.ownsRow base 9 1 v l.length (l.map Xp)
def dI.below{w w':Xa}{base:Nat}{v:Xb}{l:List ByteArray}(h:dI w base v l)(c:Below w w w'):dI w' base v l:=dm8 h c
def dI.slS{w:Xa}{base:Nat}{v:Xb}{l:List ByteArray}(h:dI w base v l):cB w w v l:=Sl.of_own h
def dI.nil_(w:Xa)(base:Nat):dI w base (YG WY 0 0) []:=⟨rfl,.inl ⟨rfl,rfl⟩⟩
def dI.alloc{w:Xa}{base:Nat}{v:Xb}{l:List ByteArray}(h:dI w base v l)(o:Obj):(w.alloc o).ownsRow base 9 1 v l.length (l.map Xp):=World.ownsRow.alloc h o
def dI.snoc{w:Xa}{base:Nat}{v:Xb}{l:List ByteArray}{x:ByteArray}(h:w.ownsRow base 9 1 v (l.length+1) (l.map Xp++[Xp x])):dI w base v (l++[x]):=by unfold dI;rw[Xm,XX];exact h
def dI.grown{a w w':Xa}{v:Xb}{l:List ByteArray}(h:dI w a v l)(c:Below a a w)(j:w.grownBy w' v.ownBlock):Below a a w':=
 c.grown j c.size λk y=>(Xs h k y).1
def dm9(x:ByteArray):∀u∈[Xp x],u.oneCell'=true:=yF
def Lw(n:Int):ByteArray:=bs (Xg n)
def aa3(v:Xb)(l:List Int)(w:Xa)(C:cV w)(h:aW w w v l)(J:l.length<=100000):
 Xq Xn 81 #[v] w λe w'=>∃u,e=Ya u/\dI w' w u (l.map Lw)/\Below w w w':=by
 obtain⟨A,n,c,rfl,hn,hc,hm⟩:=h.form;obtain⟨i0,hi,cE,aZ,bh⟩:=YB Pk;have HL:=ah hn;have H:=ah h;have D:=ah C;have V:n<=100000:=YN;clear h hn J C;go_enter func81,ntmps81;go_wp2_with fail
 go_loopw [3,8] (λs i wr=>∃k:Nat,k<=n/\i=Xo XO k/\dI wr w s ((l.take k).map Lw)/\Below w w wr) (λ_ i _=>n - (Xw i).toNat)
 case atStart=>exact⟨0,cb _,rfl,dI.nil_ _ _,aj w⟩
 case round=>
  obtain⟨k,hk,rfl,bN,hb⟩:=hrel;have j:=ah bN;clear bN;by_cases az:k<n
  .obtain⟨b,o,rfl,AO,bb⟩:=(H.o.below hb (am _)).at_ k az;have U:=bb k az;clear bb;have I:aP (cM l k):=H.o.2 _ (Z8 (by rw[HL.o];exact az))
   go_wp2_with(first
    |(go_at_call 174;refine(Vf _ I _ (D.o.step hb)).m ?_;rintro e O ⟨rfl,y⟩;have z:=j.o.below y)
    |(at_builtin;refine Yt _ rfl (YL 12) (YL 15) _ rfl w.heap.size 9 i0 _ 1 16 underlying22 hi cE aZ bh rfl aF _ _ _ rfl (z.alloc _) (O 0 WY) 1 1 [Xp (bs (Xg (cM l k)))] rfl rfl (cell_one_new _ _ _) (dm9 _) tV bP (bQ hb.size (by have:=y.size;simp;omega)) ?_;intro v' X G F _))
   refine⟨⟨k+1,by omega,by go_num,?_,(z.below (ai (aj _) _)).grown (ai (ak hb y) _) F⟩,by simp[Xw];omega⟩;rw[Z7 l k tU,XX];exact dI.snoc G
  .go_wp2_with fail
   go_ret;exact⟨_,rfl,by rw[Xu (by rw[HL.o];omega)]at j;exact j.o,hb⟩
def bM(s:ByteArray):Option Int:=
 match Lib.atoiAll s.data.toList with
 | .ok v=>if bs (Xg v)=s then WX v else WY
 |_=>WY
def dX:List ByteArray->Option (List Int)
 |[]=>WX []
 |s::r=>match bM s with
  |none=>WY
  |some v=>(dX r).map (v:: ·)
def qH(cs:Array Xb):List Nat->List Int->Array Xb
 |o::os,v::vs=>qH (cs.setIfInBounds o (Xo XO v)) os vs
 |_,_=>cs
def Ly:∀(os:List Nat)(h:List Int)(c:Array Xb),(qH c os h).size=c.size
 |[],_,c=>by simp[qH]
 |_::_,[],c=>by simp[qH]
 |o::os,v::h,c=>by rw[qH,Ly os h];simp
def aa4:∀(os:List Nat)(c:List Int)(j:Array Xb)(o:Nat)(v:Int),os.length=c.length->qH j (os++[o]) (c++[v])=(qH j os c).setIfInBounds o (Xo XO v)
 |[],[],j,o,v,_=>rfl
 |[],_::_,_,_,_,h=>by simp at h
 |_::_,[],_,_,_,h=>by simp at h
 |o'::os,v'::c,j,o,v,h=>by show qH (j.setIfInBounds o' (Xo XO v')) (os++[o]) (c++[v])=_;rw[aa4 os c _ o v yI];rfl
def CJ:∀{l:List ByteArray}{c:List Int},dX l=WX c->c.length=l.length
 |[],c,h=>by simp[dX]at h;subst h;rfl
 |s::r,c,h=>by
  rw[dX]at h;split at h
  .cases h
  .obtain⟨us,hu,rfl⟩:=Option.map_eq_some_iff.1 h;simp[CJ hu]
def Pm:∀(l:List ByteArray)(s:ByteArray),dX (l++[s])=(dX l).bind λc=>(bM s).map λv=>c++[v]
 |[],s=>by cases h:bM s<;>simp[dX,h]
 |x::r,s=>by
  rw[XI,dX,dX];cases hx:bM x with
  |none=>rfl
  |some v=>
   rw[Pm r s];cases dX r with
   |none=>rfl
   |some c=>cases bM s<;>simp
def aa5:∀(l r:List ByteArray),dX l=WY->dX (l++r)=WY
 |[],_,h=>by simp[dX]at h
 |x::l,r,h=>by
  rw[XI,dX];rw[dX]at h;cases hx:bM x with
  |none=>rfl
  |some v=>rw[hx]at h;have:dX l=none:=yI;simp[aa5 l r this]
def IE{s:ByteArray}{v:Int}(h:bM s=WX v):aP v:=by
 unfold bM at h;split at h
 .rename_i v' j;split at h
  .injection h with h;subst h;have c:Lib.parseIntB 64 s.data.toList= .ok v':=by rw[Lib.parseIntB_64];exact j
   have:=Lib.parseIntB_bounds c;exact⟨by omega,by omega⟩
  .cases h
 .cases h
def aa6(w:Xa)(b:Nat)(t:Xv)(cs:Array Xb)(offs:List Nat)(l:List ByteArray)(e:Ys)(w':Xa):Prop:=
 w.grownBy w' (WX b)/\match dX l with
  |some vs=>e=Ya (YH Xe)/\w'.heap[b]?=WX (YI (qH cs offs vs) t (0,0))
  |none=>e=Ya (YH Xc)/\∃cs',w'.heap[b]?=WX (YI cs' t (0,0))/\cs'.size=cs.size
def uu{a w w':Xa}{y:Option Nat}(h:a.grownBy w y)(j:Below w w w'):a.grownBy w' y:=
 ⟨j.os.trans h.os,j.tape.trans h.tape,j.output.trans h.output,bQ h.size j.size,λi z A=>(j.block i (bt z h.size)).trans (h.block i z A)⟩
def Lz(w:Xa)(c:Option Nat):w.grownBy w c:=YC w c
def cB.grown{w w':Xa}{B b:Nat}{v:Xb}{l:List ByteArray}(h:cB w B v l)(j:w.grownBy w' (WX b))(z:B<=b)(A:B<=w):cB w' B v l:=
 Sl.keep h λc o y=>Yp (j.block c YN Nx)
def cV.grown{w w':Xa}{b:Nat}(h:cV w)(c:w.grownBy w' (WX b))(j:8<=b):cV w':=
 h.below (B:=8) ⟨c.os,c.tape,c.output,c.size,λk y=>c.block k (by have:=h.size;omega) Nx⟩ (am _)
def jF{w:Xa}{b:Nat}{C:Array Xb}{t:Xv}(h:w.heap[b]?=WX (YI C t (0,0)))(o:Nat)(u:Xb):(w.setCell (b o WY) u).heap[b]?=WX (YI (C.setIfInBounds o u) t (0,0)):=by simp[Ye,Array.getElem?_modify,h]
def uw{a w:Xa}{b:Nat}(h:a.grownBy w (WX b))(o:Nat)(u:Xb):a.grownBy (w.setCell (b o WY) u) (WX b):=
 ⟨h.os,h.tape,h.output,by simpa[Ye]using h.size,λi c aV=>(Below.heap_setCell w (b o WY) u i Ny).trans (h.block i c aV)⟩
def j8{w:Xa}{b:Nat}{C:Array Xb}{t:Xv}(h:w.heap[b]?=WX (YI C t (0,0))){o:Nat}(ho:o<C.size):w.cell? (b o WY)=WX C[o]:=by simp[Yx,h,ho]
def mZ{w:Xa}{b:Nat}{C:Array Xb}{t:Xv}(h:w.heap[b]?=WX (YI C t (0,0)))(o:Nat):w.frozen? (b o WY)=false:=by simp[World.frozen?,h]
def su(l:List Nat)(k:Nat):Nat:=l.getD k 0
def VP(l:List ByteArray)(k:Nat)(h:k<l.length):l.take (k+1)=l.take k++[aJ l k]:=by rw[List.take_succ_eq_append_getElem h,VK h]
def dn0(l:List Nat)(k:Nat)(h:k<l.length):l.take (k+1)=l.take k++[su l k]:=by rw[List.take_succ_eq_append_getElem h];simp[su,List.getD,Xd h]
def Bo{l:List ByteArray}{k:Nat}(h:k<l.length):aJ l k∈l:=by rw[VK h];exact List.getElem_mem h
def di0(l:List ByteArray)(k:Nat)(h:k<l.length):l=l.take k++(aJ l k::l.drop (k+1)):=by rw[VK h,<-List.drop_eq_getElem_cons h,List.take_append_drop]
def aa7(v:Xb)(l:List ByteArray)(offs:List Nat)(bu J b:Nat)(t:Xv)(cs:Array Xb)(w:Xa)(C:cV w)(B:Nat)
 (h:cB w B v l)(U:B<=b)(O:B<=w)(z:∀s∈l,s.size<=1000000)(y:l.length=offs.length)(V:l.length<=100000)
 (D:∀j,j<offs.length->w.cell? (bu j WY)=WX (YK (WX ⟨b,su offs j,WY⟩)))(F:bu≠b)(lg:bu<w)(dF:8<=b)
 (gW:w.heap[b]?=WX (YI cs t (0,0)))(G:∀j,j<offs.length->su offs j<cs.size):
 Xq Xn 63 #[v,YG (WX (bu 0 WY)) offs.length J] w (aa6 w b t cs offs l):=by
 obtain⟨A,n,c,rfl,hl,hc,hm⟩:=h.form;have cg3:b<w:=by exact Pn
 rw[<-y,hl];have kT:=ah hl;have Gg:=ah (y.symm.trans hl);have H:=ah h;have HG:=ah C;have sJ:=ah z;have HU:=ah D;have I:=ah gW;have HI:=ah G;have Y:n<=100000:=YN;have bj9:=ah F;clear hl y h C z D gW G V F;go_enter func63,ntmps63;go_wp2_with fail
 go_loopw [16] (λi wr=>∃(k:Nat)(vs:List Int),k<=n/\i=Xo XO k/\dX (l.take k)=WX vs/\w.grownBy wr (WX b)/\wr.heap[b]?=WX (YI (qH cs (offs.take k) vs) t (0,0))) (λi _=>n - (Xw i).toNat)
 case atStart=>exact⟨0,[],cb _,rfl,rfl,Lz _ _,I.o⟩
 case round=>
  obtain⟨k,vs,hk,rfl,Cs,hg,gW⟩:=hrel;have HV:=ah Cs;have q':=ah hg;have fG:=ah gW;clear Cs hg gW;by_cases az:k<n
  .obtain⟨bl,ol,rfl,ig,bb⟩:=(H.o.grown q'.o U O).at_ k az;have X:=bb k az;have h2:wr.cell? ⟨bu,k,none⟩=some (.pointer (some ⟨b,su offs k,none⟩)):=by exact aa8
   clear bb;exact aa9
  .exact ab0
def di1{s:ByteArray}{v:Int}(h:Lib.parseIntB 64 s.data.toList= .ok v):bM s=if bs (Xg v)=s then WX v else none:=by
 have:Lib.atoiAll s.data.toList= .ok v:=by rw[<-Lib.parseIntB_64];exact h
 simp[bM,this]
def di2{s:ByteArray}(h:∀v,Lib.parseIntB 64 s.data.toList≠ .ok v):bM s=none:=by
 have:∀v,Lib.atoiAll s.data.toList≠ .ok v:=λv=>by rw[<-Lib.parseIntB_64];exact h v
 unfold bM;split
 .rename_i v c;exact absurd c (this v)
 .rfl
def di3(w:Xa)(b:Nat)(t:Xv)(cs:Array Xb)(o:Nat)(s:ByteArray)(e:Ys)(w':Xa):Prop:=
 w.grownBy w' (WX b)/\∃v:Int,w'.heap[b]?=WX (YI (cs.setIfInBounds o (Xo XO v)) t (0,0))/\e=Ya (YH (bM s).isSome)/\∀u,bM s=WX u->v=u
def Po(s:ByteArray)(b o:Nat)(t:Xv)(F:Array Xb)(w:Xa)(X:cV w)(hs:s.size<=1000000)(dF:8<=b)
 (gW:w.heap[b]?=WX (YI F t (0,0)))(ho:o<F.size):
 Xq Xn 97 #[s,YK (WX (b o WY))] w (di3 w b t F o s):=by
 have Z:b<w:=by exact Pn
 have O:=ah gW;have U:=ah X;clear gW X;cases hp:Lib.parseIntB 64 s.data.toList with
 |ok v=>
  have OC:aP v:=by have:=Lib.parseIntB_bounds hp;exact⟨by omega,by omega⟩
  have z:=λW=>dg8 s YN v hp W;have G:=ah z;have A:=ah (di1 hp);clear z hp;have key:∀r:Bool,((bs (Xg v)).toList==s.toList)=r->(bM s).isSome=r/\∀u,bM s=WX u->v=u:=λr Y=>by
   rw[A.o];by_cases D:bs (Xg v)=s
   .rw[if_pos D];refine⟨?_,λu h=>by injection h⟩;rw[<-Y,D];simp
   .rw[if_neg D];refine⟨?_,λu h=>by cases h⟩;rw[<-Y];symm;show _=Xc;rw[beq_eq_false_iff_ne];intro h;exact D (by rw[<-lv s,<-gK,<-h,gK,eS])
  have y:=ah key;clear key;go_enter func97,ntmps97
  go_wp2_with(first
   |(go_at_call 188;refine(G.o _).m ?_;rintro e w1 ⟨rfl,j⟩;have c:=(j.block b Z).trans O.o;have Tt:=j8 c ho;have I:=mZ c o;have C:=uw (uu (Lz w (WX b)) j) o (Xo XO v))
   |(go_at_call 99;refine(dg5 _ OC _ (U.o.grown C dF)).m ?_;rintro e w2 ⟨rfl,V⟩))
  go_ret;exact⟨uu C V,v,(V.block b (by simp[Ye];have:=j.size;omega)).trans (jF c _ _),(cd (y.o _ rfl).1.symm),(y.o _ rfl).2⟩
 |_=>
  have J:∀v,Lib.parseIntB 64 s.data.toList≠ .ok v:=by intro v h;rw[hp]at h;cases h
  have z:=λW=>dg9 s YN J W;have G:=ah z;have A:=ah (di2 J);clear z hp J;go_enter func97,ntmps97
  go_wp2_with(first
   |(go_at_call 188;refine(G.o _ U.o).m ?_;rintro e w1 ⟨v1,t1,p1,rfl,j⟩;have c:=(j.block b Z).trans O.o;have Tt:=j8 c ho;have I:=mZ c o;have C:=uw (uu (Lz w (WX b)) j) o (Xo XO v1)))
  go_ret;exact⟨C,_,jF c _ _,by rw[A.o];rfl,by rw[A.o];intro u h;cases h⟩
def di4(n:Nat)(y:n<=1000000)(W:Xa):
 (Instr.makeSlice 30 (Xo XO (n:Int)) (Xo XO (n:Int))).run Xn W= .ok (YG (WX (W 0 WY)) n n) (W.alloc (YI (Array.replicate n (Xo XO 0)) 3)):=by
 refine KY λi0 hi cE aZ bh=>?_;have j:(i0.bytes:Int)*(n:Int)<=281474976710656:=by rw[bh];omega
 have c:=run_make (P:=Xn) W 30 3 i0 _ underlying30 hi cE .i64 .i64 n n YN YN j YN;simp only[Int.toNat_natCast]at c;rw[c,aZ];congr 3;apply Array.ext<;>simp[madeCells,Value.cells,Nat.mod_one]
def CK(w:Xa)(l:List ByteArray)(e:Ys)(w':Xa):Prop:=
 Below w w w'/\match dX l with
  |some vs=>∃b n c,e=Ya (.tuple #[YG (WX ⟨b,0,WY⟩) n c,YH Xe])/\aW w' w' (YG (WX ⟨b,0,WY⟩) n c) vs/\w.heap.size<=b
  |none=>e=Ya (.tuple #[YG WY 0 0,YH Xc])
def KZ:∀{l:List ByteArray}{c:List Int},dX l=WX c->∀x∈c,aP x
 |[],c,h=>by simp[dX]at h;subst h;simp
 |s::r,c,h=>by
  rw[dX]at h;split at h
  .cases h
  .rename_i v j;obtain⟨us,hu,rfl⟩:=Option.map_eq_some_iff.1 h;intro x hx;rcases List.mem_cons.1 hx with rfl|hx
   .exact IE j
   .exact KZ hu x hx
def cB.cut1{w:Xa}{B:Nat}{b o n c:Nat}{l:List ByteArray}(h:cB w B (YG (WX (b o WY)) n c) l)(k:Nat)(D:k<n):
 cB w B (YG (WX ⟨b,o+k,WY⟩) 1 (c - k)) [aJ l k]:=by
 obtain⟨A,n',c',he,hl,mJ,hm⟩:=h.form;injection he with y z F;subst y z F;obtain⟨b',o',C,hb,bb⟩:=h.at_ k D;injection C with C;injection C with y z;subst y z;refine⟨_,c - k,rfl,by simp;omega,by simp[XF];omega,λ_=>⟨b,o+k,rfl,hb,λj u hj=>?_⟩⟩
 match j,hj with
 |0,hj=>exact(bb k D).trans Aw
def di5(v:Xb)(s:ByteArray)(o c A b:Nat)(t:Xv)(y:Array Xb)(w:Xa)(J:cV w)(B:Nat)
 (h:cB w B v [s])(I:B<=b)(F:B<=w)(C:s.size<=1000000)
 (O:w.cell? c=WX (YK (WX (b o WY))))(V:c≠b)(U:c<w)(D:8<=b)
 (G:w.heap[b]?=WX (YI y t (0,0)))(X:o<y.size):
 Xq Xn 63 #[v,YG (WX (c 0 WY)) 1 A] w λe w'=>e=Ya (YH (bM s).isSome)/\w.grownBy w' (WX b)/\∃cs',w'.heap[b]?=WX (YI cs' t (0,0))/\cs'.size=y.size/\∀u,bM s=WX u->cs'=y.setIfInBounds o (Xo XO u):=by
 refine(aa7 v [s] [o] c A b t y w J B h I F (by simpa using C) rfl YQ (λj z=>?_) V U D G (λj z=>?_)).mono λe w'⟨hg,hp⟩=>?_
 .have:j=0:=by simpa using z
  subst this;exact O
 .have:j=0:=by simpa using z
  subst this;exact X
 .exact ZX
def di6{c:List Int}{u:Int}{j:Nat}(h:j<c.length):cM (c++[u]) j=cM c j:=by simp[cM,X3 h]
def di7{c:List Int}{u:Int}:cM (c++[u]) c.length=u:=by simp[cM]
def af6{a w w':Xa}{B:Nat}(h:Below B a w)(y:w.grownBy w' (WX B))(j:B<=w):Below B a w':=
 h.grown y j (λk c=>by injection c with c;omega)
def IF(v:Xb)(l:List ByteArray)(w:Xa)(hG:cV w)(h:cB w w v l)(bd:∀s∈l,s.size<=1000000)(hn:l.length<=100000):
 Xq Xn 64 #[v] w (CK w l):=by
 obtain⟨A,n,c,rfl,z,hc,hm⟩:=h.form;have kT:=ah z;have H:=ah h;have HG:=ah hG;have sJ:=ah bd;have km:n<=100000:=YN;have V:=di4 n YN;clear z h hG bd hn;go_enter func64,ntmps64;go_wp2_with fail
 clear V;go_loopw [11] (λi wr=>∃(k:Nat)(y:List Int)(C:Array Xb),k<=n/\i=Xo XO k/\dX (l.take k)=WX y/\Below w w wr/\wr.heap[w.heap.size]?=WX (YI C 3 (0,0))/\C.size=n/\∀j,j<k->C[j]?=WX (Xo XO (cM y j))) (λi _=>n - (Xw i).toNat)
 case atStart=>exact⟨0,[],_,cb _,rfl,rfl,ai (aj w) _,by rw[X1],by simp,by omega⟩
 case round=>
  obtain⟨k,y,C,hk,rfl,Cs,hb,gW,hC,eh⟩:=hrel;have HV:=ah Cs;have fG:=ah gW;have J:=ah hC;have oY:=ah eh;clear Cs gW hC eh;by_cases az:k<n
  .obtain⟨bl,ol,rfl,ig,bb⟩:=(H.o.below hb (am _)).at_ k az;have hcut:=(H.o.below hb (am _)).cut1 k az;have F6:=ah hcut;clear bb hcut;have i1:(0:Int)<=(k:Int):=by omega
   have i2:(k:Int)<(n:Int):=YN;refine Pp λi3=>?_;have i4:((k:Int)+1).toNat=k+1:=YN;have i5:(0:Int)<=(k:Int)+1:=YN;have i6:(k:Int)+1<=(c:Int):=YN;have i7:k+1<=c:=YN;have N4:¬c=k:=YN;have AO:=hb;have lg:w.heap.size<wr:=by exact af7
   have D:=a_ (ai hb (YI #[YK (WX (w k WY))] 132));have call:=di5 (YG (WX ⟨bl,ol+k,WY⟩) 1 (c - k)) (aJ l k) k wr 1 w 3 C (wr.alloc (YI #[YK (WX (w k WY))] 132)).drew
    (HG.o.step D) w (Sl.belowM F6.o (a_ (ai (aj wr) _)) YN) (am _) bP (sJ.o _ (Bo JK))
    qq YN YQ HG.o.size ((Below.heap_alloc wr _ _ lg).trans fG.o) (by rw[J.o];exact az)
   have F:=ah call;have stop:bM (aJ l k)=WY->dX l=none:=λh=>by exact af8
   have STOP:=ah stop;clear call stop AO;cases hp:bM (aJ l k)with
   |some u=>
    have O:=ah hp;rw[hp]at F;clear hp;go_wp2_with fail
    go_region_with (go_at_call 63;refine F.o.m ?_;rintro e w1 ⟨rfl,U,Z,rR,lz,rW⟩)
    all_goals go_wp2_with fail
    all_goals
     have I:y.length=k:=by rw[CJ HV.o,XQ,kT.o];omega
     have X:=rW u rfl;have zi:dX (l.take (k+1))=WX (y++[u]):=by rw[VP l k JK,Pm,HV.o,O.o];rfl
     exact⟨⟨k+1,y++[u],Z,by omega,by go_num,zi,af6 D U D.size,rR,by rw[lz,J.o],λj G=>by
      rw[X];by_cases e:j=k
      .subst e;rw[Array.getElem?_setIfInBounds_self_of_lt (by rw[J.o];exact az),<-I,di7]
      .rw[Array.getElem?_setIfInBounds_ne YN,oY.o j YN,di6 YN]⟩,by simp[Xw];omega⟩
   |none=>
    have O:=ah hp;rw[hp]at F;clear hp;go_wp2_with fail
    go_region_with (go_at_call 63;refine F.o.m ?_;rintro e w1 ⟨rfl,U,Z,rR,lz,rW⟩)
    all_goals go_wp2_with fail
    all_goals go_ret2
    all_goals
     refine⟨af6 D U D.size,?_⟩;rw[STOP.o O.o];rfl
  .go_wp2_with fail
   go_ret2
   have nV:k=n:=YN;have z:dX l=WX y:=by have:=HV.o;rwa [Xu NI]at this
   refine⟨hb,?_⟩;rw[z];have I:y.length=n:=by rw[CJ z,kT.o]
   refine⟨w.heap.size,n,n,rfl,⟨⟨_,n,by rw[Xl,I],by rw[Xl,I];exact am _,by simp[XF];omega,λaV=>⟨w.heap.size,0,rfl,?_,λj u G=>?_⟩⟩,KZ z⟩,am _⟩
   .exact af7
   .have Y:j<y.length:=by
     rcases XN j y.length with h|h
     .exact h
     .rw[List.getElem?_eq_none yI]at G;cases G
    have:=oY.o j YN;simp only[Yx,fG.o,Nat.zero_add];simp only[Option.isSome_none,XC,if_false];rw[this,<-G,Xr,Xd Y,Ls Y];rfl
end
section
open Go Go.RowKit Go.MapKept Go.ChangeMaps Go.Proofs.Tryz
def bI:Nat->List (Xb×Xb)->List MapEntry
 |_,[]=>[]
 |i,p::r=>⟨p.1,p.2,i⟩::bI (i+1) r
def af9(p:Xb×Xb):∀(l:List (Xb×Xb))(i:Nat),bI i (l++[p])=bI i l++[⟨p.1,p.2,i+l.length⟩]
 |[],i=>by simp[bI]
 |a::l,i=>by simp[bI,af9 p l (i+1)];omega
def CL{x:MapEntry}:∀{l:List (Xb×Xb)}{i:Nat},x∈bI i l->∃j,l[j]?=WX (x.key,x.val)/\x.born=i+j
 |[],_,h=>by simp[bI]at h
 |a::l,i,h=>by
  simp only[bI,XR]at h;rcases h with rfl|h
  .exact⟨0,by simp⟩
  .obtain⟨j,h1,h2⟩:=CL h;exact⟨j+1,by simpa using h1,by omega⟩
def Pq:∀(l:List (Xb×Xb))(i j:Nat)(p:Xb×Xb),l[j]?=WX p->⟨p.1,p.2,i+j⟩∈bI i l
 |[],_,_,_,h=>by simp at h
 |a::l,i,0,p,h=>by simp at h;subst h;simp[bI]
 |a::l,i,j+1,p,h=>by
  have:=Pq l (i+1) j p yI;simp only[bI,XR];right;have e:i+1+j=i+(j+1):=YN
  rwa [e]at this
def Pr:∀(l:List (Xb×Xb))(i j:Nat),(bI i l)[j]?=(l[j]?).map λp=>⟨p.1,p.2,i+j⟩
 |[],_,_=>by simp[bI]
 |a::l,i,0=>by simp[bI]
 |a::l,i,j+1=>by simp only[bI,List.getElem?_cons_succ,Pr l (i+1) j];have e:i+1+j=i+(j+1):=YN;rw[e]
def ag0:∀(l:List (Xb×Xb))(i:Nat),((bI i l).map (·.born)).Nodup
 |[],_=>by simp[bI]
 |a::l,i=>by simp only[bI,XA,List.nodup_cons];refine⟨λh=>?_,ag0 l (i+1)⟩;obtain⟨x,hx,e⟩:=List.mem_map.1 h;obtain⟨j,_,hj⟩:=CL hx;omega
def fJ(w:Xa)(b:Nat)(l:List (Xb×Xb)):Prop:=w.heap[b]?=WX (.map (bI 0 l).toArray l.length)
def fJ.lt{w:Xa}{b:Nat}{l:List (Xb×Xb)}(h:fJ w b l):b<w:=(Array.getElem?_eq_some_iff.1 h).1
def fJ.below{B b:Nat}{w w':Xa}{l:List (Xb×Xb)}(h:fJ w b l)(j:Below B w w')(c:b<B):fJ w' b l:=(j.block b c).trans h
def fJ.later{b:Nat}{w w':Xa}{l:List (Xb×Xb)}(h:fJ w b l)(c:Below w w w'):fJ w' b l:=h.below c h.lt
def fJ.made(w:Xa):fJ (w.alloc (.map #[] 0)) w []:=(heap_alloc w _).1
def di8{B b:Nat}{c w:Xa}(h:Below B c w)(y:B<=b){o:Obj}:Below B c (setBlock w b o):=
 ⟨h.os,h.tape,h.output,by simpa[setBlock]using h.size,λi j=>by show(w.heap.setIfInBounds b o)[i]?=_;rw[Array.getElem?_setIfInBounds_ne YN];exact h.block i j⟩
def jt(w w':Xa)(b:Nat):Prop:=(∀B w0,Below B w0 w->B<=b->Below B w0 w')/\w'.heap.size=w.heap.size/\∀i,i≠b->w'.heap[i]?=w.heap[i]?
def IG(w:Xa)(b:Nat)(o:Obj):jt w (setBlock w b o) b:=
 ⟨λ_ _ h c=>di8 h c,by simp[setBlock],λi j=>by show(w.heap.setIfInBounds b o)[i]?=_;rw[Array.getElem?_setIfInBounds_ne YN]⟩
def jt.cell{w w':Xa}{b:Nat}(h:jt w w' b){a:Yy}(c:a.block≠b):w'.cell? a=w.cell? a:=by unfold Yx;rw[h.2.2 _ c]
section
variable {P:YA} (w:Xa) {ops:Array Yf} {rest:List Yf} {o:Yf} {a:Act} {Q:Exit->Act->Xa->Prop}
theorem ag1{P:YA}{w:Xa}{t k e:Xv}{d:TypeDesc}{b:Nat}{l:List (Xb×Xb)}(I:P.underlying t=WX (.map k e))(A:P.underlying k=WX d)(G:fJ w b l)
 {key:Xb}(val:Xb)(y:IsKey d key)(O:∀p∈l,IsKey d p.1/\p.1≠key):
 (Instr.mapUpdate t (.map (WX b)) key val).run P w= .ok () (setBlock w b (.map (bI 0 (l++[(key,val)])).toArray (l++[(key,val)]).length)):=by
 have c:∀x∈bI 0 l,IsKey d x.key/\x.key≠key:=λx hx=>by obtain⟨j,hj,_⟩:=CL hx;exact O _ (fK hj)
 rcases findNow_spec y (bI 0 l) 0 (λx hx=>(c x hx).1)with⟨C,_⟩|⟨j,x,_,D,F⟩
 .have z:w.heap[b]?=WX (.map (bI 0 l).toArray l.length):=G;have J:Instr.findNow d key (bI 0 l).toArray.toList 0=WX none:=C;simp only[Instr.mapUpdate,run_underlying I,MapKept.run_getObj_map z,MapKept.run_checkKey A y,MapKept.run_findKey A J,MapKept.run_setObj_map _ z,Result.andThen,Sem.run_bind,setBlock,af9,Xm,XH,Nat.zero_add];simp
 .exact absurd F (c x (fK D)).2
theorem CM(D:o.guard=WY)(m x v:Operand)(t:Xv)(dJ:o.op=Op.mapUpdate t m x v\/o.op=Op.insert t m x v)
 (k e:Xv)(d:TypeDesc)(G:P.underlying t=WX (.map k e))(F:P.underlying k=WX d)(b:Nat)(l:List (Xb×Xb))(hm:a.eval m= .map (WX b))(A:fJ w b l)
 (key val:Xb)(hx:a.eval x=key)(hv:a.eval v=val)(C:IsKey d key)(I:∀p∈l,IsKey d p.1/\p.1≠key)
 (z:∀w',fJ w' b (l++[(key,val)])->jt w w' b->wpList P ops Q rest (a.put o.dst Yg) w'):
 wpList P ops Q (o::rest) a w:=by
 refine wpList_plain D λJ c=>?_;have eB:=ag1 G F A val C I;have j:fJ (setBlock w b (.map (bI 0 (l++[(key,val)])).toArray (l++[(key,val)]).length)) b (l++[(key,val)]):=heap_setBlock_same A _;unfold YE;have y:=z _ j (IG _ _ _);have h4:=c _ _ y;clear j y z c;generalize setBlock w b (.map (bI 0 (l++[(key,val)])).toArray (l++[(key,val)]).length)=W at eB h4;exact VQ
theorem K7{P:YA}{w:Xa}{t k e:Xv}{d:TypeDesc}{b:Nat}{l:List (Xb×Xb)}(U:P.underlying t=WX (.map k e))(A:P.underlying k=WX d)(O:fJ w b l)
 {key v:Xb}(c:Bool)(C:IsKey d key)(X:∀p∈l,IsKey d p.1)(I:∀p∈l,p.1=key->p.2=v)(V:∃p∈l,p.1=key):
 (XB t (.map (WX b)) key c).run P w= .ok (if c then .tuple #[v,YH Xe]else v) w:=by
 have z:∀x∈bI 0 l,IsKey d x.key/\(x.key=key->x.val=v):=λx hx=>by obtain⟨j,hj,_⟩:=CL hx;exact⟨X _ (fK hj),I _ (fK hj)⟩
 have J:w.heap[b]?=WX (.map (bI 0 l).toArray l.length):=O;rcases findNow_spec C (bI 0 l) 0 (λx hx=>(z x hx).1)with⟨_,y⟩|⟨j,x,y,D,F⟩
 .obtain⟨p,hp,he⟩:=V;obtain⟨j,hj⟩:=List.mem_iff_getElem?.1 hp;exact absurd he (y _ (Pq l 0 j p hj))
 .have G:Instr.findNow d key (bI 0 l).toArray.toList 0=WX (WX (0+j,x.val)):=y;rw[(z x (fK D)).2 F]at G;simp only[XB,run_underlying U,MapKept.run_getObj_map J,MapKept.run_checkKey A C,MapKept.run_findKey A G,Result.andThen,Sem.run_bind];rw[(z x (fK D)).2 F]at y;cases c<;>simp[MapKept.run_findKey A y]
theorem K8{P:YA}{w:Xa}{t k e:Xv}{d:TypeDesc}{b:Nat}{l:List (Xb×Xb)}(U:P.underlying t=WX (.map k e))(y:P.underlying k=WX d)(O:fJ w b l)
 {key z:Xb}(c:Bool)(C:IsKey d key)(X:∀p∈l,IsKey d p.1/\p.1≠key)(F:(zeroValue e).run P w= .ok z w):
 (XB t (.map (WX b)) key c).run P w= .ok (if c then .tuple #[z,YH Xc]else z) w:=by
 have A:∀x∈bI 0 l,IsKey d x.key/\x.key≠key:=λx hx=>by obtain⟨j,hj,_⟩:=CL hx;exact X _ (fK hj)
 have G:w.heap[b]?=WX (.map (bI 0 l).toArray l.length):=O;rcases findNow_spec C (bI 0 l) 0 (λx hx=>(A x hx).1)with⟨D,_⟩|⟨j,x,_,I,J⟩
 .have V:Instr.findNow d key (bI 0 l).toArray.toList 0=WX none:=D;simp only[XB,run_underlying U,MapKept.run_getObj_map G,MapKept.run_checkKey y C,MapKept.run_findKey y V,Result.andThen,Sem.run_bind,F];cases c<;>simp[MapKept.run_findKey y D,F]
 .exact absurd J (A x (fK I)).2
theorem di9(A:o.guard=WY)(m x:Operand)(t:Xv)(c:Bool)(dJ:o.op=Op.lookup t m x c)
 (k e:Xv)(d:TypeDesc)(D:P.underlying t=WX (.map k e))(C:P.underlying k=WX d)(b:Nat)(l:List (Xb×Xb))(hm:a.eval m= .map (WX b))(z:fJ w b l)
 (key v:Xb)(hx:a.eval x=key)(y:IsKey d key)(G:∀p∈l,IsKey d p.1)(j:∀p∈l,p.1=key->p.2=v)(F:∃p∈l,p.1=key)
 (hK:wpList P ops Q rest (a.put o.dst (if c then .tuple #[v,YH Xe]else v)) w):
 wpList P ops Q (o::rest) a w:=by
 refine wpList_plain A λI g_=>?_;have eB:=K7 D C z c y G j F;exact VR
theorem dj0(A:o.guard=WY)(m x:Operand)(t:Xv)(c:Bool)(dJ:o.op=Op.lookup t m x c)
 (k e:Xv)(d:TypeDesc)(D:P.underlying t=WX (.map k e))(C:P.underlying k=WX d)(b:Nat)(l:List (Xb×Xb))(hm:a.eval m= .map (WX b))(y:fJ w b l)
 (key z:Xb)(hx:a.eval x=key)(j:IsKey d key)(G:∀p∈l,IsKey d p.1/\p.1≠key)(F:(zeroValue e).run P w= .ok z w)
 (hK:wpList P ops Q rest (a.put o.dst (if c then .tuple #[z,YH Xc]else z)) w):
 wpList P ops Q (o::rest) a w:=by
 refine wpList_plain A λI g_=>?_;have eB:=K8 D C y c j G F;exact VR
def vX(w:Xa)(b r:Nat)(l:List (Xb×Xb))(seen:Array Nat):Prop:=
 ∃c0,fJ w b l/\w.heap[r]?=WX (.mapIter (WX b) l.length seen c0)/\l.length<=c0
theorem vX.below{B b r:Nat}{w w':Xa}{l:List (Xb×Xb)}{seen:Array Nat}(h:vX w b r l seen)(c:Below B w w')(j:b<B)(y:r<B):vX w' b r l seen:=by obtain⟨c0,hm,hr,hc⟩:=h;exact⟨c0,hm.below c j,(c.block r y).trans hr,hc⟩
theorem vX.lt{w:Xa}{b r:Nat}{l:List (Xb×Xb)}{seen:Array Nat}(h:vX w b r l seen):b<w/\r<w:=by obtain⟨c0,hm,hr,_⟩:=h;exact⟨hm.lt,(Array.getElem?_eq_some_iff.1 hr).1⟩
theorem vX.left{w:Xa}{b r:Nat}{l:List (Xb×Xb)}{seen:Array Nat}(h:vX w b r l seen):w.rangeLeft b r=(leftOf (bI 0 l).toArray seen).size:=by obtain⟨c0,hm,hr,_⟩:=h;have c:w.heap[b]?=WX (.map (bI 0 l).toArray l.length):=hm;simp only[World.rangeLeft,c,hr]
theorem dj1(C:o.guard=WY)(m:Operand)(t:Xv)(j:o.op=Op.range t m)(k e:Xv)(D:P.underlying t=WX (.map k e))(b:Nat)(l:List (Xb×Xb))
 (hm:a.eval m= .map (WX b))(c:fJ w b l)
 (A:∀w',vX w' b w l #[]->Below w w w'->w'.heap.size=w.heap.size+1->wpList P ops Q rest (a.put o.dst (YK (WX w))) w'):
 wpList P ops Q (o::rest) a w:=by
 refine wpList_plain C λF z=>?_;have y:=run_range_map w t k e b _ _ D c;unfold YE;simp[Yr,j,hm,y,Result.andThen];refine z _ _ (A _ ⟨l.length,c.later (ai (aj w) _),(heap_alloc w _).1,am _⟩ (ai (aj w) _) YQ)
theorem wpList_step(hg:o.guard=WY)(it:Operand)(Y:o.op=Op.next it Xc)(b r:Nat)(l:List (Xb×Xb))(seen:Array Nat)
 (z:a.eval it=YK (WX r))(h:vX w b r l seen)
 (F:(∀i,i<l.length->seen.contains i=Xe)->wpList P ops Q rest (a.put o.dst (.tuple #[YH Xc])) w)
 (G:∀(i:Nat)(k v:Xb)(w':Xa),l[i]?=WX (k,v)->seen.contains i=Xc->vX w' b r l (seen.push i)->w'.rangeLeft b r<w.rangeLeft b r->jt w w' r->
   (Instr.entry (YK (WX r))).run P w'= .ok (.tuple #[k,v]) w'->wpList P ops Q rest (a.put o.dst (.tuple #[YH Xe,k,v])) w'):
 wpList P ops Q (o::rest) a w:=by
 refine wpList_plain hg λK' Z=>?_;have I:=h.left;have h':=h;obtain⟨c0,hm,hr,hc⟩:=h;have hold:∀x∈(bI 0 l).toArray.toList,x.born<l.length:=λx hx=>by obtain⟨j,hj,e⟩:=CL hx;have:=(List.getElem?_eq_some_iff.1 hj).1;omega
 have aV:b≠r:=by intro e;subst e;have np:w.heap[b]?=WX (.map (bI 0 l).toArray l.length):=hm;rw[np]at hr;cases hr
 unfold YE;rcases run_next_at (P:=P) w o.type r b l.length c0 seen _ _ hr hm hold hc with⟨h0,D⟩|⟨x,hx,c,C,D⟩
 .simp[Yr,Y,z,D,Result.andThen];refine Z _ _ (F λi hi=>?_);have:=all_seen _ seen h0 _ (Pq l 0 i l[i] (Xd hi));simpa using this
 .obtain⟨co9,Hq⟩:=mem_left hx;obtain⟨j,hj,hb⟩:=CL co9;rw[Nat.zero_add]at hb;have pO:=left_shrinks _ seen x hx;have cJ:c.heap[b]?=some (.map (bI 0 l).toArray l.length):=by rcases C with rfl|rfl<;>exact hm
  have ca:c.heap[r]?=WX (.mapIter (WX b) l.length seen c0):=by rcases C with rfl|rfl<;>exact hr
  have O:=heap_set (o':= .mapIter (WX b) l.length (seen.push x.born) l.length) ca;have V:(setBlock c r (.mapIter (WX b) l.length (seen.push x.born) l.length)).heap[b]?=WX (.map (bI 0 l).toArray l.length):=(O.2 b aV).trans cJ;have J:vX (setBlock c r (.mapIter (WX b) l.length (seen.push x.born) l.length)) b r l (seen.push x.born):=⟨l.length,V,O.1,am _⟩;have X:(setBlock c r (.mapIter (WX b) l.length (seen.push x.born) l.length)).rangeLeft b r<w.rangeLeft b r:=by rw[J.left,I];exact pO
  have A:=IG c r (.mapIter (WX b) l.length (seen.push x.born) l.length);have hT:jt w (setBlock c r (.mapIter (WX b) l.length (seen.push x.born) l.length)) r:=by
   rcases C with rfl|rfl
   .exact A
   .exact⟨λB w0 y eN=>A.1 B w0 ⟨y.os,y.tape,y.output,y.size,y.block⟩ eN,A.2.1,A.2.2⟩
  have U:=run_entry_at (P:=P) (setBlock c r (.mapIter (WX b) l.length (seen.push x.born) l.length)) r b l.length seen _ _ x O.1 V co9 (ag0 l 0);simp[Yr,Y,z,D,Result.andThen];rw[hb]at Hq J X hT U⊢
  exact Z _ _ (G j x.key x.val _ hj Hq J X hT U)
end
def Br(r:Nat):Bool:=WZ (r<33)||WZ (126<r)
def dj2{s:ByteArray}{i:Nat}(h:xN (s.get! i)=Xe):Utf8.decode s i=((s.get! i).toNat,1):=by have:=(Lu _).1 h;unfold Utf8.decode;simp only[Xt];rw[if_pos YN]
def dj3{s:ByteArray}{i:Nat}(h:xN (s.get! i)=Xc):Br (Utf8.decode s i).1=true:=by
 have c:¬(33<=(s.get! i).toNat/\(s.get! i).toNat<=126):=by rw[<-Lu,h];simp
 unfold Utf8.decode Br;simp only[Xt,Utf8.runeError];split
 .simp;omega
 .exact ag2
def ag3(s:ByteArray):∀(f pos:Nat),s.size<=pos+f->(0<=Lib.idxFuncFrom Br Xe s f pos↔∃k,pos<=k/\k<s.size/\xN (s.get! k)=Xc)
 |0,pos,h=>by simp only[Lib.idxFuncFrom];exact Ps
 |f+1,pos,h=>by
  simp only[Lib.idxFuncFrom];by_cases c:pos<s.size
  .rw[if_pos c];cases ho:xN (s.get! pos)with
   |true=>
    have j:=dj2 ho;have y:Br (s.get! pos).toNat=false:=by have:=(Lu _).1 ho;simp[Br];omega
    rw[j];simp only[y,XC,if_false];rw[ag3 s f (pos+1) YN];exact ag4
   |false=>rw[if_pos (dj3 ho)];exact⟨λ_=>⟨pos,am _,c,ho⟩,λ_=>by omega⟩
  .rw[if_neg c];exact Ps
def VS(s:ByteArray)(k:Nat)(h:k<s.size):s.get! k=s[k]:=by rw[ByteArray.getElem_eq_getElem_data];exact getElem!_pos s.data k h
def dj4(s:ByteArray):WZ (0<=Lib.idxFunc Br Xe s)= !vW s:=by
 have h:=ag3 s s.size 0 YN;cases c:vW s with
 |true=>
  simp only[Bool.not_true,decide_eq_false_iff_not];rw[Lib.idxFunc,h];rintro⟨k,_,j,y⟩;rw[VS s k j]at y;rw[Z4 j (by simp[y])]at c;cases c
 |false=>
  simp only[Bool.not_false,decide_eq_true_eq];rw[Lib.idxFunc,h];apply Classical.byContradiction;intro z;rw[Z3 (λk c=>by
   cases ho:xN s[k]with
   |true=>rfl
   |false=>exact absurd ⟨k,cb _,c,by rw[VS s k c];exact ho⟩ z)]at c
  cases c
def dj5(w:Xa):PredAt Xn 186 #[] Go.Proofs.encR Br w:=by
 intro W r _;show Xq _ _ _ _ _;go_enter func186,ntmps186
 go_wp2
 .go_ret;refine⟨?_,0,rfl⟩;have c:WZ ((r:Int)<33)=WZ (r<33):=decide_eq_decide.2 YN;have j:WZ ((126:Int)<r)=WZ (126<r):=decide_eq_decide.2 YN;show Ya (YH (WZ ((r:Int)<33)||WZ ((126:Int)<r)))=_;rw[c,j];rfl
 .go_ret;refine⟨?_,0,rfl⟩;show Ya (YH Xe)=_;simp only[Br,Ending.returned.injEq,Value.bool.injEq];simp;omega
def ag5{s:ByteArray}:s.toList=[]↔s.size=0:=by rw[gK];have e:s.size=s.data.toList.length:=Nz;rw[e];exact List.length_eq_zero_iff.symm
def dj6(x:aS)(w:Xa):
 aR 89 #[YJ (E1 x)] w (YH (ut x)):=by
 have j:=λW=>strings_ContainsFunc 186 #[] (Xk func186 aI rfl) Br x.key W (dj5 W);simp only[dj4]at j;have y:=ah j;clear j;rw[E1];go_enter func89,ntmps89;go_wp2_with(go_at_call 187;refine(y.o _).m ?_;rintro e D ⟨rfl,c⟩;have z:=ak (ai (aj w) _) c;have A:w.heap.size<D:=dB c YQ;obtain⟨bA,bT⟩:=dr c)
 all_goals
  go_ret;refine⟨cd ?_,by first|exact z|exact ai (aj w) _⟩;clear y;rw[Xz];simp_all only[ut,ag5,List.isEmpty_iff,Xh,Ym,decide_eq_true_eq,beq_iff_eq,Yk,bne_iff_ne,beq_eq_false_iff_ne,not_or,XC,false_iff,ne_eq,true_iff,not_true,not_false_iff,Bool.not_eq_false,Bool.not_eq_true];try clear c
  try clear bA
  try clear bT
  try clear z
  try clear A
  try(cases C:vW x.key<;>simp only[C,false_and,or_self,List.isEmpty_eq_false_iff,ag5,ne_eq,Bool.not_eq_false',Bool.not_true,Bool.not_false,XC,and_false,not_false_iff,and_true,or_true,or_false,Bool.true_eq_false,reduceCtorEq,false_or,true_and,not_true_eq_false,not_false_eq_true]at* <;>omega)
def K9(W:Xa)(k:Nat)(l:List ByteArray):Prop:=k<W/\∀j u,(l.map Xp)[j]?=WX u->W.cell? (k j WY)=WX u
def dj7{W c:Xa}{b k j:Nat}{o:Obj}(y:jt (W.alloc o) c b)(z:k<W)(h:k≠b):c.cell? (k j WY)=W.cell? (k j WY):=
 (y.cell (by simpa using h)).trans ((ai (aj W) o).cell (p:=k j WY) z)
def dj8{W c:Xa}{b k:Nat}{o:Obj}(j:jt (W.alloc o) c b)(h:k<W):k<c:=by rw[j.2.1];simp;omega
def K9.put{W c:Xa}{b k:Nat}{o:Obj}{l:List ByteArray}(h:K9 W k l)(y:jt (W.alloc o) c b)(z:k≠b):K9 c k l:=
 ⟨dj8 y h.1,λj u A=>(dj7 y h.1 z).trans (h.2 j u A)⟩
def K9.slS{W:Xa}{k n:Nat}{l:List ByteArray}(h:K9 W k l)(c:n=l.length)(z:l.length<=100):cB W W (YG (WX (k 0 WY)) n n) l:=by subst c;exact⟨_,l.length,by simp,by simp,by simp[XF];omega,λ_=>⟨k,0,rfl,h.1,λj u y=>by rw[Nat.zero_add];exact h.2 j u y⟩⟩
end
section
open Go Go.RowKit Go.Proofs.Tryz
def E5(d:Nat)(h:d<10):(Yn (48+d)).toNat=48+d:=by rw[UInt8.toNat_ofNat'];omega
def ae0:∀(n u:Nat)(r:List UInt8),u<=n->u<18446744073709551616->Lib.parseUint10 0 (Xx u++r)=Lib.parseUint10 u r
 |0,u,r,hn,_=>by have:u=0:=YN;subst this;rw[Xx,dif_pos YN];rfl
 |n+1,u,r,hn,hu=>by
  rw[Xx];by_cases c:u<10
  .rw[dif_pos c];show Lib.parseUint10 0 (Yn (48+u)::r)=_;rw[Lib.parseUint10,E5 u c,if_pos YN,if_neg YN,if_neg YN];congr 1;omega
  .rw[dif_neg c,XJ,ae0 n (u / 10) _ YN YN];show Lib.parseUint10 (u / 10) (Yn (48+u%10)::r)=_;rw[Lib.parseUint10,E5 (u%10) YN,if_pos YN,if_neg YN,if_neg YN];congr 1;omega
def Lj(u:Nat):Xx u≠[]:=by rw[Xx];split<;>simp
def ae1(u:Nat)(c:u<18446744073709551616):Lib.parseMag (Xx u)= .ok u:=by unfold Lib.parseMag;rw[if_neg (Lj u)];have:=ae0 u u [] (am _) c;rw[Yz]at this;rw[this];rfl
def E6:∀(n u:Nat),u<=n->∀c∈Xx u,48<=c.toNat/\c.toNat<=57
 |0,u,hn,c,j=>by have:u=0:=YN;subst this;rw[Xx,dif_pos YN]at j;simp at j;subst j;decide
 |n+1,u,hn,c,j=>by
  rw[Xx]at j;by_cases y:u<10
  .rw[dif_pos y]at j;have:c=UInt8.ofNat (48+u):=by simpa using j
   subst this;rw[E5 u y];omega
  .rw[dif_neg y]at j;rcases List.mem_append.1 j with h|h
   .exact E6 n (u / 10) YN c h
   .have:c=UInt8.ofNat (48+u%10):=by simpa using h
    subst this;rw[E5 _ YN];omega
def dr4(v:Int)(h:aP v):Lib.atoiAll (Xg v)= .ok v:=by
 obtain⟨h1,h2⟩:=h;unfold Xg;by_cases j:v<0
 .rw[if_pos j,Lib.atoiAll_minus,ae1 _ (by omega)];show Lib.signed (.ok v.natAbs)=_;unfold Lib.signed;simp only
  rw[if_neg YN];congr 1;omega
 .rw[if_neg j];cases hd:Lib.decDigits v.toNat with
  |nil=>exact absurd hd (Lj _)
  |cons c r=>have y:=E6 v.toNat v.toNat (am _) c (by rw[hd];simp);rw[Lib.atoiAll_plain c r YN YN,<-hd,ae1 _ YN];show Lib.signless (.ok v.toNat)=_;unfold Lib.signless;simp only;rw[if_neg YN];congr 1;omega
def IM(v:Int)(h:aP v):bM (bs (Xg v))=WX v:=by unfold bM;rw[eS,dr4 v h];simp
def IN{s:ByteArray}{v:Int}(h:bM s=WX v):bs (Xg v)=s:=by
 unfold bM at h;split at h
 .split at h
  .injection h with h;subst h;assumption
  .cases h
 .cases h
def E7:∀(l:List Int),(∀x∈l,aP x)->dX (l.map λn=>bs (Xg n))=WX l
 |[],_=>rfl
 |v::r,h=>by
  rw[XA,dX,IM v (h v YQ)];simp only
  rw[E7 r λx hx=>h x AB];rfl
def O0:∀{l:List ByteArray}{c:List Int},dX l=WX c->c.map (λn=>bs (Xg n))=l
 |[],c,h=>by simp[dX]at h;subst h;rfl
 |s::r,c,h=>by
  rw[dX]at h;split at h
  .cases h
  .rename_i v j;obtain⟨us,hu,rfl⟩:=Option.map_eq_some_iff.1 h;rw[XA,IN j,O0 hu]
def qJ(w:List UInt8):Prop:=∀c∈w,c≠32
def Lk(v:Int):qJ (Xg v):=by
 intro c j;unfold Xg at j;split at j
 .rcases List.mem_cons.1 j with rfl|j
  .decide
  .intro e;subst e;have:=E6 _ _ (am _) _ j;exact absurd this aF
 .intro e;subst e;have:=E6 _ _ (am _) _ j;exact absurd this aF
def dr5{s:ByteArray}(h:vW s=Xe):qJ s.data.toList:=by intro c j e;subst e;rw[vW,XM]at h;exact absurd (h _ j) aF
def ae2:∀(w r:List UInt8),qJ w->Lib.index (w++32::r) [32]=w.length
 |[],r,_=>by simp[Lib.index]
 |c::w,r,h=>by
  have y:c≠32:=h c YQ;have A:=ae2 w r (λx hx=>h x AB);show Lib.index (c::(w++32::r)) [32]=_;rw[Lib.index,A];have z:([32]:List UInt8).isPrefixOf (c::(w++32::r))=false:=by simp[List.isPrefixOf,Ne.symm y]
  rw[z];have j:((w.length:Int)== -1)=false:=YQ;simp[j]
def ae3:∀(w:List UInt8),qJ w->Lib.index w [32]= -1
 |[],_=>by simp[Lib.index]
 |c::w,h=>by
  have j:c≠32:=h c YQ;have z:=ae3 w (λx hx=>h x AB);rw[Lib.index,z];have y:([32]:List UInt8).isPrefixOf (c::w)=false:=by simp[List.isPrefixOf,Ne.symm j]
  rw[y];simp
def ae4(w:List UInt8)(h:qJ w):XL w [32]=[w]:=by unfold XL;rw[Lib.count_miss (ae3 w h)];rfl
def ae5(w r:List UInt8)(h:qJ w):XL (w++32::r) [32]=w::XL r [32]:=by
 have c:=ae2 w r h;have e:(w++32::r).drop (w.length+1)=r:=by rw[List.drop_append];simp
 unfold XL;rw[Lib.count_hit YQ c,Nat.add_comm,Lib.splitK,c];have j:((w.length:Int)== -1)=false:=YQ;simp only[j,XC,if_false,Int.toNat_natCast,Xt,XH];rw[e];simp
def ae6(w x:List UInt8)(r:List (List UInt8)):Lib.join (w::x::r) [32]=w++32::Lib.join (x::r) [32]:=by rw[Lib.join_cons,Lib.join_cons];simp[Yd]
def ae7:∀(w:List UInt8)(r:List (List UInt8)),(∀x∈w::r,qJ x)->XL (Lib.join (w::r) [32]) [32]=w::r
 |w,[],h=>by rw[Lib.join_one];exact ae4 w (h w YQ)
 |w,x::r,h=>by rw[ae6,ae5 w _ (h w YQ),ae7 x r λy hy=>h y Nv]
def BQ:∀(l:List UInt8),qJ l\/∃w r,l=w++32::r/\qJ w
 |[]=> .inl λc j=>by simp at j
 |c::l=>by
  by_cases j:c=32
  .subst j;exact .inr ⟨[],l,rfl,λc j=>by simp at j⟩
  .rcases BQ l with h|⟨w,r,rfl,h⟩
   .exact .inl λx hx=>by
     rcases List.mem_cons.1 hx with rfl|hx
     .exact j
     .exact h x hx
   .exact .inr ⟨c::w,r,rfl,λx hx=>by
     rcases List.mem_cons.1 hx with rfl|hx
     .exact j
     .exact h x hx⟩
def ae8:∀(n:Nat)(l:List UInt8),l.length<=n->∃w r,XL l [32]=w::r/\Lib.join (w::r) [32]=l
 |n,l,hn=>by
  rcases BQ l with h|⟨w,r,rfl,h⟩
  .exact⟨l,[],ae4 l h,Lib.join_one _ _⟩
  .match n,hn with
   |0,hn=>simp at hn
   |n+1,hn=>obtain⟨x,q,h1,h2⟩:=ae8 n r JP;exact⟨w,x::q,by rw[ae5 w r h,h1],by rw[ae6,h2]⟩
def cP(s:ByteArray):List ByteArray:=Lib.splitB (bs [32]) 0 (Yj s (bs [32])) s
def Vl(s:ByteArray):(cP s).map (·.data.toList)=XL s.data.toList [32]:=by unfold cP XL;rw[Lib.splitB_data];simp[Yj,eS]
def dr6(l:List ByteArray):(l.map (·.data.toList)).map bs=l:=by
 rw[X5]
 conv=>rhs;rw[<-List.map_id l]
 exact List.map_congr_left λx _=>lv x
def dr7(s:ByteArray):cP s=(XL s.data.toList [32]).map bs:=by rw[<-Vl,dr6]
def ae9(w:List UInt8)(r:List (List UInt8))(h:∀x∈w::r,qJ x):cP (bs (Lib.join (w::r) [32]))=(w::r).map bs:=by rw[dr7,eS,ae7 w r h]
def Ll(s:ByteArray):∃w r,cP s=w::r/\bs (Lib.join ((w::r).map (·.data.toList)) [32])=s:=by
 obtain⟨w,r,h1,h2⟩:=ae8 _ s.data.toList (am _);have c:=Vl s;rw[h1]at c
 match hs:cP s with
 |[]=>rw[hs]at c;simp at c
 |x::q=>exact⟨x,q,rfl,by rw[<-hs,Vl,h1,h2,lv]⟩
end
end Go.Proofs.YtpfienbhhhgpkaaGreatDoor
