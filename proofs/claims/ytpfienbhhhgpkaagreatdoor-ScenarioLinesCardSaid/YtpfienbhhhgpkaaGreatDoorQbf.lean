/- A part of the proof. -/
import Derived.Test.YtpfienbhhhgpkaaGreatDoorQbc
import Derived.Test.YtpfienbhhhgpkaaGreatDoorQbd
set_option linter.defProp false
set_option linter.unusedVariables false
set_option linter.unusedSimpArgs false
set_option maxRecDepth 100000
set_option maxHeartbeats 32000000
open Option renaming some->WX,none->WY
open Decidable renaming decide->WZ
open Go renaming World->Xa,Value->Xb,Calls->Xq,TypeId->Xv,maxLen->XF,Oper->Yf,undef->Yg,execOp->Yr,Ending->Ys,Addr->Yy,Program->YA
open Bool renaming false->Xc,true->Xe
open List renaming range->XS
open Go.RowKit renaming Hid->Xf
open Go.Lib renaming itoa->Xg,joinTail->Yd
open Go.Proofs.Tryz renaming prog->Xn
open Go.Proofs renaming intOf->Xw
open Go.Value renaming int->Xo,string->Xp,slice->YG,bool->YH,agg->YJ,pointer->YK
open Go.Instr renaming lookup->XB
open Go.IntKind renaming i64->XO
open Go.Region renaming wanted->XW
open Go.Ending renaming returned->Ya
open Go.Oper renaming wp->YE
open Go.Obj renaming cells->YI
open Go.Operand renaming tmp->YL,const->YM
namespace Go.Proofs.YtpfienbhhhgpkaaGreatDoor
section
open Go Go.RowKit Go.Proofs.Tryz
def kG(x:aS):List (List UInt8):=
 if x.ok=0 then[[103,101,116],x.key.data.toList]
 else if x.ok=1 then[[112,117,116],x.key.data.toList,Xg x.val]
 else if x.ok=2 then[[99,97,115],x.key.data.toList,Xg x.old,Xg x.val]
 else[[97,100,100],x.key.data.toList,Xg x.val]
def cT(x:aS):List (List UInt8):=
 if x.kind=4\/x.kind=16 then[]
 else if x.kind=15 then x.ms.map Xg
 else if x.kind=5 then Xg x.a::x.ss.map Xg
 else if x.kind=7 then[Xg x.a,Xg x.b]
 else if x.kind=14 then[Xg x.a,Xg x.b,Xg x.c]
 else if x.kind=12 then[Xg x.a,Xg x.b,Xg x.val]
 else if x.kind=10 then[Xg x.a,Xg x.b]++kG x
 else[Xg x.a]
def dy(x:aS):List UInt8:=Lib.join (bH x.kind.toNat::cT x) [32]
def ID(l:List Int):eY l=Yd [32] (l.map Xg):=by
 induction l with
 |nil=>rfl
 |cons n r ih=>simp[eY,ih,Yd]
def KS(x:aS):dy x=bH x.kind.toNat++Yd [32] (cT x):=Lib.join_cons _ _ _
def aW.lit(W:Xa)(l:List Int)(hl:∀x∈l,aP x)(c:l.length<=1000)(t:Xv):
 aW (W.alloc (YI (l.map (Xo .i64)).toArray t)) (W.alloc (YI (l.map (Xo .i64)).toArray t)).heap.size (YG (WX (W 0 WY)) l.length l.length) l:=by
 exact aa1
def aW.of1{W:Xa}{h:Nat}{a:Int}(y:W.cell? h=WX (Xo XO a))(z:h<W)(c:aP a):aW W W (YG (WX (h 0 WY)) 1 1) [a]:=
 ⟨⟨_,1,rfl,am _,by simp[maxLen],λ_=>⟨h,0,rfl,z,λj u hj=>by
   match j,hj with
   |0,hj=>simpa using(y.trans Aw)⟩⟩,by simpa using c⟩
def aW.of2{W:Xa}{h:Nat}{a b:Int}(A:W.cell? h=WX (Xo XO a))(c:W.cell? (h 1 WY)=WX (Xo XO b))(C:h<W)(y:aP a)(z:aP b):aW W W (YG (WX (h 0 WY)) 2 2) [a,b]:=
 ⟨⟨_,2,rfl,am _,by simp[maxLen],λ_=>⟨h,0,rfl,C,λj u hj=>by
   match j,hj with
   |0,hj=>simpa using(A.trans Aw)
   |1,hj=>simpa using(c.trans Aw)⟩⟩,by simpa using⟨y,z⟩⟩
def nH{W c:Xa}(j:Below W.drew.heap.size W.drew c):(∀b o,b<W.heap.size->c.cell? ⟨b,o,WY⟩=W.cell? ⟨b,o,WY⟩)/\(∀b o,b<W.heap.size->c.frozen? ⟨b,o,WY⟩=W.frozen? ⟨b,o,WY⟩):=
 ⟨λb o h=>j.cell (p:=⟨b,o,WY⟩) h,λb o h=>j.frozen (p:=⟨b,o,WY⟩) h⟩
def CD(l:List Int)(h:∀x∈l,aP x)(c:l.length<=100):(bs (eY l)).size<=2200:=by rw[dd];have:=Z6 l h;omega
def VN(n:Int)(h:aP n):(bs (Xg n)).size<=21:=by rw[dd];exact Lib.itoa_length_le n h.1 h.2
def CE(x:aS):List UInt8:=if dx x then dy x else[]
def CG{x:aS}(h:mY x=Xe):0<=x.kind/\x.kind<=17:=by
 by_cases c:0<=x.kind/\x.kind<=17
 .exact c
 .exfalso;have:mY x=false:=by
   unfold mY;repeat rw[if_neg YN]
  rw[this]at h;cases h
def CH{x:aS}(h:dx x=Xe):mY x=true:=by simp only[dx,Xh]at h;exact h.2
end
section
open Go Go.RowKit Go.MapKept Go.ChangeMaps Go.Proofs.Tryz
def K_(k:Int)(x:aS):Bool:=
 if k=5 then dU x.a 1 16&&WZ (x.ss.length<=20)&&sj x.ss else if k=15 then sq x.ms else mY {x with kind:=k}
def ag6{n:Int}:zQ n↔dU n 0 128=true:=by simp[zQ,dU]
def dj9(v:Xb)(l:List Int)(w:Xa)(h:aW w w v l)(F:l.length<=1000000):
 Xq Xn 185 #[v,.func (.func 77) #[] #[]] w λe w'=>∃r,e=Ya (Xo XO r)/\WZ (0<=r)= !sj l/\Below w w w':=by
 obtain⟨A,n,c,rfl,hn,hc,hm⟩:=h.form;have HL:=ah hn;have H:=ah h;have I:=Xk func77 aI rfl;have O:n<=1000000:=YN;clear h hn F;go_enter func185,ntmps185;go_wp2_with fail
 go_loopw [8] (λi wr=>∃k:Nat,k<=n/\i=Xo XO k/\Below w w wr/\∀j,j<k->zQ (cM l j)) (λi _=>n - (Xw i).toNat)
 case atStart=>exact⟨0,cb _,rfl,aj w,by omega⟩
 case round=>
  obtain⟨k,hk,rfl,hb,xm⟩:=hrel;have C:=ah xm;clear xm;by_cases az:k<n
  .obtain⟨b,o,rfl,AO,bb⟩:=(H.o.below hb (am _)).at_ k az;have J:=bb k az;clear bb;refine Pp λi3=>?_;have y:=λW=>dm7 (cM l k) W;cases hg:dU (cM l k) 0 128 with
   |true=>
    rw[hg]at y;have z:=ah y;clear y;go_wp2_with(go_at_call 77;refine(z.o _).m ?_;rintro e G ⟨rfl,rfl⟩)
    exact⟨⟨k+1,by omega,by go_num,hb,λj D=>by
     by_cases e:j=k
     .subst e;exact ag6.2 hg
     .exact C.o j YN⟩,by simp[Xw];omega⟩
   |false=>
    rw[hg]at y;have z:=ah y;clear y;go_wp2_with(go_at_call 77;refine(z.o _).m ?_;rintro e G ⟨rfl,rfl⟩)
    go_ret;refine⟨_,rfl,?_,hb⟩;rw[Z_ (k:=k) tU (λh=>by rw[ag6,hg]at h;cases h)];simp
  .go_wp2_with fail
   go_ret;refine⟨_,rfl,?_,hb⟩;rw[Z9 (λj D=>C.o j (by rw[HL.o]at D;omega))];rfl
def dk0(v:Xb)(l:List Int)(w:Xa)(h:aW w w v l)(j:l.length<=1000000):
 aR 78 #[v,.func (.func 77) #[] #[]] w (YH (!sj l)):=by
 obtain⟨A,n,c,rfl,hn,hc,hm⟩:=h.form;have y:=ah (dj9 _ l w h j);clear h hn j;go_enter func78,ntmps78;go_wp2_with(go_at_call 185;refine y.o.m ?_;rintro e C ⟨r,rfl,z,ay⟩)
 exact xQ
def ag7(x:aS)(m s:Xb)(w:Xa):
 aR 182 #[YJ (x.cells m s)] w (YH Xe):=by
 rw[aS.cells_def];go_enter func182,ntmps182;go_wp2_with fail
 go_ret;exact⟨rfl,ai (aj w) _⟩
def zR(x:aS)(m s:Xb)(w:Xa)(g c:Nat)(p:Bool)(C:∀args w,(callFunc g args).run Xn w= .ok (.enter g args) w)
 (j:∀W,Xq Xn g #[x.a] W λe w'=>e=Ya (YH p)/\w'=W)(D:w.cell? c=WX (.func (.func g) #[] #[]))(z:c<w.heap.size):
 aR 178 #[YJ (x.cells m s),YK (WX c)] w (YH p):=by
 have y:=ah j;clear j;have A:¬c=w.heap.size:=YN;rw[aS.cells_def];go_enter func178,ntmps178;go_wp2_with(go_at_fn g;refine(y.o _).m ?_;rintro e F ⟨rfl,rfl⟩)
 go_ret;exact⟨rfl,ai (aj w) _⟩
def dk1(x:aS)(m s:Xb)(w:Xa):
 aR 83 #[YJ (x.cells m s)] w (YH (dU x.a 1 16&&dU x.b 0 1048576)):=by
 rw[aS.cells_def];go_enter func83,ntmps83
 go_wp2_with(first
  |(go_at_call 69;refine(xP x.a _).m ?_;rintro e c ⟨rfl,rfl⟩)
  |(go_at_call 72;refine(Pj x.b _).m ?_;rintro e h ⟨rfl,rfl⟩)
)
 all_goals
  go_ret;refine⟨cd ?_,by first|exact hB|exact ai (aj w) _⟩;simp_all
def dk2(x:aS)(m s:Xb)(w:Xa):
 aR 95 #[YJ (x.cells m s)] w (YH (dU x.a 1 8&&dU x.b 1 8)):=by
 rw[aS.cells_def];go_enter func95,ntmps95
 go_wp2_with(first
  |(go_at_call 70;refine(Lv x.a _).m ?_;rintro e c ⟨rfl,rfl⟩)
  |(go_at_call 88;refine(VO x.b _).m ?_;rintro e h ⟨rfl,rfl⟩)
)
 all_goals
  go_ret;refine⟨cd ?_,by first|exact hB|exact ai (aj w) _⟩;simp_all[dU];try omega
def dk3(x:aS)(m s:Xb)(w:Xa):
 aR 101 #[YJ (x.cells m s)] w (YH (dU x.a 1 16&&dU x.c 1 16&&dU x.b 0 8)):=by
 rw[aS.cells_def];go_enter func101,ntmps101
 go_wp2_with(first
  |(go_at_call_of 69 (Xo XO x.a);refine(xP x.a _).m ?_;rintro e c ⟨rfl,rfl⟩)
  |(go_at_call 88;refine(VO x.b _).m ?_;rintro e h ⟨rfl,rfl⟩)
  |(go_at_call_of 69 (Xo XO x.c);refine(xP x.c _).m ?_;rintro e j ⟨rfl,rfl⟩)
)
 all_goals
  go_ret;refine⟨cd ?_,by first|exact hB|exact ai (aj w) _⟩;simp_all
def dk4(x:aS)(m s:Xb)(w:Xa):
 aR 87 #[YJ (x.cells m s)] w (YH (dU x.a 1 8&&dU x.b 0 8&&ut x)):=by
 rw[aS.cells_def];go_enter func87,ntmps87
 go_wp2_with(first
  |(go_at_call 70;refine(Lv x.a _).m ?_;rintro e j ⟨rfl,rfl⟩)
  |(go_at_call 88;refine(VO x.b _).m ?_;rintro e y ⟨rfl,rfl⟩)
  |(go_at_call 89;refine(dj6 x _).m ?_;rintro e z ⟨rfl,c⟩;have h:=ak (ai (aj w) _) c)
)
 all_goals
  go_ret;refine⟨cd ?_,by first|exact h|exact ai (aj w) _⟩;simp_all
def dk5(x:aS)(m s:Xb)(w:Xa)(c:aW w w s x.ss)(y:x.ss.length<=1000000):
 aR 76 #[YJ (x.cells m s)] w (YH (dU x.a 1 16&&WZ (x.ss.length<=20)&&sj x.ss)):=by
 obtain⟨As,ns,cs,rfl,fl,eh,cH⟩:=c.form;have j:=ah c;have z:=ah fl;have F:=ah y;clear c fl y;rw[aS.cells_def];go_enter func76,ntmps76
 go_wp2_with(first
  |(go_at_call 69;refine(xP x.a _).m ?_;rintro e I ⟨rfl,rfl⟩)
  |(go_at_call 78;go_loud (refine(dk0 _ x.ss _ ((j.o.below (ai (aj w) _) (am _)).more (Below.size (ai (aj w) _))) (by have:=F.o;omega)).m ?_;rintro e J ⟨rfl,A⟩;have D:=ak (ai (aj w) _) A))
)
 all_goals
  go_ret;refine⟨cd ?_,by first|exact D|exact ai (aj w) _⟩;have G:=z.o;clear j;cases h1:dU x.a 1 16<;>by_cases C:x.ss.length<=20<;>first|(simp[C]at*;done)|(simp_all;done)|(exfalso;omega)
def IH(w:Xa)(u:Xb)(l:List ByteArray):Prop:=
 (u=YG WY 0 0/\l=[])\/∃b o c,u=YG (WX ⟨b,o,WY⟩) l.length c/\∀(j:Nat)s,l[j]?=WX s->w.cell? ⟨b,o+j,WY⟩=WX (Xp s)
def dI.src{w:Xa}{base:Nat}{v:Xb}{l:List ByteArray}(h:dI w base v l):IH w v l:=by
 by_cases C:l=[]
 .subst C;rcases h.2 with⟨y,_⟩|⟨g,cap,D,y,_⟩
  .exact .inl ⟨y,rfl⟩
  .exact .inr ⟨g,0,cap,y,λj s A=>by simp at A⟩
 .obtain⟨b,o,c,y,z⟩:∃b o c,v= .slice (some ⟨b,o,none⟩) l.length c/\∀(j:Nat)u,(l.map Value.string)[j]?=some u->w.cell? ⟨b,o+j,none⟩=some u:=by
   rcases Sl.cases_ h.slS with⟨F,_⟩|⟨_,b,o,c,y,_,_,_,z⟩
   .exact absurd (List.map_eq_nil_iff.1 F) C
   .exact⟨b,o,c,by simpa using y,z⟩
  exact .inr ⟨b,o,c,y,λj s A=>z j _ (by rw[Xr,A];rfl)⟩
def cB.src{w:Xa}{B:Nat}{v:Xb}{l:List ByteArray}(h:cB w B v l)(A:l≠[]):IH w v l:=by
 rcases Sl.cases_ h with⟨y,_⟩|⟨_,b,o,c,D,_,_,_,z⟩
 .exact absurd (List.map_eq_nil_iff.1 y) A
 .exact .inr ⟨b,o,c,by simpa using D,λj s C=>z j _ (by rw[Xr,C];rfl)⟩
def dh6(l:List ByteArray):∀u∈l.map Xp,u.oneCell'=true:=by intro u c;obtain⟨s,_,rfl⟩:=List.mem_map.1 c;rfl
def VT{w:Xa}{o:Yf}{a:Act}{K:Act->Xa->Prop}{Q:Exit->Act->Xa->Prop}(s x:Operand)
 (ho:o.op= .call {callee:= .builtin .append,args:= #[s,x],argTypes:= #[22,22]})(base:Nat)(v u:Xb)(l z:List ByteArray)
 (hs:a.eval s=v)(hx:a.eval x=u)(bN:dI w base v l)(I:IH w u z)(J:l.length+z.length<=1000000)(G:base<=w)
 (h:∀v' w',dI w' base v' (l++z)->w.grownBy w' v.ownBlock->K (a.put o.dst v') w'):o.wp Xn a w K Q:=by
 obtain⟨i0,hi,cE,aZ,bh⟩:=YB Pk;rcases I with⟨rfl,rfl⟩|⟨b,off,c,rfl,A⟩
 .have eB:=run_append_owned_none (P:=Xn) (w:=w) base 22 o.type 9 i0 1 underlying22 hi v _ _ bN;exact ah2
 .refine wp_append_own w s x 22 ho base 9 i0 _ 1 16 underlying22 hi cE aZ bh rfl (by decide) v l.length _ hs bN ⟨b,off,none⟩ z.length c (z.map Value.string) hx (by simp) (λj y C=>?_) (dh6 z) (by simp[maxLen];omega) (by omega) G (λv' w' D F _=>h v' w' ?_ F)
  .rw[List.getElem?_map]at C;obtain⟨s',qD,rfl⟩:=Option.map_eq_some_iff.1 C;have:=A j s' qD;unfold Addr.add;split
   .rename_i e;have:j=0:=by simpa using e
    subst this;exact A 0 s' qD
   .exact this
  .show w'.ownsRow _ _ _ _ _ _;rw[Xm,XX];exact D
def U5{w:Xa}{ops:Array Yf}{rest:List Yf}{o:Yf}{a:Act}{Q:Exit->Act->Xa->Prop}(F:o.guard=WY)(s x:Operand)
 (ho:o.op= .call {callee:= .builtin .append,args:= #[s,x],argTypes:= #[22,22]})(base:Nat)(v u:Xb)(l c:List ByteArray)
 (D:a.eval s=v)(hx:a.eval x=u)(j:dI w base v l)(I:IH w u c)(y:l.length+c.length<=1000000)(G:base<=w)
 (h:∀v' w',dI w' base v' (l++c)->w.grownBy w' v.ownBlock->wpList Xn ops Q rest (a.put o.dst v') w'):wpList Xn ops Q (o::rest) a w:=
 wpList_plain F λ_ C=>VT s x ho base v u l c D hx j I y G λv' w' z A=>C _ _ (h v' w' z A)
def Lg{w:Xa}{ops:Array Yf}{o:Yf}{a:Act}{K:Act->Xa->Prop}{Q:Exit->Act->Xa->Prop}{E:Prop}(C:o.guard=WY)(s x:Operand)
 (ho:o.op= .call {callee:= .builtin .append,args:= #[s,x],argTypes:= #[22,22]})(base:Nat)(v u:Xb)(l c:List ByteArray)
 (z:a.eval s=v)(hx:a.eval x=u)(j:dI w base v l)(F:IH w u c)(y:l.length+c.length<=1000000)(D:base<=w)
 (h:∀v' w',dI w' base v' (l++c)->w.grownBy w' v.ownBlock->K (a.put o.dst v') w'):
 if XW o (yielded ops a.tmps)=Xe then YE Xn o a w K Q else E:=by
 have A:XW o (yielded ops a.tmps)=true:=by simp[XW,C]
 rw[if_pos A];exact VT s x ho base v u l c z hx j F y D h
def OP(w:Xa)(l:List ByteArray)(e:Ys)(w':Xa):Prop:=∃u,e=Ya u/\dI w' w u l/\Below w w w'
def OY{w:Xa}{a b:Nat}{v:Xb}{l:List ByteArray}(h:dI w a v l)(D:b<=a):dI w b v l:=by
 obtain⟨h1,y⟩:=h;refine⟨h1,?_⟩;rcases y with y|⟨g,cap,j,A,z,C⟩
 .exact .inl y
 .exact .inr ⟨g,cap,j,A,bQ D z,C⟩
def dh7(x:aS)(m s:Xb)(w:Xa)(G:cV w)(ha:aP x.a)(A:aW w w s x.ss)(I:x.ss.length<=100000):
 Xq Xn 80 #[YJ (x.cells m s)] w (OP w (Lw x.a::x.ss.map Lw)):=by
 obtain⟨As,ns,cs,rfl,fl,eh,cH⟩:=A.form;have C:=ah G;have U:=ah A;have D:=ah I;clear G A I fl;rw[aS.cells_def];go_enter func80,ntmps80;go_wp2_with fail
 go_region_held3 (λw'=>w'.cell? (w 1 WY)=WX (Xo XO x.a)/\w'.cell? (w 9 WY)=WX (YG As ns cs)) (go_simp)
  (first
    |(go_at_call_of 81 (Value.slice As ns cs);refine(aa3 _ x.ss _ (C.o.step j) ((U.o.below j (am _)).more (Below.size j)) D.o).m ?_;rintro e O ⟨u2,rfl,dC,c⟩;have F:=ak j c;have Y:w.heap.size<O:=dB c V;have y:=dH.below c;obtain⟨dp,cG⟩:=dr c)
    |(go_at_call 81;refine(aa3 _ [x.a] _ (C.o.step (a_ (ai (ai (aj w) _) _))) (aW.of1 qq YQ ha) YQ).m ?_;rintro e w1 ⟨u1,rfl,dH,z⟩;have j:=ak (a_ (ai (ai (aj w) _) _)) z;have V:w.heap.size<w1:=dB z bP;obtain⟨bA,bT⟩:=dr z)
    |(refine Lg rfl (YL 6) (YL 9) rfl w.heap.size u1 u2 _ _ rfl rfl (OY y bP) (dC.src) (by have:=D.o;simp;omega) F.size ?_;intro v' w3 X J;have Z:=(OY y bP).grown F J;have kg:∀o,w3.cell? (w o WY)=O.cell? (w o WY):=λo=>World.grownBy.cell_far J (w o WY) Y (λe=>by have:=(Xs y _ e.symm).1;simp at this;omega)))
 go_wp2_with fail
 go_ret;exact⟨_,rfl,X,Z⟩
end
section
open Go Go.RowKit Go.Proofs.Tryz
def tz(n a b:Int)(w:Xa):Xq Xn 162 #[n,a,b] w λe w'=>e=Ya (YH (aD n a b))/\w'=w:=by
 go_enter func162,ntmps162
 go_wp2
 all_goals (go_ret;exact⟨cd JO,rfl⟩)
def ci.vals(x:ci)(o:Xb):Array Value:= #[Xo XO x.kind,Xo XO x.item,Xo XO x.other,Xo XO x.n,Xo XO x.by_,YH x.always,o]
def ci.vals_def(x:ci)(o:Xb):x.vals o= #[Xo XO x.kind,Xo XO x.item,Xo XO x.other,Xo XO x.n,Xo XO x.by_,YH x.always,o]:=rfl
def By(k:Nat)(m:aT)(x:ci):Bool:=
 match k with
 |0=>aG x.item m.items.length&&WZ (p8 m x.item=0)
 |1=>aG x.item m.items.length&&aD x.n 0 16
 |2=>aG x.item m.items.length&&(aD x.n 0 16&&aD x.by_ 2 4)
 |3=>aG x.item m.items.length&&fw m x.ms
 |4=>aG x.item m.items.length&&(aG x.other m.items.length&& !WZ (x.item=x.other))
 |5=>aD x.n 0 200
 |6=>aG x.item m.items.length&&aD x.n 0 16
 |_=>Xc
def qO:ci:=⟨0,0,0,0,0,Xc,[]⟩
def jd(k:Nat)(x:ci):ci:=
 match k with
 |0=>{qO with item:=x.item}
 |1=>{qO with item:=x.item,n:=x.n,always:=x.always}
 |2=>{qO with item:=x.item,n:=x.n,by_:=x.by_}
 |3=>{qO with item:=x.item,ms:=x.ms}
 |4=>{qO with item:=x.item,other:=x.other}
 |5=>{qO with n:=x.n}
 |6=>{qO with item:=x.item,n:=x.n}
 |_=>qO
def Fc(a b:ci):Bool:=WZ (a.item=b.item)&&(WZ (a.other=b.other)&&(WZ (a.n=b.n)&&(WZ (a.by_=b.by_)&&(WZ (a.always=b.always)&&WZ (a.ms=b.ms)))))
def dy1(m:aT)(x:ci)(k:Nat)(j:k<=6)(hx:x.kind=k):dm m x=(By k m x&&Fc x (jd k x)):=by
 have h:k=0\/k=1\/k=2\/k=3\/k=4\/k=5\/k=6:=YN;have c:∀b:Bool,WZ (b=Xc)= !b:=by intro b;cases b<;>rfl
 rcases h with rfl|rfl|rfl|rfl|rfl|rfl|rfl<;>(simp only[dm,By,jd,Fc,qO,hx];rw[Xz];simp[and_assoc];try grind)
def ar7(m:aT)(x:ci)(h:¬(0<=x.kind/\x.kind<=6)):dm m x=false:=by unfold dm;simp only;repeat rw[if_neg YN]
def xV(k:Nat)(l:List Int)(j:Nat):Bool:=fC (λn b=>aG n k&&(match b.getLast? with|none=>Xe|some p=>WZ (p<n))) [] l j
def ar8(k:Nat)(l:List Int):Ve k l=eF (xV k l) l.length:=wj _ l []
def ar9{k:Nat}{l:List Int}{n:Int}(h:l[0]?=WX n):xV k l 0=aG n k:=by unfold xV;rw[EZ h];simp
def WB{k j:Nat}{l:List Int}{p n:Int}(c:l[j]?=WX p)(h:l[j+1]?=WX n):xV k l (j+1)=(aG n k&&WZ (p<n)):=by
 unfold xV;rw[EZ h];have:([]++l.take (j+1)).getLast?=WX p:=by rw[XZ,List.getLast?_eq_getElem?,XQ];have y:=(List.getElem?_eq_some_iff.1 h).1;rw[Nat.min_eq_left YN,List.getElem?_take];simpa using c
 rw[this]
def as0(m:aT)(v:MV)(n:Int)(w:Xa)(y:m.In w w v):
 aR 331 #[YJ (m.cells v),n] w (YH (aG n m.items.length)):=by
 obtain⟨_,_,_,_,_,⟨A,c,hi,h1,h2⟩,_⟩:=y.cells;have j:=ah (λW=>tz n 1 m.items.length W);unfold aG;generalize aD n 1 (m.items.length:Nat)=r at j;rw[aT.cells_def,hi];clear y hi;go_enter func331,ntmps331;go_wp2_with(go_at_call 162;refine(j.o _).m ?_;rintro e z ⟨rfl,rfl⟩)
 go_ret;exact⟨rfl,by repeat' first|with_reducible exact aj w|with_reducible refine ai ?_ _⟩
def WC(v:Xb)(l:List Int)(n:Int)(w:Xa)(B:Nat)(h:aW w B v l):
 Xq Xn 175 #[v,n] w λe w'=>e=Ya (YH (WZ (n∈l)))/\w'=w:=by
 rcases Sl.cases_ h.1 with⟨C,A,c,rfl,_⟩|⟨J,b,o,c,rfl,D,F,O,G⟩
 .have:l=[]:=by simpa using C
  subst this;refine(slices_Contains_int_empty A c _ w).mono λe w'⟨y,z⟩=>⟨by rw[y];simp,z⟩
 .rw[List.length_map]at D J⊢
  refine(slices_Contains_int b o l.length c l n w YQ (by simp[XF]at F;omega) (λj I=>G j _ (by simp[I]))).mono λe w'⟨y,z⟩=>⟨?_,z⟩;rw[y];refine cd ?_;rw[Xu YQ];rw[Xz];simp
def aW.sk{w:Xa}{B:Nat}{v:Xb}{l:List Int}(h:aW w B v l):bU 1 (R1 (Xo .i64)) w B v l:=h.1.k1
def aW.cell{w:Xa}{B n c:Nat}{A:Option Yy}{l:List Int}(h:aW w B (YG A n c) l){j:Nat}{x:Int}(hx:l[j]?=WX x):∃b o,A=WX ⟨b,o,WY⟩/\b<B/\w.cell? ⟨b,o+j,WY⟩=WX (Xo XO x):=by exact as1
def aW.lits(W:Xa)(l:List Int)(hl:∀x∈l,aP x)(c:l.length<=1000)(t:Xv):
 aW (W.alloc (YI (l.map (Xo .i64)).toArray t)) (W.alloc (YI (l.map (Xo .i64)).toArray t)).heap.size (YG (WX (W 0 WY)) l.length l.length) l:=by
 exact aa1
def as2(m:aT)(v:MV)(u:Xb)(l:List Int)(w:Xa)(hv:m.In w w v)(J:aW w w u l):
 aR 258 #[YJ (m.cells v),u] w (YH (fw m l)):=by
 obtain⟨⟨Sa,sc,hs,_,_⟩,⟨Fa,fc,hf,_,_⟩,⟨Ra,rc,hr,_,_⟩,⟨Ma,mc,hm,cJ,cD⟩,_⟩:=hv.cells;obtain⟨A,n,c,rfl,hn,hc,fk⟩:=J.sk.form;have X:=ah J;have HN:=ah hn;have HW:=ah (λx W=>tz x 1 m.machs.length W);have C:Hid (fw m l=(eF (xV m.machs.length l) l.length&&WZ (0<l.length))):=by show _=_;rw[<-ar8];rfl
 generalize fw m l=r at C;rw[aT.cells_def,hs,hf,hr,hm];clear hv J hn hs hf hr hm;go_enter func258,ntmps258;go_wp2_with fail
 go_loopw [9] (λi wr=>∃k:Nat,k<=n/\i=Xo XO k/\(∀j,j<k->xV m.machs.length l j=Xe)/\Below w w wr/\wr.cell? (w 3 WY)=WX (YG Ma m.machs.length mc)/\w.heap.size<wr) (λi _=>n - (Xw i).toNat)
 case atStart=>exact⟨0,cb _,rfl,by omega,ai (aj w) _,by go_simp,by simp⟩
 case round=>
  obtain⟨k,hk,rfl,dE,hB,kg,hz⟩:=hrel;have V:=ah dE;clear dE;by_cases az:k<n
  .have dh:(0:Int)<=k:=by omega
   have bF:(k:Int)<n:=YN;obtain⟨x,hx⟩:∃x,l[k]?=WX x:=⟨_,Xd kB⟩;obtain⟨b,o,rfl,fQ,iB⟩:=(X.o.below hB (am _)).cell hx;have y:=ah (λW=>HW.o x W);have D:=ah hx;cases he:aD x 1 (m.machs.length:Nat)with
   |false=>
    rw[he]at y;have z:=ah he;clear he hx;go_wp2_with(go_at_call 162;refine(y.o _).m ?_;rintro e O ⟨rfl,rfl⟩)
    go_ret;refine⟨?_,hB⟩;rw[C.o,uG (k:=k) kB ?_]
    .rfl
    .unfold xV;rw[EZ D.o];show(aD x 1 (m.machs.length:Nat)&&_)=Xc;rw[z.o];rfl
   |true=>
    rw[he]at y;have z:=ah he;clear he;by_cases G:k=0
    .have Up:¬(0:Int)<(k:Int):=by omega
     have H0:=ah G;clear hx G;go_wp2_with(go_at_call 162;refine(y.o _).m ?_;rintro e O ⟨rfl,rfl⟩)
     refine⟨⟨k+1,by omega,by go_num,λj Z=>?_,hB,kg,hz⟩,by simp[Xw];omega⟩;have:=H0.o;subst this;obtain rfl:j=0:=YN;rw[ar9 D.o];exact z.o
    .obtain⟨j,rfl⟩:∃j,k=j+1:=⟨k - 1,by omega⟩;clear G;obtain⟨p,hp⟩:∃p,l[j]?=some p:=⟨_,List.getElem?_eq_getElem (by rw[HN.o];omega)⟩;obtain⟨b2,o2,U,_,G0⟩:=(X.o.below hB (am _)).cell hp;injection U with U;injection U with vM I;subst vM I;have Y:=ah hp;have hd3:(0:Int)<(j:Int)+1:=by omega
     have oH:(0:Int)<=(j:Int):=YN;have AT:(j:Int)<n:=YN;clear hx hp;by_cases F:p<x
     .have hq:decide (x<=p)=false:=by simp;omega
      have ku:¬x<=p:=YN;have HQ:=ah F;clear F;go_wp2_with(go_at_call 162;refine(y.o _).m ?_;rintro e O ⟨rfl,rfl⟩)
      refine⟨⟨j+2,by omega,by go_num,λi hi=>?_,hB,kg,hz⟩,by simp[Xw];omega⟩;by_cases e:i=j+1
      .subst e;rw[WB Y.o D.o];have:=z.o;simp[aG,this,HQ.o]
      .exact V.o i YN
     .have hq:decide (x<=p)=true:=by simp;omega
      have ku:x<=p:=YN;clear F;go_wp2_with(go_at_call 162;refine(y.o _).m ?_;rintro e O ⟨rfl,rfl⟩)
      go_ret;refine⟨?_,hB⟩;rw[C.o,uG (k:=j+1) kB ?_]
      .rfl
      .rw[WB Y.o D.o];have:decide (p<x)=false:=by simp;omega
       rw[this,Bool.and_false]
  .have nV:k=n:=by omega
   subst nV;go_wp2_with fail
   go_ret;refine⟨cd ?_,hB⟩;rw[C.o,zw (λj Z=>V.o j (by rw[<-HN.o];exact Z)),HN.o,Bool.true_and]
def dy2(x y:ci)(o o':Xb)(w:Xa)(ho:aW w w o x.ms)(j:aW w w o' y.ms):
 aR 261 #[YJ (x.vals o),YJ (y.vals o')] w (YH (Fc x y)):=by
 obtain⟨A,n,c,rfl,_,_,_⟩:=ho.sk.form;obtain⟨A',n',c',rfl,_,_,_⟩:=j.sk.form;have C:=ah ho;have D:=ah j;clear ho j;unfold ci.vals;go_enter func261,ntmps261;go_wp2_with(go_at_call 190;refine(VJ _ _ x.ms y.ms _ w (C.o.below (ai (ai (aj w) _) _) (am _)) (D.o.below (ai (ai (aj w) _) _) (am _))).m ?_;rintro e G ⟨rfl,z⟩;have F:=ak (ai (ai (aj w) _) _) z;obtain⟨bA,bT⟩:=dr z)
 all_goals go_ret
 all_goals refine⟨cd ?_,?_⟩
 all_goals first
  |exact F
  |exact ai (ai (aj w) _) _
  |(simp only[Fc];simp[*];done)
  |(simp only[Fc];rw[Xz];simp[*];done)
end
section
open Go Go.RowKit Go.MapKept Go.ChangeMaps Go.Proofs.Tryz
section
variable {κ:Type} [DecidableEq κ]
def lk:List (κ×Xb)->κ->Option Xb
 |[],_=>WY
 |p::r,k=>if k=p.1 then WX p.2 else lk r k
def LF{k:κ}:∀{l:List (κ×Xb)},lk l k=WY->∀p∈l,p.1≠k
 |[],_,p,h=>by simp at h
 |q::r,h,p,c=>by
  rw[lk]at h;split at h
  .cases h
  .rename_i j;rcases List.mem_cons.1 c with rfl|c
   .exact λe=>j e.symm
   .exact LF h p c
def WF{k:κ}{v:Xb}:∀{l:List (κ×Xb)},lk l k=WX v->(k,v)∈l
 |[],h=>by cases h
 |q::r,h=>by
  rw[lk]at h;split at h
  .rename_i e;injection h with h;subst e h;simp
  .exact List.mem_cons_of_mem _ (WF h)
def as4{k:κ}{v:Xb}:∀{l:List (κ×Xb)},(l.map (·.1)).Nodup->(k,v)∈l->lk l k=WX v
 |[],_,h=>by simp at h
 |q::r,hn,h=>by
  rw[XA,List.nodup_cons]at hn;rw[lk];rcases List.mem_cons.1 h with rfl|h
  .rw[if_pos rfl]
  .rw[if_neg (λe=>hn.1 (List.mem_map.2 ⟨_,h,e⟩))];exact as4 hn.2 h
def aX(f:κ->Option Xb)(k:κ)(v:Xb):κ->Option Value:=λx=>if x=k then WX v else f x
def zx(f:κ->Option Xb)(k:κ)(v:Xb)(x:κ):aX f k v x=if x=k then WX v else f x:=rfl
def dz8(f:κ->Option Xb)(k:κ)(v:Xb):aX f k v k=WX v:=if_pos rfl
def as5(f:κ->Option Xb){k:κ}(v:Xb){x:κ}(h:x≠k):aX f k v x=f x:=if_neg h
def dz9{l:List (κ×Xb)}{k:κ}(v:Xb)(h:∀p∈l,p.1≠k)(x:κ):lk (l++[(k,v)]) x=aX (lk l) k v x:=by
 rw[zx];induction l with
 |nil=>simp[lk]
 |cons q r c=>
  have j:=h q YQ;have c:=c λp y=>h p (by simp[y]);rw[XI,lk,lk];by_cases e:x=q.1
  .rw[if_pos e,if_pos e,if_neg (by rw[e];exact j)]
  .rw[if_neg e,if_neg e,c]
def ea0{l:List (κ×Xb)}{k:κ}{z:Xb}(v:Xb){j:Nat}(c:(l.map (·.1)).Nodup)(hj:l[j]?=WX (k,z))(x:κ):lk (l.set j (k,v)) x=aX (lk l) k v x:=by
 rw[zx];induction l generalizing j with
 |nil=>simp at hj
 |cons q r ih=>
  rw[XA,List.nodup_cons]at c;cases j with
  |zero=>
   simp at hj;subst hj;rw[List.set_cons_zero,lk,lk];by_cases e:x=k
   .rw[if_pos e,if_pos e]
   .rw[if_neg e,if_neg e,if_neg e]
  |succ j=>
   have y:r[j]?=WX (k,z):=Aw;have A:q.1≠k:=λe=>c.1 (List.mem_map.2 ⟨_,fK y,e.symm⟩);rw[List.set_cons_succ,lk,lk,ih c.2 y];by_cases e:x=q.1
   .rw[if_pos e,if_pos e,if_neg (by rw[e];exact A)]
   .rw[if_neg e,if_neg e]
omit [DecidableEq κ] in
def ea1{l:List (κ×Xb)}{k:κ}{h v:Xb}{j:Nat}(c:l[j]?=WX (k,h)):(l.set j (k,v)).map (·.1)=l.map (·.1):=by
 rw[List.map_set];refine List.ext_getElem? λi=>?_;rw[List.getElem?_set];split
 .rename_i e;subst e;have:j<(l.map (·.1)).length:=by rw[List.length_map];exact(List.getElem?_eq_some_iff.1 c).1
  rw[if_pos this,Xr,c];rfl
 .rfl
structure C'(d:TypeDesc)(enc:κ->Xb):Prop where
 inj:∀x y,enc x=enc y->x=y
 key:∀x,IsKey d (enc x)
 bits:∀x,Instr.sameBits 10000 (enc x) (enc x)=Xe
def cZ(enc:κ->Xb)(l:List (κ×Xb)):List (Xb×Xb):=l.map λp=>(enc p.1,p.2)
def dg(enc:κ->Xb)(w:Xa)(b:Nat)(f:κ->Option Xb):Prop:=∃l:List (κ×Xb),fJ w b (cZ enc l)/\(l.map (·.1)).Nodup/\∀k,f k=lk l k
variable {enc:κ->Xb} {w w':Xa} {b B:Nat} {f:κ->Option Xb}
def dg.lt(h:dg enc w b f):b<w:=by obtain⟨l,h,_⟩:=h;exact h.lt
def dg.below(h:dg enc w b f)(j:Below B w w')(c:b<B):dg enc w' b f:=by obtain⟨l,h,h2⟩:=h;exact⟨l,h.below j c,h2⟩
def dg.later(h:dg enc w b f)(c:Below w w w'):dg enc w' b f:=h.below c h.lt
def dg.blk(h:dg enc w b f)(e:w'.heap[b]?=w.heap[b]?):dg enc w' b f:=by obtain⟨l,h,h2⟩:=h;exact⟨l,e.trans h,h2⟩
def dg.made(enc:κ->Xb)(w:Xa):dg enc (w.alloc (.map #[] 0)) w (λ_=>WY):=⟨[],fJ.made w,by simp,λ_=>rfl⟩
def dg.of_eq(h:dg enc w b f){g:κ->Option Xb}(e:∀k,g k=f k):dg enc w b g:=by obtain⟨l,h1,h2,h3⟩:=h;exact⟨l,h1,h2,λk=>(e k).trans (h3 k)⟩
def ea2{l:List (Xb×Xb)}{j:Nat}{key y val:Xb}(c:l[j]?=WX (key,y)):(bI 0 l).toArray.modify j (λe=>{e with key:=key,val:=val})=(bI 0 (l.set j (key,val))).toArray:=by
 refine Array.ext_getElem? λi=>?_;rw[Array.getElem?_modify];simp only[List.getElem?_toArray,Pr,List.getElem?_set];split
 .rename_i e;subst e;have h:j<l.length:=(List.getElem?_eq_some_iff.1 c).1;rw[if_pos h,c];rfl
 .rfl
def P1{P:YA}{t I e:Xv}{d:TypeDesc}(F:P.underlying t=WX (.map I e))(C:P.underlying I=WX d)(E:C' d enc)(h:dg enc w b f)(k:κ)(val:Xb):
 ∃o,(Instr.mapUpdate t (.map (WX b)) (enc k) val).run P w= .ok () (setBlock w b o)/\dg enc (setBlock w b o) b (aX f k val):=by
 obtain⟨l,hl,hn,hf⟩:=h;have A:w.heap[b]?=WX (.map (bI 0 (cZ enc l)).toArray (cZ enc l).length):=hl;cases fE:lk l k with
 |none=>
  have U:∀p∈cZ enc l,IsKey d p.1/\p.1≠enc k:=λp z=>by obtain⟨q,hq,rfl⟩:=List.mem_map.1 z;exact⟨E.key _,λe=>LF fE q hq (E.inj _ _ e)⟩
  refine⟨_,ag1 F C hl val (E.key k) U,l++[(k,val)],?_,?_,λx=>?_⟩
  .have c:=heap_setBlock_same A (.map (bI 0 (cZ enc l++[(enc k,val)])).toArray (cZ enc l++[(enc k,val)]).length);show fJ _ _ _;unfold fJ;rw[show cZ enc (l++[(k,val)])=cZ enc l++[(enc k,val)]from by simp[cZ]];exact c
  .rw[XX,List.nodup_append];refine⟨hn,by simp,λx hx y G=>?_⟩;obtain⟨p,z,rfl⟩:=List.mem_map.1 hx;simp at G;subst G;exact LF fE p z
  .rw[dz9 val (LF fE)];simp only[zx,hf]
 |some v0=>
  have pK:∀x∈bI 0 (cZ enc l),IsKey d x.key:=λx hx=>by obtain⟨j,hj,_⟩:=CL hx;obtain⟨q,hq,e⟩:=List.mem_map.1 (fK hj);injection e with V e2;rw[<-V];exact E.key _
  rcases findNow_spec (E.key k) (bI 0 (cZ enc l)) 0 pK with⟨_,c⟩|⟨j,x,X,c,Y⟩
  .obtain⟨i,hi⟩:=List.mem_iff_getElem?.1 (WF fE);have:(cZ enc l)[i]?=some (enc k,v0):=by simp[cZ,hi]
   exact absurd rfl (c _ (Pq _ 0 i _ this))
  .rw[Pr]at c;cases z:(cZ enc l)[j]? with
   |none=>rw[z]at c;cases c
   |some p=>
    rw[z]at c;injection c with c;have hx:x.key=p.1:=by rw[<-c]
    obtain⟨q,hq⟩:∃q,l[j]?=WX q:=by
     cases hq:l[j]? with
     |none=>simp[cZ,hq]at z
     |some q=>exact⟨q,rfl⟩
    have J:p=(enc q.1,q.2):=by simp[cZ,hq]at z;exact z.symm
    have D:q.1=k:=E.inj _ _ (by rw[<-Y,hx,J]);obtain⟨qk,qv⟩:=q;simp only at D;subst D;subst J;have Z:Instr.findNow d (enc qk) (bI 0 (cZ enc l)).toArray.toList 0=WX (WX (j,x.val)):=by simpa using X
    have O:(((bI 0 (cZ enc l)).toArray[j]?).map (·.key)).getD (enc qk)=enc qk:=by simp only[List.getElem?_toArray,Pr,z];rfl
    refine⟨.map (bI 0 ((cZ enc l).set j (enc qk,val))).toArray (cZ enc l).length,?_,l.set j (qk,val),?_,?_,λx=>?_⟩
    .have hm:=ea2 (val:=val) z;simp only[Instr.mapUpdate,run_underlying F,MapKept.run_getObj_map A,MapKept.run_checkKey C (E.key qk),MapKept.run_findKey C Z,Result.andThen,Sem.run_bind,O,Instr.keyThatStays,E.bits,if_true,hm,MapKept.run_setObj_map _ A,setBlock];simp[MapKept.run_setObj_map _ A,Result.andThen];rw[List.modify_toArray]at hm;exact congrArg (λa=>w.heap.setIfInBounds b (Obj.map a (cZ enc l).length)) hm
    .have c:=heap_setBlock_same A (.map (bI 0 ((cZ enc l).set j (enc qk,val))).toArray (cZ enc l).length);show fJ _ _ _;unfold fJ;rw[show cZ enc (l.set j (qk,val))=(cZ enc l).set j (enc qk,val)from by simp[cZ,List.map_set],List.length_set];exact c
    .rw[ea1 hq];exact hn
    .rw[ea0 val hn hq];simp only[zx,hf]
def sB{P:YA}{t C e:Xv}{d:TypeDesc}(A:P.underlying t=WX (.map C e))(y:P.underlying C=WX d)(E:C' d enc)(h:dg enc w b f)(k:κ){z:Xb}(c:Bool)(F:(zeroValue e).run P w= .ok z w):
 (XB t (.map (WX b)) (enc k) c).run P w= .ok (if c then .tuple #[(f k).getD z,YH (f k).isSome]else(f k).getD z) w:=by
 obtain⟨l,hl,hn,hf⟩:=h;have G:∀p∈cZ enc l,IsKey d p.1:=λp j=>by obtain⟨q,hq,rfl⟩:=List.mem_map.1 j;exact E.key _
 rw[hf];cases fE:lk l k with
 |none=>
  exact K8 A y hl c (E.key k) (λp j=>by obtain⟨q,hq,rfl⟩:=List.mem_map.1 j;exact⟨E.key _,λe=>LF fE q hq (E.inj _ _ e)⟩) F
 |some v=>exact K7 A y hl c (E.key k) G (λp j e=>by obtain⟨q,hq,rfl⟩:=List.mem_map.1 j;have D:q.1=k:=E.inj _ _ e;have:=as4 (k:=q.1) (v:=q.2) hn hq;rw[D,fE]at this;injection this with this;exact this.symm) ⟨_,List.mem_map.2 ⟨_,WF fE,rfl⟩,rfl⟩
variable {P:YA} {ops:Array Yf} {rest:List Yf} {o:Yf} {a:Act} {Q:Exit->Act->Xa->Prop}
def ea(A:o.guard=WY)(m x v:Operand)(t:Xv)(dJ:o.op=Op.mapUpdate t m x v\/o.op=Op.insert t m x v)
 (y e:Xv)(d:TypeDesc)(D:P.underlying t=WX (.map y e))(C:P.underlying y=WX d)(E:C' d enc)(b:Nat)(f:κ->Option Xb)(hm:a.eval m= .map (WX b))(z:dg enc w b f)
 (k:κ)(val:Xb)(hx:a.eval x=enc k)(hv:a.eval v=val)
 (j:∀w',dg enc w' b (aX f k val)->jt w w' b->wpList P ops Q rest (a.put o.dst Yg) w'):
 wpList P ops Q (o::rest) a w:=by
 refine wpList_plain A λF c=>?_;obtain⟨ob,eB,hM⟩:=P1 D C E z k val;unfold YE;have h4:=c _ _ (j _ hM (IG _ _ _));clear hM j c;generalize setBlock w b ob=W at eB h4;exact VQ
def Bz(A:o.guard=WY)(m x:Operand)(t:Xv)(c:Bool)(dJ:o.op=Op.lookup t m x c)
 (j e:Xv)(d:TypeDesc)(D:P.underlying t=WX (.map j e))(C:P.underlying j=WX d)(E:C' d enc)(b:Nat)(f:κ->Option Xb)(hm:a.eval m= .map (WX b))(y:dg enc w b f)
 (k:κ)(z:Xb)(hx:a.eval x=enc k)(F:(zeroValue e).run P w= .ok z w)
 (hK:wpList P ops Q rest (a.put o.dst (if c then .tuple #[(f k).getD z,YH (f k).isSome]else(f k).getD z)) w):
 wpList P ops Q (o::rest) a w:=by
 refine wpList_plain A λG g_=>?_;have eB:=sB D C E y k c F;exact VR
end
def iK(k:Int):Value:=Xo XO k
def ly(s:ar):Value:=Xp (bs s)
def co:C' (TypeDesc.int .i64) iK:=⟨λx y e=>by injection e,λx=>rfl,λx=>by simp[iK,Instr.sameBits]⟩
def Da:C' TypeDesc.string ly:=⟨λx y e=>by injection e with e;exact LE e,λx=>trivial,λx=>by unfold ly;rw[Instr.sameBits];exact(bytes_beq _ _).2 rfl⟩
end
section
open Go Go.RowKit Go.MapKept Go.Proofs.Tryz
def em.vals(x:em)(o:Xb):Array Value:= #[Xp (bs x.name),Xo XO x.kind,Xo XO x.count,Xo XO x.load,Xo XO x.size,Xo XO x.share,o]
def em.vals_def(x:em)(o:Xb):x.vals o= #[Xp (bs x.name),Xo XO x.kind,Xo XO x.count,Xo XO x.load,Xo XO x.size,Xo XO x.share,o]:=rfl
def xW(k:Nat)(x:em):Bool:=
 match k with
 |0=>(WZ (x.count=1)||WZ (x.count=3)||WZ (x.count=5))&&WZ (x.count=x.on.length)
 |1=>aD x.count 1 8
 |2=>WZ (x.count=1)&&WZ (x.on.length=1)
 |_=>Xc
def ea3(m:aT)(x:em)(k:Nat)(c:k<=2)(h:x.kind=k):dN m x=(xW k x&&fw m x.on&&aD x.load 0 1048576&&aD x.size 0 1048576&&aD x.share 1 1048576):=by have:k=0\/k=1\/k=2:=YN;rcases this with rfl|rfl|rfl<;>simp[dN,xW,h]
def dx2(m:aT)(x:em)(h:¬(0<=x.kind/\x.kind<=2)):dN m x=false:=by unfold dN;rw[if_neg YN,if_neg YN,if_neg YN];rfl
section
variable (x:em) (o:Xb) (xb:Nat) (w:Xa) (hx:w.heap[xb]?=WX (YI (x.vals o) 92 (0,0))) (ho:aW w w o x.on)
include hx ho
theorem dx3:aR 255 #[aq xb] w (YH (xW 0 x)):=by
 obtain⟨A,n,c,rfl,hn,hc,fk⟩:=ho.sk.form;have G:=blk_lt hx;have D:w.cell? (xb 2 WY)=WX (Xo XO x.count):=ap hx rfl;have F:w.cell? (xb 6 WY)=WX (YG A n c):=ap hx rfl;have j:=ah (λW B u(h:aW W B u [1,3,5])=>WC u [1,3,5] x.count W B h);have y:WZ (x.count∈[1,3,5])=(WZ (x.count=1)||WZ (x.count=3)||WZ (x.count=5)):=by rw[Xz];simp[or_assoc]
 rw[y]at j;have z:=ah (show(x.count==(n:Int))=WZ (x.count=n)from xU _ _);show Xq _ _ _ _ λe w'=>e=Ya (YH ((WZ (x.count=1)||WZ (x.count=3)||WZ (x.count=5))&&WZ (x.count=(x.on.length:Nat))))/\_;rw[hn];generalize (WZ (x.count=1)||WZ (x.count=3)||WZ (x.count=5))=r at j;clear hx ho y hn;simp only[aq];cases r with
 |false=>
  go_enter func255,ntmps255;go_wp2_with(go_at_call 175;refine(j.o _ _ _ (aW.lits _ [1,3,5] (by simp[aP]) YQ _)).m ?_;rintro e C ⟨rfl,rfl⟩)
  go_ret;exact⟨by simp,ai (aj w) _⟩
 |true=>
  go_enter func255,ntmps255;go_wp2_with(go_at_call 175;refine(j.o _ _ _ (aW.lits _ [1,3,5] (by simp[aP]) YQ _)).m ?_;rintro e C ⟨rfl,rfl⟩)
  go_ret;exact⟨by rw[z.o];simp,ai (aj w) _⟩
omit ho in
theorem dx4:aR 256 #[aq xb] w (YH (xW 1 x)):=by
 have y:=blk_lt hx;have j:w.cell? (xb 2 WY)=WX (Xo XO x.count):=ap hx rfl;have c:=ah (λW=>tz x.count 1 8 W);show Xq _ _ _ _ λe w'=>e=Ya (YH (aD x.count 1 8))/\_;generalize aD x.count 1 8=r at c;clear hx;simp only[aq];go_enter func256,ntmps256;go_wp2_with(go_at_call 162;refine(c.o _).m ?_;rintro e z ⟨rfl,rfl⟩)
 go_ret;exact⟨rfl,aj _⟩
theorem dx5:aR 257 #[aq xb] w (YH (xW 2 x)):=by
 obtain⟨A,n,c,rfl,hn,hc,fk⟩:=ho.sk.form;have F:=blk_lt hx;have C:w.cell? (xb 2 WY)=WX (Xo XO x.count):=ap hx rfl;have D:w.cell? (xb 6 WY)=WX (YG A n c):=ap hx rfl;show Xq _ _ _ _ λe w'=>e=Ya (YH (WZ (x.count=1)&&WZ (x.on.length=1)))/\_;rw[hn];have j:=ah (show(x.count==1)=WZ (x.count=1)from xU _ _);have y:=ah (show((n:Int)==1)=WZ (n=1)from by rw[xU];exact decide_eq_decide.2 YN);clear hx ho hn;simp only[aq];by_cases h:(x.count==1)=Xe
 .go_enter func257,ntmps257;have H:=ah h;go_wp2_with fail
  go_ret;exact⟨by have:=j.o;rw[H.o]at this;rw[<-this,<-y.o];simp,aj w⟩
 .have z:(x.count==1)=false:=by simpa using h
  clear h;have H:=ah z;go_enter func257,ntmps257;go_wp2_with fail
  go_ret;exact⟨by have:=j.o;rw[H.o]at this;rw[<-this];simp,aj w⟩
end
def LG(xb:Nat):Int->Option Value:=aX (aX (aX (λ_=>WY) 0 (.func (.func 255) #[] #[aq xb])) 1 (.func (.func 256) #[] #[aq xb])) 2 (.func (.func 257) #[] #[aq xb])
def as6(w:Xa)(a b:Obj):dg iK (((w.alloc a).alloc b).alloc (.map #[] 0)) (w+1+1) (λ_=>WY):=by
 have h:=dg.made iK ((w.alloc a).alloc b)
 rwa [Yh,Yh]at h
def dx6(t:Xv)(c:t=36)(f:Fn)(a b:Array Xb)(w:Xa):(Go.binOp .neq t (.func f a b) .nilFunc).run Xn w= .ok (YH Xe) w:=by subst c;kernel_rfl
def dx7(w:Xa):(Go.binOp .neq 36 .nilFunc .nilFunc).run Xn w= .ok (YH Xc) w:=aI
def sC(w:Xa)(C D:Array Xb)(s t:Xv):((w.alloc (YI C s)).alloc (YI D t)).heap[w.heap.size]?=WX (YI C s (0,0))/\((w.alloc (YI C s)).alloc (YI D t)).heap[w.heap.size+1]?=WX (YI D t (0,0)):=by
 refine⟨aC (cN w _) (ai (aj _) _),?_⟩;have h:=cN (w.alloc (YI C s)) (YI D t)
 rwa [Yh]at h
def VW(m:aT)(v:MV)(x:em)(o:Xb)(w:Xa)(g:Nat)(y:Bool)(D:dw g)(hv:m.In w w v)(ho:aW w w o x.on)
 (z:LG (w+1) x.kind=WX (.func (.func g) #[] #[aq (w+1)]))
 (C:∀W,W.heap[w.heap.size+1]?=WX (YI (x.vals o) 92 (0,0))->aW W W.heap.size o x.on->aR g #[aq (w+1)] W (YH y)):
 aR 167 #[YJ (m.cells v),YJ (x.vals o)] w (YH (y&&fw m x.on&&aD x.load 0 1048576&&aD x.size 0 1048576&&aD x.share 1 1048576)):=by
 have HM:=ah (λW(j:Below w w W)=>as2 m v o x.on W (hv.to j (am _) j.size) ((ho.below j (am _)).more j.size));have HG:=ah (λW(j:Below w w W)(G:W.heap[w.heap.size+1]?=WX (YI (x.vals o) 92 (0,0)))=>C W G ((ho.below j (am _)).more j.size));refine qP λSa sc hs cz bD Fa fc cC bT cG Ra rc hr ca cQ Ma mc hm cJ cD La lc hl cS du Ia ic hi dG ew Ua uc hu dH dC HS=>?_;obtain⟨A,n,c,rfl,hn,hc,fk⟩:=ho.sk.form;have HF:=ah z;have sN:=ah (λW=>tz x.load 0 1048576 W);have sO:=ah (λW=>tz x.size 0 1048576 W);have vg:=ah (λW=>tz x.share 1 1048576 W);generalize fw m x.on=r1 at HM;generalize aD x.load 0 1048576=r2 at sN;generalize aD x.size 0 1048576=r3 at sO;generalize aD x.share 1 1048576=r4 at vg;unfold dw at D;refine uC λlZ=>?_;refine nL λnq=>?_;rw[HS.o]at HM⊢
 rw[em.vals_def]at HG⊢
 have aU:=ah (sC w #[YG Sa m.sites.length sc,YG Fa m.feeds.length fc,YG Ra m.racks.length rc,YG Ma m.machs.length mc,YG La m.links.length lc,YG Ia m.items.length ic,m.dark,m.slots,m.reserve,m.failures,YG Ua m.rules.length uc] #[bs x.name,x.kind,x.count,x.load,x.size,x.share,YG A n c] 29 92);have mR:=ah (as6 w);clear hv ho z C hs cC hr hm hl hi hu hn;simp only[aq]at HG HF;have F:=λf a b w=>dx6 _ rfl f a b w;cases y with
 |false=>
  go_enter func167,ntmps167;go_wp2_with first
   |(refine ea rfl (YL 7) (YM (Xo XO 0)) (YL 8) 258 (.inr rfl) 3 36 (.int XO) underlying258 Xj co (w+1+1) (λ_=>WY) rfl (mR.o _ _) 0 (.func (.func 255) #[] #[aq (w+1)]) rfl rfl ?_;intro w1 jw ep)
   |(refine ea rfl (YL 7) (YM (Xo XO 1)) (YL 9) 258 (.inr rfl) 3 36 (.int XO) underlying258 Xj co (w+1+1) _ rfl jw 1 (.func (.func 256) #[] #[aq (w+1)]) rfl rfl ?_;intro w2 jx gO)
   |(refine ea rfl (YL 7) (YM (Xo XO 2)) (YL 10) 258 (.inr rfl) 3 36 (.int XO) underlying258 Xj co (w+1+1) _ rfl jx 2 (.func (.func 257) #[] #[aq (w+1)]) rfl rfl ?_;intro w3 jy gP;refine as7 λnz HX te kQ a1=>?_;have Gh:=ah te;have qp:=ah kQ;have rd:=ah jy;clear jw ep jx gO jy gP te kQ)
   |(at_lookup;refine Bz rfl (.tmp 12) (.tmp 14) 258 false rfl 3 36 (.int .i64) underlying258 underlying3 co (w+1+1) _ rfl rd.o x.kind .nilFunc rfl (zeroValue36 _) ?_
     rw[show aX (aX (aX (λ_=>WY) 0 (Value.func (.func 255) #[] #[aq (w+1)])) 1 (.func (.func 256) #[] #[aq (w+1)])) 2 (.func (.func 257) #[] #[aq (w+1)]) x.kind=WX (.func (.func g) #[] #[YK (WX ⟨w+1,0,WY⟩)])from HF.o];simp only[Option.getD_some,XC,if_false])
   |(refine(HG.o _ nz.o qp.o).m ?_;rintro e w4 ⟨rfl,aQ⟩;refine as8 λbB nW qE e0 e1 e2 e3 e4 e5 e6 e7 e8 e9 dL a6 wL=>?_;clear aQ nW qE)
   |(go_at_call 258;refine(HM.o _ bB.o).m ?_;rintro e w5 ⟨rfl,bf⟩;have bR:=ah (ak bB.o bf);have mP:=aC wL.o bf;have a3:=ap (o:=3) mP rfl;have a4:=ap (o:=4) mP rfl;have a5:=ap (o:=5) mP rfl;clear bf mP)
   |(go_at_call_of 162 (Xo XO x.load);refine(sN.o _).m ?_;rintro e w6 ⟨rfl,rfl⟩)
   |(go_at_call_of 162 (Xo XO x.size);refine(sO.o _).m ?_;rintro e w7 ⟨rfl,rfl⟩)
   |(go_at_call_of 162 (Xo XO x.share);refine(vg.o _).m ?_;rintro e w8 ⟨rfl,rfl⟩)
  go_ret;exact⟨by simp,bB.o⟩
 |true=>
  cases r1 with
  |false=>exact P2
  |true=>
   cases r2 with
   |false=>exact P2
   |true=>
    cases r3 with
    |false=>exact P2
    |true=>exact P2
end
section
open Go Go.RowKit Go.MapKept Go.ChangeMaps Go.Proofs.Tryz
def eg1(x:aS)(m s:Xb)(w:Xa)(D:aW w w m x.ms)(X:x.ms.length<=1000000):
 aR 105 #[YJ (x.cells m s)] w (YH (sq x.ms)):=by
 obtain⟨A,n,c,rfl,hn,hc,hm⟩:=D.form;have HL:=ah hn;have H:=ah D;have km:n<=1000000:=YN;clear D hn X;rw[aS.cells_def];go_enter func105,ntmps105;go_wp2_with fail
 go_loopw [8] (λi wr=>∃k:Nat,k<=n/\i=Xo XO k/\Below w w wr/\w.heap.size<wr/\wr.cell? (w 8 WY)=WX (YG A n c)/\∀j,j<k->xO x.ms j) (λi _=>n - (Xw i).toNat)
 case atStart=>exact⟨0,cb _,rfl,ai (aj w) _,by simp,by go_simp,by omega⟩
 case round=>
  obtain⟨k,hk,rfl,hb,oF,dR,xm⟩:=hrel;have I:=ah xm;clear xm;by_cases az:k<n
  .obtain⟨b,o,rfl,AO,bb⟩:=(H.o.below hb (am _)).at_ k az;have U:=bb k az;have V:=bb (k - 1) (by omega);clear bb;refine Pp λi3=>?_;have y:=λW=>xP (cM x.ms k) W;by_cases O:k=0
   .subst O;rw[Nat.add_zero]at U;clear V;have Y:IntKind.i64.wrap ((0:Int)+1)=1:=by decide
    cases hg:dU (cM x.ms 0) 1 16 with
    |true=>
     rw[hg]at y;have z:=ah y;clear y;go_wp2_with(go_at_call 69;refine(z.o _).m ?_;rintro e C ⟨rfl,rfl⟩)
     exact⟨⟨1,by omega,by go_num,hb,oF,dR,λj G=>by have:j=0:=YN;subst this;exact⟨Pi.1 hg,λh=>by omega⟩⟩,by simp[Xw];omega⟩
    |false=>
     rw[hg]at y;have z:=ah y;clear y;go_wp2_with(go_at_call 69;refine(z.o _).m ?_;rintro e C ⟨rfl,rfl⟩)
     go_ret;exact⟨cd (Pg (k:=0) tU (λh=>by rw[Pi.2 h.1]at hg;cases hg)).symm,hb⟩
   .have j0:decide (0<k)=true:=by simp;omega
    have j1:IntKind.i64.wrap ((k:Int) - 1)=(k:Int) - 1:=XK _ YN;have Z:((k:Int) - 1).toNat=k - 1:=YN;have j3:(0:Int)<=(k:Int) - 1:=YN;have j4:(k:Int) - 1<(n:Int):=YN;cases hg:dU (cM x.ms k) 1 16 with
    |true=>
     rw[hg]at y;have z:=ah y;clear y;by_cases J:cM x.ms k<=cM x.ms (k - 1)
     .have F:decide (cM x.ms k<=cM x.ms (k - 1))=true:=by simpa using J
      go_wp2_with(go_at_call 69;refine(z.o _).m ?_;rintro e C ⟨rfl,rfl⟩)
      go_ret;exact⟨cd (Pg (k:=k) tU (λh=>by have:=h.2 YN;omega)).symm,hb⟩
     .have F:decide (cM x.ms k<=cM x.ms (k - 1))=false:=by simpa using J
      go_wp2_with(go_at_call 69;refine(z.o _).m ?_;rintro e C ⟨rfl,rfl⟩)
      exact⟨⟨k+1,by omega,by go_num,hb,oF,dR,λj G=>by
       by_cases e:j=k
       .subst e;exact⟨Pi.1 hg,λ_=>by omega⟩
       .exact I.o j YN⟩,by simp[Xw];omega⟩
    |false=>
     rw[hg]at y;have z:=ah y;clear y;go_wp2_with(go_at_call 69;refine(z.o _).m ?_;rintro e C ⟨rfl,rfl⟩)
     go_ret;exact⟨cd (Pg (k:=k) tU (λh=>by rw[Pi.2 h.1]at hg;cases hg)).symm,hb⟩
  .go_wp2_with fail
   go_ret;exact⟨cd (Z' (λj G=>I.o j (by rw[HL.o]at G;omega))).symm,hb⟩
def zy(word:ByteArray)(k:Int)(u f r t:Xb):Value:=YJ #[word,k,u,f,r,t]
def eg2(word:ByteArray)(k:Int)(w:Xa):
 aR 73 #[word,k] w (zy word k (bq 181 #[]) (bq 182 #[]) (bq 183 #[]) (bq 184 #[])):=by
 go_enter func73,ntmps73;go_wp2_with fail
 refine bodyPost_ret (v:=zy word k (bq 181 #[]) (bq 182 #[]) (bq 183 #[]) (bq 184 #[])) (by simp[results,results73,go_sem,zy,bq]) rfl ?_;exact⟨rfl,by repeat' first|with_reducible exact aj w|with_reducible refine cF ?_ (am _) _|with_reducible refine ai ?_ _⟩
def eg3(word:ByteArray)(k:Int)(g:Nat)(w:Xa):
 Xq Xn 71 #[word,k,bq g #[]] w λe w'=>e=Ya (zy word k (bq 177 #[]) (bq 178 #[aq w]) (bq 179 #[]) (bq 180 #[]))/\Below w w w'/\w'.cell? w=WX (bq g #[])/\w.heap.size<w':=by
 refine nL λnq=>?_;simp only[bq];go_enter func71,ntmps71;go_wp2_with fail
 refine bodyPost_ret (v:=zy word k (bq 177 #[]) (bq 178 #[aq w]) (bq 179 #[]) (bq 180 #[])) (by simp[results,results71,go_sem,zy,bq,aq]) rfl ?_;exact⟨rfl,ai (ai (aj w) _) _,by go_simp,by simp;omega⟩
end
section
open Go Go.RowKit Go.Proofs.Tryz
def av4{s:ByteArray}{i:Nat}(h:(s.get! i).toNat<128):Utf8.decode s i=((s.get! i).toNat,1):=by unfold Utf8.decode;simp only[Xt];rw[if_pos h]
def ep8{s:ByteArray}{i:Nat}(h:128<=(s.get! i).toNat):128<=(Utf8.decode s i).1:=by
 unfold Utf8.decode;simp only[Xt,Utf8.runeError];split
 .omega
 .exact ag2
def av5{p:Nat->Bool}{ok:UInt8->Bool}(h1:∀c,ok c=Xe->c.toNat<128/\p c.toNat=Xc)(h2:∀c:UInt8,c.toNat<128->ok c=Xc->p c.toNat=Xe)(h3:∀r,128<=r->p r=Xe)(s:ByteArray):
 ∀(f pos:Nat),s.size<=pos+f->(0<=Lib.idxFuncFrom p Xe s f pos↔∃k,pos<=k/\k<s.size/\ok (s.get! k)=Xc)
 |0,pos,h=>by simp only[Lib.idxFuncFrom];exact Ps
 |f+1,pos,h=>by
  simp only[Lib.idxFuncFrom];by_cases j:pos<s.size
  .rw[if_pos j];cases ho:ok (s.get! pos)with
   |true=>have y:=av4 (h1 _ ho).1;have z:=(h1 _ ho).2;rw[y];simp only[z,XC,if_false];rw[av5 h1 h2 h3 s f (pos+1) YN];exact ag4
   |false=>
    have A:p (Utf8.decode s pos).1=true:=by
     rcases XN (s.get! pos).toNat 128 with h|h
     .rw[av4 h];exact h2 _ h ho
     .exact h3 _ (ep8 h)
    rw[if_pos A];exact⟨λ_=>⟨pos,am _,j,ho⟩,λ_=>by omega⟩
  .rw[if_neg j];exact Ps
def ep9{p:Nat->Bool}{ok:UInt8->Bool}(D:∀c,ok c=Xe->c.toNat<128/\p c.toNat=Xc)(j:∀c:UInt8,c.toNat<128->ok c=Xc->p c.toNat=Xe)(z:∀r,128<=r->p r=Xe)(s:ar):
 WZ (0<=Lib.idxFunc p Xe (bs s))= !s.all ok:=by
 have h:=av5 D j z (bs s) (bs s).size 0 YN;rw[<-Lib.idxFunc]at h;have A:(bs s).size=s.length:=dd s;have C:∀k(y:k<s.length),(bs s).get! k=s[k]:=λk y=>by rw[VS _ _ (by rw[A];exact y)];rw[ByteArray.getElem_eq_getElem_data];simp[bs]
 rw[Xz,decide_eq_true_eq,h];simp only[Yk,List.all_eq_false];constructor
 .rintro⟨k,_,j,z⟩;rw[A]at j;rw[C k j]at z;exact⟨s[k],List.getElem_mem j,by simp[z]⟩
 .rintro⟨c,F,G⟩;obtain⟨k,y,rfl⟩:=List.mem_iff_getElem.1 F;exact⟨k,cb _,by rw[A];exact y,by rw[C k y];simpa using G⟩
def zC(r:Nat):Bool:= !(WZ (97<=r)&&WZ (r<=122))&& !(WZ (48<=r)&&WZ (r<=57))&& !WZ (r=95)
def Y'(c:UInt8):zC c.toNat= !cX c:=by
 have e:(c==95)=WZ (c.toNat=95):=by rw[Xz,beq_iff_eq,decide_eq_true_eq];exact⟨λh=>by rw[h];rfl,λh=>UInt8.toNat_inj.1 h⟩
 unfold zC cX kE bX;rw[e];simp[Bool.not_or]
def av6(r:Nat)(h:128<=r):zC r=true:=by simp[zC];omega
def eq0(c:UInt8)(h:cX c=Xe):c.toNat<128:=by
 rcases XN c.toNat 128 with g|g
 .exact g
 .have j:=Y' c;rw[h,av6 _ g]at j;cases j
def eq1(s:ar):WZ (0<=Lib.idxFunc zC Xe (bs s))= !s.all cX:=
 ep9 (λc h=>⟨eq0 c h,(Y' c).trans (by rw[h];rfl)⟩) (λc _ h=>(Y' c).trans (by rw[h];rfl)) av6 s
def eq2(w:Xa):PredAt Xn 252 #[] Go.Proofs.encR zC w:=by
 intro W r _;show Xq _ _ _ _ _;have c:∀b:Bool,b=zC r->Ya (YH b)=Ya (YH (zC r)):=λb h=>by rw[h]
 go_enter func252,ntmps252
 go_wp2
 all_goals
  go_ret;refine⟨c _ ?_,0,rfl⟩;rw[Xz];simp_all[zC];try omega
def Za(s:ar)(w:Xa)(Z:iu w):
 aR 164 #[bs s] w (YH (br s)):=by
 have I:=λW=>strings_ContainsFunc 252 #[] (Xk func252 aI rfl) zC (bs s) W (eq2 W);simp only[eq1]at I;have A:=ah I;have HG:=ah Z;have X:=ah (λW v B(h:bp W B v dP)=>P0 v dP s W B h);have Y:(bs s).size=s.length:=dd s;have j:∀h:0<(bs s).size,(bs s)[0].toNat=(s.headD 0).toNat:=λh=>by
  cases s with
  |nil=>rw[Y]at h;simp at h
  |cons a l=>rfl
 unfold br;generalize s.all cX=al at A;generalize WZ (s∈dP)=kw at X;have y:Hid (kE (s.headD 0)=(WZ (97<=(s.headD 0).toNat)&&WZ ((s.headD 0).toNat<=122))):=rfl;generalize kE (s.headD 0)=low at y;generalize (s.headD 0).toNat=c at j y;obtain⟨n,hn⟩:∃n,s.length=n:=⟨_,rfl⟩;rw[hn]at Y⊢
 clear I Z hn;generalize bs s=T at A X Y j;by_cases z:1<=n;rotate_left
 .have k1:¬(1:Int)<=(n:Int):=by omega
  have J:=ah z;clear z j;go_enter func164,ntmps164;go_wp2_with fail
  go_ret;exact⟨cd (by simp[J.o]),aj w⟩
 by_cases D:n<=31;rotate_left
 .have k1:(1:Int)<=(n:Int):=by omega
  have k2:¬(n:Int)<=31:=YN;have O:=ah D;clear z D j;go_enter func164,ntmps164;go_wp2_with fail
  go_ret;exact⟨cd (by simp[O.o]),aj w⟩
 have k1:(1:Int)<=(n:Int):=YN;have k2:(n:Int)<=31:=YN;have k0:0<T.size:=YN;have hb:=j k0;have J:=ah z;have O:=ah D;clear z D j;by_cases F:97<=c;rotate_left
 .have k3:¬(97:Int)<=(c:Int):=by omega
  have U:=ah F;clear F;go_enter func164,ntmps164;go_wp2_with fail
  go_ret;exact⟨cd (by rw[y.o];simp[U.o]),aj w⟩
 have k3:(97:Int)<=(c:Int):=YN;have U:=ah F;clear F;by_cases G:c<=122;rotate_left
 .have k4:¬(c:Int)<=122:=by omega
  have V:=ah G;clear G;go_enter func164,ntmps164;go_wp2_with fail
  go_ret;exact⟨cd (by rw[y.o];simp[V.o]),aj w⟩
 have k4:(c:Int)<=122:=YN;have V:=ah G;clear G;cases al with
 |false=>
  go_enter func164,ntmps164;go_wp2_with(go_at_call 187;refine(A.o _).m ?_;rintro e w1 ⟨rfl,C⟩)
  go_ret;exact⟨cd YQ,C⟩
 |true=>
  go_enter func164,ntmps164
  go_wp2_with(first
   |(go_at_call 187;refine(A.o _).m ?_;rintro e w1 ⟨rfl,C⟩)
   |(go_at_call 253;refine(WE _ (HG.o.step C)).m ?_;rintro e w2 ⟨v,rfl,hv,au⟩)
   |(go_at_call 225;refine(X.o _ _ _ hv).m ?_;rintro e w3 ⟨rfl,rfl⟩))
  go_ret;exact⟨cd (by rw[y.o];simp[J.o,O.o,U.o,V.o]),ak C au⟩
def ey8{α:Type}(R:Xa->Nat->List Xb->α->Prop)(hR:iR R)(v:Xb)(xs:List α)(g:Nat)(caps:Array Xb)(P:Nat->Bool)(w:Xa)(h:bU 1 R w w v xs)(z:dw g)
 (y:∀(j:Nat)x cs W,xs[j]?=WX x->Below w w W->R W W cs x->cs.length=1->aR g (#[(cs.headD Yg)]++caps) W (YH (P j))):
 aR 185 #[v,bq g caps] w (Xo XO (j5 P xs.length)):=by
 obtain⟨A,n,c,rfl,hl,hc,hm⟩:=h.form;have H:=ah h;have HG:=ah y;have HL:=ah hl;unfold dw at z;simp only[bq];rw[hl];clear h y hl;go_enter func185,ntmps185;exact Wt
def WM{α:Type}(R:Xa->Nat->List Xb->α->Prop)(D:iR R)(v:Xb)(xs:List α)(g:Nat)(caps:Array Xb)(P:Nat->Bool)(w:Xa)(h:bU 1 R w w v xs)(z:dw g)
 (C:∀(j:Nat)x cs W,xs[j]?=WX x->Below w w W->R W W cs x->cs.length=1->aR g (#[(cs.headD Yg)]++caps) W (YH (P j))):
 aR 78 #[v,bq g caps] w (YH ((XS xs.length).any P)):=by
 obtain⟨A,n,c,rfl,hl,hc,hm⟩:=h.form;have y:=ah (ey8 R D _ xs g caps P w h z C);have G: -1<=j5 P xs.length:=Ay;rw[<-Bw];clear h C z hl;simp only[bq]at y⊢
 go_enter func78,ntmps78;go_wp2_with(go_at_call 185;refine y.o.m ?_;rintro e F ⟨rfl,ay⟩)
 exact xQ
end
end Go.Proofs.YtpfienbhhhgpkaaGreatDoor
