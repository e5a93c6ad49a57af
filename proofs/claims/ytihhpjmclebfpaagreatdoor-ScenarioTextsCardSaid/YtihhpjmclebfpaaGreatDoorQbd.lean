/- A part of the proof. -/
import Derived.Test.YtihhpjmclebfpaaGreatDoorQbc
set_option linter.defProp false
set_option linter.unusedVariables false
set_option linter.unusedSimpArgs false
set_option maxRecDepth 100000
set_option maxHeartbeats 32000000
open Option renaming some->XL,none->XM
open Decidable renaming decide->XN
open Go renaming World->XO,Value->XP,Calls->X4,TypeId->Ya,Oper->YO,execOp->Y7,Ending->Zb
open Bool renaming false->XQ,true->XR
open Go.Lib renaming itoa->XS
open Go.RowKit renaming Hid->XV
open Go.Proofs renaming intOf->X8
open Go.Proofs.Tryz renaming prog->X3,underlying22->Zo
open Go.Value renaming int->X1,string->X2,slice->Zk,bool->Zp,agg->Zr,pointer->Zs
open Go.IntKind renaming i64->Yo
open Go.Region renaming wanted->YB
open Go.Ending renaming returned->YT
open Go.Oper renaming wp->Zm
open Go.Obj renaming cells->Zq
open Go.Operand renaming tmp->Zt
namespace Go.Proofs.YtihhpjmclebfpaaGreatDoor
section
open Go Go.RowKit Go.MapKept Go.ChangeMaps Go.Proofs.Tryz
def Mz(k:Int)(x:aQ):Bool:=
 if k=5 then eO x.a 1 16&&XN (x.ss.length<=20)&&t7 x.ss else if k=15 then ry x.ms else oP {x with kind:=k}
def aj5{n:Int}:AA n↔eO n 0 128=true:=by simp[AA,eO]
def ea0(v:XP)(l:List Int)(w:XO)(h:aS w w v l)(F:l.length<=1000000):
 X4 X3 225 #[v,.func (.func 108) #[] #[]] w λe w'=>∃r,e=YT (ah r)/\XN (0<=r)= !t7 l/\Below w w w':=by
 obtain⟨A,n,c,rfl,hn,hc,hm⟩:=h.form;have HL:=aj hn;have H:=aj h;have I:=XX func108 aI rfl;have O:n<=1000000:=Zv;clear h hn F;go_enter func225,ntmps225;go_wp2_with fail
 go_loopw [8] (λi wr=>∃k:Nat,k<=n/\i=ah k/\Below w w wr/\∀j,j<k->AA (cY l j)) (λi _=>n - (X8 i).toNat)
 case atStart=>exact⟨0,bU _,rfl,am w,by omega⟩
 case round=>
  obtain⟨k,hk,rfl,hb,yw⟩:=hrel;have C:=aj yw;clear yw;by_cases ap:k<n
  .obtain⟨b,o,rfl,BK,bo⟩:=(H.below hb (ar _)).at_ k ap;have J:=bo k ap;clear bo;refine Pz λi3=>?_;have y:=λW=>dr7 (cY l k) W;cases hg:eO (cY l k) 0 128 with
   |true=>
    rw[hg]at y;have z:=aj y;clear y;go_wp2_with(go_at_call 108;refine(z _).m ?_;rintro e G ⟨rfl,rfl⟩)
    exact⟨⟨k+1,by omega,by go_num,hb,λj D=>by
     by_cases e:j=k
     .subst e;exact aj5.2 hg
     .exact C j Zv⟩,by simp[X8];omega⟩
   |false=>
    rw[hg]at y;have z:=aj y;clear y;go_wp2_with(go_at_call 108;refine(z _).z ?_)
    go_ret;refine⟨_,rfl,?_,hb⟩;rw[al9 (k:=k) Ho (λh=>by rw[aj5,hg]at h;cases h)];simp
  .go_wp2_with fail
   go_ret;refine⟨_,rfl,?_,hb⟩;rw[al8 (λj D=>C j (by rw[HL.o]at D;omega))];rfl
def ea1(v:XP)(l:List Int)(w:XO)(h:aS w w v l)(j:l.length<=1000000):
 aR 109 #[v,.func (.func 108) #[] #[]] w (Zp (!t7 l)):=by
 obtain⟨A,n,c,rfl,hn,hc,hm⟩:=h.form;have y:=aj (ea0 _ l w h j);clear h hn j;go_enter func109,ntmps109;go_wp2_with(go_at_call 225;refine y.q λC r z aC=>?_)
 exact zc
def aj6(x:aQ)(m s:XP)(w:XO):
 aR 222 #[Zr (x.cells m s)] w (Zp XR):=by
 rw[aQ.cells_def];go_enter func222,ntmps222;go_wp2_with fail
 go_ret;exact⟨rfl,ak (am w) _⟩
def AD(x:aQ)(m s:XP)(w:XO)(g c:Nat)(p:Bool)(C:∀args w,(callFunc g args).run X3 w= .ok (.enter g args) w)
 (j:∀W,X4 X3 g #[x.a] W λe w'=>e=YT (Zp p)/\w'=W)(D:ae w c (.func (.func g) #[] #[]))(z:c<w.heap.size):
 aR 218 #[Zr (x.cells m s),Zs (XL c)] w (Zp p):=by
 have y:=aj j;clear j;have A:¬c=w.heap.size:=Zv;rw[aQ.cells_def];go_enter func218,ntmps218;go_wp2_with(go_at_fn g;refine(y _).z ?_)
 go_ret;exact⟨rfl,ak (am w) _⟩
def ea2(x:aQ)(m s:XP)(w:XO):
 aR 113 #[Zr (x.cells m s)] w (Zp (eO x.a 1 16&&eO x.b 0 1048576)):=by
 rw[aQ.cells_def];go_enter func113,ntmps113
 go_wp2_with(first
  |(go_at_call 100;refine(za x.a _).z ?_)
  |(go_at_call 103;refine(PR x.b _).z ?_)
)
 all_goals
  go_ret;refine⟨cD ?_,by first|exact hB|exact ak (am w) _⟩;simp_all
def ea3(x:aQ)(m s:XP)(w:XO):
 aR 125 #[Zr (x.cells m s)] w (Zp (eO x.a 1 8&&eO x.b 1 8)):=by
 rw[aQ.cells_def];go_enter func125,ntmps125
 go_wp2_with(first
  |(go_at_call 101;refine(LZ x.a _).z ?_)
  |(go_at_call 118;refine(WV x.b _).z ?_)
)
 all_goals
  go_ret;refine⟨cD ?_,by first|exact hB|exact ak (am w) _⟩;simp_all[eO];try omega
def ea4(x:aQ)(m s:XP)(w:XO):
 aR 131 #[Zr (x.cells m s)] w (Zp (eO x.a 1 16&&eO x.c 1 16&&eO x.b 0 8)):=by
 rw[aQ.cells_def];go_enter func131,ntmps131
 go_wp2_with(first
  |(go_at_call_of 100 (ah x.a);refine(za x.a _).z ?_)
  |(go_at_call 118;refine(WV x.b _).z ?_)
  |(go_at_call_of 100 (ah x.c);refine(za x.c _).z ?_)
)
 all_goals
  go_ret;refine⟨cD ?_,by first|exact hB|exact ak (am w) _⟩;simp_all
def ea5(x:aQ)(m s:XP)(w:XO):
 aR 117 #[Zr (x.cells m s)] w (Zp (eO x.a 1 8&&eO x.b 0 8&&ve x)):=by
 rw[aQ.cells_def];go_enter func117,ntmps117
 go_wp2_with(first
  |(go_at_call 101;refine(LZ x.a _).z ?_)
  |(go_at_call 118;refine(WV x.b _).z ?_)
  |(go_at_call 119;refine(dz8 x _).r λz c=>?_;have h:=aq (ak (am w) _) c)
)
 all_goals
  go_ret;refine⟨cD ?_,by first|exact h|exact ak (am w) _⟩;simp_all
def ea6(x:aQ)(m s:XP)(w:XO)(c:aS w w s x.ss)(y:x.ss.length<=1000000):
 aR 107 #[Zr (x.cells m s)] w (Zp (eO x.a 1 16&&XN (x.ss.length<=20)&&t7 x.ss)):=by
 obtain⟨As,ns,cs,rfl,gh,fj,cz⟩:=c.form;have j:=aj c;have z:=aj gh;have F:=aj y;clear c gh y;rw[aQ.cells_def];go_enter func107,ntmps107
 go_wp2_with(first
  |(go_at_call 100;refine(za x.a _).z ?_)
  |(go_at_call 109;go_loud (refine(ea1 _ x.ss _ ((j.below (ak (am w) _) (ar _)).more (Below.size (ak (am w) _))) (by have:=F.o;omega)).r λJ A=>?_;have D:=aq (ak (am w) _) A))
)
 all_goals
  go_ret;refine⟨cD ?_,by first|exact D|exact ak (am w) _⟩;have G:=z.o;clear j;cases h1:eO x.a 1 16<;>by_cases C:x.ss.length<=20<;>first|(simp[C]at*;done)|(simp_all;done)|(exfalso;omega)
def IT(w:XO)(u:XP)(l:List ByteArray):Prop:=
 (u=Zk XM 0 0/\l=[])\/∃b o c,u=Zk (XL ⟨b,o,XM⟩) l.length c/\∀(j:Nat)s,l[j]?=XL s->w.cell? ⟨b,o+j,XM⟩=XL (X2 s)
def bR.src{w:XO}{base:Nat}{v:XP}{l:List ByteArray}(h:bR w base v l):IT w v l:=by
 by_cases C:l=[]
 .subst C;rcases h.2 with⟨y,_⟩|⟨g,cap,D,y,_⟩
  .exact .inl ⟨y,rfl⟩
  .exact .inr ⟨g,0,cap,y,λj s A=>by simp at A⟩
 .obtain⟨b,o,c,y,z⟩:∃b o c,v= .slice (some ⟨b,o,none⟩) l.length c/\∀(j:Nat)u,(l.map Value.string)[j]?=some u->w.cell? ⟨b,o+j,none⟩=some u:=by
   rcases Sl.cases_ h.slS with⟨F,_⟩|⟨_,b,o,c,y,_,_,_,z⟩
   .exact absurd (List.map_eq_nil_iff.1 F) C
   .exact⟨b,o,c,by simpa using y,z⟩
  exact .inr ⟨b,o,c,y,λj s A=>z j _ (by rw[X5,A];rfl)⟩
def cP.src{w:XO}{B:Nat}{v:XP}{l:List ByteArray}(h:cP w B v l)(A:l≠[]):IT w v l:=by
 rcases Sl.cases_ h with⟨y,_⟩|⟨_,b,o,c,D,_,_,_,z⟩
 .exact absurd (List.map_eq_nil_iff.1 y) A
 .exact .inr ⟨b,o,c,by simpa using D,λj s C=>z j _ (by rw[X5,C];rfl)⟩
def dw3(l:List ByteArray):∀u∈l.map X2,u.oneCell'=true:=by intro u c;obtain⟨s,_,rfl⟩:=List.mem_map.1 c;rfl
def Xa{w:XO}{o:YO}{a:Act}{K:Act->XO->Prop}{Q:Exit->Act->XO->Prop}(s x:Operand)
 (ho:o.op= .call {callee:= .builtin .append,args:= #[s,x],argTypes:= #[22,22]})(base:Nat)(v u:XP)(l z:List ByteArray)
 (hs:a.eval s=v)(hx:a.eval x=u)(bD:bR w base v l)(I:IT w u z)(J:l.length+z.length<=1000000)(G:base<=w)
 (h:∀v' w',bR w' base v' (l++z)->w.grownBy w' v.ownBlock->K (a.put o.dst v') w'):o.wp X3 a w K Q:=by
 obtain⟨i0,hi,cA,a_,bd⟩:=Y0 FH;rcases I with⟨rfl,rfl⟩|⟨b,off,c,rfl,A⟩
 .have fB:=run_append_owned_none (P:=X3) (w:=w) base 22 o.type 9 i0 1 Zo hi v _ _ bD;exact ak1
 .refine wp_append_own w s x 22 ho base 9 i0 _ 1 16 underlying22 hi cA a_ bd rfl (by decide) v l.length _ hs bD ⟨b,off,none⟩ z.length c (z.map Value.string) hx (by simp) (λj y C=>?_) (dw3 z) (by simp[maxLen];omega) (by omega) G (λv' w' D F _=>h v' w' ?_ F)
  .rw[List.getElem?_map]at C;obtain⟨s',xf,rfl⟩:=Option.map_eq_some_iff.1 C;have:=A j s' xf;unfold Addr.add;split
   .rename_i e;have:j=0:=by simpa using e
    subst this;exact A 0 s' xf
   .exact this
  .show w'.ownsRow _ _ _ _ _ _;rw[X0,Yp];exact D
def IU{w:XO}{ops:Array YO}{rest:List YO}{o:YO}{a:Act}{Q:Exit->Act->XO->Prop}(F:o.guard=XM)(s x:Operand)
 (ho:o.op= .call {callee:= .builtin .append,args:= #[s,x],argTypes:= #[22,22]})(base:Nat)(v u:XP)(l c:List ByteArray)
 (D:a.eval s=v)(hx:a.eval x=u)(j:bR w base v l)(I:IT w u c)(y:l.length+c.length<=1000000)(G:base<=w)
 (h:∀v' w',bR w' base v' (l++c)->w.grownBy w' v.ownBlock->wpList X3 ops Q rest (a.put o.dst v') w'):wpList X3 ops Q (o::rest) a w:=
 wpList_plain F λ_ C=>Xa s x ho base v u l c D hx j I y G λv' w' z A=>C _ _ (h v' w' z A)
def xA{w:XO}{ops:Array YO}{o:YO}{a:Act}{K:Act->XO->Prop}{Q:Exit->Act->XO->Prop}{E:Prop}(C:o.guard=XM)(s x:Operand)
 (ho:o.op= .call {callee:= .builtin .append,args:= #[s,x],argTypes:= #[22,22]})(base:Nat)(v u:XP)(l c:List ByteArray)
 (z:a.eval s=v)(hx:a.eval x=u)(j:bR w base v l)(F:IT w u c)(y:l.length+c.length<=1000000)(D:base<=w)
 (h:∀v' w',bR w' base v' (l++c)->w.grownBy w' v.ownBlock->K (a.put o.dst v') w'):
 if YB o (yielded ops a.tmps)=XR then Zm X3 o a w K Q else E:=by
 have A:YB o (yielded ops a.tmps)=true:=by simp[YB,C]
 rw[if_pos A];exact Xa s x ho base v u l c z hx j F y D h
def fY(w:XO)(l:List ByteArray)(e:Zb)(w':XO):Prop:=∃u,e=YT u/\bR w' w u l/\Below w w w'
def ak2(x:aQ)(m s:XP)(w:XO):
 X4 X3 224 #[Zr (x.cells m s)] w (fY w []):=by
 rw[aQ.cells_def];go_enter func224,ntmps224;go_wp2_with fail
 go_ret;exact⟨_,rfl,bR.nil_ _ _,ak (am w) _⟩
def vZ{w:XO}{a b:Nat}{v:XP}{l:List ByteArray}(h:bR w a v l)(C:b<=a):bR w b v l:=by
 obtain⟨h1,y⟩:=h;refine⟨h1,?_⟩;rcases y with y|⟨g,cap,j,A,z,D⟩
 .exact .inl y
 .exact .inr ⟨g,cap,j,A,bC C z,D⟩
def AG(x:aQ)(m s:XP)(w:XO)(c:dd w)(y:aN x.a):
 X4 X3 220 #[Zr (x.cells m s)] w (fY w [rB x.a]):=by
 have j:=aj c;clear c;rw[aQ.cells_def];go_enter func220,ntmps220;go_wp2_with(go_at_call 20;refine(Ca _ [x.a] _ (j.step (ak (ak (am w) _) _)) (aS.of1 jM Zy y) Zy).q λz u hu aC=>?_)
 exact Xb
def dw4(x:aQ)(m s:XP)(w:XO)(c:dd w)(y:aN x.a)(z:aN x.b):
 X4 X3 115 #[Zr (x.cells m s)] w (fY w [rB x.a,rB x.b]):=by
 have j:=aj c;clear c;rw[aQ.cells_def];go_enter func115,ntmps115;go_wp2_with(go_at_call 20;refine(Ca _ [x.a,x.b] _ (j.step (ak (ak (am w) _) _)) (aS.of2 jM jM Zy y z) Zy).q λA u hu aC=>?_)
 exact Xb
def aS.of3{W:XO}{h:Nat}{a b c:Int}(F:ae W h (ah a))(C:aa W h 1 (ah b))(D:aa W h 2 (ah c))(G:h<W)(I:aN a)(J:aN b)(O:aN c):aS W W (Zk (XL (h 0 XM)) 3 3) [a,b,c]:=
 ⟨⟨_,3,rfl,by simp,by simp[maxLen],λ_=>⟨h,0,rfl,G,λj u z=>by
   rw[Y9]
   match j,z with
   |0,z=>simp at z;subst z;exact F
   |1,z=>simp at z;subst z;exact C
   |2,z=>simp at z;subst z;exact D
   |j+3,z=>simp at z⟩⟩,by
   intro y A;simp at A;rcases A with rfl|rfl|rfl<;>assumption⟩
def dw5(x:aQ)(m s:XP)(w:XO)(c:dd w)(y:aN x.a)(z:aN x.b)(A:aN x.c):
 X4 X3 133 #[Zr (x.cells m s)] w (fY w [rB x.a,rB x.b,rB x.c]):=by
 have j:=aj c;clear c;rw[aQ.cells_def];go_enter func133,ntmps133;go_wp2_with(go_at_call 20;refine(Ca _ [x.a,x.b,x.c] _ (j.step (ak (ak (am w) _) _)) (aS.of3 jM jM jM Zy y z A) Zy).q λC u hu aC=>?_)
 exact Xb
def dw6(x:aQ)(m s:XP)(w:XO)(c:dd w)(hm:aS w w m x.ms)(j:x.ms.length<=100000):
 X4 X3 137 #[Zr (x.cells m s)] w (fY w (x.ms.map rB)):=by
 obtain⟨Am,nm,cm,rfl,fG,fQ,mG⟩:=hm.form;have y:=aj c;have A:=aj hm;have z:=aj j;clear c hm j fG;rw[aQ.cells_def];go_enter func137,ntmps137;go_wp2_with(go_at_call 20;refine(Ca _ x.ms _ (y.step (ak (am w) _)) ((A.below (ak (am w) _) (ar _)).more (Below.size (ak (am w) _))) z).q λF u D C=>?_)
 go_ret;exact⟨_,rfl,vZ D Zy,aq (ak (am w) _) C⟩
def dw7(x:aQ)(m s:XP)(w:XO)(I:dd w)(ha:aN x.a)(z:aS w w s x.ss)(J:x.ss.length<=100000):
 X4 X3 111 #[Zr (x.cells m s)] w (fY w (rB x.a::x.ss.map rB)):=by
 obtain⟨As,ns,cs,rfl,gh,fj,cz⟩:=z.form;have C:=aj I;have U:=aj z;have D:=aj J;clear I z J gh;rw[aQ.cells_def];go_enter func111,ntmps111;go_wp2_with fail
 go_region_held3 (λw'=>aa w' w 1 (ah x.a)/\aa w' w 9 (Zk As ns cs)) (go_simp)
  (first
    |(go_at_call_of 20 (Zk As ns cs);refine(Ca _ x.ss _ (C.step j) ((U.below j (ar _)).more (Below.size j)) D).q λO u2 dr c=>?_;have F:=aq j c;have Y:w.heap.size<O:=dQ c V;have A:=Z.below c;obtain⟨cM,cj⟩:=dE c)
    |(go_at_call 20;refine(Ca _ [x.a] _ (C.step (aW (ak (ak (am w) _) _))) (aS.of1 jM Zy ha) Zy).q λw1 u1 Z y=>?_;have j:=aq (aW (ak (ak (am w) _) _)) y;have V:w.heap.size<w1:=dQ y bN;obtain⟨br,bM⟩:=dE y)
    |(refine xA rfl (Zt 6) (Zt 9) rfl w.heap.size u1 u2 _ _ rfl rfl (vZ A bN) (dr.src) (by have:=D.o;simp;omega) F.size ?_;intro v' w3 X G;have du:=(vZ A bN).grown F G;have kE:∀o,w3.cell? (w o XM)=O.cell? (w o XM):=λo=>World.grownBy.cell_far G (w o XM) Y (λe=>by have:=(X6 A _ e.symm).1;simp at this;omega)))
 go_wp2_with fail
 go_ret;exact⟨_,rfl,X,du⟩
def dw8(x:aQ)(m s:XP)(w:XO)(J:dd w)(Z:aN x.a)(hb:aN x.b)(hv:aN x.val):
 X4 X3 128 #[Zr (x.cells m s)] w (fY w [rB x.a,rB x.b,rB x.val]):=by
 have D:=aj J;have O:=aj λW(hg:dd W)=>PN x.val hv W hg;clear J;rw[aQ.cells_def];go_enter func128,ntmps128;go_wp2_with fail
 go_region_held3 (λw'=>aa w' w 1 (ah x.a)/\aa w' w 2 (ah x.b)/\aa w' w 6 (ah x.val)) (go_simp)
  (first
    |(go_at_call 129;refine(O _ (D.step G)).r λA c=>?_;have F:=aq G c;have bd:w.heap.size<A:=dQ c U;have C:=X.below c;obtain⟨cM,cj⟩:=dE c)
    |(go_at_call 20;refine(Ca _ [x.a,x.b] _ (D.step (aW (ak (ak (am w) _) _))) (aS.of2 jM jM Zy Z hb) Zy).q λw1 u1 X z=>?_;have G:=aq (aW (ak (ak (am w) _) _)) z;have U:w.heap.size<w1:=dQ z bN;obtain⟨br,bM⟩:=dE z)
    |(refine xA rfl (Zt 8) (Zt 13) rfl w.heap.size u1 _ _ [bs (XS x.val)] rfl rfl (vZ (C.alloc _) bN) (.inr ⟨A.heap.size,0,1,rfl,λj s y=>by
       match j,y with
       |0,y=>simp at y;subst y;go_simp⟩) Zy (ak F _).size ?_;intro v' w3 V I;have Y:=bR.grown (vZ (C.alloc _) bN) (ak F _) I;have kE:∀o,w3.cell? (w o XM)=A.cell? (w o XM):=λo=>(World.grownBy.cell_far I (w o XM) bN (λe=>by have:=(X6 C _ e.symm).1;simp at this;omega)).t jM))
 go_wp2_with fail
 go_ret;exact⟨_,rfl,V,Y⟩
def dw9(x:aQ)(m s:XP)(w:XO)(U:dd w)(ha:aN x.a)(hb:aN x.b)(hv:aN x.val)(ho:aN x.old)(J:0<=x.ok)(O:x.ok<=3):
 X4 X3 122 #[Zr (x.cells m s)] w (fY w ([rB x.a,rB x.b]++xz x)):=by
 have A:=aj U;have z:=aj λW(hg:dd W)=>dz9 x W hg J O hv ho;have D:xz x≠[]/\(xz x).length<=4:=by
  unfold xz;repeat' split
  all_goals simp
 have C:=aj D;simp only[Az]at z;clear U D J O;rw[aQ.cells_def];go_enter func122,ntmps122;go_wp2_with fail
 go_region_held3 (λw'=>aa w' w 1 (ah x.a)/\aa w' w 2 (ah x.b)/\aa w' w 4 (ah x.ok)/\aa w' w 5 (X2 x.key)/\aa w' w 6 (ah x.val)/\aa w' w 7 (ah x.old)) (go_simp)
  (first
    |(go_at_call 123;refine(z _ (A.step G)).q λV u2 dr c=>?_;have F:=aq G c;have Z:w.heap.size<V:=dQ c X;have y:=dm.below c;obtain⟨cM,cj⟩:=dE c)
    |(go_at_call 20;refine(Ca _ [x.a,x.b] _ (A.step (aW (ak (ak (am w) _) _))) (aS.of2 jM jM Zy ha hb) Zy).q λw1 u1 dm j=>?_;have G:=aq (aW (ak (ak (am w) _) _)) j;have X:w.heap.size<w1:=dQ j bN;obtain⟨br,bM⟩:=dE j)
    |(refine xA rfl (Zt 8) (Zt 11) rfl w.heap.size u1 u2 _ (xz x) rfl rfl (vZ y bN) (dr.src C.1) (by have:=C.2;simp;omega) F.size ?_;intro v' w3 Y I;have du:=(vZ y bN).grown F I;have kE:∀o,w3.cell? (w o XM)=V.cell? (w o XM):=λo=>World.grownBy.cell_far I (w o XM) Z (λe=>by have:=(X6 y _ e.symm).1;simp at this;omega)))
 go_wp2_with fail
 go_ret;exact⟨_,rfl,Y,du⟩
end
section
open Go Go.RowKit Go.Proofs.Tryz
def eg0{s:ByteArray}(h:0<s.size):s.data.toList.head?=XL s[0]:=by have:=P4 h;rw[<-this];cases s.data.toList<;>rfl
def ax7(w:XO)(y z:XP)(A C:UInt8->Bool)(D:j6 w y A)(F:j6 w z C):ci 1 xG (w.alloc (Zq #[y,z] 272)) (w.alloc (Zq #[y,z] 272)).heap.size (Zk (XL (w 0 XM)) 2 2) [A,C]:=
 ax2 w _ [y,z] [A,C] 2 rfl Zv Zv (λj p c=>by
  match j,c with
  |0,c=>injection c with c;subst c;exact⟨_,rfl,D⟩
  |1,c=>injection c with c;subst c;exact⟨_,rfl,F⟩)
def Gi(t:ay):Except Nat (Nat×ay×Nat):=match nB 0 t with|none=> .error 2|some m=> .ok (3,t,m)
def eg1{a w:XO}(h:Below a a w){e:Ya}{s:ByteArray}:Below a a (Lib.bytesWorld w e s):=
 ⟨h.os,h.tape,h.output,by rw[Lib.bytesWorld_size];exact Nat.le_succ_of_le h.size,λi j=>(Lib.bytesWorld_at_old w e s i (bJ j h.size)).t (h.block i j)⟩
def ax8(a:Nat)(c:UInt8)(r:ay):nB a (c::r)=if 1048576<10*a+(c.toNat - 48)then XM else nB (10*a+(c.toNat - 48)) r:=rfl
def eg2(s:ByteArray)(w:XO)(Y:s.size<=16384)(X:0<s.size)(n:Nat)(hn:gN cy s=n)(I:1<n)(z:s[0]=48):
 aR 311 #[s] w (.tuple #[jZ 0 [] 0 0,ah 3]):=by
 refine Mq λhz fl=>?_;have D:Hid (∀W F,j6 W F cy->aR 306 #[s,F] W (ah n)):=λW F h=>by exact Mr
 rw[hn]at fl;refine I9 λng gh oz=>?_;have Z:XN ((1:Int)<n)=true:=bN;have zZ:((s[0].toNat:Int)==48)=true:=by rw[z];rfl
 have O:(0:Int)<s.size:=Zv;clear hn I z;go_enter func311,ntmps311;go_wp2_with(go_at_call 309;refine(Gh _).m ?_;rintro e J ⟨V,U,rfl,C,c⟩;have A:=aq (ak (am w) _) c)
 refine(D J _ C).r λw2 y=>?_;have j:=aq A y;have jl:=ai (ai (cR w _) c) y;refine P7 λc0 yc vK yd f0 f1 f2 f3=>?_;have G:=blk_lt jl;clear jl c y A C;go_wp2_with fail
 go_quiet (fail)
 go_wp2_with fail
 refine bodyPost_ret (v:= .tuple #[jZ 0 [] 0 0,ah 3]) (by simp[results,results311,go_sem,jZ,bs,c0,yc,vK,yd,G]) rfl ?_;exact⟨rfl,by repeat' first|with_reducible exact j|with_reducible exact aW j|with_reducible exact zX j _|with_reducible refine cV ?_ Bt _|with_reducible refine ak ?_ _⟩
def eg3(s:ByteArray)(w:XO)(J:s.size<=16384)(D:0<s.size)(n r:Nat)(hn:gN cy s=n)(hq:gN gW (s.extract n s.size)=r)(G:n<=1)(I:r≠0):
 aR 311 #[s] w (.tuple #[jZ 0 [] 0 0,ah 3]):=by
 refine Mq λhz fl=>?_;have uY:(s.extract n s.size).size<=9223372036854775807:=BC;have HR:Hid (∀W F,j6 W F cy->aR 306 #[s,F] W (ah n)):=λW F h=>by exact Mr
 have HQ:Hid (∀W F,j6 W F gW->aR 306 #[X2 (s.extract n s.size),F] W (ah r)):=λW F h=>by exact P8
 rw[hn]at fl;refine I9 λng gh oz=>?_;have U:XN ((1:Int)<n)=false:=bN;have z:(0:Int)<s.size:=Zv;have j:=aj (Mp cy s);rw[hn]at j;clear hn hq;have O:XN ((0:Int)<r)=true:=bN;go_enter func311,ntmps311;go_wp2_with(go_at_call 309;refine(Gh _).m ?_;rintro e y ⟨C,A,rfl,c,aC⟩;have bP:=aq (ak (am w) _) aC)
 refine(HR y _ c).r λw2 au=>?_;refine P9 λaZ jl HB bd=>?_;clear jl aC au bP c;go_wp2_with fail
 refine ty 18 ?_;iterate 3 refine kB 18 11 ?_
 iterate 3 refine FC 18 11 ?_
 iterate 5 refine kB 18 11 ?_
 exact at0
def eg4(s:ByteArray)(w:XO)(O:s.size<=16384)(G:0<s.size)(n r:Nat)(hn:gN cy s=n)(hq:gN gW (s.extract n s.size)=r)(I:1<n)(y:s[0]≠48)(J:r≠0):
 aR 311 #[s] w (.tuple #[jZ 0 [] 0 0,ah 3]):=by
 refine Mq λhz fl=>?_;have uY:(s.extract n s.size).size<=9223372036854775807:=BC;have HR:Hid (∀W F,j6 W F cy->aR 306 #[s,F] W (ah n)):=λW F h=>by exact Mr
 have HQ:Hid (∀W F,j6 W F gW->aR 306 #[X2 (s.extract n s.size),F] W (ah r)):=λW F h=>by exact P8
 rw[hn]at fl;refine I9 λng gh oz=>?_;have V:XN ((1:Int)<n)=true:=bN;have X:((s[0].toNat:Int)==48)=false:=by have:=Xp y;simp[bne]at this⊢;exact this
 have A:(0:Int)<s.size:=Zv;have j:=aj (Mp cy s);rw[hn]at j;clear hn hq;have U:XN ((0:Int)<r)=true:=bN;go_enter func311,ntmps311;go_wp2_with(go_at_call 309;refine(Gh _).m ?_;rintro e z ⟨D,C,rfl,c,aC⟩;have bP:=aq (ak (am w) _) aC)
 refine(HR z _ c).r λw2 au=>?_;refine P9 λaZ jl HB bd=>?_;clear jl aC au bP c;go_wp2_with fail
 refine ty 18 ?_;iterate 11 refine kB 18 11 ?_
 exact at0
def eg5(s:ByteArray)(w:XO)(hs:s.size<=16384)(U:0<s.size)(n r:Nat)(hn:gN cy s=n)(hq:gN gW (s.extract n s.size)=r)(V:n<=1)(D:r=0):
 X4 X3 311 #[s] w (Mo w (Gi (s.data.toList.takeWhile cy))):=by
 refine Mq λhz fl=>?_;have uY:(s.extract n s.size).size<=9223372036854775807:=BC;have HR:Hid (∀W F,j6 W F cy->aR 306 #[s,F] W (ah n)):=λW F h=>by exact Mr
 have HQ:Hid (∀W F,j6 W F gW->aR 306 #[X2 (s.extract n s.size),F] W (ah r)):=λW F h=>by exact P8
 rw[hn]at fl;refine I9 λng gh oz=>?_;have X:XN ((1:Int)<n)=false:=bN;have I:(0:Int)<s.size:=Zv;have HX:=aj (Mp cy s);rw[hn]at HX;have z:Hid ((s.data.toList.takeWhile cy).length=n):=hn;have Bf:Hid (∀c∈s.data.toList.takeWhile cy,cy c=XR):=λc C=>List.all_eq_true.1 (List.all_takeWhile) c C;generalize s.data.toList.takeWhile cy=t at HX z Bf⊢
 have HL:Hid (t.length=n):=z.o;have HD:Hid (∀k,k<n->48<=(t.getD k 0).toNat/\(t.getD k 0).toNat<=57):=λk hk=>by exact at1
 have kc:∀W:XO,Sem.run X3 (convert 9 51 (X2 (s.extract 0 n))) W= .ok (Zk (XL ⟨W.heap.size,0,XM⟩) n (grownCap W (s.extract 0 n).size 0 5)) (Lib.bytesWorld W 5 (s.extract 0 n)):=λW=>by exact at2
 clear hn hq z Bf;subst D;go_enter func311,ntmps311;go_wp2_with(go_at_call 309;refine(Gh _).m ?_;rintro e G ⟨O,J,rfl,A,aC⟩;have bP:=aq (ak (am w) _) aC)
 refine(HR G _ A).r λw2 au=>?_;refine P9 λaZ jl HB bd=>?_;clear jl aC au bP A;go_wp2_with fail
 refine ty 18 ?_;iterate 3 refine kB 18 11 ?_
 iterate 3 refine FC 18 11 ?_
 iterate 5 refine kB 18 11 ?_
 exact at3
def eg6(s:ByteArray)(w:XO)(hs:s.size<=16384)(V:0<s.size)(n r:Nat)(hn:gN cy s=n)(hq:gN gW (s.extract n s.size)=r)(X:1<n)(C:s[0]≠48)(G:r=0):
 X4 X3 311 #[s] w (Mo w (Gi (s.data.toList.takeWhile cy))):=by
 refine Mq λhz fl=>?_;have uY:(s.extract n s.size).size<=9223372036854775807:=BC;have HR:Hid (∀W F,j6 W F cy->aR 306 #[s,F] W (ah n)):=λW F h=>by exact Mr
 have HQ:Hid (∀W F,j6 W F gW->aR 306 #[X2 (s.extract n s.size),F] W (ah r)):=λW F h=>by exact P8
 rw[hn]at fl;refine I9 λng gh oz=>?_;have Y:XN ((1:Int)<n)=true:=bN;have Z:((s[0].toNat:Int)==48)=false:=by have:=Xp C;simp[bne]at this⊢;exact this
 have J:(0:Int)<s.size:=Zv;have HX:=aj (Mp cy s);rw[hn]at HX;have z:Hid ((s.data.toList.takeWhile cy).length=n):=hn;have Bf:Hid (∀c∈s.data.toList.takeWhile cy,cy c=XR):=λc D=>List.all_eq_true.1 (List.all_takeWhile) c D;generalize s.data.toList.takeWhile cy=t at HX z Bf⊢
 have HL:Hid (t.length=n):=z.o;have HD:Hid (∀k,k<n->48<=(t.getD k 0).toNat/\(t.getD k 0).toNat<=57):=λk hk=>by exact at1
 have kc:∀W:XO,Sem.run X3 (convert 9 51 (X2 (s.extract 0 n))) W= .ok (Zk (XL ⟨W.heap.size,0,XM⟩) n (grownCap W (s.extract 0 n).size 0 5)) (Lib.bytesWorld W 5 (s.extract 0 n)):=λW=>by exact at2
 clear hn hq z Bf;subst G;go_enter func311,ntmps311;go_wp2_with(go_at_call 309;refine(Gh _).m ?_;rintro e I ⟨U,O,rfl,A,aC⟩;have bP:=aq (ak (am w) _) aC)
 refine(HR I _ A).r λw2 au=>?_;refine P9 λaZ jl HB bd=>?_;clear jl aC au bP A;go_wp2_with fail
 refine ty 18 ?_;iterate 11 refine kB 18 11 ?_
 exact at3
def eo6(s:ByteArray)(w:XO)(D:s.size<=16384)(j:0<s.size):X4 X3 311 #[s] w (Mo w (Ay s.data.toList)):=by
 have y:gN cy s=(s.data.toList.takeWhile cy).length:=rfl;have z:=Xn gW s (s.data.toList.takeWhile cy).length;have J:=eg0 j;have U:Ay s.data.toList=if(1<(s.data.toList.takeWhile cy).length/\s.data.toList.head?=XL 48)\/((s.data.toList.drop (s.data.toList.takeWhile cy).length).takeWhile gW)≠[]then .error 3 else Gi (s.data.toList.takeWhile cy):=rfl
 rw[U];obtain⟨t,cx2⟩:∃t,s.data.toList.takeWhile cy=t:=⟨_,rfl⟩;rw[cx2]at y z⊢
 obtain⟨r,hr⟩:∃r,(s.data.toList.drop t.length).takeWhile gW=r:=⟨_,rfl⟩;rw[hr]at z⊢
 by_cases c:1<t.length/\s[0]=48
 .rw[if_pos (.inl ⟨c.1,by rw[J,c.2]⟩)];exact(eg2 s w D j t.length y c.1 c.2).mono λe w'⟨C,A⟩=>⟨A,C⟩
 .have G:¬(1<t.length/\s.data.toList.head?=some 48):=by
   rw[J];rintro⟨a,b⟩;injection b with b;exact c ⟨a,b⟩
  by_cases I:r=[]
  .subst I;rw[if_neg (by rintro(h|h);exact G h;exact h rfl),<-cx2];by_cases F:t.length<=1
   .exact eg5 s w D j t.length 0 y z F rfl
   .exact eg6 s w D j t.length 0 y z Zv (λe=>c ⟨by omega,e⟩) rfl
  .rw[if_pos (.inr I)];have O:r.length≠0:=λe=>I (List.eq_nil_of_length_eq_zero e);by_cases F:t.length<=1
   .exact(eg3 s w D j t.length _ y z F O).mono λe w'⟨C,A⟩=>⟨A,C⟩
   .exact(eg4 s w D j t.length _ y z Zv (λe=>c ⟨by omega,e⟩) O).mono λe w'⟨C,A⟩=>⟨A,C⟩
def j6.at_{w:XO}{g:Nat}{caps:Array XP}{p:UInt8->Bool}(h:j6 w (bH g caps) p):(∀args w,(callFunc g args).run X3 w= .ok (.enter g args) w)/\
 ∀(c:UInt8),aR g (#[.int .u8 c.toNat]++caps) w (Zp (p c)):=by
 obtain⟨g',caps',h1,h2,h3⟩:=h.ex;unfold bH at h1;injection h1 with a b c;injection a with a;subst a c;exact⟨h2,λc=>h3 w c (am w)⟩
def eo7(s:ByteArray)(w:XO)(hG:iC w)(C:s.size<=16384)(h0:0<s.size):
 X4 X3 186 #[s] w (Mo w (tok s.data.toList)):=by
 have HG:=aj hG;have BE:(0:Int)<s.size:=Zv;have hm4:(1:Int)<=s.size:=Zv;have HX:Hid (s.data.toList=s[0]::s.data.toList.drop 1):=by have:=List.drop_eq_getElem_cons (l:=s.data.toList) (i:=0) (by rw[lM];exact h0);rw[List.drop_zero]at this;exact this
 have HW:=aj λW(hg:iC W)=>ef9 s W hg C;have HN:=aj λW=>eo6 s W C h0;have HE:Hid (s.extract 0 1=bs [s[0]]):=by show _=_;rw[<-nY (s.extract 0 1)];congr 1;simp[ByteArray.data_extract];rw[HX.o];rfl
 obtain⟨c,hc⟩:∃c,s[0]=c:=⟨_,rfl⟩;have HT:Hid (tok s.data.toList=if lQ c then B8 s.data.toList else if cy c then Ay s.data.toList else if c=59\/c=44 then .ok (4,[c],0)else .error 3):=by
  have:=HX.o;rw[hc]at this;show tok _=_
  conv=>lhs;rw[this]
  rw[tok,<-this]
 rw[hc]at HE;have HC:=aj hc;clear hG hc;go_enter func186,ntmps186;go_wp2_with(go_at_call_of 309 (X1 IntKind.u8 97);refine(P6 _).m ?_;rintro e w1 ⟨g1,c1,rfl,mY,O⟩;have bP:=aq (ak (am w) _) O;obtain⟨e1,k1⟩:=mY.at_;have tj:=aj k1;clear k1 mY)
 have tH:=aj (ai (cR w _) O);refine(tj s[0]).r λw2 V=>?_;rw[HC.o];have I:=aq bP V;have yq:=aj (ai tH V);clear O V tH bP tj e1;cases hl:lQ c with
 |true=>
  have D:Hid (tok s.data.toList=B8 s.data.toList):=by rw[Hid,HT.o,if_pos hl]
  clear hl;go_wp2_with fail
  refine(HW w2 (HG.step I)).m ?_;rintro e w3 ⟨A,z⟩;have du:=aq I A;have j:=ai yq A;have hz:=blk_lt j;obtain⟨f0,f1,f2,f3⟩:=AH j;have c0:=ag (o:=0) j rfl;have c1:=ag (o:=1) j rfl;have c2:=ag (o:=2) j rfl;have c3:=ag (o:=3) j rfl;clear A j;cases hw:B8 s.data.toList with
  |error x=>
   rw[hw]at z D;simp only at z;subst z;clear hw;unfold jZ;go_wp2_with fail
   refine at4 ?_;rw[D.o];exact P_
  |ok y=>
   obtain⟨k,t,m⟩:=y;rw[hw]at z D;simp only at z;subst z;clear hw;unfold jZ;go_wp2_with fail
   refine bodyPost_ret (v:= .tuple #[jZ k t m 0,ah 0]) Oc rfl ?_;rw[D.o];exact P_
 |false=>
  have D:Hid (tok s.data.toList=if cy c then Ay s.data.toList else if c=59\/c=44 then .ok (4,[c],0)else .error 3):=by rw[Hid,HT.o,if_neg (by simp[hl])]
  clear hl;go_wp2_with(go_at_call_of 309 (X1 IntKind.u8 48);refine(Gh _).m ?_;rintro e w3 ⟨g3,c3,rfl,uM,A⟩;obtain⟨e3,k3⟩:=uM.at_;have po:=aj k3;clear k3 uM)
  refine(po c).r λw4 U=>?_;have Z:=aq (aq I A) U;have J:=aj (ai (ai yq A) U);clear A U yq I po e3;cases hd:cy c with
  |true=>
   have wI:Hid (tok s.data.toList=Ay s.data.toList):=by rw[Hid,D.o,if_pos hd]
   clear hd;go_wp2_with fail
   refine(HN w4).m ?_;rintro e w5 ⟨A,z⟩;have du:=aq Z A;have j:=ai J A;have hz:=blk_lt j;obtain⟨f0,f1,f2,f3⟩:=AH j;have c0:=ag (o:=0) j rfl;have c1:=ag (o:=1) j rfl;have c2:=ag (o:=2) j rfl;have c3:=ag (o:=3) j rfl;clear A j;cases hw:Ay s.data.toList with
   |error x=>
    rw[hw]at z wI;simp only at z;subst z;clear hw;unfold jZ;go_wp2_with fail
    refine at4 ?_;rw[wI.o];exact P_
   |ok y=>
    obtain⟨k,t,m⟩:=y;rw[hw]at z wI;simp only at z;subst z;clear hw;unfold jZ;go_wp2_with fail
    refine bodyPost_ret (v:= .tuple #[jZ k t m 0,ah 0]) Oc rfl ?_;rw[wI.o];exact P_
  |false=>
   have wI:Hid (tok s.data.toList=if c=59\/c=44 then .ok (4,[c],0)else .error 3):=by rw[Hid,D.o,if_neg (by simp[hd])]
   clear hd;go_wp2_with(go_at_call 307;refine(ei9 _).m ?_;rintro e w5 ⟨g5,c5,rfl,C',X⟩;obtain⟨e5,k5⟩:=C'.at_;have gK:=aj k5;clear k5 C')
   refine(gK c).r λw6 Y=>?_;have uL:=aq (aq Z X) Y;have F:=ai (ai J X) Y;have hz:=blk_lt F;obtain⟨f0,f1,f2,f3⟩:=AH F;have c0:=ag (o:=0) F rfl;have c1:=ag (o:=1) F rfl;have c2:=ag (o:=2) F rfl;have c3:=ag (o:=3) F rfl;clear X Y J F Z gK e5;by_cases C:c=59\/c=44
   .have G:(c==59||c==44)=true:=by simpa using C
    rw[G];rw[if_pos C]at wI;clear C G;go_wp2_with fail
    refine bodyPost_ret (v:= .tuple #[jZ 4 [c] 0 0,ah 0]) (by simp[results,results186,go_sem,jZ,HE.o,c0,c1,c2,c3,hz]) rfl ?_;exact at5
   .have G:(c==59||c==44)=false:=by simpa using C
    rw[G];rw[if_neg C]at wI;clear C G;go_wp2_with fail
    refine bodyPost_ret (v:= .tuple #[jZ 0 [] 0 0,ah 3]) Oc rfl ?_;exact at5
def el5(v:XP)(xs:List nC)(g:Nat)(caps:Array XP)(P:Nat->Bool)(w:XO)(h:ci 3 qn w w v xs)(I:d_ g)
 (D:∀(j:Nat)x cs bv W,xs[j]?=XL x->Below w w W->qn W W cs x->cs.length=3->ci 3 qn W W bv (xs.take j)->aR g (#[Zr cs.toArray,bv]++caps) W (Zp (P j))):
 aR 144 #[v,bH g caps] w (Zp (eV P xs.length)):=by
 obtain⟨A,n,c,rfl,hl,hc,hm⟩:=h.form;have H:=aj h;have F:=aj D;have G:=aj hl;unfold d_ at I;simp only[bH];rw[hl];clear h D hl;go_enter func144,ntmps144;go_wp2_with fail
 go_loopw [9] (λi wr=>∃k:Nat,k<=n/\i=ah k/\(∀j,j<k->P j=XR)/\Below w w wr) (λi _=>n - (X8 i).toNat)
 case atStart=>exact⟨0,bU _,rfl,by omega,am w⟩
 case round=>
  obtain⟨k,hk,rfl,dx,hB⟩:=hrel;have HA:=aj dx;clear dx;by_cases ap:k<n
  .obtain⟨eC,bh⟩:=dt ap;have J:(k:Int)<=c:=by omega
   obtain⟨x,hx⟩:=iT G ap;have C:=H.to qn.ab hB (ar _) hB.size;obtain⟨b,o,cs,rfl,fL,ep,hr,bo⟩:=C.at_ hx;have z:=aj (λW(y:Below wr wr W)=>F k x cs (Zk (XL (b o XM)) k c) W hx (aq hB y) (qn.ab _ _ _ _ _ _ _ hr y (ar _) y.size) ep ((C.to qn.ab y (ar _) y.size).take (by omega:k<=n)));obtain⟨rfl,mj⟩:=hr;refine DF λh0 h1 h2=>?_;simp only[X7]at h0;have HQ:=aj hB;clear bo ep C hB mj;cases hp:P k with
   |false=>
    rw[hp]at z;have HP:=aj hp;clear hp;go_wp2_with fail
    go_region_held3 (λw'=>ae w' wr (X2 (bs x.name))/\aa w' wr 1 (ah x.site)/\aa w' wr 2 (ah x.feed)) (go_simp)
     ((refine(z _ (aW (ak (am wr) _))).r λw' gC=>?_;obtain⟨cM,cj⟩:=dE gC))
    exact Z6
   |true=>
    rw[hp]at z;have HP:=aj hp;clear hp;go_wp2_with fail
    go_region_held3 (λw'=>ae w' wr (X2 (bs x.name))/\aa w' wr 1 (ah x.site)/\aa w' wr 2 (ah x.feed)) (go_simp)
     ((refine(z _ (aW (ak (am wr) _))).r λw' gC=>?_;obtain⟨cM,cj⟩:=dE gC))
    have iq:=aq HQ (aq (aW (ak (am wr) _)) gC);exact Qg
  .exact Z7
def el6(v:XP)(xs:List rq)(g:Nat)(caps:Array XP)(P:Nat->Bool)(w:XO)(h:ci 3 v_ w w v xs)(I:d_ g)
 (D:∀(j:Nat)x cs bv W,xs[j]?=XL x->Below w w W->v_ W W cs x->cs.length=3->ci 3 v_ W W bv (xs.take j)->aR g (#[Zr cs.toArray,bv]++caps) W (Zp (P j))):
 aR 148 #[v,bH g caps] w (Zp (eV P xs.length)):=by
 obtain⟨A,n,c,rfl,hl,hc,hm⟩:=h.form;have H:=aj h;have F:=aj D;have G:=aj hl;unfold d_ at I;simp only[bH];rw[hl];clear h D hl;go_enter func148,ntmps148;go_wp2_with fail
 go_loopw [9] (λi wr=>∃k:Nat,k<=n/\i=ah k/\(∀j,j<k->P j=XR)/\Below w w wr) (λi _=>n - (X8 i).toNat)
 case atStart=>exact⟨0,bU _,rfl,by omega,am w⟩
 case round=>
  obtain⟨k,hk,rfl,dx,hB⟩:=hrel;have HA:=aj dx;clear dx;by_cases ap:k<n
  .obtain⟨eC,bh⟩:=dt ap;have J:(k:Int)<=c:=by omega
   obtain⟨x,hx⟩:=iT G ap;have C:=H.to v_.ab hB (ar _) hB.size;obtain⟨b,o,cs,rfl,fL,ep,hr,bo⟩:=C.at_ hx;have z:=aj (λW(y:Below wr wr W)=>F k x cs (Zk (XL (b o XM)) k c) W hx (aq hB y) (v_.ab _ _ _ _ _ _ _ hr y (ar _) y.size) ep ((C.to v_.ab y (ar _) y.size).take (by omega:k<=n)));obtain⟨rfl,mj⟩:=hr;refine DF λh0 h1 h2=>?_;simp only[X7]at h0;have HQ:=aj hB;clear bo ep C hB mj;cases hp:P k with
   |false=>
    rw[hp]at z;have HP:=aj hp;clear hp;go_wp2_with fail
    go_region_held3 (λw'=>ae w' wr (X2 (bs x.name))/\aa w' wr 1 (ah x.rack)/\aa w' wr 2 (ah x.cap)) (go_simp)
     ((refine(z _ (aW (ak (am wr) _))).r λw' gC=>?_;obtain⟨cM,cj⟩:=dE gC))
    exact Z6
   |true=>
    rw[hp]at z;have HP:=aj hp;clear hp;go_wp2_with fail
    go_region_held3 (λw'=>ae w' wr (X2 (bs x.name))/\aa w' wr 1 (ah x.rack)/\aa w' wr 2 (ah x.cap)) (go_simp)
     ((refine(z _ (aW (ak (am wr) _))).r λw' gC=>?_;obtain⟨cM,cj⟩:=dE gC))
    have iq:=aq HQ (aq (aW (ak (am wr) _)) gC);exact Qg
  .exact Z7
def el7(v:XP)(xs:List t5)(g:Nat)(caps:Array XP)(P:Nat->Bool)(w:XO)(h:ci 3 qp w w v xs)(I:d_ g)
 (D:∀(j:Nat)x cs bv W,xs[j]?=XL x->Below w w W->qp W W cs x->cs.length=3->ci 3 qp W W bv (xs.take j)->aR g (#[Zr cs.toArray,bv]++caps) W (Zp (P j))):
 aR 151 #[v,bH g caps] w (Zp (eV P xs.length)):=by
 obtain⟨A,n,c,rfl,hl,hc,hm⟩:=h.form;have H:=aj h;have F:=aj D;have G:=aj hl;unfold d_ at I;simp only[bH];rw[hl];clear h D hl;go_enter func151,ntmps151;go_wp2_with fail
 go_loopw [9] (λi wr=>∃k:Nat,k<=n/\i=ah k/\(∀j,j<k->P j=XR)/\Below w w wr) (λi _=>n - (X8 i).toNat)
 case atStart=>exact⟨0,bU _,rfl,by omega,am w⟩
 case round=>
  obtain⟨k,hk,rfl,dx,hB⟩:=hrel;have HA:=aj dx;clear dx;by_cases ap:k<n
  .obtain⟨eC,bh⟩:=dt ap;have J:(k:Int)<=c:=by omega
   obtain⟨x,hx⟩:=iT G ap;have C:=H.to qp.ab hB (ar _) hB.size;obtain⟨b,o,cs,rfl,fL,ep,hr,bo⟩:=C.at_ hx;have z:=aj (λW(y:Below wr wr W)=>F k x cs (Zk (XL (b o XM)) k c) W hx (aq hB y) (qp.ab _ _ _ _ _ _ _ hr y (ar _) y.size) ep ((C.to qp.ab y (ar _) y.size).take (by omega:k<=n)));obtain⟨rfl,mj⟩:=hr;refine DF λh0 h1 h2=>?_;simp only[X7]at h0;have HQ:=aj hB;clear bo ep C hB mj;cases hp:P k with
   |false=>
    rw[hp]at z;have HP:=aj hp;clear hp;go_wp2_with fail
    go_region_held3 (λw'=>ae w' wr (ah x.a)/\aa w' wr 1 (ah x.b)/\aa w' wr 2 (ah x.cap)) (go_simp)
     ((refine(z _ (aW (ak (am wr) _))).r λw' gC=>?_;obtain⟨cM,cj⟩:=dE gC))
    exact Z6
   |true=>
    rw[hp]at z;have HP:=aj hp;clear hp;go_wp2_with fail
    go_region_held3 (λw'=>ae w' wr (ah x.a)/\aa w' wr 1 (ah x.b)/\aa w' wr 2 (ah x.cap)) (go_simp)
     ((refine(z _ (aW (ak (am wr) _))).r λw' gC=>?_;obtain⟨cM,cj⟩:=dE gC))
    have iq:=aq HQ (aq (aW (ak (am wr) _)) gC);exact Qg
  .exact Z7
def bb3{s:ByteArray}{i:Nat}(h:(s.get! i).toNat<128):Utf8.decode s i=((s.get! i).toNat,1):=by unfold Utf8.decode;simp only[X7];rw[if_pos h]
def ex6{s:ByteArray}{i:Nat}(h:128<=(s.get! i).toNat):128<=(Utf8.decode s i).1:=by
 unfold Utf8.decode;simp only[X7,Utf8.runeError];split
 .omega
 .exact aj1
def ax9{p:Nat->Bool}{ok:UInt8->Bool}(h1:∀c,ok c=XR->c.toNat<128/\p c.toNat=XQ)(h2:∀c:UInt8,c.toNat<128->ok c=XQ->p c.toNat=XR)(h3:∀r,128<=r->p r=XR)(s:ByteArray):
 ∀(f pos:Nat),s.size<=pos+f->(0<=Lib.idxFuncFrom p XR s f pos↔∃k,pos<=k/\k<s.size/\ok (s.get! k)=XQ)
 |0,pos,h=>by simp only[Lib.idxFuncFrom];exact PC
 |f+1,pos,h=>by
  simp only[Lib.idxFuncFrom];by_cases j:pos<s.size
  .rw[if_pos j];cases ho:ok (s.get! pos)with
   |true=>have y:=bb3 (h1 _ ho).1;have z:=(h1 _ ho).2;rw[y];simp only[z,Yh,if_false];rw[ax9 h1 h2 h3 s f (pos+1) Zv];exact aj3
   |false=>
    have A:p (Utf8.decode s pos).1=true:=by
     rcases Yt (s.get! pos).toNat 128 with h|h
     .rw[bb3 h];exact h2 _ h ho
     .exact h3 _ (ex6 h)
    rw[if_pos A];exact⟨λ_=>⟨pos,ar _,j,ho⟩,λ_=>by omega⟩
  .rw[if_neg j];exact PC
def fg3{p:Nat->Bool}{ok:UInt8->Bool}(D:∀c,ok c=XR->c.toNat<128/\p c.toNat=XQ)(j:∀c:UInt8,c.toNat<128->ok c=XQ->p c.toNat=XR)(z:∀r,128<=r->p r=XR)(s:ay):
 XN (0<=Lib.idxFunc p XR (bs s))= !s.all ok:=by
 have h:=ax9 D j z (bs s) (bs s).size 0 Zv;rw[<-Lib.idxFunc]at h;have A:(bs s).size=s.length:=eM s;have C:∀k(y:k<s.length),(bs s).get! k=s[k]:=λk y=>by rw[W_ _ _ (by rw[A];exact y)];rw[ByteArray.getElem_eq_getElem_data];simp[bs]
 rw[Yf,decide_eq_true_eq,h];simp only[YZ,List.all_eq_false];constructor
 .rintro⟨k,_,j,z⟩;rw[A]at j;rw[C k j]at z;exact⟨s[k],List.getElem_mem j,by simp[z]⟩
 .rintro⟨c,F,G⟩;obtain⟨k,y,rfl⟩:=List.mem_iff_getElem.1 F;exact⟨k,bU _,by rw[A];exact y,by rw[C k y];simpa using G⟩
def AY(r:Nat):Bool:= !(XN (97<=r)&&XN (r<=122))&& !(XN (48<=r)&&XN (r<=57))&& !XN (r=95)
def ZF(c:UInt8):AY c.toNat= !di c:=by
 have e:(c==95)=XN (c.toNat=95):=by rw[Yf,beq_iff_eq,decide_eq_true_eq];exact⟨λh=>by rw[h];rfl,λh=>UInt8.toNat_inj.1 h⟩
 unfold AY di lQ cy;rw[e];simp[Bool.not_or]
def ay0(r:Nat)(h:128<=r):AY r=true:=by simp[AY];omega
def fg4(c:UInt8)(h:di c=XR):c.toNat<128:=by
 rcases Yt c.toNat 128 with g|g
 .exact g
 .have j:=ZF c;rw[h,ay0 _ g]at j;cases j
def fg5(s:ay):XN (0<=Lib.idxFunc AY XR (bs s))= !s.all di:=
 fg3 (λc h=>⟨fg4 c h,(ZF c).t (by rw[h];rfl)⟩) (λc _ h=>(ZF c).t (by rw[h];rfl)) ay0 s
def fg6(w:XO):PredAt X3 157 #[] Go.Proofs.encR AY w:=by
 intro W r _;show X4 _ _ _ _ _;have c:∀b:Bool,b=AY r->YT (Zp b)=YT (Zp (AY r)):=λb h=>by rw[h]
 go_enter func157,ntmps157
 go_wp2
 all_goals
  go_ret;refine⟨c _ ?_,0,rfl⟩;rw[Yf];simp_all[AY];try omega
def ZG(s:ay)(w:XO)(Z:iC w):
 aR 56 #[bs s] w (Zp (bI s)):=by
 have I:=λW=>strings_ContainsFunc 157 #[] (XX func157 aI rfl) AY (bs s) W (fg6 W);simp only[fg5]at I;have A:=aj I;have HG:=aj Z;have X:=aj λW v B(h:bg W B v eL)=>P5 v eL s W B h;have Y:(bs s).size=s.length:=eM s;have j:∀h:0<(bs s).size,(bs s)[0].toNat=(s.headD 0).toNat:=λh=>by
  cases s with
  |nil=>rw[Y]at h;simp at h
  |cons a l=>rfl
 unfold bI;generalize s.all di=al at A;generalize XN (s∈eL)=kw at X;have y:Hid (lQ (s.headD 0)=(XN (97<=(s.headD 0).toNat)&&XN ((s.headD 0).toNat<=122))):=rfl;generalize lQ (s.headD 0)=low at y;generalize (s.headD 0).toNat=c at j y;obtain⟨n,hn⟩:∃n,s.length=n:=⟨_,rfl⟩;rw[hn]at Y⊢
 clear I Z hn;generalize bs s=T at A X Y j;by_cases z:1<=n;rotate_left
 .have k1:¬(1:Int)<=(n:Int):=by omega
  have J:=aj z;clear z j;go_enter func56,ntmps56;go_wp2_with fail
  go_ret;exact⟨cD (by simp[J.o]),am w⟩
 by_cases D:n<=31;rotate_left
 .have k1:(1:Int)<=(n:Int):=by omega
  have k2:¬(n:Int)<=31:=Zv;have O:=aj D;clear z D j;go_enter func56,ntmps56;go_wp2_with fail
  go_ret;exact⟨cD (by simp[O.o]),am w⟩
 have k1:(1:Int)<=(n:Int):=Zv;have k2:(n:Int)<=31:=Zv;have k0:0<T.size:=Zv;have hb:=j k0;have J:=aj z;have O:=aj D;clear z D j;by_cases F:97<=c;rotate_left
 .have k3:¬(97:Int)<=(c:Int):=by omega
  have U:=aj F;clear F;go_enter func56,ntmps56;go_wp2_with fail
  go_ret;exact⟨cD (by rw[y.o];simp[U.o]),am w⟩
 have k3:(97:Int)<=(c:Int):=Zv;have U:=aj F;clear F;by_cases G:c<=122;rotate_left
 .have k4:¬(c:Int)<=122:=by omega
  have V:=aj G;clear G;go_enter func56,ntmps56;go_wp2_with fail
  go_ret;exact⟨cD (by rw[y.o];simp[V.o]),am w⟩
 have k4:(c:Int)<=122:=Zv;have V:=aj G;clear G;cases al with
 |false=>
  go_enter func56,ntmps56;go_wp2_with(go_at_call 158;refine(A _).r λw1 C=>?_)
  go_ret;exact⟨cD Zy,C⟩
 |true=>
  go_enter func56,ntmps56
  go_wp2_with(first
   |(go_at_call 158;refine(A _).r λw1 C=>?_)
   |(go_at_call 160;refine(Xq _ (HG.step C)).q λw2 v hv au=>?_)
   |(go_at_call 159;refine(X _ _ _ hv).z ?_))
  go_ret;exact⟨cD (by rw[y.o];simp[J.o,O.o,U.o,V.o]),aq C au⟩
def fg7(m:aU)(v:MV)(mb:Nat)(x:rq)(y:List XP)(C:XP)(b:List rq)(w:XO)(hm:af w mb (m.cells v) 29)(z:m.In w w v)(hx:v_ w w y x):
 aR 149 #[Zr y.toArray,C,az mb] w (Zp (vY m x b)):=by
 obtain⟨rfl,eC,bh⟩:=hx;obtain⟨_,_,⟨Ra,rc,hr,cd,cZ⟩,_⟩:=z.cells;have G:=blk_lt hm;have F:aa w mb 2 (Zk Ra m.racks.length rc):=by rw[<-hr];exact ag hm rfl
 have D:¬mb=w:=Zv;have c:=aj λW=>M_ x.rack m.racks.length W;have j:=aj λW=>bb4 x.cap W;show X4 _ _ _ _ λe w'=>e=YT (Zp (aE x.rack 1 (m.racks.length:Nat)&&aE x.cap 0 1048576))/\_;generalize aE x.rack 1 (m.racks.length:Nat)=r1 at c;generalize aE x.cap 0 1048576=r2 at j;clear z hm hr eC bh;simp only[az];cases r1 with
 |false=>
  go_enter func149,ntmps149;go_wp2_with(first|(go_at_call 143;refine(c _).m ?_;rintro e A ⟨rfl,rfl⟩))
  go_ret;exact⟨rfl,by repeat' first|with_reducible exact am w|with_reducible refine ak ?_ _⟩
 |true=>
  go_enter func149,ntmps149;go_wp2_with(first|(go_at_call 143;refine(c _).m ?_;rintro e A ⟨rfl,rfl⟩)|(go_at_call 150;refine(j _).z ?_))
  go_ret;exact⟨by simp,by repeat' first|with_reducible exact am w|with_reducible refine ak ?_ _⟩
def IP(x y:t5):Bool:=XN (y.a=x.a)&&XN (y.b=x.b)
def fg8(x y:t5)(A:List XP)(xb:Nat)(w:XO)(D:qp w w A y)(G:ae w xb (ah x.a))(I:aa w xb 1 (ah x.b))(J:xb<w):
 aR 153 #[Zr A.toArray,az xb] w (Zp (IP x y)):=by
 obtain⟨rfl,eC,bh⟩:=D;have F:¬xb=w:=Zv;have j:Hid (IP x y=(XN (y.a=x.a)&&XN (y.b=x.b))):=rfl;generalize IP x y=r at j;clear eC bh;simp only[az];by_cases z:(y.a==x.a)=XR
 .have c:=aj z;go_enter func153,ntmps153;go_wp2_with fail
  go_ret;refine⟨cD ?_,ak (am w) _⟩;have e:=c.o;rw[zh]at e;rw[j.o,e];simp[zh]
 .have C:(y.a==x.a)=false:=by simpa using z
  clear z;have c:=aj C;go_enter func153,ntmps153;go_wp2_with fail
  go_ret;refine⟨cD ?_,ak (am w) _⟩;have e:=c.o;rw[zh]at e;rw[j.o,e];rfl
def fg9(m:aU)(v:MV)(mb:Nat)(x:t5)(G:List XP)(b:List t5)(bv:XP)(w:XO)(hm:af w mb (m.cells v) 29)(hv:m.In w w v)(hx:qp w w G x)(X:ci 3 qp w w bv b):
 aR 152 #[Zr G.toArray,bv,az mb] w (Zp (jJ m x b)):=by
 obtain⟨rfl,eC,bh⟩:=hx;obtain⟨⟨Sa,sc,hs,bZ,bL⟩,_⟩:=hv.cells;have gw:=blk_lt hm;have c0:ae w mb (Zk Sa m.sites.length sc):=by rw[<-hs];exact ag hm rfl
 have aT:¬mb=w:=Zv;obtain⟨A,n,c,rfl,hl,hc,fQ⟩:=X.form;have F:=aj (fun(W:XO)(hW:Below w w W)(xb:Nat)(I:ae W xb (ah x.a))(J:aa W xb 1 (ah x.b))(hx:xb<W.heap.size)=>
  eh5 qp qp.ab (Zk A n c) b 153 #[az xb] (kg b (IP x)) W (X.to qp.ab hW (ar _) hW.size) (XX func153 aI rfl)
   (λj y G W2 hy Z hr _=>by rw[fW hy];exact fg8 x y G xb W2 hr ((Z.cell (p:=xb) hx).t I) ((Z.cell (p:=xb 1 XM) hx).t J) (bJ hx Z.size)))
 rw[DE]at F;have C:=aj λW=>bb4 x.cap W;refine rF λqa=>?_;have z:Hid (jJ m x b=(XN (1<=x.a)&&XN (x.a<x.b)&&XN (x.b<=m.sites.length)&&aE x.cap 0 1048576&& !b.any (IP x))):=rfl;generalize jJ m x b=r at z;generalize aE x.cap 0 1048576=r2 at C z;generalize b.any (IP x)=r3 at F z;clear hv hm X hs eC bh hl;unfold bH az at F;simp only[az];by_cases I:1<=x.a
 .have O:=aj I;by_cases J:x.a<x.b
  .have U:=aj J;by_cases h3:x.b<=m.sites.length
   .have V:=aj h3;cases r2 with
    |false=>
     go_enter func152,ntmps152;go_wp2_with(first|(go_at_call 150;refine(C _).m ?_;rintro e D ⟨rfl,rfl⟩))
     go_ret;exact⟨by rw[z.o];simp;(try have Y:=trivial);(try omega),ak (am w) _⟩
    |true=>
     go_enter func152,ntmps152;go_wp2_with(first|(go_at_call 150;refine(C _).m ?_;rintro e D ⟨rfl,rfl⟩))
     refine(F _ (ak (am w) _) w (ag (cR w _) rfl) (ag (cR w _) rfl) Zy).r λD aC=>?_;go_wp2_with fail
     go_ret;exact⟨by rw[z.o];simp[O.o,U.o,V.o],aq (ak (am w) _) aC⟩
   .have V:=aj h3;go_enter func152,ntmps152;go_wp2_with(first|(go_at_call 150;refine(C _).m ?_;rintro e D ⟨rfl,rfl⟩))
    go_ret;exact⟨by rw[z.o];simp;(try have Y:=V.o);(try omega),ak (am w) _⟩
  .have U:=aj J;go_enter func152,ntmps152;go_wp2_with(first|(go_at_call 150;refine(C _).m ?_;rintro e D ⟨rfl,rfl⟩))
   go_ret;exact⟨by rw[z.o];simp;(try have Y:=U.o);(try omega),ak (am w) _⟩
 .have O:=aj I;go_enter func152,ntmps152;go_wp2_with(first|(go_at_call 150;refine(C _).z ?_))
  go_ret;exact⟨by rw[z.o];simp;(try have Y:=O.o);(try omega),ak (am w) _⟩
def Q9{α:Type}{c:α->List α->Bool}{xs:List α}{j:Nat}{x:α}(h:xs[j]?=XL x):fJ c [] xs j=c x (xs.take j):=by rw[FD h,YA]
def fh0(m:aU)(v:MV)(w:XO)(A:m.In w w v):
 aR 53 #[Zr (m.cells v)] w (Zp (fO m)):=by
 obtain⟨⟨Sa,sc,hs,bZ,bL⟩,⟨Fa,fc,hf,bM,cj⟩,⟨Ra,rc,hr,cd,cZ⟩,⟨Ma,mc,hm,cr,co⟩,⟨La,lc,hl,cW,dh⟩,⟨Ia,ic,hi,dg,d'⟩,⟨Ua,uc,hu,dm,dr⟩⟩:=A.cells;have HV:=aj A;have X:=aj (nD m hs hf hr hm hl hi hu);have Y:∀W,Below w w W->W.heap[w.heap.size]?=XL (Zq (m.cells v) 29 (0,0))->m.In W W.heap.size v/\af W w.heap.size (m.cells v) 29:=λW y C=>⟨A.to y (ar _) y.size,C⟩;have HR:=aj (λW(y:Below w w W)(C:af W w.heap.size (m.cells v) 29)=>el5 v.r m.racks 145 #[az w] (fJ (jI m) [] m.racks) W (A.rs.to qn.ab y (ar _) y.size) (XX func145 aI rfl)
  (λj x G F D hx z I _ V=>by rw[Q9 hx];exact em0 m v w x G (m.racks.take j) F D (ai C z) (A.to (y.t (z.mono y.size)) (ar _) (bC y.size z.size)) I V))
 have HM:=aj (λW(y:Below w w W)(C:af W w.heap.size (m.cells v) 29)=>el6 v.m m.machs 149 #[az w] (fJ (vY m) [] m.machs) W (A.ms.to v_.ab y (ar _) y.size) (XX func149 aI rfl)
  (λj x G F D hx z I _ V=>by rw[Q9 hx];exact fg7 m v w x G F (m.machs.take j) D (ai C z) (A.to (y.t (z.mono y.size)) (ar _) (bC y.size z.size)) I))
 have HL:=aj (λW(y:Below w w W)(C:af W w.heap.size (m.cells v) 29)=>el7 v.l m.links 152 #[az w] (fJ (jJ m) [] m.links) W (A.ls.to qp.ab y (ar _) y.size) (XX func152 aI rfl)
  (λj x G F D hx z I _ V=>by rw[Q9 hx];exact fg9 m v w x G (m.links.take j) F D (ai C z) (A.to (y.t (z.mono y.size)) (ar _) (bC y.size z.size)) I V))
 rw[<-xI,hr]at HR;rw[<-xI,hm]at HM;rw[<-xI,hl]at HL;have em:=aj λW=>M_ m.sites.length 4 W;have gT:=aj λW=>M_ m.machs.length 16 W;refine rF λqa=>?_;refine ay1 λHO=>?_;generalize fO m=r at HO;generalize aE (m.sites.length:Nat) 1 4=r1 at em HO;generalize aE (m.machs.length:Nat) 1 16=r2 at gT HO;generalize eD (jI m) [] m.racks=q1 at HR HO;generalize eD (vY m) [] m.machs=q2 at HM HO;generalize eD (jJ m) [] m.links=q3 at HL HO;have HN:=aj (show(w.alloc (Zq (m.cells v) 29)).heap[w.heap.size]?=XL (Zq (m.cells v) 29 (0,0))from cR w _);rw[X.o]at HR HM HL HN⊢
 unfold bH az at HR HM HL;clear A hs hf hr hm hl hi hu Y;cases r1 with
 |false=>exact ay2
 |true=>
  by_cases J:m.feeds.length<=16;rotate_left
  .have G1:=aj J;have k1:(16:Int)<(m.feeds.length:Nat):=by omega
   clear J;go_enter func53,ntmps53
   go_wp2_with(first
    |(go_at_call_of 143 (ah (m.sites.length:Nat));refine(em _).m ?_;rintro e w1 ⟨rfl,rfl⟩)
    |(go_at_call 143;refine(gT _).m ?_;rintro e w1 ⟨rfl,rfl⟩)
    |(go_at_call 144;refine(HR _ (ak (am w) _) HN).r λw1 aC=>?_;have bp:=aj (aq (ak (am w) _) aC);have jq:=aj (ai HN aC);have e3:aa w1 w 3 (Zk Ma m.machs.length mc):=ag jq rfl;have e4:aa w1 w 4 (Zk La m.links.length lc):=ag jq rfl;clear aC)
    |(go_at_call 148;refine(HM _ bp jq).r λw2 au=>?_;have aX:=aj (aq bp au);have mp:=aj (ai jq au);have e4:aa w2 w 4 (Zk La m.links.length lc):=ag mp rfl;clear au)
    |(go_at_call 151;refine(HL _ aX mp).r λw3 aM=>?_;have bE:=aj (aq aX aM);clear aM))
   go_ret;exact⟨by rw[HO.o];simp;(try have hq:=G1.o);(try omega),ak (am w) _⟩
  have G1:=aj J;have k1:¬(16:Int)<(m.feeds.length:Nat):=Zv;clear J;by_cases O:m.racks.length<=16;rotate_left
  .have G2:=aj O;have Z:(16:Int)<(m.racks.length:Nat):=by omega
   clear O;go_enter func53,ntmps53
   go_wp2_with(first
    |(go_at_call_of 143 (ah (m.sites.length:Nat));refine(em _).m ?_;rintro e w1 ⟨rfl,rfl⟩)
    |(go_at_call 143;refine(gT _).m ?_;rintro e w1 ⟨rfl,rfl⟩)
    |(go_at_call 144;refine(HR _ (ak (am w) _) HN).r λw1 aC=>?_;have bp:=aj (aq (ak (am w) _) aC);have jq:=aj (ai HN aC);have e3:aa w1 w 3 (Zk Ma m.machs.length mc):=ag jq rfl;have e4:aa w1 w 4 (Zk La m.links.length lc):=ag jq rfl;clear aC)
    |(go_at_call 148;refine(HM _ bp jq).r λw2 au=>?_;have aX:=aj (aq bp au);have mp:=aj (ai jq au);have e4:aa w2 w 4 (Zk La m.links.length lc):=ag mp rfl;clear au)
    |(go_at_call 151;refine(HL _ aX mp).r λw3 aM=>?_;have bE:=aj (aq aX aM);clear aM))
   go_ret;exact⟨by rw[HO.o];simp;(try have hq:=G2.o);(try omega),ak (am w) _⟩
  have G2:=aj O;have Z:¬(16:Int)<(m.racks.length:Nat):=Zv;clear O;cases r2 with
  |false=>exact ay2
  |true=>
   by_cases U:m.links.length<=12;rotate_left
   .have G4:=aj U;have k4:(12:Int)<(m.links.length:Nat):=by omega
    clear U;go_enter func53,ntmps53
    go_wp2_with(first
     |(go_at_call_of 143 (ah (m.sites.length:Nat));refine(em _).m ?_;rintro e w1 ⟨rfl,rfl⟩)
     |(go_at_call 143;refine(gT _).m ?_;rintro e w1 ⟨rfl,rfl⟩)
     |(go_at_call 144;refine(HR _ (ak (am w) _) HN).r λw1 aC=>?_;have bp:=aj (aq (ak (am w) _) aC);have jq:=aj (ai HN aC);have e3:aa w1 w 3 (Zk Ma m.machs.length mc):=ag jq rfl;have e4:aa w1 w 4 (Zk La m.links.length lc):=ag jq rfl;clear aC)
     |(go_at_call 148;refine(HM _ bp jq).r λw2 au=>?_;have aX:=aj (aq bp au);have mp:=aj (ai jq au);have e4:aa w2 w 4 (Zk La m.links.length lc):=ag mp rfl;clear au)
     |(go_at_call 151;refine(HL _ aX mp).r λw3 aM=>?_;have bE:=aj (aq aX aM);clear aM))
    go_ret;exact⟨by rw[HO.o];simp;(try have hq:=G4.o);(try omega),ak (am w) _⟩
   have G4:=aj U;have k4:¬(12:Int)<(m.links.length:Nat):=Zv;clear U;cases q1 with
   |false=>exact ZH
   |true=>
    cases q2 with
    |false=>exact ZH
    |true=>exact ZH
end
end Go.Proofs.YtihhpjmclebfpaaGreatDoor
