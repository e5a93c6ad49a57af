/- A part of the proof. -/
import Derived.Test.YtklfdkdebgfmiaaGreatDoorQbd
set_option linter.defProp false
set_option linter.unusedVariables false
set_option linter.unusedSimpArgs false
set_option maxRecDepth 100000
set_option maxHeartbeats 32000000
open Option renaming none->Wr,some->Ws
open Decidable renaming decide->Wt
open Go renaming World->Wu,Value->Wv,Calls->WJ,TypeId->WQ,maxLen->Xe,undef->XE,Oper->XH,execOp->XX,Ending->X0,Addr->X8
open Bool renaming false->Ww,true->Wz
open List renaming range->Xs
open Go.RowKit renaming Hid->WA
open Go.Lib renaming itoa->WB
open Go.Proofs renaming intOf->WS
open Go.Proofs.Tryz renaming prog->WH
open Go.Value renaming int->WK,string->WM,slice->Yb,bool->Yc,agg->Ye,pointer->Yf
open Go.World renaming setCell->XD,cell?->X3
open Go.IntKind renaming i64->Xr
open Go.Region renaming wanted->Xy,Mode->X6
open Go.Ending renaming returned->Xz
open Go.Obj renaming cells->Yd
open Go.Operand renaming tmp->Yg
namespace Go.Proofs.YtklfdkdebgfmiaaGreatDoor
section
open Go Go.RowKit Go.MapKept Go.ChangeMaps Go.Proofs.Tryz
def L_ (k:Int) (x:aP):Bool:=
 if k=5 then dT x.a 1 16&&Wt (x.ss.length<=20)&&sq x.ss else if k=15 then su x.ms else nG {x with kind:=k}
def ak6 {n:Int}:An n↔dT n 0 128=true:=by simp[An,dT]
def dp4 (v:Wv) (l:List Int) (w:Wu) (h:aW w w v l) (D:l.length<=1000000):
 WJ WH 178 #[v,.func (.func 81) #[] #[]] w λe w'=> ∃r,e=Xz (WK Xr r)/\Wt (0<=r)= !sq l/\Below w w w':=by
 obtain⟨A,n,c,rfl,hn,hc,hm⟩:=h.form;have HL:=aa hn;have H:=aa h;have G:=WD func81 aC rfl;have J:n<=1000000:=Yi;clear h hn D;go_enter func178,ntmps178;go_wp2_with fail
 go_loopw [8] (λi wr=> ∃k:Nat,k<=n/\i=WK Xr k/\Below w w wr/\∀j,j<k->An (cT l j)) (λi _=>n - (WS i).toNat)
 case atStart=>exact⟨0,bU _,rfl,af w,by omega⟩
 case round=>
  obtain⟨k,hk,rfl,hb,xZ⟩:=hrel;have z:=aa xZ;clear xZ;by_cases ar:k<n
  .obtain⟨b,o,rfl,CJ,bk⟩:=(H.out.below hb (ag _)).at_ k ar;have I:=bk k ar;clear bk;refine Pv λi3=> ?_;have g:=λW=>dq1 (cT l k) W;cases hg:dT (cT l k) 0 128 with
   |true=>
    rw[hg] at g;have y:=aa g;clear g;go_wp2_with(go_at_call 81;refine(y.out _).m ?_;rintro e F ⟨rfl,rfl⟩)
    exact⟨⟨k+1,by omega,by go_num,hb,λj C=>by
     by_cases e:j=k
     .subst e;exact ak6.2 hg
     .exact z.out j Yi⟩,by simp[WS];omega⟩
   |false=>
    rw[hg] at g;have y:=aa g;clear g;go_wp2_with(go_at_call 81;refine(y.out _).m ?_;rintro e F ⟨rfl,rfl⟩)
    go_ret;refine⟨_,rfl,?_,hb⟩;rw[ae0 (k:=k) we (λh=>by rw[ak6,hg] at h;cases h)];simp
  .go_wp2_with fail
   go_ret;refine⟨_,rfl,?_,hb⟩;rw[ad9 (λj C=>z.out j (by rw[HL.out] at C;omega))];rfl
def dx1 (v:Wv) (l:List Int) (w:Wu) (h:aW w w v l) (g:l.length<=1000000):
 aQ 82 #[v,.func (.func 81) #[] #[]] w (Yc (!sq l)):=by
 obtain⟨A,n,c,rfl,hn,hc,hm⟩:=h.form;have j:=aa (dp4 _ l w h g);clear h hn g;go_enter func82,ntmps82;go_wp2_with(go_at_call 178;refine j.out.m ?_;rintro e z ⟨r,rfl,y,ap⟩)
 exact yp
def ak7 (x:aP) (m s:Wv) (w:Wu):
 aQ 175 #[Ye (x.cells m s)] w (Yc Wz):=by
 rw[aP.cells_def];go_enter func175,ntmps175;go_wp2_with fail
 go_ret;exact⟨rfl,ae (af w) _⟩
def Ao (x:aP) (m s:Wv) (w:Wu) (g c:Nat) (p:Bool) (C: ∀args w,(callFunc g args).run WH w= .ok (.enter g args) w)
 (j: ∀W,WJ WH g #[x.a] W λe w'=>e=Xz (Yc p)/\w'=W) (D:w.cell? c=Ws (.func (.func g) #[] #[])) (z:c<w.heap.size):
 aQ 171 #[Ye (x.cells m s),Yf (Ws c)] w (Yc p):=by
 have y:=aa j;clear j;have A: ¬c=w.heap.size:=Yi;rw[aP.cells_def];go_enter func171,ntmps171;go_wp2_with(go_at_fn g;refine(y.out _).m ?_;rintro e F ⟨rfl,rfl⟩)
 go_ret;exact⟨rfl,ae (af w) _⟩
def dx2 (x:aP) (m s:Wv) (w:Wu):
 aQ 86 #[Ye (x.cells m s)] w (Yc (dT x.a 1 16&&dT x.b 0 1048576)):=by
 rw[aP.cells_def];go_enter func86,ntmps86
 go_wp2_with(first
  |(go_at_call 73;refine(yu x.a _).m ?_;rintro e c ⟨rfl,rfl⟩)
  |(go_at_call 76;refine(PG x.b _).m ?_;rintro e g ⟨rfl,rfl⟩)
)
 all_goals
  go_ret;refine⟨cE ?_,by first|exact hB|exact ae (af w) _⟩;simp_all
def dx3 (x:aP) (m s:Wv) (w:Wu):
 aQ 98 #[Ye (x.cells m s)] w (Yc (dT x.a 1 8&&dT x.b 1 8)):=by
 rw[aP.cells_def];go_enter func98,ntmps98
 go_wp2_with(first
  |(go_at_call 74;refine(LZ x.a _).m ?_;rintro e c ⟨rfl,rfl⟩)
  |(go_at_call 91;refine(Wh x.b _).m ?_;rintro e g ⟨rfl,rfl⟩)
)
 all_goals
  go_ret;refine⟨cE ?_,by first|exact hB|exact ae (af w) _⟩;simp_all[dT];try omega
def dx4 (x:aP) (m s:Wv) (w:Wu):
 aQ 104 #[Ye (x.cells m s)] w (Yc (dT x.a 1 16&&dT x.c 1 16&&dT x.b 0 8)):=by
 rw[aP.cells_def];go_enter func104,ntmps104
 go_wp2_with(first
  |(go_at_call_of 73 (WK Xr x.a);refine(yu x.a _).m ?_;rintro e c ⟨rfl,rfl⟩)
  |(go_at_call 91;refine(Wh x.b _).m ?_;rintro e g ⟨rfl,rfl⟩)
  |(go_at_call_of 73 (WK Xr x.c);refine(yu x.c _).m ?_;rintro e h ⟨rfl,rfl⟩)
)
 all_goals
  go_ret;refine⟨cE ?_,by first|exact hB|exact ae (af w) _⟩;simp_all
def dx5 (x:aP) (m s:Wv) (w:Wu):
 aQ 90 #[Ye (x.cells m s)] w (Yc (dT x.a 1 8&&dT x.b 0 8&&uU x)):=by
 rw[aP.cells_def];go_enter func90,ntmps90
 go_wp2_with(first
  |(go_at_call 74;refine(LZ x.a _).m ?_;rintro e h ⟨rfl,rfl⟩)
  |(go_at_call 91;refine(Wh x.b _).m ?_;rintro e j ⟨rfl,rfl⟩)
  |(go_at_call 92;refine(dp2 x _).m ?_;rintro e y ⟨rfl,c⟩;have g:=ai (ae (af w) _) c)
)
 all_goals
  go_ret;refine⟨cE ?_,by first|exact g|exact ae (af w) _⟩;simp_all
def dx6 (x:aP) (m s:Wv) (w:Wu) (c:aW w w s x.ss) (j:x.ss.length<=1000000):
 aQ 80 #[Ye (x.cells m s)] w (Yc (dT x.a 1 16&&Wt (x.ss.length<=20)&&sq x.ss)):=by
 obtain⟨As,ns,cs,rfl,lO,fW,fp⟩:=c.form;have g:=aa c;have y:=aa lO;have D:=aa j;clear c lO j;rw[aP.cells_def];go_enter func80,ntmps80
 go_wp2_with(first
  |(go_at_call 73;refine(yu x.a _).m ?_;rintro e G ⟨rfl,rfl⟩)
  |(go_at_call 82;go_loud (refine(dx1 _ x.ss _ ((g.out.below (ae (af w) _) (ag _)).more (Below.size (ae (af w) _))) (by have:=D.out;omega)).m ?_;rintro e I ⟨rfl,z⟩;have C:=ai (ae (af w) _) z))
)
 all_goals
  go_ret;refine⟨cE ?_,by first|exact C|exact ae (af w) _⟩;have F:=y.out;clear g;cases h1:dT x.a 1 16<;>by_cases A:x.ss.length<=20<;>first|(simp[A] at*;done)|(simp_all;done)|(exfalso;omega)
def IX (w:Wu) (u:Wv) (l:List ByteArray):Prop:=
 (u=Yb Wr 0 0/\l=[])\/∃b o c,u=Yb (Ws ⟨b,o,Wr⟩) l.length c/\∀(j:Nat) s,l[j]? =Ws s->w.cell? ⟨b,o+j,Wr⟩=Ws (WM s)
def bX.src {w:Wu} {base:Nat} {v:Wv} {l:List ByteArray} (h:bX w base v l):IX w v l:=by
 by_cases C:l=[]
 .subst C;rcases h.2 with ⟨y,_⟩|⟨g,cap,D,y,_⟩
  .exact .inl ⟨y,rfl⟩
  .exact .inr ⟨g,0,cap,y,λj s A=>by simp at A⟩
 .obtain⟨b,o,c,y,z⟩: ∃b o c,v= .slice (some ⟨b,o,none⟩) l.length c/\∀(j:Nat) u,(l.map Value.string)[j]? =some u->w.cell? ⟨b,o+j,none⟩=some u:=by
   rcases Sl.cases_ h.slS with ⟨F,_⟩|⟨_,b,o,c,y,_,_,_,z⟩
   .exact absurd (List.map_eq_nil_iff.1 F) C
   .exact⟨b,o,c,by simpa using y,z⟩
  exact .inr ⟨b,o,c,y,λj s A=>z j _ (by rw[WN,A];rfl)⟩
def cD.src {w:Wu} {B:Nat} {v:Wv} {l:List ByteArray} (h:cD w B v l) (z:l≠[]):IX w v l:=by
 rcases Sl.cases_ h with ⟨g,_⟩|⟨_,b,o,c,C,_,_,_,y⟩
 .exact absurd (List.map_eq_nil_iff.1 g) z
 .exact .inr ⟨b,o,c,by simpa using C,λj s A=>y j _ (by rw[WN,A];rfl)⟩
def dy3 (l:List ByteArray): ∀u∈l.map WM,u.oneCell'=true:=by intro u c;obtain⟨s,_,rfl⟩:=List.mem_map.1 c;rfl
def Wm {w:Wu} {o:XH} {a:Act} {K:Act->Wu->Prop} {Q:Exit->Act->Wu->Prop} (s x:Operand)
 (ho:o.op= .call {callee:= .builtin .append,args:= #[s,x],argTypes:= #[23,23]}) (base:Nat) (v u:Wv) (l g:List ByteArray)
 (hs:a.eval s=v) (hx:a.eval x=u) (bA:bX w base v l) (F:IX w u g) (I:l.length+g.length<=1000000) (G:base<=w.heap.size)
 (h: ∀v' w',bX w' base v' (l++g)->w.grownBy w' v.ownBlock->K (a.put o.dst v') w'):o.wp WH a w K Q:=by
 obtain⟨i0,hi,cJ,ba,bd⟩:=XU IT;rcases F with ⟨rfl,rfl⟩|⟨b,off,c,rfl,z⟩
 .have eG:=run_append_owned_none (P:=WH) (w:=w) base 23 o.type 9 i0 1 X9 hi v _ _ bA;exact al2
 .refine wp_append_own w s x 23 ho base 9 i0 _ 1 16 underlying23 hi cJ ba bd rfl (by decide) v l.length _ hs bA ⟨b,off,none⟩ g.length c (g.map Value.string) hx (by simp) (λj y A=> ?_) (dy3 g) (by simp[maxLen];omega) (by omega) G (λv' w' C D _=>h v' w' ?_ D)
  .rw[List.getElem?_map] at A;obtain⟨s',q',rfl⟩:=Option.map_eq_some_iff.1 A;have:=z j s' q';unfold Addr.add;split
   .rename_i e;have:j=0:=by simpa using e
    subst this;exact z 0 s' q'
   .exact this
  .show w'.ownsRow _ _ _ _ _ _;rw[WG,Xb];exact C
def Wn {w:Wu} {ops:Array XH} {rest:List XH} {o:XH} {a:Act} {Q:Exit->Act->Wu->Prop} (G:o.guard=Wr) (s x:Operand)
 (ho:o.op= .call {callee:= .builtin .append,args:= #[s,x],argTypes:= #[23,23]}) (base:Nat) (v u:Wv) (l c:List ByteArray)
 (C:a.eval s=v) (hx:a.eval x=u) (g:bX w base v l) (D:IX w u c) (j:l.length+c.length<=1000000) (F:base<=w.heap.size)
 (h: ∀v' w',bX w' base v' (l++c)->w.grownBy w' v.ownBlock->wpList WH ops Q rest (a.put o.dst v') w'):wpList WH ops Q (o::rest) a w:=
 wpList_plain G λ_ A=>Wm s x ho base v u l c C hx g D j F λv' w' y z=>A _ _ (h v' w' y z)
def BW {w:Wu} {ops:Array XH} {o:XH} {a:Act} {K:Act->Wu->Prop} {Q:Exit->Act->Wu->Prop} {E:Prop} (D:o.guard=Wr) (s x:Operand)
 (ho:o.op= .call {callee:= .builtin .append,args:= #[s,x],argTypes:= #[23,23]}) (base:Nat) (v u:Wv) (l c:List ByteArray)
 (y:a.eval s=v) (hx:a.eval x=u) (g:bX w base v l) (A:IX w u c) (j:l.length+c.length<=1000000) (C:base<=w.heap.size)
 (h: ∀v' w',bX w' base v' (l++c)->w.grownBy w' v.ownBlock->K (a.put o.dst v') w'):
 if Xy o (yielded ops a.tmps)=Wz then Oper.wp WH o a w K Q else E:=by
 have z:Xy o (yielded ops a.tmps)=true:=by simp[Xy,D]
 rw[if_pos z];exact Wm s x ho base v u l c y hx g A j C h
def fw (w:Wu) (l:List ByteArray) (e:X0) (w':Wu):Prop:= ∃u,e=Xz u/\bX w' w u l/\Below w w w'
def al3 (x:aP) (m s:Wv) (w:Wu):
 WJ WH 177 #[Ye (x.cells m s)] w (fw w []):=by
 rw[aP.cells_def];go_enter func177,ntmps177;go_wp2_with fail
 go_ret;exact⟨_,rfl,bX.nil_ _ _,ae (af w) _⟩
def uX {w:Wu} {a b:Nat} {v:Wv} {l:List ByteArray} (h:bX w a v l) (C:b<=a):bX w b v l:=by
 obtain⟨h1,y⟩:=h;refine⟨h1,?_⟩;rcases y with y|⟨g,cap,j,A,z,D⟩
 .exact .inl y
 .exact .inr ⟨g,cap,j,A,bo C z,D⟩
def Ar (x:aP) (m s:Wv) (w:Wu) (c:cH w) (j:aK x.a):
 WJ WH 173 #[Ye (x.cells m s)] w (fw w [pP x.a]):=by
 have g:=aa c;clear c;rw[aP.cells_def];go_enter func173,ntmps173;go_wp2_with(go_at_call 28;refine(BH _ [x.a] _ (g.out.step (ae (ae (af w) _) _)) (aW.of1 jJ Yl j) Yl).m ?_;rintro e y ⟨u,rfl,hu,ap⟩)
 exact Wo
def dy4 (x:aP) (m s:Wv) (w:Wu) (c:cH w) (j:aK x.a) (y:aK x.b):
 WJ WH 88 #[Ye (x.cells m s)] w (fw w [pP x.a,pP x.b]):=by
 have g:=aa c;clear c;rw[aP.cells_def];go_enter func88,ntmps88;go_wp2_with(go_at_call 28;refine(BH _ [x.a,x.b] _ (g.out.step (ae (ae (af w) _) _)) (aW.of2 jJ jJ Yl j y) Yl).m ?_;rintro e z ⟨u,rfl,hu,ap⟩)
 exact Wo
def aW.of3 {W:Wu} {h:Nat} {a b c:Int} (D:W.cell? h=Ws (WK Xr a)) (A:W.cell? (h 1 Wr)=Ws (WK Xr b)) (C:W.cell? (h 2 Wr)=Ws (WK Xr c)) (F:h<W.heap.size) (I:aK a) (J:aK b) (G:aK c):aW W W (Yb (Ws (h 0 Wr)) 3 3) [a,b,c]:=
 ⟨⟨_,3,rfl,by simp,by simp[maxLen],λ_=>⟨h,0,rfl,F,λj u g=>by
   rw[XP]
   match j,g with
   |0,g=>simp at g;subst g;exact D
   |1,g=>simp at g;subst g;exact A
   |2,g=>simp at g;subst g;exact C
   |j+3,g=>simp at g⟩⟩,by
   intro y z;simp at z;rcases z with rfl|rfl|rfl<;>assumption⟩
def dy5 (x:aP) (m s:Wv) (w:Wu) (c:cH w) (j:aK x.a) (y:aK x.b) (z:aK x.c):
 WJ WH 106 #[Ye (x.cells m s)] w (fw w [pP x.a,pP x.b,pP x.c]):=by
 have g:=aa c;clear c;rw[aP.cells_def];go_enter func106,ntmps106;go_wp2_with(go_at_call 28;refine(BH _ [x.a,x.b,x.c] _ (g.out.step (ae (ae (af w) _) _)) (aW.of3 jJ jJ jJ Yl j y z) Yl).m ?_;rintro e A ⟨u,rfl,hu,ap⟩)
 exact Wo
def dy6 (x:aP) (m s:Wv) (w:Wu) (c:cH w) (hm:aW w w m x.ms) (g:x.ms.length<=100000):
 WJ WH 110 #[Ye (x.cells m s)] w (fw w (x.ms.map pP)):=by
 obtain⟨Am,nm,cm,rfl,gV,iG,lM⟩:=hm.form;have j:=aa c;have z:=aa hm;have y:=aa g;clear c hm g gV;rw[aP.cells_def];go_enter func110,ntmps110;go_wp2_with(go_at_call 28;refine(BH _ x.ms _ (j.out.step (ae (af w) _)) ((z.out.below (ae (af w) _) (ag _)).more (Below.size (ae (af w) _))) y.out).m ?_;rintro e D ⟨u,rfl,C,A⟩)
 go_ret;exact⟨_,rfl,uX C Yl,ai (ae (af w) _) A⟩
def dy7 (x:aP) (m s:Wv) (w:Wu) (G:cH w) (ha:aK x.a) (y:aW w w s x.ss) (I:x.ss.length<=100000):
 WJ WH 84 #[Ye (x.cells m s)] w (fw w (pP x.a::x.ss.map pP)):=by
 obtain⟨As,ns,cs,rfl,lO,fW,fp⟩:=y.form;have A:=aa G;have O:=aa y;have C:=aa I;clear G y I lO;rw[aP.cells_def];go_enter func84,ntmps84;go_wp2_with fail
 go_region_held3 (λw'=>w'.cell? (w 1 Wr)=Ws (WK Xr x.a)/\w'.cell? (w 9 Wr)=Ws (Yb As ns cs)) (go_simp)
  (first
    |(go_at_call_of 28 (Value.slice As ns cs);refine(BH _ x.ss _ (A.out.step g) ((O.out.below g (ag _)).more (Below.size g)) C.out).m ?_;rintro e J ⟨u2,rfl,Z,c⟩;have D:=ai g c;have X:w.heap.size<J.heap.size:=jM c V;have z:=Y.below c;obtain⟨cR,cL⟩:=gw c)
    |(go_at_call 28;refine(BH _ [x.a] _ (A.out.step (aX (ae (ae (af w) _) _))) (aW.of1 jJ Yl ha) Yl).m ?_;rintro e w1 ⟨u1,rfl,Y,j⟩;have g:=ai (aX (ae (ae (af w) _) _)) j;have V:w.heap.size<w1.heap.size:=jM j bI;obtain⟨bt,cr⟩:=gw j)
    |(refine BW rfl (Yg 6) (Yg 9) rfl w.heap.size u1 u2 _ _ rfl rfl (uX z bI) (Z.src) (by have:=C.out;simp;omega) D.size ?_;intro v' w3 U F;have ik:=(uX z bI).grown D F;have xT: ∀o,w3.cell? (w o Wr)=J.cell? (w o Wr):=λo=>World.grownBy.cell_far F (w o Wr) X (λe=>by have:=(WL z _ e.symm).1;simp at this;omega)))
 go_wp2_with fail
 go_ret;exact⟨_,rfl,U,ik⟩
def dy8 (x:aP) (m s:Wv) (w:Wu) (I:cH w) (X:aK x.a) (Y:aK x.b) (hv:aK x.val):
 WJ WH 101 #[Ye (x.cells m s)] w (fw w [pP x.a,pP x.b,pP x.val]):=by
 have C:=aa I;have J:=aa (λW (Z:cH W)=>PW x.val hv W Z);clear I;rw[aP.cells_def];go_enter func101,ntmps101;go_wp2_with fail
 go_region_held3 (λw'=>w'.cell? (w 1 Wr)=Ws (WK Xr x.a)/\w'.cell? (w 2 Wr)=Ws (WK Xr x.b)/\w'.cell? (w 6 Wr)=Ws (WK Xr x.val)) (go_simp)
  (first
    |(go_at_call 102;refine(J.out _ (C.out.step F)).m ?_;rintro e z ⟨rfl,c⟩;have D:=ai F c;have bd:w.heap.size<z.heap.size:=jM c U;have A:=V.below c;obtain⟨cR,cL⟩:=gw c)
    |(go_at_call 28;refine(BH _ [x.a,x.b] _ (C.out.step (aX (ae (ae (af w) _) _))) (aW.of2 jJ jJ Yl X Y) Yl).m ?_;rintro e w1 ⟨u1,rfl,V,y⟩;have F:=ai (aX (ae (ae (af w) _) _)) y;have U:w.heap.size<w1.heap.size:=jM y bI;obtain⟨bt,cr⟩:=gw y)
    |(refine BW rfl (Yg 8) (Yg 13) rfl w.heap.size u1 _ _ [bs (WB x.val)] rfl rfl (uX (A.alloc _) bI) (.inr ⟨z.heap.size,0,1,rfl,λj s g=>by
       match j,g with
       |0,g=>simp at g;subst g;go_simp⟩) Yl (ae D _).size ?_;intro v' w3 O G;have ik:=bX.grown (uX (A.alloc _) bI) (ae D _) G;have xT: ∀o,w3.cell? (w o Wr)=z.cell? (w o Wr):=λo=>(World.grownBy.cell_far G (w o Wr) bI (λe=>by have:=(WL A _ e.symm).1;simp at this;omega)).trans jJ))
 go_wp2_with fail
 go_ret;exact⟨_,rfl,O,ik⟩
def dy9 (x:aP) (m s:Wv) (w:Wu) (O:cH w) (ha:aK x.a) (hb:aK x.b) (hv:aK x.val) (ho:aK x.old) (I:0<=x.ok) (J:x.ok<=3):
 WJ WH 95 #[Ye (x.cells m s)] w (fw w ([pP x.a,pP x.b]++wN x)):=by
 have z:=aa O;have y:=aa (λW (hg:cH W)=>dp3 x W hg I J hv ho);have C:wN x≠[]/\(wN x).length<=4:=by
  unfold wN;repeat' split
  all_goals simp
 have A:=aa C;simp only[Al] at y;clear O C I J;rw[aP.cells_def];go_enter func95,ntmps95;go_wp2_with fail
 go_region_held3 (λw'=>w'.cell? (w 1 Wr)=Ws (WK Xr x.a)/\w'.cell? (w 2 Wr)=Ws (WK Xr x.b)/\w'.cell? (w 4 Wr)=Ws (WK Xr x.ok)/\w'.cell? (w 5 Wr)=Ws (WM x.key)/\w'.cell? (w 6 Wr)=Ws (WK Xr x.val)/\w'.cell? (w 7 Wr)=Ws (WK Xr x.old)) (go_simp)
  (first
    |(go_at_call 96;refine(y.out _ (z.out.step F)).m ?_;rintro e U ⟨u2,rfl,dq,c⟩;have D:=ai F c;have Y:w.heap.size<U.heap.size:=jM c X;have j:=Z.below c;obtain⟨cR,cL⟩:=gw c)
    |(go_at_call 28;refine(BH _ [x.a,x.b] _ (z.out.step (aX (ae (ae (af w) _) _))) (aW.of2 jJ jJ Yl ha hb) Yl).m ?_;rintro e w1 ⟨u1,rfl,Z,g⟩;have F:=ai (aX (ae (ae (af w) _) _)) g;have X:w.heap.size<w1.heap.size:=jM g bI;obtain⟨bt,cr⟩:=gw g)
    |(refine BW rfl (Yg 8) (Yg 11) rfl w.heap.size u1 u2 _ (wN x) rfl rfl (uX j bI) (dq.src A.out.1) (by have:=A.out.2;simp;omega) D.size ?_;intro v' w3 V G;have ik:=(uX j bI).grown D G;have xT: ∀o,w3.cell? (w o Wr)=U.cell? (w o Wr):=λo=>World.grownBy.cell_far G (w o Wr) Y (λe=>by have:=(WL j _ e.symm).1;simp at this;omega)))
 go_wp2_with fail
 go_ret;exact⟨_,rfl,V,ik⟩
def j8 (B:Nat) (v:Wv):Prop:= ∀a n c,v=Yb (Ws a) n c->B<=a.block
def j8.nil (B:Nat):j8 B aN:=λa n c h=>by unfold aN at h;cases h
def j8.mk_ {B b n c:Nat} (h:B<=b):j8 B (Yb (Ws (b 0 Wr)) n c):=λa j g e=>by injection e with e;injection e with e;subst e;exact h
def lw (W:Wu) (pa:Nat) (r:Option aP) (e:X0) (w':Wu):Prop:=
 W.grownBy w' (Ws pa)/\e=Xz (Yc r.isSome)/\∀y,r=Ws y->∃m s,eY w' pa y m s/\aW w' w' m y.ms/\aW w' w' s y.ss/\j8 W.heap.size m/\j8 W.heap.size s
def gQ (l:List ByteArray) (j:Nat):Option (List Int):=if l.length=j then dU l else Wr
def IZ (w:Wu) (b:Nat) (t:WQ) (cs:Array Wv) (offs:List Nat) (l:List ByteArray) (e:X0) (w':Wu):Prop:=
 w.grownBy w' (Ws b)/\match gQ l offs.length with
  |some vs=>e=Xz (Yc Wz)/\w'.heap[b]? =Ws (Yd (rj cs offs vs) t (0,0))
  |none=>e=Xz (Yc Ww)/\∃cs',w'.heap[b]? =Ws (Yd cs' t (0,0))/\cs'.size=cs.size
def IZ.ret {w w':Wu} {b:Nat} {t:WQ} {c:Array Wv} {offs:List Nat} {l:List ByteArray} {e:X0} (h:IZ w b t c offs l e w'):e=Xz (Yc (gQ l offs.length).isSome):=by obtain⟨_,h⟩:=h;cases hq:gQ l offs.length<;>rw[hq] at h<;>exact h.1
def j8.less {B B':Nat} {v:Wv} (h:j8 B v) (g:B'<=B):j8 B' v:=λa n c e=>bo g (h a n c e)
def Aw {W y w':Wu} {b:Nat} (g:Below W W y) (j:y.grownBy w' (Ws b)):W.grownBy w' (Ws b):=
 ⟨j.os.trans g.os,j.tape.trans g.tape,j.output.trans g.output,bo g.size j.size,λi z A=>(j.block i (bq z g.size) A).trans (g.block i z)⟩
def lw.from_ {W g w':Wu} {j:Nat} {r:Option aP} {e:X0} (h:lw g j r e w') (c:Below W W g):lw W j r e w':=
 ⟨Aw c h.1,h.2.1,λy z=>by obtain⟨m,s,h1,h2,h3,h4,h5⟩:=h.2.2 y z;exact⟨m,s,h1,h2,h3,h4.less c.size,h5.less c.size⟩⟩
def aW.grown' {w w':Wu} {b n c z:Nat} {C:List Int} (h:aW w w (Yb (Ws (b 0 Wr)) n c) C) (y:w.grownBy w' (Ws z)) (D: ¬b=z):aW w' w' (Yb (Ws (b 0 Wr)) n c) C:=by obtain⟨⟨A,c',he,h1,h2,h3⟩,hI⟩:=h;injection he with F G I;subst F G I;refine⟨⟨_,_,rfl,h1,h2,λO=> ?_⟩,hI⟩;obtain⟨b',o',g,hb,hc⟩:=h3 O;injection g with g;injection g with J V;subst J V;exact⟨_,_,rfl,bq hb y.size,λj X U=>(World.grownBy.cell_far y ⟨_,_,Wr⟩ hb (λe=>D (by injection e))).trans (hc j X U)⟩
def Wq {W w w':Wu} {b:Nat} (h:W.grownBy w (Ws b)) (k:w.grownBy w' (Ws b)):W.grownBy w' (Ws b):=
 ⟨k.os.trans h.os,k.tape.trans h.tape,k.output.trans h.output,bo h.size k.size,λi j g=>(k.block i (bq j h.size) g).trans (h.block i j g)⟩
def al7 {W w:Wu} {b:Nat} (h:W.grownBy w (Ws b)):W.grownBy w.drew (Ws b):=⟨h.os,h.tape,h.output,h.size,h.block⟩
def W_ {w:Wu} {b j c o:Nat} {u:Wv} (aO: ¬b=c):(w.setCell (c o Wr) u).cell? (b j Wr)=w.cell? (b j Wr):=
 XN (Below.heap_setCell w (c o Wr) u b Oi)
def aW.set {w:Wu} {b n c y o:Nat} {u:Wv} {z:List Int} (h:aW w w (Yb (Ws (b 0 Wr)) n c) z) (C: ¬b=y):aW (w.setCell (y o Wr) u) (w.setCell (y o Wr) u).heap.size (Yb (Ws (b 0 Wr)) n c) z:=by obtain⟨⟨A,c',he,h1,h2,h3⟩,hI⟩:=h;injection he with D F G;subst D F G;refine⟨⟨_,_,rfl,h1,h2,λJ=> ?_⟩,hI⟩;obtain⟨b',o',g,hb,hc⟩:=h3 J;injection g with g;injection g with I U;subst I U;refine⟨_,_,rfl,by simpa[XD] using hb,λj V O=>(W_ C).trans (hc j V O)⟩
def dv4 (A B:Option X8) (n m c g:Nat) (h:n≠m) (w:Wu):
 WJ WH 53 #[Yb A n c,Yb B m g] w λe w'=>e=Xz (Yc Ww)/\w'=w:=by
 have j: ¬((n:Int)=m):=Yi;go_enter func53,ntmps53;exact Dj
def Fh (v:Wv) (l:List ByteArray) (offs:List Nat) (n g z b:Nat) (t:WQ) (y:Array Wv) (w:Wu) (O:cH w) (B:Nat) (ho:n=offs.length)
 (h:cD w B v l) (J:B<=b) (I:B<=w.heap.size) (F: ∀s∈l,s.size<=1000000) (U:l.length<=100000)
 (X: ∀j,j<offs.length->w.cell? (g j Wr)=Ws (Yf (Ws ⟨b,sw offs j,Wr⟩))) (Z:g≠b) (Y:g<w.heap.size) (G:8<=b)
 (D:w.heap[b]? =Ws (Yd y t (0,0))) (x_: ∀j,j<offs.length->sw offs j<y.size):
 WJ WH 53 #[v,Yb (Ws (g 0 Wr)) n z] w (IZ w b t y offs l):=by
 subst ho;by_cases C:l.length=offs.length
 .refine(ae7 v l offs g z b t y w O B h J I F C U X Z Y G D x_).mono λe w' V=> ?_;unfold IZ gQ;rw[if_pos C];exact V
 .obtain⟨A,n,c,rfl,iI,_,_⟩:=h.form;refine(dv4 A _ n offs.length c z Yi w).m ?_;rintro e w' ⟨rfl,rfl⟩;unfold IZ gQ;rw[if_neg C];exact⟨Ya _ _,rfl,y,D,rfl⟩
def mz (k:Int) (j:Nat) (l:List ByteArray):Option aP:=(gQ l j).map λvs=>{cj k with a:=cT vs 0,b:=cT vs 1,c:=cT vs 2}
def Fi {l:List ByteArray} {j:Nat} {c:List Int} (h:gQ l j=Ws c):c.length=j:=by
 unfold gQ at h;split at h
 .rename_i e;rw[De h,e]
 .cases h
def X_ {W w':Wu} {C:Nat} {k:Int} {l:List ByteArray} {offs:List Nat} {j:Nat} {e:X0} (A:offs=[1]/\j=1\/offs=[1,2]/\j=2\/offs=[1,2,3]/\j=3)
 (h:IZ W C 46 ((cj k).cells aN aN) offs l e w'):lw W C (mz k j l) e w':=by
 obtain⟨hg,h⟩:=h;have D:offs.length=j:=by rcases A with ⟨rfl,rfl⟩|⟨rfl,rfl⟩|⟨rfl,rfl⟩<;>rfl
 rw[D] at h;cases hq:gQ l j with
 |none=>
  rw[hq] at h;refine⟨hg,?_,?_⟩
  .rw[h.1];simp[mz,hq]
  .intro y g;simp[mz,hq] at g
 |some vs=>
  rw[hq] at h;have z:=Fi hq;refine⟨hg,?_,?_⟩
  .rw[h.1];simp[mz,hq]
  .intro y g;simp only[mz,hq,Option.map_some,Option.some.injEq] at g;subst g;refine⟨aN,aN,?_,aW.nil_ _ _,aW.nil_ _ _,j8.nil _,j8.nil _⟩;have F:=h.2;unfold eY;rw[F];rcases A with ⟨rfl,rfl⟩|⟨rfl,rfl⟩|⟨rfl,rfl⟩
   .match vs,z with
    |[a],_=>rfl
   .match vs,z with
    |[a,b],_=>rfl
   .match vs,z with
    |[a,b,c],_=>rfl
def Ax (k:Int) (v:Wv) (l:List ByteArray) (W:Wu) (g:Nat) (F:cH W) (y:eY W g (cj k) aN aN) (Y:8<=g) (h:cD W g v l) (C: ∀s∈l,s.size<=1000000) (G:l.length<=100000):
 WJ WH 172 #[aj g,v] W (lw W g (mz k 1 l)):=by
 obtain⟨A,n,c,rfl,hl,hc,hm⟩:=h.form;have D:=y.lt;have O:=aa F;have J:=aa y;have H:=aa h;have sZ:=aa C;have U:=aa G;have aO: ¬g=W.heap.size:=Yi;have X: ¬W.heap.size=g:=Yi;clear F y h C G;simp only[aj];go_enter func172,ntmps172
 go_wp2_with(go_at_call 53;refine(Fh _ l [1] 1 W.heap.size _ g 46 _ _ (O.out.step (ae (af W) _)) g rfl (Sl.below H.out ((ae (af W) _).mono (eJ D))) (ag _) bI sZ.out U.out (λj z=>by
  match j,z with
  |0,_=>go_simp;try rfl) X Yl Y (by exact((ae (af W) _).block _ D |>.trans J.out)) (λj z=>by
  match j,z with
  |0,_=>show _<10;decide)).m ?_;rintro e w1 I;have Z:=I.ret;subst Z)
 all_goals
  go_ret;have V:=X_ (offs:=[1]) (j:=1) Yl I;exact V.from_ (ae (af W) _)
def dv5 (k:Int) (v:Wv) (l:List ByteArray) (W:Wu) (g:Nat) (D:cH W) (y:eY W g (cj k) aN aN) (V:8<=g) (h:cD W g v l) (C: ∀s∈l,s.size<=1000000) (F:l.length<=100000):
 WJ WH 87 #[aj g,v] W (lw W g (mz k 2 l)):=by
 obtain⟨A,n,c,rfl,hl,hc,hm⟩:=h.form;have ar:=y.lt;have I:=aa D;have HB:=aa y;have H:=aa h;have Y:=aa C;have J:=aa F;have Z: ¬g=W.heap.size:=Yi;have U: ¬W.heap.size=g:=Yi;clear D y h C F;simp only[aj];go_enter func87,ntmps87;go_wp2_with fail
 go_region_with (go_at_call 53;refine(Fh _ l [1,2] 2 W.heap.size _ g 46 _ _ (I.out.step (aX (ae (af W) _))) g rfl (Sl.below H.out ((aX (ae (af W) _)).mono (eJ ar))) (ag _) bI Y.out J.out (λj z=>by
  match j,z with
  |0,_=>go_simp;try rfl
  |1,_=>go_simp;try rfl) U Yl V bz8 (λj z=>by
  match j,z with
  |0,_=>show _<10;decide
  |1,_=>show _<10;decide)).m ?_;rintro e w1 G;have X:=G.ret;subst X)
 all_goals (go_wp2_with fail)
 all_goals
  go_ret;have O:=X_ (offs:=[1,2]) (j:=2) Yl G;exact O.from_ (aX (ae (af W) _))
def dv6 (k:Int) (v:Wv) (l:List ByteArray) (W:Wu) (g:Nat) (D:cH W) (y:eY W g (cj k) aN aN) (V:8<=g) (h:cD W g v l) (C: ∀s∈l,s.size<=1000000) (F:l.length<=100000):
 WJ WH 105 #[aj g,v] W (lw W g (mz k 3 l)):=by
 obtain⟨A,n,c,rfl,hl,hc,hm⟩:=h.form;have ar:=y.lt;have I:=aa D;have HB:=aa y;have H:=aa h;have Y:=aa C;have J:=aa F;have Z: ¬g=W.heap.size:=Yi;have U: ¬W.heap.size=g:=Yi;clear D y h C F;simp only[aj];go_enter func105,ntmps105;go_wp2_with fail
 go_region_with (go_at_call 53;refine(Fh _ l [1,2,3] 3 W.heap.size _ g 46 _ _ (I.out.step (aX (ae (af W) _))) g rfl (Sl.below H.out ((aX (ae (af W) _)).mono (eJ ar))) (ag _) bI Y.out J.out (λj z=>by
  match j,z with
  |0,_=>go_simp;try rfl
  |1,_=>go_simp;try rfl
  |2,_=>go_simp;try rfl) U Yl V bz8 (λj z=>by
  match j,z with
  |0,_=>show _<10;decide
  |1,_=>show _<10;decide
  |2,_=>show _<10;decide)).m ?_;rintro e w1 G;have X:=G.ret;subst X)
 all_goals (go_wp2_with fail)
 all_goals
  go_ret;have O:=X_ (offs:=[1,2,3]) (j:=3) Yl G;exact O.from_ (aX (ae (af W) _))
def Dk (k:Int) (l:List ByteArray):Option aP:=if l.length=0 then Ws (cj k) else Wr
def al8 (k:Int) (v:Wv) (l:List ByteArray) (W:Wu) (j:Nat) (z:eY W j (cj k) aN aN) (h:cD W j v l):
 WJ WH 176 #[aj j,v] W (lw W j (Dk k l)):=by
 obtain⟨A,n,c,rfl,hl,hc,hm⟩:=h.form;have C:=aa z;clear z h;simp only[aj];go_enter func176,ntmps176;go_wp2_with fail
 go_ret;refine⟨Ya _ _,?_,λy g=> ?_⟩
 .unfold Dk;rw[hl];by_cases e:n=0
  .subst e;rfl
  .rw[if_neg e];refine cE ?_;simp;omega
 .unfold Dk at g;split at g
  .injection g with g;subst g;exact⟨aN,aN,C.out,aW.nil_ _ _,aW.nil_ _ _,j8.nil _,j8.nil _⟩
  .cases g
def dv7 (k:Int) (v:Wv) (l:List ByteArray) (W:Wu) (pa:Nat) (F:cH W) (C:eY W pa (cj k) aN aN) (h8:8<=pa) (h:cD W pa v l) (D: ∀s∈l,s.size<=1000000) (I:l.length<=100000):
 WJ WH 109 #[aj pa,v] W (lw W pa ((dU l).map λO=>{cj k with ms:=O})):=by
 have ar:=C.lt;have G:=IV v l W F (h.more (eJ ar)) D I;obtain⟨A,n,c,rfl,hl,hc,hm⟩:=h.form;have g:=aa G;have HB:=aa C;clear F C h D I G;simp only[aj];go_enter func109,ntmps109;cases hq:dU l with
 |none=>
  unfold Df at g;rw[hq] at g;go_wp2_with(first
  |(go_at_call 54;refine g.out.m ?_;rintro e w1 ⟨ap,rfl⟩;refine Dl λr1=> ?_;rw[nJ] at r1;have X:w1.cell? ⟨pa,8,none⟩=some (.slice none 0 0):=by simp[World.cell?,r1,aN]
    have Y:w1.frozen? (pa 8 Wr)=false:=by simp[World.frozen?,r1]))
  go_ret;exact⟨uW (Aw ap (Ya _ _)) _ _,rfl,λy j=>by simp at j⟩
 |some O=>
  unfold Df at g;rw[hq] at g;go_wp2_with(first
  |(go_at_call 54;refine g.out.m ?_;rintro e w1 ⟨ap,V,nu,cu,rfl,J,Z⟩;have z: ¬V=pa:=by omega
    have U:=aa J;clear J;refine Dl λr1=> ?_;rw[nJ] at r1;have X:w1.cell? (pa 8 Wr)=Ws (Yb Wr 0 0):=by simp[X3,r1,aN]
    have Y:w1.frozen? (pa 8 Wr)=false:=by simp[World.frozen?,r1]))
  go_ret;refine⟨uW (Aw ap (Ya _ _)) _ _,rfl,λy j=> ?_⟩;simp only[Option.map_some,Option.some.injEq] at j;subst j;exact⟨_,aN,(jN r1 _ _).trans rfl,aW.set U.out z,aW.nil_ _ _,j8.mk_ Z,j8.nil _⟩
def cD.drop {W:Wu} {B b o n c:Nat} {l:List ByteArray} (h:cD W B (Yb (Ws (b o Wr)) n c) l) (k:Nat) (I:k<=n):cD W B (Yb (Ws ⟨b,o+k,Wr⟩) (n - k) (c - k)) (l.drop k):=by
 obtain⟨A,c',he,h1,h2,h3⟩:=h;injection he with C D F;subst C D F;simp only[WF] at h1 I h3⊢
 refine⟨Ws ⟨b,o+k,Wr⟩,c - k,by simp,by simp;omega,by simp only[Xe] at*;omega,λJ=> ?_⟩;have z:l≠[]:=by intro e;subst e;simp at J
 obtain⟨b',o',g,hb,hc⟩:=h3 (by simpa using z);injection g with g;injection g with G O;subst G O;refine⟨_,_,rfl,hb,λj u y=> ?_⟩;rw[Nat.add_assoc];refine hc (k+j) u ?_;rw[List.map_drop,List.getElem?_drop] at y;exact y
def cD.take_ {W:Wu} {B b o n c:Nat} {l:List ByteArray} (h:cD W B (Yb (Ws (b o Wr)) n c) l) (k:Nat) (z:k<=n):cD W B (Yb (Ws (b o Wr)) k c) (l.take k):=by
 obtain⟨A,c',he,h1,h2,h3⟩:=h;injection he with D F G;subst D F G;simp only[WF] at h1 z h3⊢
 refine⟨Ws (b o Wr),c,by simp[z],by simp;omega,h2,λJ=> ?_⟩;have C:l≠[]:=by intro e;subst e;simp at J
 obtain⟨b',o',y,hb,hc⟩:=h3 (by simpa using C);injection y with y;injection y with I O;subst I O;refine⟨_,_,rfl,hb,λj u g=>hc j u ?_⟩;rw[List.map_take,List.getElem?_take] at g;split at g
 .exact g
 .cases g
def cD.none_ {W:Wu} {B c:Nat} {A:Option X8} (g:c<=Xe):cD W B (Yb A 0 c) []:=⟨A,c,rfl,by simp,g,λh=>absurd rfl h⟩
def qT (k:Int) (l:List ByteArray):Option aP:=
 if l.length=0 then Wr else(dU (l.drop 1)).bind λvs=>(bL (aJ l 0)).map λa=>{cj k with a:=a,ss:=vs}
def dv8 (k:Int) (v:Wv) (l:List ByteArray) (W:Wu) (g:Nat) (h:cD W g v l) (j:l.length=0):
 WJ WH 83 #[aj g,v] W (lw W g (qT k l)):=by
 obtain⟨A,n,c,rfl,hl,hc,hm⟩:=h.form;have z:qT k l=none:=by unfold qT;rw[if_pos j]
 rw[z];obtain rfl:n=0:=Yi;clear h;simp only[aj];go_enter func83,ntmps83;go_wp2_with fail
 go_ret;exact⟨Ya _ _,rfl,λy C=>by cases C⟩
def dv9 (k:Int) (v:Wv) (l:List ByteArray) (W:Wu) (pa:Nat) (C:cH W) (j:eY W pa (cj k) aN aN) (h8:8<=pa) (h:cD W pa v l) (z: ∀s∈l,s.size<=1000000) (G:l.length<=100000) (h0:0<l.length) (hq:dU (l.drop 1)=Wr):
 WJ WH 83 #[aj pa,v] W (lw W pa (qT k l)):=by
 have ar:=j.lt;have I:qT k l=none:=TD;rw[I];obtain⟨A,n,c,rfl,hl,hc,hm⟩:=h.form;obtain⟨bl,ol,rfl,ir,bk⟩:=h.at_ 0 Yi;have V: ∀s∈l.drop 1,s.size<=1000000:=λs J=>z s (XV J);have U:(l.drop 1).length<=100000:=bI;have g:=IV _ (l.drop 1) W C ((h.drop 1 Yi).more (eJ ar)) V U;have F:c=1->l.drop 1=[]:=λe=>by rw[List.drop_eq_nil_iff];omega
 unfold Df at g;rw[hq] at g;have D:=aa g;have HB:=aa j;have X: ¬c=1:=λe=>by rw[F e] at hq;cases hq
 have i1:(1:Int)<=n:=Yi;have g0: ¬((n:Int)=0):=Yi;have i2:(n:Int)<=c:=Yi;have n1:1<=n:=Yi;clear C j h z G g bk;simp only[aj];go_enter func83,ntmps83
 go_wp2_with(first
  |(go_at_call 54;refine D.out.m ?_;rintro e w1 ⟨ap,rfl⟩;refine Dl λr1=> ?_;rw[nJ] at r1;have Y:w1.cell? ⟨pa,9,none⟩=some (.slice none 0 0):=by simp[World.cell?,r1,aN]
    have Z:w1.frozen? (pa 9 Wr)=false:=by simp[World.frozen?,r1]))
 first|(go_region_with (first|fail))|fail
 all_goals go_wp2_with fail
 all_goals
  go_ret;exact⟨al7 (uW (Aw ap (Ya _ _)) _ _),rfl,λy O=>by cases O⟩
def al9 {l:List ByteArray} (h:0<l.length):l.take 1=[aJ l 0]:=by
 match l,h with
 |a::r,_=>rfl
def am0 (s:ByteArray):gQ [s] 1=(bL s).map λa=>[a]:=by
 have e:gQ [s] 1=dU [s]:=if_pos rfl;rw[e];cases hs:bL s with
 |none=>simp[dU,hs]
 |some u=>simp[dU,hs]
def dw0 (k:Int) (v:Wv) (l:List ByteArray) (W:Wu) (pa:Nat) (C:cH W) (D:eY W pa (cj k) aN aN) (h8:8<=pa) (h:cD W pa v l) (z: ∀s∈l,s.size<=1000000) (X:l.length<=100000) (G:0<l.length) (O:List Int) (hq:dU (l.drop 1)=Ws O) (F: ∀A n c,v=Yb A n c->¬c=1):
 WJ WH 83 #[aj pa,v] W (lw W pa (qT k l)):=by
 have ar:=D.lt;have Y:qT k l=(bL (aJ l 0)).map λa=>{cj k with a:=a,ss:=O}:=TD;rw[Y];obtain⟨A,n,c,rfl,hl,hc,hm⟩:=h.form;obtain⟨bl,ol,rfl,ir,bk⟩:=h.at_ 0 Yi;have J: ∀s∈l.drop 1,s.size<=1000000:=λs Z=>z s (XV Z);have I:(l.drop 1).length<=100000:=bI;have g:=IV _ (l.drop 1) W C ((h.drop 1 Yi).more (eJ ar)) J I;unfold Df at g;rw[hq] at g;have U:=aa g;have HB:=aa D;have V: ¬c=1:=F _ _ _ rfl;have HT:=aa (h.take_ 1 Yi);rw[al9 G] at HT;have HZ:=aa (z _ (BI G));have HG:=aa C;have i1:(1:Int)<=n:=Yi;have g0: ¬((n:Int)=0):=Yi;have i2:(n:Int)<=c:=Yi;have i3:(1:Int)<=c:=Yi;have n1:1<=n:=Yi;have n2:1<=c:=Yi;clear C D h z X g bk F J I;simp only[aj];go_enter func83,ntmps83
 go_wp2_with(first
  |(go_at_call 54;refine U.out.m ?_;rintro e w1 ⟨ap,bu,nu,cu,rfl,hu,wu⟩;refine Dl λr1=> ?_;rw[nJ] at r1;have d9:w1.cell? ⟨pa,9,none⟩=some (.slice none 0 0):=by simp[World.cell?,r1,aN]
    have f9:w1.frozen? (pa 9 Wr)=false:=by simp[World.frozen?,r1]))
 exact am1
def dw1 (k:Int) (v:Wv) (l:List ByteArray) (W:Wu) (pa:Nat) (C:cH W) (D:eY W pa (cj k) aN aN) (h8:8<=pa) (h:cD W pa v l) (z: ∀s∈l,s.size<=1000000) (X:l.length<=100000) (I:0<l.length) (U:List Int) (hq:dU (l.drop 1)=Ws U) (G: ∀A n c,v=Yb A n c->c=1):
 WJ WH 83 #[aj pa,v] W (lw W pa (qT k l)):=by
 have ar:=D.lt;have Y:qT k l=(bL (aJ l 0)).map λa=>{cj k with a:=a,ss:=U}:=TD;rw[Y];obtain⟨A,n,c,rfl,hl,hc,hm⟩:=h.form;obtain⟨bl,ol,rfl,ir,bk⟩:=h.at_ 0 Yi;have O: ∀s∈l.drop 1,s.size<=1000000:=λs Z=>z s (XV Z);have J:(l.drop 1).length<=100000:=bI;obtain rfl:c=1:=G _ _ _ rfl;obtain rfl:n=1:=Yi;have hd:l.drop 1=[]:=TH;have F:=λA=>IV (Yb A 0 0) (l.drop 1) W C Kh O J;have g:=λA=>(F A).mono λe w' h=>h;unfold Df at g;rw[hq] at g;clear F;have V:=aa g;have HB:=aa D;have HT:=aa (h.take_ 1 Yi);rw[al9 I] at HT;have HZ:=aa (z _ (BI I));have HG:=aa C;clear C D h z X g bk G O J;simp only[aj];go_enter func83,ntmps83
 go_wp2_with(first
  |(go_at_call 54;refine(V.out _).m ?_;rintro e w1 ⟨ap,bu,nu,cu,rfl,hu,wu⟩;refine Dl λr1=> ?_;rw[nJ] at r1;have d9:w1.cell? ⟨pa,9,none⟩=some (.slice none 0 0):=by simp[World.cell?,r1,aN]
    have f9:w1.frozen? (pa 9 Wr)=false:=by simp[World.frozen?,r1]))
 exact am1
def dw2 (k:Int) (v:Wv) (l:List ByteArray) (W:Wu) (g:Nat) (z:cH W) (C:eY W g (cj k) aN aN) (y:8<=g) (h:cD W g v l) (j: ∀s∈l,s.size<=1000000) (D:l.length<=100000):
 WJ WH 83 #[aj g,v] W (lw W g (qT k l)):=by
 by_cases I:l.length=0
 .exact dv8 k v l W g h I
 cases hq:dU (l.drop 1) with
 |none=>exact dv9 k v l W g z C y h j D Yi hq
 |some vs=>
  obtain⟨A,n,c,rfl,hl,hc,hm⟩:=h.form;by_cases O:c=1
  .exact dw1 k _ l W g z C y h j D Yi vs hq (λF J G e=>by injection e with _ _ e;omega)
  .exact dw0 k _ l W g z C y h j D Yi vs hq (λF J G e=>by injection e with _ _ e;omega)
end
section
open Go Go.RowKit Go.Proofs.Tryz
def tQ (k:Int) (l:List ByteArray):Option aP:=
 if l.length=3 then(gQ (l.take 2) 2).bind λvs=>(bL (aJ l 2)).map λu=>{cj k with a:=cT vs 0,b:=cT vs 1,val:=u} else Wr
def sB (l:List ByteArray):Option (Int×ByteArray×Int×Int):=if l.length<2 then Wr else wO l
def qV (k:Int) (l:List ByteArray):Option aP:=
 if l.length<2 then Wr else(sB (l.drop 2)).bind λq=>(gQ (l.take 2) 2).map λvs=>{cj k with a:=cT vs 0,b:=cT vs 1,ok:=q.1,key:=q.2.1,val:=q.2.2.1,old:=q.2.2.2}
def iB (k:Nat) (l:List ByteArray):Option aP:=
 if k=4\/k=16 then Dk k l
 else if k=5 then qT k l
 else if k=7 then mz k 2 l
 else if k=10 then qV k l
 else if k=12 then tQ k l
 else if k=14 then mz k 3 l
 else if k=15 then(dU l).map λvs=>{cj k with ms:=vs}
 else mz k 1 l
def qi (w:ByteArray):Option Nat:=(Xs 18).find? λk=>Wt (bs (dV k)=w)
def km (l:List ByteArray):Option aP:=
 match l with
 |[]=>Wr
 |w::r=>(qi w).bind λk=>(iB k r).bind λy=>if fE y then Ws y else Wr
end
section
open Go Go.RowKit Go.MapKept Go.ChangeMaps Go.Proofs.Tryz
structure kO where
 word:List UInt8
 kind:Int
 gu:Nat
 gf:Nat
 caps:Array Wv
 gr:Nat
 gt:Nat
def kO.val (x:kO):Value:=zW (bs x.word) x.kind (bm x.gu #[]) (bm x.gf x.caps) (bm x.gr #[]) (bm x.gt #[])
def kO.kv (x:kO):Wv×Value:=(WM (bs x.word),x.val)
def items (b:Nat->Nat):List kO:=[
 ⟨dV 0,0,170,171,#[aj (b 0)],172,173⟩,
 ⟨dV 1,1,170,171,#[aj (b 1)],172,173⟩,
 ⟨dV 2,2,170,171,#[aj (b 2)],172,173⟩,
 ⟨dV 3,3,170,171,#[aj (b 3)],172,173⟩,
 ⟨dV 6,6,170,171,#[aj (b 4)],172,173⟩,
 ⟨dV 13,13,170,171,#[aj (b 5)],172,173⟩,
 ⟨dV 4,4,174,175,#[],176,177⟩,
 ⟨dV 16,16,174,175,#[],176,177⟩,
 ⟨dV 8,8,170,171,#[aj (b 6)],172,173⟩,
 ⟨dV 9,9,170,171,#[aj (b 7)],172,173⟩,
 ⟨dV 11,11,170,171,#[aj (b 8)],172,173⟩,
 ⟨dV 17,17,170,171,#[aj (b 9)],172,173⟩,
 ⟨dV 5,5,79,80,#[],83,84⟩,
 ⟨dV 7,7,85,86,#[],87,88⟩,
 ⟨dV 10,10,89,90,#[],93,95⟩,
 ⟨dV 12,12,97,98,#[],99,101⟩,
 ⟨dV 14,14,103,104,#[],105,106⟩,
 ⟨dV 15,15,107,108,#[],109,110⟩]
def yC:List Nat:=[0,1,2,3,6,13,4,16,8,9,11,17,5,7,10,12,14,15]
def ao7 (b:Nat->Nat):(items b).map (·.word)=yC.map dV:=rfl
def eh9:(yC.map dV).Nodup:=az
def Mu (w:Wu) (r j:Nat) (x:kO):Prop:=
 w.cell? ⟨r,j*6,Wr⟩=Ws (WM (bs x.word))/\w.cell? ⟨r,j*6+1,Wr⟩=Ws (WK Xr x.kind)/\w.cell? ⟨r,j*6+2,Wr⟩=Ws (bm x.gu #[])/\w.cell? ⟨r,j*6+3,Wr⟩=Ws (bm x.gf x.caps)/\w.cell? ⟨r,j*6+4,Wr⟩=Ws (bm x.gr #[])/\w.cell? ⟨r,j*6+5,Wr⟩=Ws (bm x.gt #[])
def ee7:Nat->Nat
 |0=>76
 |1=>76
 |2=>76
 |3=>73
 |4=>73
 |5=>73
 |6=>72
 |7=>72
 |8=>74
 |9=>78
 |_=>0
def qn (w:Wu) (b:Nat->Nat):Prop:= ∀i,i<10->b i<w.heap.size/\w.cell? ⟨b i,0,Wr⟩=Ws (bm (ee7 i) #[])
def ee8 (w:Wu) (e:X0) (w':Wu):Prop:=
 ∃M b,e=Xz (.map (Ws M))/\fF w' M ((items b).map kO.kv)/\qn w' b/\(∀i,i<10->w.heap.size<b i)/\w.heap.size<=M/\Below w w w'
def Zr {P:Program} {c:Code} {Q:Exit->Act->Wu->Prop} {a:Act} {W:Wu} (F:Wu->Prop) (g:F W) (h: ∀W0,F W0->Code.wp P c Q a W0):Code.wp P c Q a W:=h W g
structure ao8 (w:Wu) (b:Nat->Nat) (r:Nat) (W:Wu):Prop where
 below:Below w w W
 map:fF W w []
 rows: ∀(j:Nat) x,(items b)[j]? =Ws x->Mu W r j x
 boxes:qn W b
 ne: ¬r=w.heap.size
 lt:r<W.heap.size
 fresh: ∀i,i<10->w.heap.size<b i
def P5 (b:Nat->Nat):(items b).length=18:=rfl
def ee9 {b:Nat->Nat} {k:Nat} {x:kO} (hx:(items b)[k]? =Ws x): ∀p∈((items b).take k).map kO.kv,IsKey .string p.1/\p.1≠ .string (bs x.word):=by
 intro p A;obtain⟨y,hy,rfl⟩:=List.mem_map.1 A;refine⟨trivial,λe=> ?_⟩;have h:bs y.word=bs x.word:=by injection e
 have z:y.word=x.word:=by rw[<-gI y.word,h,gI]
 obtain⟨j,hj⟩:=List.mem_iff_getElem?.1 hy;rw[List.getElem?_take] at hj;split at hj
 .rename_i C;have c:((items b).map (·.word))[j]? =some x.word:=by rw[List.getElem?_map,hj,<-z];rfl
  have g:((items b).map (·.word))[k]? =Ws x.word:=by rw[WN,hx];rfl
  rw[ao7] at c g;have:=(List.getElem?_inj (List.getElem?_eq_some_iff.1 c).1 eh9).1 (c.trans g.symm);omega
 .cases hj
def Mu.keep {w w':Wu} {r j:Nat} {x:kO} (h:Mu w r j x) (c: ∀o,w'.cell? (r o Wr)=w.cell? (r o Wr)):Mu w' r j x:=by
 unfold Mu at h⊢
 simp only[c];exact h
def FU (M:Nat) (W0 w:Wu):Prop:=W0.heap.size<=w.heap.size/\∀b o,b≠M->b<W0.heap.size->w.cell? ⟨b,o,Wr⟩=W0.cell? ⟨b,o,Wr⟩
def FU.refl (M:Nat) (W:Wu):FU M W W:=⟨ag _,λ_ _ _ _=>rfl⟩
def FU.put {M:Nat} {W0 w w':Wu} {o:Obj} (h:FU M W0 w) (j:jv (w.alloc o) w' M):FU M W0 w':=
 ⟨by rw[j.2.1];exact bo h.1 Yl,λb o' y g=>(j.cell y).trans ((X5 w _ _ (bq g h.1)).trans (h.2 b o' y g))⟩
def ao9 (w:Wu):
 WJ WH 33 #[] w (ee8 w):=by
 have S:=λword k g w=>eh8 word k g w;have S0:=λword k w=>eh7 word k w;simp only[zW,bm,aj] at S S0;have A:=aa S;have J3:=aa S0;clear S S0;refine tP λlM=> ?_;go_enter func33,ntmps33;go_wp2_with fail
 refine(A.out {data:= #[100,101,108,105,118,101,114]} 0 76 _).m ?_;rintro e w0 ⟨rfl,uD,nY,kW⟩;have jb:=ai (ae (af w) _) uD;go_wp2_with fail
 refine(A.out {data:= #[100,114,111,112]} 1 76 _).m ?_;rintro e w1 ⟨rfl,ap,fL,dt⟩;have c_:=ai jb ap;go_wp2_with fail
 refine(A.out {data:= #[100,111,117,98,108,101]} 2 76 _).m ?_;rintro e w2 ⟨rfl,am,cQ,di⟩;have aV:=ai c_ am;go_wp2_with fail
 refine(A.out {data:= #[116,105,99,107]} 3 73 _).m ?_;rintro e w3 ⟨rfl,aL,jT,Bp⟩;have ik:=ai aV aL;go_wp2_with fail
 refine(A.out {data:= #[114,101,115,116,97,114,116]} 6 73 _).m ?_;rintro e w4 ⟨rfl,aS,rd,EL⟩;have lE:=ai ik aS;go_wp2_with fail
 refine(A.out {data:= #[99,111,109,112,97,99,116]} 13 73 _).m ?_;rintro e w5 ⟨rfl,bp,nr,O3⟩;have lZ:=ai lE bp;go_wp2_with fail
 refine(J3.out {data:= #[115,108,111,116]} 4 _).m ?_;rintro e w6 ⟨rfl,bM⟩;have tk:=ai lZ bM;go_wp2_with fail
 refine(J3.out {data:= #[100,97,114,107]} 16 _).m ?_;rintro e w7 ⟨rfl,gB⟩;have Em:=ai tk gB;go_wp2_with fail
 refine(A.out {data:= #[105,115,111,108,97,116,101]} 8 72 _).m ?_;rintro e w8 ⟨rfl,eL,yk,O4⟩;have I:=ai Em eL;go_wp2_with fail
 refine(A.out {data:= #[106,111,105,110]} 9 72 _).m ?_;rintro e w9 ⟨rfl,fA,V,O5⟩;have J:=ai I fA;go_wp2_with fail
 refine(A.out {data:= #[114,101,116,114,121]} 11 74 _).m ?_;rintro e AA ⟨rfl,nO,O,O1⟩;have F:=ai J nO;go_wp2_with fail
 refine(A.out {data:= #[99,97,108,109]} 17 78 _).m ?_;rintro e z ⟨rfl,OL,U,O2⟩;have G:=ai F OL;go_wp2_with fail
 rw[show(w.alloc (Obj.map #[] 0)).heap.size=w.heap.size+1 by simp] at nY kW;have cJ:w.heap.size<w0.heap.size:=Yi;have ba:w.heap.size<w1.heap.size:=bq cJ ap.size;have bd:w.heap.size<w2.heap.size:=bq ba am.size;have jU:w.heap.size<w3.heap.size:=bq bd aL.size;have tC:w.heap.size<w4.heap.size:=bq jU aS.size;have wL:w.heap.size<w5.heap.size:=bq tC bp.size;have pp:w.heap.size<w6.heap.size:=bq wL bM.size;have Ie:w.heap.size<w7.heap.size:=bq pp gB.size;have If:w.heap.size<w8.heap.size:=bq Ie eL.size;have lR:w.heap.size<w9.heap.size:=bq If fA.size;have Id:w.heap.size<AA.heap.size:=bq lR nO.size;have gs3:w.heap.size<z.heap.size:=bq Id OL.size;have xL:=OL;have oF:=ai nO xL;have xN:=ai fA oF;have kS:=ai eL xN;have xM:=ai gB kS;have jm:=ai bM xM;have kD:=ai bp jm;have fj:=ai aS kD;have eT:=ai aL fj;have dK:=ai am eT;have D:=ai ap dK;refine Zr (ao8 w (λi=>match i with|0=>w.heap.size+1|1=>w0.heap.size|2=>w1.heap.size|3=>w2.heap.size|4=>w3.heap.size|5=>w4.heap.size|6=>w7.heap.size|7=>w8.heap.size|8=>w9.heap.size|9=>AA.heap.size|_=>w.heap.size+1) z.heap.size) ?_ ?_
 .refine⟨ae G _,?_,?_,?_,by omega,by simp,?_⟩
  .exact((fF.made w).later (ai uD D)).later (ae (af z) _)
  .intro j x y
   match j,y with
   |0,y=>injection y with y;subst y;refine⟨?_,?_,?_,?_,?_,?_⟩<;>(rw[Xa];rfl)
   |1,y=>injection y with y;subst y;refine⟨?_,?_,?_,?_,?_,?_⟩<;>(rw[Xa];rfl)
   |2,y=>injection y with y;subst y;refine⟨?_,?_,?_,?_,?_,?_⟩<;>(rw[Xa];rfl)
   |3,y=>injection y with y;subst y;refine⟨?_,?_,?_,?_,?_,?_⟩<;>(rw[Xa];rfl)
   |4,y=>injection y with y;subst y;refine⟨?_,?_,?_,?_,?_,?_⟩<;>(rw[Xa];rfl)
   |5,y=>injection y with y;subst y;refine⟨?_,?_,?_,?_,?_,?_⟩<;>(rw[Xa];rfl)
   |6,y=>injection y with y;subst y;refine⟨?_,?_,?_,?_,?_,?_⟩<;>(rw[Xa];rfl)
   |7,y=>injection y with y;subst y;refine⟨?_,?_,?_,?_,?_,?_⟩<;>(rw[Xa];rfl)
   |8,y=>injection y with y;subst y;refine⟨?_,?_,?_,?_,?_,?_⟩<;>(rw[Xa];rfl)
   |9,y=>injection y with y;subst y;refine⟨?_,?_,?_,?_,?_,?_⟩<;>(rw[Xa];rfl)
   |10,y=>injection y with y;subst y;refine⟨?_,?_,?_,?_,?_,?_⟩<;>(rw[Xa];rfl)
   |11,y=>injection y with y;subst y;refine⟨?_,?_,?_,?_,?_,?_⟩<;>(rw[Xa];rfl)
   |12,y=>injection y with y;subst y;refine⟨?_,?_,?_,?_,?_,?_⟩<;>(rw[Xa];rfl)
   |13,y=>injection y with y;subst y;refine⟨?_,?_,?_,?_,?_,?_⟩<;>(rw[Xa];rfl)
   |14,y=>injection y with y;subst y;refine⟨?_,?_,?_,?_,?_,?_⟩<;>(rw[Xa];rfl)
   |15,y=>injection y with y;subst y;refine⟨?_,?_,?_,?_,?_,?_⟩<;>(rw[Xa];rfl)
   |16,y=>injection y with y;subst y;refine⟨?_,?_,?_,?_,?_,?_⟩<;>(rw[Xa];rfl)
   |17,y=>injection y with y;subst y;refine⟨?_,?_,?_,?_,?_,?_⟩<;>(rw[Xa];rfl)
   |j+18,y=>simp[items] at y
  .intro i C
   match i,C with
   |0,_=>exact⟨bq (bq kW D.size) Yl,(X5 z _ _ (bq kW D.size)).trans ((D.cell kW).trans nY)⟩
   |1,_=>exact⟨bq (bq dt dK.size) Yl,(X5 z _ _ (bq dt dK.size)).trans ((dK.cell dt).trans fL)⟩
   |2,_=>exact⟨bq (bq di eT.size) Yl,(X5 z _ _ (bq di eT.size)).trans ((eT.cell di).trans cQ)⟩
   |3,_=>exact⟨bq (bq Bp fj.size) Yl,(X5 z _ _ (bq Bp fj.size)).trans ((fj.cell Bp).trans jT)⟩
   |4,_=>exact⟨bq (bq EL kD.size) Yl,(X5 z _ _ (bq EL kD.size)).trans ((kD.cell EL).trans rd)⟩
   |5,_=>exact⟨bq (bq O3 jm.size) Yl,(X5 z _ _ (bq O3 jm.size)).trans ((jm.cell O3).trans nr)⟩
   |6,_=>exact⟨bq (bq O4 xN.size) Yl,(X5 z _ _ (bq O4 xN.size)).trans ((xN.cell O4).trans yk)⟩
   |7,_=>exact⟨bq (bq O5 oF.size) Yl,(X5 z _ _ (bq O5 oF.size)).trans ((oF.cell O5).trans V)⟩
   |8,_=>exact⟨bq (bq O1 xL.size) Yl,(X5 z _ _ (bq O1 xL.size)).trans ((xL.cell O1).trans O)⟩
   |9,_=>exact⟨bq O2 Yl,(X5 z _ _ O2).trans U⟩
  .intro i C
   match i,C with
   |0,_=>exact(XQ _)
   |1,_=>exact cJ
   |2,_=>exact ba
   |3,_=>exact bd
   |4,_=>exact jU
   |5,_=>exact tC
   |6,_=>exact Ie
   |7,_=>exact If
   |8,_=>exact lR
   |9,_=>exact Id
 intro W0 K9;clear lM;clear nY kW fL dt cQ di jT Bp rd EL nr O3 yk O4 V O5 O O1 U O2 uD jb ap c_ am aV aL ik aS lE bp lZ bM tk gB Em eL I fA J nO F OL G D dK eT fj kD jm xM kS xN oF xL cJ ba bd jU tC wL pp Ie If lR Id gs3;suffices h: ∀(b:Nat->Nat) (r:Nat) (_:ao8 w b r W0) (v1 v5 v6 v7 v8 v9 iK qz rF qA X Y Z ct8 ct9 cu0 cu1 cu2 v22 cu3 cu4 v25:Wv),Code.wp _ _ _ (Act.mk (List.toArray ((.map Wr)::v1::(.map (Ws w.heap.size))::XE::XE::v5::v6::v7::v8::v9::iK::qz::rF::qA::X::Y::Z::ct8::ct9::cu0::cu1::cu2::v22::cu3::cu4::v25::(Yb (Ws (r 0 Wr)) 18 18)::(WK Xr 18)::(WK Xr 0)::XE::XE::XE::XE::XE::XE::XE::XE::XE::[])) []) W0 from h _ _ K9 _ _ _ _ _ _ _ _ _ _ _ _ _ _ _ _ _ _ _ _ _ _
 clear K9;intro b r hW v1 v5 v6 v7 v8 v9 iK qz rF qA X Y Z ct8 ct9 cu0 cu1 cu2 v22 cu3 cu4 v25;have H:=aa hW;clear hW A J3;go_loopw [28] (λi wr=> ∃k:Nat,k<=18/\i=WK Xr k/\fF wr w (((items b).take k).map kO.kv)/\Below w w wr/\FU w.heap.size W0 wr) (λi _=>18 - (WS i).toNat)
 case atStart=>exact⟨0,bU _,rfl,H.out.map,H.out.below,FU.refl _ _⟩
 case round=>
  obtain⟨k,hk,rfl,cm6,hb,cm0⟩:=hrel;have HM:=aa cm6;have HK:=aa cm0;clear cm6 cm0;by_cases ar:k<18
  .obtain⟨x,hx⟩: ∃x,(items b)[k]? =some x:=⟨_,List.getElem?_eq_getElem (by rw[P5];exact ar)⟩;have HX:=aa hx;have dE:=(H.out.rows k x hx).keep λo=>HK.out.2 r o H.out.ne H.out.lt;have Vk:=aa (ee9 hx);obtain⟨c0,c1,c2,c3,c4,c5⟩:=dE;unfold bm at c2 c3 c4 c5;have i1:(0:Int)<=(k:Int):=by omega
   have i2:(k:Int)<18:=Yi;refine Pv λi3=> ?_;clear hx
   go_wp2_with(first
    |(refine wV _ rfl (Yg 32) (Yg 34) (Yg 35) 86 (.inl rfl) 9 84 _ underlying86 Xw w.heap.size _ rfl (HM.out.later (ae (af _) _)) (WM (bs x.word)) x.val rfl rfl uY Vk.out ?_;intro w' hL hT))
   refine⟨⟨k+1,by omega,by go_num,?_,hT.1 w.heap.size w (ae hb _) (ag _),HK.out.put hT⟩,by simp[WS];omega⟩;rw[XJ,HX.out,Xb];exact hL
  .go_wp2_with fail
   go_ret;obtain rfl:k=18:=Yi;refine⟨w.heap.size,b,rfl,?_,?_,H.out.fresh,ag _,hb⟩
   .have h:=HM.out
    rwa [WY (by rw[P5];exact ag _)] at h
   .intro i C;obtain⟨h1,h2⟩:=H.out.boxes i C;exact⟨bq h1 HK.out.1,(HK.out.2 _ _ (Nat.ne_of_gt (H.out.fresh i C)) h1).trans h2⟩
def ef0 {W w:Wu} {b:Nat} (h:W.grownBy w (Ws b)) (q:Nat):W.grownBy (w.drewN q) (Ws b):=⟨h.os,h.tape,h.output,h.size,h.block⟩
section
variable {P:Program} {ops:Array XH} {Q:Exit->Act->Wu->Prop} {md:X6}
end
def ef1 (k:Int) (v:Wv) (l:List ByteArray) (W:Wu) (g:Nat) (h:cD W g v l) (z:l.length≠3):
 WJ WH 99 #[aj g,v] W (lw W g (tQ k l)):=by
 have j:tQ k l=none:=by unfold tQ;rw[if_neg z]
 rw[j];obtain⟨A,n,c,rfl,hl,hc,hm⟩:=h.form;have D:((n:Int)==3)=false:=bI;have F:Wt ((n:Int)=3)=false:=bI;clear h j;simp only[aj];go_enter func99,ntmps99;go_wp2_with fail
 go_quiet (fail)
 all_goals go_wp2_with fail
 all_goals
  go_ret;exact⟨ef0 (Ya _ _) _,rfl,λy C=>by cases C⟩
def ef2 (k:Int) (v:Wv) (l:List ByteArray) (W:Wu) (pa:Nat) (hG:cH W) (z:eY W pa (cj k) aN aN) (O:8<=pa) (h:cD W pa v l) (a_: ∀s∈l,s.size<=1000000) (J:l.length=3) (hq:gQ (l.take 2) 2=Wr):
 WJ WH 99 #[aj pa,v] W (lw W pa (tQ k l)):=by
 have ar:=z.lt;have G:tQ k l=none:=by unfold tQ;rw[if_pos J,hq];rfl
 rw[G];obtain⟨A,n,c,rfl,hl,hc,hm⟩:=h.form;obtain rfl:n=3:=Yi;obtain⟨bl,ol,rfl,ir,bk⟩:=h.at_ 0 Yi;have hcell2:=bk 2 Yi;have I:=aa z;have X:=aa hcell2;refine ap0 λHT HS HZ HQ sT G9 Hf aO gU i2 n2=> ?_;clear hG z h a_ bk hcell2 hq G;simp only[aj];go_enter func99,ntmps99;go_wp2_with fail
 refine pD 26 ?_;iterate 12 refine ja 26 5 ?_
 refine fi 12 λK g=> ?_;go_simp;refine g _ _ ?_;clear g K;refine aG ?_;refine fi 13 λK g=> ?_;go_simp;refine(Fh _ (l.take 2) [1,2] 2 W.heap.size _ pa 46 _ _ G9 pa rfl (Sl.below HT.out Hf) (ag _) bI HS.out sT.out (λj C=>by
  match j,C with
  |0,_=>go_simp;try rfl
  |1,_=>go_simp;try rfl) gU Yl O (((aX (ae (af W) _)).block _ ar).trans I.out) (λj C=>by
  match j,C with
  |0,_=>show _<10;decide
  |1,_=>show _<10;decide)).mono ?_
 rintro e Y D;have F:=D.ret;rw[show gQ (l.take 2) [1,2].length=_ from HQ.out] at F;subst F;have V:=D.2;rw[show gQ (l.take 2) [1,2].length=_ from HQ.out] at V;go_simp;refine g _ _ ?_;clear g K;refine aG ?_;iterate 2 refine ja 26 5 ?_
 iterate 8 refine E7 26 5 ?_
 refine lW 24 29 ?_;refine lW 25 4 ?_;refine wh ?_;go_wp2_with fail
 go_ret;exact⟨Aw (aX (ae (af W) _)) D.1,rfl,λy U=>by cases U⟩
def ef3 (k:Int) (v:Wv) (l:List ByteArray) (W:Wu) (pa:Nat) (hG:cH W) (F:eY W pa (cj k) aN aN) (D:8<=pa) (h:cD W pa v l) (a_: ∀s∈l,s.size<=1000000) (h3:l.length=3) (C:List Int) (hq:gQ (l.take 2) 2=Ws C):
 WJ WH 99 #[aj pa,v] W (lw W pa (tQ k l)):=by
 have ar:=F.lt;have J:tQ k l=(bL (aJ l 2)).map λu=>{cj k with a:=cT C 0,b:=cT C 1,val:=u}:=by unfold tQ;rw[if_pos h3,hq];rfl
 rw[J];obtain⟨A,n,c,rfl,hl,hc,hm⟩:=h.form;obtain rfl:n=3:=Yi;obtain⟨bl,ol,rfl,ir,bk⟩:=h.at_ 0 Yi;have hcell2:=bk 2 Yi;have V:=aa F;have X:=aa hcell2;refine ap0 λHT HS HZ HQ sT G9 Hf aO gU i2 n2=> ?_;clear hG F h a_ bk hcell2 hq J;simp only[aj];go_enter func99,ntmps99;go_wp2_with fail
 refine pD 26 ?_;iterate 12 refine ja 26 5 ?_
 refine fi 12 λK g=> ?_;go_simp;refine g _ _ ?_;clear g K;refine aG ?_;refine fi 13 λK g=> ?_;go_simp;refine(Fh _ (l.take 2) [1,2] 2 W.heap.size _ pa 46 _ _ G9 pa rfl (Sl.below HT.out Hf) (ag _) bI HS.out sT.out (λj G=>by
  match j,G with
  |0,_=>go_simp;try rfl
  |1,_=>go_simp;try rfl) gU Yl D (((aX (ae (af W) _)).block _ ar).trans V.out) (λj G=>by
  match j,G with
  |0,_=>show _<10;decide
  |1,_=>show _<10;decide)).mono ?_
 rintro e U z;have I:=z.ret;rw[show gQ (l.take 2) [1,2].length=_ from HQ.out] at I;subst I;have O:=z.2;rw[show gQ (l.take 2) [1,2].length=_ from HQ.out] at O;have rX:=O.2;have e2:U.cell? (bl (ol+2) Wr)=Ws (WM (aJ l 2)):=(World.grownBy.cell_far z.1 (bl (ol+2) Wr) bI (λe=>absurd (show bl=pa by injection e) Yi)).trans ((Hf.cell (p:=bl (ol+2) Wr) ir).trans X.out);go_simp;refine g _ _ ?_;clear g K;refine aG ?_;iterate 4 refine ja 26 5 ?_
 iterate 4 refine ja 27 5 ?_
 refine fi 18 λK g=> ?_;go_simp;refine g _ _ ?_;clear g K;refine aG ?_;refine fi 23 λK g=> ?_;go_simp;refine(Pu (aJ l 2) pa 6 46 _ U (G9.grown z.1 D) HZ.out D rX (by rw[L4];show 6<10;decide)).m ?_;rintro e w2 ⟨oH,u,Y,rfl,Z⟩;go_simp;refine g _ _ ?_;clear g K;refine aG ?_;refine lW 24 29 ?_;refine lW 25 4 ?_;refine wh ?_;go_wp2_with fail
 go_ret;have gT:=Aw (aX (ae (af W) _)) z.1;refine⟨Wq gT oH,?_,λy hy=> ?_⟩
 .show Xz (Yc (bL (aJ l 2)).isSome)=_;rw[Option.isSome_map]
 .obtain⟨a,ha,rfl⟩:=Option.map_eq_some_iff.1 hy;have:=Z _ ha;subst this;have nq:=Fi HQ.out
  match C,nq with
  |[p,q],_=>exact⟨aN,aN,Y.trans rfl,aW.nil_ _ _,aW.nil_ _ _,j8.nil _,j8.nil _⟩
def ef4 (k:Int) (v:Wv) (l:List ByteArray) (W:Wu) (c:Nat) (z:cH W) (A:eY W c (cj k) aN aN) (y:8<=c) (h:cD W c v l) (j: ∀s∈l,s.size<=1000000):
 WJ WH 99 #[aj c,v] W (lw W c (tQ k l)):=by
 by_cases g:l.length=3
 .cases hq:gQ (l.take 2) 2 with
  |none=>exact ef2 k v l W c z A y h j g hq
  |some vs=>exact ef3 k v l W c z A y h j g vs hq
 .exact ef1 k v l W c h g
def ef5 {W w:Wu} {b:Nat} (h:W.grownBy w (Ws b)) (o:Obj):W.grownBy (w.alloc o) (Ws b):=
 ⟨h.os,h.tape,h.output,bo h.size Yl,λi g j=>(Below.heap_alloc w o i (bq g h.size)).trans (h.block i g j)⟩
def ef6 (k:Int) (v:Wv) (l:List ByteArray) (W:Wu) (g:Nat) (h:cD W g v l) (z:l.length<2):
 WJ WH 93 #[aj g,v] W (lw W g (qV k l)):=by
 have j:qV k l=none:=by unfold qV;rw[if_pos z]
 rw[j];obtain⟨A,n,c,rfl,hl,hc,hm⟩:=h.form;have D:((n:Int)<2):=Yi;clear h j;simp only[aj];go_enter func93,ntmps93;go_wp2_with fail
 go_ret;exact⟨Ya _ _,rfl,λy C=>by cases C⟩
def eo0 (k:Int) (v:Wv) (l:List ByteArray) (W:Wu) (pa:Nat) (hG:cH W) (hb:eY W pa (cj k) aN aN) (F:8<=pa) (h:cD W pa v l) (a_: ∀s∈l,s.size<=1000000) (z:l.length<=100000) (D:2<=l.length) (hq:sB (l.drop 2)=Wr) (cR: ∀A n c,v=Yb A n c->¬c=2):
 WJ WH 93 #[aj pa,v] W (lw W pa (qV k l)):=by
 have ar:=hb.lt;have g:qV k l=none:=TE;rw[g];obtain⟨A,n,c,rfl,hl,hc,hm⟩:=h.form;obtain⟨bl,ol,rfl,ir,bk⟩:=h.at_ 0 Yi;refine ap1 λqa UC i1 g0 i2 i3 n1 n2 L0 eq=> ?_;rw[eq,hq] at L0;unfold sA at L0;refine Zs λHL HB HT HS sT HG=> ?_;clear hG hb h a_ z L0 bk cR qa hq g eq hl;simp only[aj];go_enter func93,ntmps93
 go_wp2_with(first
  |(go_at_call 94;refine(HL.out).m ?_;rintro e w1 ⟨ap,r,rfl,j⟩;obtain⟨p0,p1,p2,p3⟩:=r;unfold pJ;have C:=aa j;clear j;refine Dl λr1=> ?_;rw[nJ] at r1;refine Zt λd4 f4 d5 f5 d6 f6 d7 f7 EM aO gU R1=> ?_;clear r1))
 exact ap2
def eo1 (k:Int) (v:Wv) (l:List ByteArray) (W:Wu) (pa:Nat) (hG:cH W) (hb:eY W pa (cj k) aN aN) (J:8<=pa) (h:cD W pa v l) (a_: ∀s∈l,s.size<=1000000) (F:l.length<=100000) (I:2<=l.length) (hq:sB (l.drop 2)=Wr) (g: ∀A n c,v=Yb A n c->c=2):
 WJ WH 93 #[aj pa,v] W (lw W pa (qV k l)):=by
 have ar:=hb.lt;have z:qV k l=none:=TE;rw[z];obtain⟨A,n,c,rfl,hl,hc,hm⟩:=h.form;obtain⟨bl,ol,rfl,ir,bk⟩:=h.at_ 0 Yi;have D: ∀s∈l.drop 2,s.size<=1000000:=λs hs=>a_ s (XV hs);obtain rfl:c=2:=g _ _ _ rfl;obtain rfl:n=2:=Yi;have hd:l.drop 2=[]:=TH;have L0:=λA=>al6 (Yb A 0 0) (l.drop 2) W hG Kh D;have j:(if(l.drop 2).length<2 then Wr else wO (l.drop 2))=sB (l.drop 2):=rfl;rw[j,hq] at L0;unfold sA at L0;refine Zs λHL HB HT HS sT HG=> ?_;clear hG hb h a_ F L0 bk g D hq z j hl;simp only[aj];go_enter func93,ntmps93
 go_wp2_with(first
  |(go_at_call 94;refine(HL.out _).m ?_;rintro e w1 ⟨ap,r,rfl,C⟩;obtain⟨p0,p1,p2,p3⟩:=r;unfold pJ;have G:=aa C;clear C;refine Dl λr1=> ?_;rw[nJ] at r1;refine Zt λd4 f4 d5 f5 d6 f6 d7 f7 EM aO gU R1=> ?_;clear r1))
 exact ap2
def eo2 (k:Int) (v:Wv) (l:List ByteArray) (W:Wu) (pa:Nat) (hG:cH W) (hb:eY W pa (cj k) aN aN) (I:8<=pa) (h:cD W pa v l) (a_: ∀s∈l,s.size<=1000000) (hn:l.length<=100000) (h2:2<=l.length) (q:Int×ByteArray×Int×Int) (hq:sB (l.drop 2)=Ws q) (cR: ∀A n c,v=Yb A n c->¬c=2):
 WJ WH 93 #[aj pa,v] W (lw W pa (qV k l)):=by
 have ar:=hb.lt;have J:qV k l=(gQ (l.take 2) 2).map λz=>{cj k with a:=cT z 0,b:=cT z 1,ok:=q.1,key:=q.2.1,val:=q.2.2.1,old:=q.2.2.2}:=TE;rw[J];obtain⟨A,n,c,rfl,hl,hc,hm⟩:=h.form;obtain⟨bl,ol,rfl,ir,bk⟩:=h.at_ 0 Yi;refine ap1 λqa UC i1 g0 i2 i3 n1 n2 L0 eq=> ?_;rw[eq,hq] at L0;unfold sA at L0;refine Zs λHL HB HT HS sT HG=> ?_;clear hG hb h a_ hn L0 bk cR qa hq J eq hl;simp only[aj];go_enter func93,ntmps93
 go_wp2_with(first
  |(go_at_call 94;refine(HL.out).m ?_;rintro e w1 ⟨ap,r,rfl,U⟩;obtain⟨p0,p1,p2,p3⟩:=r;unfold pJ;have V:=aa U;clear U;refine Dl λr1=> ?_;rw[nJ] at r1;refine Zt λd4 f4 d5 f5 d6 f6 d7 f7 EM aO gU R1=> ?_;clear r1))
 refine ap3 λtu gL r2 gP=> ?_;generalize oK:((((((w1.setCell (pa 4 Wr) (WK Xr p0)).setCell (pa 5 Wr) (WM p1)).setCell (pa 6 Wr) (WK Xr p2)).setCell (pa 7 Wr) (WK Xr p3))).alloc (Yd #[p0,p1,p2,p3] 44))=w2 at gL r2 gP⊢
 have G:pa<w2.heap.size:=bq ar gL.size;clear oK tu d4 f4 d5 f5 d6 f6 d7 f7 aO gU EM ap R1;have X:=aa r2;clear r2;have aO: ¬pa=w2.heap.size:=Yi;have gU: ¬w2.heap.size=pa:=Yi;have Y:cH (w2.alloc (Yd #[Yf (Ws (pa 1 Wr)),Yf (Ws (pa 2 Wr))] 126)).drew:=(HG.out.grown gL I).step (aX (ae (af w2) _));have C:Below pa W (w2.alloc (Yd #[Yf (Ws (pa 1 Wr)),Yf (Ws (pa 2 Wr))] 126)).drew:=L' (gP.alloc (eJ G) _);refine pD 14 ?_;iterate 10 refine ja 14 20 ?_
 refine fi 10 λK g=> ?_;go_simp;refine g _ _ ?_;clear g K;refine aG ?_;refine fi 11 λK g=> ?_;go_simp;refine(Fh _ (l.take 2) [1,2] 2 w2.heap.size _ pa 46 _ _ Y pa rfl (Sl.below HT.out C) (ag _) bI HS.out sT.out (λj D=>by
  match j,D with
  |0,_=>go_simp;try rfl
  |1,_=>go_simp;try rfl) gU Yl I (((aX (ae (af w2) _)).block _ G).trans X.out) (λj D=>by
  match j,D with
  |0,_=>show _<10;decide
  |1,_=>show _<10;decide)).mono ?_
 rintro e w3 F;have he:=F.ret;subst he;go_simp;refine g _ _ ?_;clear g K;refine aG ?_;refine lW 12 32 ?_;refine lW 13 4 ?_;refine wh ?_;go_wp2_with fail
 go_ret;have gT:=Aw (aX (ae (af w2) _)) F.1;have O:=F.2;refine⟨Wq gL gT,?_,λy hy=> ?_⟩
 .show Xz (Yc (gQ (l.take 2) 2).isSome)=_;rw[Option.isSome_map]
 .obtain⟨z,hv,rfl⟩:=Option.map_eq_some_iff.1 hy;have Z:gQ (l.take 2) [1,2].length=some z:=hv;rw[Z] at O;have nq:=Fi hv;have:=V.out q rfl;subst this
  match z,nq with
  |[p,r],_=>exact⟨aN,aN,O.2.trans rfl,aW.nil_ _ _,aW.nil_ _ _,j8.nil _,j8.nil _⟩
def eo3 (k:Int) (v:Wv) (l:List ByteArray) (W:Wu) (g:Nat) (C:cH W) (D:eY W g (cj k) aN aN) (z:8<=g) (h:cD W g v l) (y: ∀s∈l,s.size<=1000000) (F:l.length<=100000):
 WJ WH 93 #[aj g,v] W (lw W g (qV k l)):=by
 by_cases O:l.length<2
 .exact ef6 k v l W g h O
 obtain⟨A,n,c,rfl,hl,hc,hm⟩:=h.form;by_cases U:c=2
 .have j:sB (l.drop 2)=none:=by
   have:l.drop 2=[]:=TH;rw[this];rfl
  exact eo1 k _ l W g C D z h y F Yi j (λG J I e=>by injection e with _ _ e;omega)
 .cases j:sB (l.drop 2) with
  |none=>exact eo0 k _ l W g C D z h y F Yi j (λG J I e=>by injection e with _ _ e;omega)
  |some q=>exact eo2 k _ l W g C D z h y F Yi q j (λG J I e=>by injection e with _ _ e;omega)
end
section
open Go Go.RowKit Go.Proofs.Tryz
def at2 {s:ByteArray} {i:Nat} (h:(s.get! i).toNat<128):Utf8.decode s i=((s.get! i).toNat,1):=by unfold Utf8.decode;simp only[WR];rw[if_pos h]
def eq7 {s:ByteArray} {i:Nat} (h:128<=(s.get! i).toNat):128<=(Utf8.decode s i).1:=by
 unfold Utf8.decode;simp only[WR,Utf8.runeError];split
 .omega
 .exact ak2
def at3 {p:Nat->Bool} {ok:UInt8->Bool} (h1: ∀c,ok c=Wz->c.toNat<128/\p c.toNat=Ww) (h2: ∀c:UInt8,c.toNat<128->ok c=Ww->p c.toNat=Wz) (h3: ∀r,128<=r->p r=Wz) (s:ByteArray):
 ∀(f pos:Nat),s.size<=pos+f->(0<=Lib.idxFuncFrom p Wz s f pos↔∃k,pos<=k/\k<s.size/\ok (s.get! k)=Ww)
 |0,pos,h=>by simp only[Lib.idxFuncFrom];exact Ql
 |f+1,pos,h=>by
  simp only[Lib.idxFuncFrom];by_cases g:pos<s.size
  .rw[if_pos g];cases ho:ok (s.get! pos) with
   |true=>have j:=at2 (h1 _ ho).1;have y:=(h1 _ ho).2;rw[j];simp only[y,WW,if_false];rw[at3 h1 h2 h3 s f (pos+1) Yi];exact ak4
   |false=>
    have z:p (Utf8.decode s pos).1=true:=by
     rcases Xk (s.get! pos).toNat 128 with h|h
     .rw[at2 h];exact h2 _ h ho
     .exact h3 _ (eq7 h)
    rw[if_pos z];exact⟨λ_=>⟨pos,ag _,g,ho⟩,λ_=>by omega⟩
  .rw[if_neg g];exact Ql
def eq8 {p:Nat->Bool} {ok:UInt8->Bool} (C: ∀c,ok c=Wz->c.toNat<128/\p c.toNat=Ww) (g: ∀c:UInt8,c.toNat<128->ok c=Ww->p c.toNat=Wz) (y: ∀r,128<=r->p r=Wz) (s:ak):
 Wt (0<=Lib.idxFunc p Wz (bs s))= !s.all ok:=by
 have h:=at3 C g y (bs s) (bs s).size 0 Yi;rw[<-Lib.idxFunc] at h;have z:(bs s).size=s.length:=kJ s;have A: ∀k (j:k<s.length),(bs s).get! k=s[k]:=λk j=>by rw[Wl _ _ (by rw[z];exact j)];rw[ByteArray.getElem_eq_getElem_data];simp[bs]
 rw[WU,decide_eq_true_eq,h];simp only[X2,List.all_eq_false];constructor
 .rintro ⟨k,_,g,y⟩;rw[z] at g;rw[A k g] at y;exact⟨s[k],List.getElem_mem g,by simp[y]⟩
 .rintro ⟨c,D,F⟩;obtain⟨k,j,rfl⟩:=List.mem_iff_getElem.1 D;exact⟨k,bU _,by rw[z];exact j,by rw[A k j];simpa using F⟩
def z' (r:Nat):Bool:= !(Wt (97<=r)&&Wt (r<=122))&& !(Wt (48<=r)&&Wt (r<=57))&& !Wt (r=95)
def Y7 (c:UInt8):z' c.toNat= !cX c:=by
 have e:(c==95)=Wt (c.toNat=95):=by rw[WU,beq_iff_eq,decide_eq_true_eq];exact⟨λh=>by rw[h];rfl,λh=>UInt8.toNat_inj.1 h⟩
 unfold z' cX kL bT;rw[e];simp[Bool.not_or]
def at4 (r:Nat) (h:128<=r):z' r=true:=by simp[z'];omega
def eq9 (c:UInt8) (h:cX c=Wz):c.toNat<128:=by
 rcases Xk c.toNat 128 with g|g
 .exact g
 .have j:=Y7 c;rw[h,at4 _ g] at j;cases j
def er0 (s:ak):Wt (0<=Lib.idxFunc z' Wz (bs s))= !s.all cX:=
 eq8 (λc h=>⟨eq9 c h,(Y7 c).trans (by rw[h];rfl)⟩) (λc _ h=>(Y7 c).trans (by rw[h];rfl)) at4 s
def er1 (w:Wu):PredAt WH 225 #[] Go.Proofs.encR z' w:=by
 intro W r _;show WJ _ _ _ _ _;have c: ∀b:Bool,b=z' r->Xz (Yc b)=Xz (Yc (z' r)):=λb h=>by rw[h]
 go_enter func225,ntmps225
 go_wp2
 all_goals
  go_ret;refine⟨c _ ?_,0,rfl⟩;rw[WU];simp_all[z'];try omega
def Y8 (s:ak) (w:Wu) (Y:fD w):
 aQ 147 #[bs s] w (Yc (br s)):=by
 have G:=λW=>strings_ContainsFunc 225 #[] (WD func225 aC rfl) z' (bs s) W (er1 W);simp only[er0] at G;have z:=aa G;have Z:=aa Y;have V:=aa (λW v B (h:bG W B v dH)=>Px v dH s W B h);have X:(bs s).size=s.length:=kJ s;have g: ∀h:0<(bs s).size,(bs s)[0].toNat=(s.headD 0).toNat:=λh=>by
  cases s with
  |nil=>rw[X] at h;simp at h
  |cons a l=>rfl
 unfold br;generalize s.all cX=al at z;generalize Wt (s∈dH)=kw at V;have j:Hid (kL (s.headD 0)=(Wt (97<=(s.headD 0).toNat)&&Wt ((s.headD 0).toNat<=122))):=rfl;generalize kL (s.headD 0)=low at j;generalize (s.headD 0).toNat=c at g j;obtain⟨n,hn⟩: ∃n,s.length=n:=⟨_,rfl⟩;rw[hn] at X⊢
 clear G Y hn;generalize bs s=T at z V X g;by_cases y:1<=n;rotate_left
 .have k1: ¬(1:Int)<=(n:Int):=by omega
  have I:=aa y;clear y g;go_enter func147,ntmps147;go_wp2_with fail
  go_ret;exact⟨cE (by simp[I.out]),af w⟩
 by_cases C:n<=31;rotate_left
 .have k1:(1:Int)<=(n:Int):=by omega
  have k2: ¬(n:Int)<=31:=Yi;have J:=aa C;clear y C g;go_enter func147,ntmps147;go_wp2_with fail
  go_ret;exact⟨cE (by simp[J.out]),af w⟩
 have k1:(1:Int)<=(n:Int):=Yi;have k2:(n:Int)<=31:=Yi;have k0:0<T.size:=Yi;have hb:=g k0;have I:=aa y;have J:=aa C;clear y C g;by_cases D:97<=c;rotate_left
 .have k3: ¬(97:Int)<=(c:Int):=by omega
  have O:=aa D;clear D;go_enter func147,ntmps147;go_wp2_with fail
  go_ret;exact⟨cE (by rw[j.out];simp[O.out]),af w⟩
 have k3:(97:Int)<=(c:Int):=Yi;have O:=aa D;clear D;by_cases F:c<=122;rotate_left
 .have k4: ¬(c:Int)<=122:=by omega
  have U:=aa F;clear F;go_enter func147,ntmps147;go_wp2_with fail
  go_ret;exact⟨cE (by rw[j.out];simp[U.out]),af w⟩
 have k4:(c:Int)<=122:=Yi;have U:=aa F;clear F;cases al with
 |false=>
  go_enter func147,ntmps147;go_wp2_with(go_at_call 180;refine(z.out _).m ?_;rintro e w1 ⟨rfl,A⟩)
  go_ret;exact⟨cE Yl,A⟩
 |true=>
  go_enter func147,ntmps147
  go_wp2_with(first
   |(go_at_call 180;refine(z.out _).m ?_;rintro e w1 ⟨rfl,A⟩)
   |(go_at_call 226;refine(YK _ (Z.out.step A)).m ?_;rintro e w2 ⟨v,rfl,hv,am⟩)
   |(go_at_call 199;refine(V.out _ _ _ hv).m ?_;rintro e w3 ⟨rfl,rfl⟩))
  go_ret;exact⟨cE (by rw[j.out];simp[I.out,J.out,O.out,U.out]),ai A am⟩
def ez9 (m:aM) (v:MV) (mb:Nat) (x:ri) (j:List Wv) (A:Wv) (b:List ri) (w:Wu) (hm:w.heap[mb]? =Ws (Yd (m.cells v) 30 (0,0))) (y:m.In w w v) (hx:wR w w j x):
 aQ 217 #[Ye j.toArray,A,aj mb] w (Yc (uT m x b)):=by
 obtain⟨rfl,dz,bJ⟩:=hx;obtain⟨_,_,⟨Ra,rc,hr,cM,cV⟩,_⟩:=y.cells;have F:=blk_lt hm;have D:w.cell? (mb 2 Wr)=Ws (Yb Ra m.racks.length rc):=by rw[<-hr];exact ah hm rfl
 have C: ¬mb=w.heap.size:=Yi;have c:=aa (λW=>Mr x.rack m.racks.length W);have g:=aa (λW=>as2 x.cap W);show WJ _ _ _ _ λe w'=>e=Xz (Yc (aD x.rack 1 (m.racks.length:Nat)&&aD x.cap 0 1048576))/\_;generalize aD x.rack 1 (m.racks.length:Nat)=r1 at c;generalize aD x.cap 0 1048576=r2 at g;clear y hm hr dz bJ;simp only[aj];cases r1 with
 |false=>
  go_enter func217,ntmps217;go_wp2_with(first|(go_at_call 211;refine(c.out _).m ?_;rintro e z ⟨rfl,rfl⟩))
  go_ret;exact⟨rfl,by repeat' first|with_reducible exact af w|with_reducible refine ae ?_ _⟩
 |true=>
  go_enter func217,ntmps217;go_wp2_with(first|(go_at_call 211;refine(c.out _).m ?_;rintro e z ⟨rfl,rfl⟩)|(go_at_call 218;refine(g.out _).m ?_;rintro e z ⟨rfl,rfl⟩))
  go_ret;exact⟨by simp,by repeat' first|with_reducible exact af w|with_reducible refine ae ?_ _⟩
def IG (x y:tO):Bool:=Wt (y.a=x.a)&&Wt (y.b=x.b)
def fa0 (x y:tO) (z:List Wv) (xb:Nat) (w:Wu) (C:pN w w z y) (F:w.cell? xb=Ws (WK Xr x.a)) (G:w.cell? (xb 1 Wr)=Ws (WK Xr x.b)) (I:xb<w.heap.size):
 aQ 221 #[Ye z.toArray,aj xb] w (Yc (IG x y)):=by
 obtain⟨rfl,dz,bJ⟩:=C;have D: ¬xb=w.heap.size:=Yi;have g:Hid (IG x y=(Wt (y.a=x.a)&&Wt (y.b=x.b))):=rfl;generalize IG x y=r at g;clear dz bJ;simp only[aj];by_cases j:(y.a==x.a)=Wz
 .have c:=aa j;go_enter func221,ntmps221;go_wp2_with fail
  go_ret;refine⟨cE ?_,ae (af w) _⟩;have e:=c.out;rw[yz] at e;rw[g.out,e];simp[yz]
 .have A:(y.a==x.a)=false:=by simpa using j
  clear j;have c:=aa A;go_enter func221,ntmps221;go_wp2_with fail
  go_ret;refine⟨cE ?_,ae (af w) _⟩;have e:=c.out;rw[yz] at e;rw[g.out,e];rfl
def fa1 (m:aM) (v:MV) (mb:Nat) (x:tO) (F:List Wv) (b:List tO) (Z:Wv) (w:Wu) (hm:w.heap[mb]? =Ws (Yd (m.cells v) 30 (0,0))) (hv:m.In w w v) (hx:pN w w F x) (X:bW 3 pN w w Z b):
 aQ 220 #[Ye F.toArray,Z,aj mb] w (Yc (ji m x b)):=by
 obtain⟨rfl,dz,bJ⟩:=hx;obtain⟨⟨Sa,sc,hs,dh,bS⟩,_⟩:=hv.cells;have eM:=blk_lt hm;have c0:w.cell? mb=Ws (Yb Sa m.sites.length sc):=by rw[<-hs];exact ah hm rfl
 have aO: ¬mb=w.heap.size:=Yi;obtain⟨A,n,c,rfl,hl,hc,iG⟩:=X.form;have D:=aa (fun(W:Wu) (hW:Below w w W) (xb:Nat) (G:W.cell? xb=Ws (WK Xr x.a)) (I:W.cell? (xb 1 Wr)=Ws (WK Xr x.b)) (hx:xb<W.heap.size)=>
  dm3 pN pN.ab (Yb A n c) b 221 #[aj xb] (jg b (IG x)) W (X.to pN.ab hW (ag _) hW.size) (WD func221 aC rfl)
   (λj y F W2 hy V hr _=>by rw[eW hy];exact fa0 x y F xb W2 hr ((V.cell (p:=xb) hx).trans G) ((V.cell (p:=xb 1 Wr) hx).trans I) (bq hx V.size)))
 rw[BF] at D;have z:=aa (λW=>as2 x.cap W);refine ou λnV=> ?_;have g:Hid (ji m x b=(Wt (1<=x.a)&&Wt (x.a<x.b)&&Wt (x.b<=m.sites.length)&&aD x.cap 0 1048576&& !b.any (IG x))):=rfl;generalize ji m x b=r at g;generalize aD x.cap 0 1048576=r2 at z g;generalize b.any (IG x)=r3 at D g;clear hv hm X hs dz bJ hl;unfold bm aj at D;simp only[aj];by_cases G:1<=x.a
 .have J:=aa G;by_cases I:x.a<x.b
  .have O:=aa I;by_cases h3:x.b<=m.sites.length
   .have U:=aa h3;cases r2 with
    |false=>
     go_enter func220,ntmps220;go_wp2_with(first|(go_at_call 218;refine(z.out _).m ?_;rintro e C ⟨rfl,rfl⟩))
     go_ret;exact⟨by rw[g.out];simp;(try have Y:=trivial);(try omega),ae (af w) _⟩
    |true=>
     go_enter func220,ntmps220;go_wp2_with(first|(go_at_call 218;refine(z.out _).m ?_;rintro e C ⟨rfl,rfl⟩))
     refine(D.out _ (ae (af w) _) w.heap.size (ah (bQ w _) rfl) (ah (bQ w _) rfl) Yl).m ?_;rintro e C ⟨rfl,ap⟩;go_wp2_with fail
     go_ret;exact⟨by rw[g.out];simp[J.out,O.out,U.out],ai (ae (af w) _) ap⟩
   .have U:=aa h3;go_enter func220,ntmps220;go_wp2_with(first|(go_at_call 218;refine(z.out _).m ?_;rintro e C ⟨rfl,rfl⟩))
    go_ret;exact⟨by rw[g.out];simp;(try have Y:=U.out);(try omega),ae (af w) _⟩
  .have O:=aa I;go_enter func220,ntmps220;go_wp2_with(first|(go_at_call 218;refine(z.out _).m ?_;rintro e C ⟨rfl,rfl⟩))
   go_ret;exact⟨by rw[g.out];simp;(try have Y:=O.out);(try omega),ae (af w) _⟩
 .have J:=aa G;go_enter func220,ntmps220;go_wp2_with(first|(go_at_call 218;refine(z.out _).m ?_;rintro e C ⟨rfl,rfl⟩))
  go_ret;exact⟨by rw[g.out];simp;(try have Y:=J.out);(try omega),ae (af w) _⟩
def Q0 {α:Type} {c:α->List α->Bool} {xs:List α} {j:Nat} {x:α} (h:xs[j]? =Ws x):fl c [] xs j=c x (xs.take j):=by rw[E8 h,Xl]
def fa2 (m:aM) (v:MV) (w:Wu) (z:m.In w w v):
 aQ 144 #[Ye (m.cells v)] w (Yc (fu m)):=by
 obtain⟨⟨Sa,sc,hs,dh,bS⟩,⟨Fa,fc,hf,cr,cL⟩,⟨Ra,rc,hr,cM,cV⟩,⟨Ma,mc,hm,dd,cz⟩,⟨La,lc,hl,dt,di⟩,⟨Ia,ic,hi,ed,ez⟩,⟨Ua,uc,hu,dP,dq⟩⟩:=z.cells;have Z:=aa z;refine an9 λHS=> ?_;have V: ∀W,Below w w W->W.heap[w.heap.size]? =Ws (Yd (m.cells v) 30 (0,0))->m.In W W.heap.size v/\W.heap[w.heap.size]? =Ws (Yd (m.cells v) 30 (0,0)):=λW g A=>⟨z.to g (ag _) g.size,A⟩;have HR:=aa (λW (g:Below w w W) (A:W.heap[w.heap.size]? =Ws (Yd (m.cells v) 30 (0,0)))=>ei6 v.r m.racks 213 #[aj w.heap.size] (fl (jh m) [] m.racks) W (z.rs.to pM.ab g (ag _) g.size) (WD func213 aC rfl)
  (λj x F D C hx y G _ U=>by rw[Q0 hx];exact ej1 m v w x F (m.racks.take j) D C (aq A y) (z.to (g.trans (y.mono g.size)) (ag _) (bo g.size y.size)) G U))
 have HM:=aa (λW (g:Below w w W) (A:W.heap[w.heap.size]? =Ws (Yd (m.cells v) 30 (0,0)))=>ei7 v.m m.machs 217 #[aj w.heap.size] (fl (uT m) [] m.machs) W (z.ms.to wR.ab g (ag _) g.size) (WD func217 aC rfl)
  (λj x F D C hx y G _ U=>by rw[Q0 hx];exact ez9 m v w x F D (m.machs.take j) C (aq A y) (z.to (g.trans (y.mono g.size)) (ag _) (bo g.size y.size)) G))
 have HL:=aa (λW (g:Below w w W) (A:W.heap[w.heap.size]? =Ws (Yd (m.cells v) 30 (0,0)))=>ei8 v.l m.links 220 #[aj w.heap.size] (fl (ji m) [] m.links) W (z.ls.to pN.ab g (ag _) g.size) (WD func220 aC rfl)
  (λj x F D C hx y G _ U=>by rw[Q0 hx];exact fa1 m v w x F (m.links.take j) D C (aq A y) (z.to (g.trans (y.mono g.size)) (ag _) (bo g.size y.size)) G U))
 rw[<-wY,hr] at HR;rw[<-wY,hm] at HM;rw[<-wY,hl] at HL;have dC:=aa (λW=>Mr m.sites.length 4 W);have fB:=aa (λW=>Mr m.machs.length 16 W);refine ou λnV=> ?_;refine at5 λHO=> ?_;generalize fu m=r at HO;generalize aD (m.sites.length:Nat) 1 4=r1 at dC HO;generalize aD (m.machs.length:Nat) 1 16=r2 at fB HO;generalize dN (jh m) [] m.racks=q1 at HR HO;generalize dN (uT m) [] m.machs=q2 at HM HO;generalize dN (ji m) [] m.links=q3 at HL HO;have HN:=aa (show(w.alloc (Yd (m.cells v) 30)).heap[w.heap.size]? =Ws (Yd (m.cells v) 30 (0,0)) from bQ w _);rw[HS.out] at HR HM HL HN⊢
 unfold bm aj at HR HM HL;clear z hs hf hr hm hl hi hu V;cases r1 with
 |false=>exact at6
 |true=>
  by_cases I:m.feeds.length<=16;rotate_left
  .have G1:=aa I;have k1:(16:Int)<(m.feeds.length:Nat):=by omega
   clear I;go_enter func144,ntmps144
   go_wp2_with(first
    |(go_at_call_of 211 (WK Xr (m.sites.length:Nat));refine(dC.out _).m ?_;rintro e w1 ⟨rfl,rfl⟩)
    |(go_at_call 211;refine(fB.out _).m ?_;rintro e w1 ⟨rfl,rfl⟩)
    |(go_at_call 212;refine(HR.out _ (ae (af w) _) HN.out).m ?_;rintro e w1 ⟨rfl,ap⟩;have bf:=aa (ai (ae (af w) _) ap);have iM:=aa (aq HN.out ap);have e3:w1.cell? (w 3 Wr)=Ws (Yb Ma m.machs.length mc):=ah iM.out rfl;have e4:w1.cell? (w 4 Wr)=Ws (Yb La m.links.length lc):=ah iM.out rfl;clear ap)
    |(go_at_call 216;refine(HM.out _ bf.out iM.out).m ?_;rintro e w2 ⟨rfl,am⟩;have aR:=aa (ai bf.out am);have ml:=aa (aq iM.out am);have e4:w2.cell? (w 4 Wr)=Ws (Yb La m.links.length lc):=ah ml.out rfl;clear am)
    |(go_at_call 219;refine(HL.out _ aR.out ml.out).m ?_;rintro e w3 ⟨rfl,aL⟩;have bg:=aa (ai aR.out aL);clear aL))
   go_ret;exact⟨by rw[HO.out];simp;(try have hq:=G1.out);(try omega),ae (af w) _⟩
  have G1:=aa I;have k1: ¬(16:Int)<(m.feeds.length:Nat):=Yi;clear I;by_cases J:m.racks.length<=16;rotate_left
  .have G2:=aa J;have X:(16:Int)<(m.racks.length:Nat):=by omega
   clear J;go_enter func144,ntmps144
   go_wp2_with(first
    |(go_at_call_of 211 (WK Xr (m.sites.length:Nat));refine(dC.out _).m ?_;rintro e w1 ⟨rfl,rfl⟩)
    |(go_at_call 211;refine(fB.out _).m ?_;rintro e w1 ⟨rfl,rfl⟩)
    |(go_at_call 212;refine(HR.out _ (ae (af w) _) HN.out).m ?_;rintro e w1 ⟨rfl,ap⟩;have bf:=aa (ai (ae (af w) _) ap);have iM:=aa (aq HN.out ap);have e3:w1.cell? (w 3 Wr)=Ws (Yb Ma m.machs.length mc):=ah iM.out rfl;have e4:w1.cell? (w 4 Wr)=Ws (Yb La m.links.length lc):=ah iM.out rfl;clear ap)
    |(go_at_call 216;refine(HM.out _ bf.out iM.out).m ?_;rintro e w2 ⟨rfl,am⟩;have aR:=aa (ai bf.out am);have ml:=aa (aq iM.out am);have e4:w2.cell? (w 4 Wr)=Ws (Yb La m.links.length lc):=ah ml.out rfl;clear am)
    |(go_at_call 219;refine(HL.out _ aR.out ml.out).m ?_;rintro e w3 ⟨rfl,aL⟩;have bg:=aa (ai aR.out aL);clear aL))
   go_ret;exact⟨by rw[HO.out];simp;(try have hq:=G2.out);(try omega),ae (af w) _⟩
  have G2:=aa J;have X: ¬(16:Int)<(m.racks.length:Nat):=Yi;clear J;cases r2 with
  |false=>exact at6
  |true=>
   by_cases O:m.links.length<=12;rotate_left
   .have G4:=aa O;have Y:(12:Int)<(m.links.length:Nat):=by omega
    clear O;go_enter func144,ntmps144
    go_wp2_with(first
     |(go_at_call_of 211 (WK Xr (m.sites.length:Nat));refine(dC.out _).m ?_;rintro e w1 ⟨rfl,rfl⟩)
     |(go_at_call 211;refine(fB.out _).m ?_;rintro e w1 ⟨rfl,rfl⟩)
     |(go_at_call 212;refine(HR.out _ (ae (af w) _) HN.out).m ?_;rintro e w1 ⟨rfl,ap⟩;have bf:=aa (ai (ae (af w) _) ap);have iM:=aa (aq HN.out ap);have e3:w1.cell? (w 3 Wr)=Ws (Yb Ma m.machs.length mc):=ah iM.out rfl;have e4:w1.cell? (w 4 Wr)=Ws (Yb La m.links.length lc):=ah iM.out rfl;clear ap)
     |(go_at_call 216;refine(HM.out _ bf.out iM.out).m ?_;rintro e w2 ⟨rfl,am⟩;have aR:=aa (ai bf.out am);have ml:=aa (aq iM.out am);have e4:w2.cell? (w 4 Wr)=Ws (Yb La m.links.length lc):=ah ml.out rfl;clear am)
     |(go_at_call 219;refine(HL.out _ aR.out ml.out).m ?_;rintro e w3 ⟨rfl,aL⟩;have bg:=aa (ai aR.out aL);clear aL))
    go_ret;exact⟨by rw[HO.out];simp;(try have hq:=G4.out);(try omega),ae (af w) _⟩
   have G4:=aa O;have Y: ¬(12:Int)<(m.links.length:Nat):=Yi;clear O;cases q1 with
   |false=>exact Y9
   |true=>
    cases q2 with
    |false=>exact Y9
    |true=>exact Y9
end
end Go.Proofs.YtklfdkdebgfmiaaGreatDoor
