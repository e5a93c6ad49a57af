/- A part of the proof. -/
import Derived.Test.YtihhpjmclebfpaaGreatDoorQba
set_option linter.defProp false
set_option linter.unusedVariables false
set_option linter.unusedSimpArgs false
set_option maxRecDepth 100000
set_option maxHeartbeats 32000000
open Option renaming some->XL,none->XM
open Decidable renaming decide->XN
open Go renaming World->XO,Value->XP,Calls->X4,TypeId->Ya,maxLen->Yd,Oper->YO,undef->YQ,execOp->Y7,Ending->Zb,Addr->Zf,Program->Zh
open Bool renaming false->XQ,true->XR
open Go.Lib renaming itoa->XS,joinTail->YJ
open List renaming range->Yz
open Go.RowKit renaming Hid->XV
open Go.Proofs renaming intOf->X8
open Go.Proofs.Tryz renaming prog->X3,underlying235->Yx,underlying22->Zo
open Go.Value renaming int->X1,string->X2,oneCell'->YH,slice->Zk,bool->Zp,agg->Zr,pointer->Zs
open Go.World renaming setCell->YS,cell?->Zc
open Go.IntKind renaming i64->Yo
open Go.Instr renaming lookup->Yu
open Go.Region renaming wanted->YB,ready->YR,Mode->Y4
open Go.Ending renaming returned->YT
open Go.Oper renaming wp->Zm
open Go.Obj renaming cells->Zq
open Go.Operand renaming tmp->Zt,const->Zu
namespace Go.Proofs.YtihhpjmclebfpaaGreatDoor
section
open Go Go.Proofs.Tryz
section
variable {P:Zh} {ops:Array YO} {Q:Exit->Act->XO->Prop} {md:Y4}
def WH(md:Y4)(ops:Array YO):Bool:=
 (Yz ops.size).all λi=>match ops[i]? with|some o=>o.after.all λe=> !Region.binds md e||XN (e.on<i)|none=>XR
def ag3(h:WH md ops=XR){i:Nat}{o:YO}(ho:ops[i]?=XL o):∀e∈o.after,Region.binds md e=XR->e.on<i:=by intro e z y;have A:=(Array.getElem?_eq_some_iff.1 ho).1;have c:=List.all_eq_true.1 h i (List.mem_range.2 A);simp only[ho]at c;have j:=Array.all_eq_true'.1 c e z;simpa[y]using j
def LQ(listed:Array Bool)(n:Nat):Nat:=(Yz n).countP λj=> !listed.getD j XR
def ag4{listed:Array Bool}{n i:Nat}(A:i<n)(h:listed.getD i XR=XQ):LQ (listed.setIfInBounds i XR) n+1<=LQ listed n:=by
 unfold LQ;induction n with
 |zero=>omega
 |succ n ih=>
  rw[List.range_succ,List.countP_append,List.countP_append,List.countP_singleton,List.countP_singleton];by_cases e:i=n
  .subst e;have c:(listed.setIfInBounds i true).getD i true=true:=by
    exact WI
   have z:(Yz i).countP (λj=> !(listed.setIfInBounds i XR).getD j XR)<=(Yz i).countP (λj=> !listed.getD j XR):=by
    refine Nat.le_of_eq (List.countP_congr λj y=>?_);have:¬i=j:=by have:=List.mem_range.1 y;omega
    rw[getD_set_ne XR this]
   rw[c,h];simp only[Bool.not_true,Bool.not_false,Yh,if_false,if_true];omega
  .have:=ih Zv;rw[getD_set_ne XR e];omega
def iU(md:Y4)(ops:Array YO)(j i:Nat):Bool:=match ops[j]? with|some o=>o.after.any λe=>Region.binds md e&&XN (e.on=i)|none=>XQ
def WJ{i j:Nat}(h:iU md ops j i=XR):∃o,ops[j]?=XL o/\∃e,e∈o.after/\Region.binds md e=XR/\e.on=i:=by
 unfold iU at h;split at h
 .rename_i o ho;obtain⟨e,he,hq⟩:=Array.any_eq_true'.1 h;simp at hq;exact⟨o,ho,e,he,hq.1,hq.2⟩
 .cases h
def du7(F:Act->XO->Prop)(Y:Nat->Act->XO->Prop)(hb:WH md ops=XR)
 (Ao:∀i o,ops[i]?=XL o->∀a w,F a w->(∀j,iU md ops i j=XR->Y j a w)->
   wpOp P ops Q i (λI w'=>F I w'/\Y i I w'/\∀j,j≠i->j<ops.size->iU md ops j i=XQ->Y j a w->Y j I w') a w)
 (U9:∀a w,F a w->(∀i,i<ops.size->Y i a w)->Q .normal a w):
 ∀(fuel:Nat)(listed:Array Bool)(a:Act)(w:World),listed.size=ops.size->LQ listed ops.size<=fuel->(∀j i,listed.getD j true=true->j<ops.size->iU md ops j i=true->listed.getD i true=true)->
  F a w->(∀i,i<ops.size->listed.getD i XR=XR->Y i a w)->wpAny P md ops Q fuel listed a w:=by
 have J:∀(listed:Array Bool)(a:Act)(w:XO),listed.size=ops.size->F a w->(∀i,i<ops.size->listed.getD i XR=XR->Y i a w)->YR md ops listed=[]->Q .normal a w:=by
  intro listed a w O D A X;have all:∀(m i:Nat),i<m->i<ops.size->listed.getD i XR=true:=by
   intro m;induction m with
   |zero=>intro i y;omega
   |succ m ih=>
    intro i y G;cases hl:listed.getD i XR with
    |true=>rfl
    |false=>
     obtain⟨o,ho⟩:∃o,ops[i]?=XL o:=⟨_,Array.getElem?_eq_getElem G⟩;have:i∈YR md ops listed:=mem_ready.2 ⟨hl,o,ho,λe V U=>by
      have ap:=ag3 hb ho e V U;have z:=ih e.on Zv Zv;have Lb:e.on<listed.size:=Zv;simp[Lb]at z⊢
      exact z⟩
     rw[X]at this;cases this
  exact U9 a w D λi y=>A i y (all (i+1) i Zv y)
 intro fuel;induction fuel with
 |zero=>
  intro listed a w O hu ep D A;have X:YR md ops listed=[]:=by apply List.eq_nil_iff_forall_not_mem.2;intro i y;obtain⟨hl,o,ho,_⟩:=mem_ready.1 y;have G:=(Array.getElem?_eq_some_iff.1 ho).1;have:=ag4 G hl;omega
  exact⟨X,J listed a w O D A X⟩
 |succ fuel ih=>
  intro listed a w O hu ep D A;refine⟨J listed a w O D A,λi y=>?_⟩;obtain⟨hl,o,ho,lz⟩:=mem_ready.1 y;have G:=(Array.getElem?_eq_some_iff.1 ho).1;have IA:=ag4 G hl;have yu:∀j,iU md ops i j=XR->j<ops.size/\listed.getD j XR=true:=by
   intro j c;obtain⟨o',me,e,V,U,rfl⟩:=WJ c;rw[ho]at me;injection me with me;subst me;have ap:=ag3 hb ho e V U;have z:=lz e V U;have Lb:e.on<listed.size:=Zv;refine⟨by omega,?_⟩;simp[Lb]at z⊢
   exact z
  refine wpOp_mono (λI w' h=>?_) (Ao i o ho a w D λj c=>A j (yu j c).1 (yu j c).2);obtain⟨z,h2,h3⟩:=h;refine ih _ I w' (by simp[O]) Zv (λj k C c Z=>?_) z λj c C=>?_
  .by_cases e:k=i
   .subst e;exact WI
   .rw[getD_set_ne true (λh=>e h.symm)];by_cases e2:j=i
    .subst e2;exact(yu k Z).2
    .rw[getD_set_ne XR (λh=>e2 h.symm)]at C;exact ep j k C c Z
  .by_cases e:j=i
   .subst e;exact h2
   .rw[getD_set_ne true (λh=>e h.symm)]at C;refine h3 j e c ?_ (A j c C);cases Z:iU md ops j i with
    |false=>rfl
    |true=>have:=ep j i C c Z;rw[hl]at this;cases this
def du8(y:Act->XO->Prop)(Y:Nat->Act->XO->Prop){id:Nat}{a:Act}{w:XO}(hm:P.follows .mixedOrders=XR)(F:WH .any ops=XR)
 (D:y a w.drew)
 (A:∀i o,ops[i]?=XL o->∀a w,y a w->(∀j,iU .any ops i j=XR->Y j a w)->
   wpOp P ops Q i (λz w'=>y z w'/\Y i z w'/\∀j,j≠i->j<ops.size->iU .any ops j i=XQ->Y j a w->Y j z w') a w)
 (C:∀a w,y a w->(∀i,i<ops.size->Y i a w)->Q .normal a w):(Code.region id ops XR).wp P Q a w:=by
 refine wp_region_any hm (du7 y Y F A C _ _ _ _ Zy ?_ (λj i h I=>?_) D λi G h=>?_)
 .unfold LQ;exact bC (List.countP_le_length) Zy
 .simp[I]at h
 .simp[G]at h
def ag5{i:Nat}{o:YO}{K:Act->XO->Prop}{a:Act}{w w':XO}{v:XP}(ho:ops[i]?=XL o)(j:o.guard=XM)(c:(Y7 a.eval o).run P w= .ok (.value v) w')(h:K (a.put o.dst v) w'):wpOp P ops Q i K a w:=by unfold wpOp;rw[ho];simp only[YB,j,if_true];refine .inl ?_;unfold Zm;rw[c];exact h
def du9{i:Nat}{o:YO}{K:Act->XO->Prop}{a:Act}{w w':XO}(ho:ops[i]?=XL o)(j:o.guard=XM)(c:(Y7 a.eval o).run P w= .ok .skip w')(h:K (a.put o.dst YQ) w'):wpOp P ops Q i K a w:=by unfold wpOp;rw[ho];simp only[YB,j,if_true];refine .inl ?_;unfold Zm;rw[c];exact h
def dv0{i:Nat}{o:YO}{K:Act->XO->Prop}{a:Act}{w w':XO}{f:FuncId}{args:Array XP}(ho:ops[i]?=XL o)(z:o.guard=XM)(j:(Y7 a.eval o).run P w= .ok (.enter f args) w')
 (y:X4 P f args w' λe c=>∃v,e=YT v/\K (a.put o.dst v) c):wpOp P ops Q i K a w:=by
 unfold wpOp;rw[ho];simp only[YB,z,if_true];refine .inl ?_;unfold Zm;rw[j,Oper.upon_enter];refine y.m ?_;rintro e c ⟨v,rfl,h⟩;exact h
end
end
section
open Go Go.RowKit Go.Proofs.Tryz
def kM(w:XO)(b:Nat)(x:aQ)(m s:XP):Prop:=
 w.cell? b=XL (ah x.kind)/\aa w b 1 (ah x.a)/\aa w b 2 (ah x.b)/\aa w b 3 (ah x.c)/\aa w b 4 (ah x.ok)/\aa w b 5 (X2 x.key)/\aa w b 6 (ah x.val)/\aa w b 7 (ah x.old)/\aa w b 8 m/\aa w b 9 s
def kM.keep{w w':XO}{b:Nat}{x:aQ}{m s:XP}(h:kM w b x m s)(c:∀o,w'.cell? (b o XM)=w.cell? (b o XM)):kM w' b x m s:=by
 unfold kM at h⊢
 simp only[c];exact h
def kM.below{w w':XO}{b B:Nat}{x:aQ}{m s:XP}(h:kM w b x m s)(j:Below B w w')(c:b<B):kM w' b x m s:=
 h.keep λ_=>j.cell c
def kM.new(w:XO)(t:Ya)(x:aQ)(m s:XP):kM (w.alloc (Zq (x.cells m s) t)) w x m s:=by simp[kM,aQ.cells]
def AA(n:Int):Prop:=0<=n/\n<=128
def xt(l:List Int)(j:Nat):Prop:=(1<=cY l j/\cY l j<=16)/\(0<j->cY l (j - 1)<cY l j)
instance(n:Int):Decidable (AA n):=by unfold AA;infer_instance
instance(l:List Int)(j:Nat):Decidable (xt l j):=by unfold xt;infer_instance
def t7(l:List Int):Bool:=(Yz l.length).all λj=>XN (AA (cY l j))
def ry(l:List Int):Bool:=(Yz l.length).all λj=>XN (xt l j)
def al8{l:List Int}(h:∀j,j<l.length->AA (cY l j)):t7 l=true:=by rw[t7,Yn];intro j hj;exact decide_eq_true (h j Bz)
def al9{l:List Int}{k:Nat}(j:k<l.length)(h:¬AA (cY l k)):t7 l=false:=by rw[Bool.eq_false_iff,t7];intro c;rw[Yn]at c;exact h (of_decide_eq_true (c k (by simpa using j)))
def am0{l:List Int}(h:∀j,j<l.length->xt l j):ry l=true:=by rw[ry,Yn];intro j hj;exact decide_eq_true (h j Bz)
def PO{l:List Int}{k:Nat}(j:k<l.length)(h:¬xt l k):ry l=false:=by rw[Bool.eq_false_iff,ry];intro c;rw[Yn]at c;exact h (of_decide_eq_true (c k (by simpa using j)))
def FG(n a b:Int)(h:a<=n/\n<=b)(w:XO):X4 X3 69 #[n,a,b] w λe w'=>e=YT (Zp XR)/\w'=w:=
 (WM n a b w).mono λe w'⟨c,j⟩=>⟨by rw[c];simp[h.1,h.2],j.symm⟩
def WS(n a b:Int)(h:¬(a<=n/\n<=b))(w:XO):X4 X3 69 #[n,a,b] w λe w'=>e=YT (Zp XQ)/\w'=w:=
 (WM n a b w).mono λe w'⟨c,j⟩=>⟨by rw[c];refine cD ?_;rw[Bool.eq_false_iff];simpa using h,j.symm⟩
def eO(n a b:Int):Bool:=XN (a<=n)&&XN (n<=b)
def PP(n a b:Int)(w:XO):X4 X3 69 #[n,a,b] w λe w'=>e=YT (Zp (eO n a b))/\w'=w:=
 (WM n a b w).mono λe w'⟨c,h⟩=>⟨c,h.symm⟩
def oP(x:aQ):Bool:=
 if x.kind=0\/x.kind=1\/x.kind=2 then eO x.a 0 1048576
 else if x.kind=3\/x.kind=6\/x.kind=13\/x.kind=5 then eO x.a 1 16
 else if x.kind=4\/x.kind=16\/x.kind=15 then XR
 else if x.kind=7 then eO x.a 1 16&&eO x.b 0 1048576
 else if x.kind=8\/x.kind=9 then eO x.a 1 16||eO x.a 101 108
 else if x.kind=10 then eO x.a 1 8&&eO x.b 0 8&&ve x
 else if x.kind=11 then eO x.a 1 8
 else if x.kind=12 then eO x.a 1 8&&eO x.b 1 8
 else if x.kind=14 then eO x.a 1 16&&eO x.c 1 16&&eO x.b 0 8
 else if x.kind=17 then eO x.a 1 200
 else XQ
def ea(x:aQ):Bool:=od x (cI x)&&XN (x.ss.length<=20)&&t7 x.ss&&ry x.ms&&oP x
def dr2(x:aQ)(m s:XP)(w:XO)(hx:x.In w w m s)(z:od x (cI x)=XQ):
 aR 29 #[Zr (x.cells m s)] w (Zp XQ):=by
 obtain⟨Am,nm,cm,rfl,fG,_,fQ⟩:=hx.ms.form;obtain⟨As,ns,cs,rfl,gh,_,fj⟩:=hx.ss.form;have HX:=aj hx;have X:=aj fG;have U:=aj gh;refine WT λused' same'=>?_;rw[z]at same';have C:=aj used';have A:=aj same';clear used' same' hx z fG gh;rw[aQ.cells_def];go_enter func29,ntmps29;go_wp2_with fail
 first|(go_region_with
  (first
    |(go_at_call 68;refine(C _ (aW (ak (am w) _))).m ?_;rintro e J ⟨I,s1,rfl,D,c⟩;have y:=aq (aW (ak (am w) _)) c;have G:w.heap.size<J:=dQ c Zy;obtain⟨br,bM⟩:=dE c)
    |(go_at_call 15;refine(A _ I s1 y D).r λO j=>?_;have F:=aq y j;have V:w.heap.size<O:=dQ j G;obtain⟨cM,cj⟩:=dE j)))|fail
 all_goals go_wp2_with fail
 all_goals go_ret
 all_goals exact⟨rfl,F⟩
def dr3(x:aQ)(m s:XP)(w:XO)(hx:x.In w w m s)(A:od x (cI x)=XR)(z:20<x.ss.length):
 aR 29 #[Zr (x.cells m s)] w (Zp XQ):=by
 obtain⟨Am,nm,cm,rfl,fG,_,fQ⟩:=hx.ms.form;obtain⟨As,ns,cs,rfl,gh,_,fj⟩:=hx.ss.form;have HX:=aj hx;have Z:=aj fG;have C:=aj gh;refine WT λused' same'=>?_;rw[A]at same';have F:=aj used';have D:=aj same';clear used' same' hx A fG gh;have Y:(20:Int)<ns:=by rw[C.o]at z;omega
 clear z;rw[aQ.cells_def];go_enter func29,ntmps29;go_wp2_with fail
 go_region_held3 (λw'=>ae w' w (ah x.kind)/\aa w' w 1 (ah x.a)/\aa w' w 2 (ah x.b)/\aa w' w 3 (ah x.c)/\aa w' w 4 (ah x.ok)/\aa w' w 5 (X2 x.key)/\aa w' w 6 (ah x.val)/\aa w' w 7 (ah x.old)/\aa w' w 8 (Zk Am nm cm)/\aa w' w 9 (Zk As ns cs)) (simp[*])
  (first
    |(go_at_call 68;refine(F _ (aW (ak (am w) _))).m ?_;rintro e U ⟨O,s1,rfl,G,c⟩;have y:=aq (aW (ak (am w) _)) c;have J:w.heap.size<U:=dQ c Zy;obtain⟨br,bM⟩:=dE c)
    |(go_at_call 15;refine(D _ O s1 y G).r λV j=>?_;have I:=aq y j;have X:w.heap.size<V:=dQ j J;obtain⟨cM,cj⟩:=dE j))
 all_goals go_wp2_with fail
 all_goals go_ret
 all_goals exact⟨rfl,I⟩
def dr4(x:aQ)(m s:XP)(w:XO)(hx:x.In w w m s)(hv:od x (cI x)=XR)(hl:x.ss.length<=20):
 aR 29 #[Zr (x.cells m s)] w (Zp (t7 x.ss&&ry x.ms&&oP x)):=by
 obtain⟨Am,nm,cm,rfl,fG,_,fQ⟩:=hx.ms.form;obtain⟨As,ns,cs,rfl,gh,_,fj⟩:=hx.ss.form;have HX:=aj hx;have nk:=aj fG;have CL:=aj gh;refine WT λused' same'=>?_;rw[hv]at same';have HU:=aj used';have HS:=aj same';clear used' same' hx hv fG gh;have ee:(ns:Int)<=20:=by rw[CL.o]at hl;omega
 clear hl;rw[aQ.cells_def];go_enter func29,ntmps29;go_wp2_with fail
 go_region_held3 (λw'=>ae w' w (ah x.kind)/\aa w' w 1 (ah x.a)/\aa w' w 2 (ah x.b)/\aa w' w 3 (ah x.c)/\aa w' w 4 (ah x.ok)/\aa w' w 5 (X2 x.key)/\aa w' w 6 (ah x.val)/\aa w' w 7 (ah x.old)/\aa w' w 8 (Zk Am nm cm)/\aa w' w 9 (Zk As ns cs)) (simp[*])
  (first
    |(go_at_call 68;refine(HU _ (aW (ak (am w) _))).m ?_;rintro e w1 ⟨m1,s1,rfl,Ik,V⟩;have bP:=aq (aW (ak (am w) _)) V;have a_:w.heap.size<w1:=dQ V Zy;obtain⟨br,bM⟩:=dE V)
    |(go_at_call 15;refine(HS _ m1 s1 bP Ik).r λw2 X=>?_;have aZ:=aq bP X;have bd:w.heap.size<w2:=dQ X a_;obtain⟨cM,cj⟩:=dE X))
 all_goals go_wp2_with fail
 have I:=HX.below aZ (ar _);have lg:=aj I;clear I HU HS br bM cM cj a_ V X Ik bP
 go_loop [3] (λi=>∃k:Nat,k<=ns/\i=ah k/\∀j,j<k->AA (cY x.ss j)) (λi=>ns - (X8 i).toNat)
 case atStart=>exact⟨0,bU _,rfl,by omega⟩
 case round=>
  obtain⟨k,hk,rfl,yw⟩:=hrel;have D:=aj yw;clear yw;by_cases ap:k<ns
  .obtain⟨b,o,rfl,BK,bo⟩:=lg.ss.at_ k ap;have h1:=bo k ap;clear bo;by_cases Y:AA (cY x.ss k)
   .have G:=aj Y;clear Y;go_wp2_with(go_at_call 69;refine(FG _ _ _ G _).m ?_;rintro e w3 ⟨rfl,rfl⟩)
    exact⟨⟨k+1,by omega,by go_num,(λj U=>by
     by_cases e:j=k
     .rw[e];exact G
     .exact D j Zv)⟩,by simp[X8];omega⟩
   .have G:=aj Y;clear Y;go_wp2_with(go_at_call 69;refine(WS _ _ _ G _).m ?_;rintro e w3 ⟨rfl,rfl⟩)
    go_ret;exact⟨cD (by rw[al9 (by rw[CL.o];exact ap) G.o];rfl),aZ⟩
  .have dB:t7 x.ss=true:=al8 λj U=>D j (by rw[CL.o]at U;omega);have Tm:=aj dB;clear dB D;go_wp2_with fail
   go_loopw [4] (λi wr=>∃k:Nat,k<=nm/\i=ah k/\(∀j,j<k->xt x.ms j)/\∃q,wr=w2.drewN q) (λi _=>nm - (X8 i).toNat)
   case atStart=>exact⟨0,bU _,rfl,by omega,0,rfl⟩
   case round=>
    obtain⟨c,gD,rfl,yw,q,rfl⟩:=hrel;have D:=aj yw;clear yw;by_cases Z:c<nm
    .obtain⟨b,o,rfl,BK,bo⟩:=lg.ms.at_ c Z;have h1:=bo c Z;have F:0<c->w2.cell? ⟨b,o+(c - 1),none⟩=some (.int .i64 (cY x.ms (c - 1))):=λh=>bo (c - 1) (by omega);obtain⟨i1,i2⟩:=dt Z;clear bo;have y:¬xt x.ms c->Hid (ry x.ms=false):=λh=>PO (by rw[nk.o];exact Z) h;have good:xt x.ms c->Hid (∀j,j<c+1->xt x.ms j):=λh j U=>by
      by_cases e:j=c
      .rw[e];exact h
      .exact D j Zv
     by_cases A:1<=cY x.ms c/\cY x.ms c<=16
     .have z:=aj A;by_cases hz:c=0
      .have GOOD:=good ⟨A,λh=>by omega⟩;have gy8:decide (0<c)=false:=by simp;omega
       clear A y good F hz;go_wp2_with fail
       go_quiet ((go_at_call 69;first|exact LP (FG _ _ _ z _)|exact Calls.quiet_of_same (FG _ _ _ z _)))
       go_wp2
       exact⟨⟨c+1,by omega,by go_num,GOOD,_,rfl⟩,by simp[X8];omega⟩
      .have cj0:=F (by omega);have gy8:decide (0<c)=true:=by simp;omega
       have i3:IntKind.i64.wrap ((c:Int) - 1)=(c:Int) - 1:=Yr _ Zv;have i4:((c:Int) - 1).toNat=c - 1:=Zv;have i5:(0:Int)<=(c:Int) - 1:=Zv;have i6:(c:Int) - 1<(nm:Int):=Zv;by_cases O:cY x.ms (c - 1)<cY x.ms c
       .have GOOD:=good ⟨A,λ_=>O⟩;have Ad:decide (cY x.ms c<=cY x.ms (c - 1))=false:=by simpa using O
        clear A y good F hz O;go_wp2_with fail
        go_quiet ((go_at_call 69;first|exact LP (FG _ _ _ z _)|exact Calls.quiet_of_same (FG _ _ _ z _)))
        clear i3 i4
        go_wp2
        exact⟨⟨c+1,by omega,by go_num,GOOD,_,rfl⟩,by simp[X8];omega⟩
       .have C:=y (λh=>O (h.2 (by omega)));have Ad:decide (cY x.ms c<=cY x.ms (c - 1))=true:=by simp;omega
        clear A y good F hz O;go_wp2_with fail
        go_quiet ((go_at_call 69;first|exact LP (FG _ _ _ z _)|exact Calls.quiet_of_same (FG _ _ _ z _)))
        clear i3 i4
        go_wp2
        go_ret;exact⟨cD (by rw[Tm.o,C.o];rfl),Oa⟩
     .have z:=aj A;have C:=y λh=>A h.1;clear A y good F;go_wp2_with fail
      go_quiet ((go_at_call 69;first|exact LP (WS _ _ _ z _)|exact Calls.quiet_of_same (WS _ _ _ z _)))
      go_wp2
      go_ret;exact⟨cD (by rw[Tm.o,C.o];rfl),Oa⟩
    .have cz:ry x.ms=true:=am0 λj U=>D j (by rw[nk.o]at U;omega);have dh3:=aj cz;clear cz D;have J:∀b,b=oP x->(t7 x.ss&&ry x.ms&&oP x)=b:=λb hb=>by rw[Tm.o,dh3.o,hb];rfl
     have zD:=aj J;clear J;go_wp2_with fail
     go_quiet ((go_at_call 69;first|exact LP (PP _ _ _ _)|exact Calls.quiet_of_same (PP _ _ _ _)))
     by_cases F:x.kind=0
     .exact rz
     have e0:(x.kind==0)=false:=by simp[F]
     by_cases h1:x.kind=1
     .exact rz
     have e1:(x.kind==1)=false:=by simp[h1]
     by_cases h2:x.kind=2
     .exact rz
     have e2:(x.kind==2)=false:=by simp[h2]
     by_cases h3:x.kind=3
     .exact rz
     have e3:(x.kind==3)=false:=by simp[h3]
     by_cases h6:x.kind=6
     .exact rz
     have e6:(x.kind==6)=false:=by simp[h6]
     by_cases lT:x.kind=13
     .exact rz
     have nx:(x.kind==13)=false:=by simp[lT]
     by_cases h5:x.kind=5
     .exact rz
     have e5:(x.kind==5)=false:=by simp[h5]
     by_cases h4:x.kind=4
     .exact rz
     have e4:(x.kind==4)=false:=by simp[h4]
     by_cases qT:x.kind=16
     .exact rz
     have oN:(x.kind==16)=false:=by simp[qT]
     by_cases zY:x.kind=15
     .exact rz
     have nP:(x.kind==15)=false:=by simp[zY]
     by_cases h7:x.kind=7
     .exact rz
     have e7:(x.kind==7)=false:=by simp[h7]
     by_cases h8:x.kind=8
     .exact rz
     have e8:(x.kind==8)=false:=by simp[h8]
     by_cases h9:x.kind=9
     .exact rz
     have e9:(x.kind==9)=false:=by simp[h9]
     by_cases eZ:x.kind=10
     .go_wp2_with(first
       |(go_at_call 69;refine(PP _ _ _ _).m ?_;rintro e w3 ⟨rfl,rfl⟩)
       |(go_at_call 70;refine(al4 x _).r λw3 aM=>?_))
      all_goals go_ret
      all_goals refine⟨cD (zD _ (by simp[oP, *])).symm,?_⟩
      all_goals first|exact zX aZ _|exact zX (zX aZ _) _|exact aq (zX aZ _) aM|exact aq (zX (zX aZ _) _) aM
     have eB:(x.kind==10)=false:=by simp[eZ]
     by_cases cj1:x.kind=11
     .exact rz
     have jN:(x.kind==11)=false:=by simp[cj1]
     by_cases EP:x.kind=12
     .exact rz
     have jB:(x.kind==12)=false:=by simp[EP]
     by_cases uK:x.kind=14
     .exact rz
     have lK:(x.kind==14)=false:=by simp[uK]
     by_cases oX:x.kind=17
     .exact rz
     have wS:(x.kind==17)=false:=by simp[oX]
     go_wp2_with fail
     go_ret;exact⟨cD (zD _ (by simp[oP, *])).symm,Oa⟩
def am1(x:aQ)(m s:XP)(w:XO)(hx:x.In w w m s):
 aR 29 #[Zr (x.cells m s)] w (Zp (ea x)):=by
 cases hv:od x (cI x)with
 |false=>exact(dr2 x m s w hx hv).mono λe w'⟨c,j⟩=>⟨by rw[c];simp[ea,hv],j⟩
 |true=>
  by_cases y:x.ss.length<=20
  .exact(dr4 x m s w hx hv y).mono λe w'⟨c,j⟩=>⟨by rw[c];simp[ea,hv,y],j⟩
  .exact(dr3 x m s w hx hv Zv).mono λe w'⟨c,j⟩=>⟨by rw[c];simp[ea,hv,y],j⟩
def kN(x:aQ):List (List UInt8):=
 if x.ok=0 then[[103,101,116],x.key.data.toList]
 else if x.ok=1 then[[112,117,116],x.key.data.toList,XS x.val]
 else if x.ok=2 then[[99,97,115],x.key.data.toList,XS x.old,XS x.val]
 else[[97,100,100],x.key.data.toList,XS x.val]
def dH(x:aQ):List (List UInt8):=
 if x.kind=4\/x.kind=16 then[]
 else if x.kind=15 then x.ms.map XS
 else if x.kind=5 then XS x.a::x.ss.map XS
 else if x.kind=7 then[XS x.a,XS x.b]
 else if x.kind=14 then[XS x.a,XS x.b,XS x.c]
 else if x.kind=12 then[XS x.a,XS x.b,XS x.val]
 else if x.kind=10 then[XS x.a,XS x.b]++kN x
 else[XS x.a]
def dW(x:aQ):List UInt8:=Lib.join (cb x.kind.toNat::dH x) [32]
def IQ(l:List Int):fV l=YJ [32] (l.map XS):=by
 induction l with
 |nil=>rfl
 |cons n r ih=>simp[fV,ih,YJ]
def LK(x:aQ):dW x=cb x.kind.toNat++YJ [32] (dH x):=Lib.join_cons _ _ _
def aS.lit(W:XO)(l:List Int)(hl:∀x∈l,aN x)(c:l.length<=1000)(t:Ya):
 aS (W.alloc (Zq (l.map (X1 .i64)).toArray t)) (W.alloc (Zq (l.map (X1 .i64)).toArray t)).heap.size (Zk (XL (W 0 XM)) l.length l.length) l:=by
 exact am2
def aS.of1{W:XO}{h:Nat}{a:Int}(y:ae W h (ah a))(z:h<W)(c:aN a):aS W W (Zk (XL (h 0 XM)) 1 1) [a]:=
 ⟨⟨_,1,rfl,ar _,by simp[maxLen],λ_=>⟨h,0,rfl,z,λj u hj=>by
   match j,hj with
   |0,hj=>simpa using(y.t Bz)⟩⟩,by simpa using c⟩
def aS.of2{W:XO}{h:Nat}{a b:Int}(A:ae W h (ah a))(c:aa W h 1 (ah b))(C:h<W)(y:aN a)(z:aN b):aS W W (Zk (XL (h 0 XM)) 2 2) [a,b]:=
 ⟨⟨_,2,rfl,ar _,by simp[maxLen],λ_=>⟨h,0,rfl,C,λj u hj=>by
   match j,hj with
   |0,hj=>simpa using(A.t Bz)
   |1,hj=>simpa using(c.t Bz)⟩⟩,by simpa using⟨y,z⟩⟩
def oQ{W c:XO}(j:Below W.drew.heap.size W.drew c):(∀b o,b<W.heap.size->c.cell? ⟨b,o,XM⟩=W.cell? ⟨b,o,XM⟩)/\(∀b o,b<W.heap.size->c.frozen? ⟨b,o,XM⟩=W.frozen? ⟨b,o,XM⟩):=
 ⟨λb o h=>j.cell (p:=⟨b,o,XM⟩) h,λb o h=>j.frozen (p:=⟨b,o,XM⟩) h⟩
def DQ(l:List Int)(h:∀x∈l,aN x)(c:l.length<=100):(bs (fV l)).size<=2200:=by rw[eM];have:=al5 l h;omega
def WU(n:Int)(h:aN n):(bs (XS n)).size<=21:=by rw[eM];exact Lib.itoa_length_le n h.1 h.2
def AB(x:aQ):List UInt8:=if ea x then dW x else[]
def DR{x:aQ}(h:oP x=XR):0<=x.kind/\x.kind<=17:=by
 by_cases c:0<=x.kind/\x.kind<=17
 .exact c
 .exfalso;have:oP x=false:=by
   unfold oP;repeat rw[if_neg Zv]
  rw[this]at h;cases h
def DS{x:aQ}(h:ea x=XR):oP x=true:=by simp only[ea,XW]at h;exact h.2
def dr5{n a b:Int}(h:n<a):eO n a b=false:=by simp[eO];omega
def PQ{n a b:Int}:eO n a b=XR↔a<=n/\n<=b:=by simp[eO]
def za(n:Int)(w:XO):X4 X3 100 #[n] w λe w'=>e=YT (Zp (eO n 1 16))/\w'=w:=by
 go_enter func100,ntmps100
 go_wp2
 all_goals (go_ret;exact⟨cD Kv,rfl⟩)
def LZ(n:Int)(w:XO):X4 X3 101 #[n] w λe w'=>e=YT (Zp (eO n 1 8))/\w'=w:=by
 go_enter func101,ntmps101
 go_wp2
 all_goals (go_ret;exact⟨cD Kv,rfl⟩)
def WV(n:Int)(w:XO):X4 X3 118 #[n] w λe w'=>e=YT (Zp (eO n 0 8))/\w'=w:=by
 go_enter func118,ntmps118
 go_wp2
 all_goals (go_ret;exact⟨cD Kv,rfl⟩)
def PR(n:Int)(w:XO):X4 X3 103 #[n] w λe w'=>e=YT (Zp (eO n 0 1048576))/\w'=w:=by
 go_enter func103,ntmps103
 go_wp2
 all_goals (go_ret;exact⟨cD Kv,rfl⟩)
def dr6(n:Int)(w:XO):X4 X3 105 #[n] w λe w'=>e=YT (Zp (eO n 1 200))/\w'=w:=by
 go_enter func105,ntmps105
 go_wp2
 all_goals (go_ret;exact⟨cD Kv,rfl⟩)
def dr7(n:Int)(w:XO):X4 X3 108 #[n] w λe w'=>e=YT (Zp (!eO n 0 128))/\w'=w:=by
 go_enter func108,ntmps108
 go_wp2
 all_goals (go_ret;exact⟨cD (by rw[Yf];simp[eO];try omega),rfl⟩)
def am3(n:Int)(C:aN n)(w:XO):X4 X3 99 #[n] w λe w'=>e=YT (Zp (eO n 1 16||eO n 101 108))/\w'=w:=by
 have c:eO (n - 100) 1 8=eO n 101 108:=by simp only[eO];congr 1<;>exact decide_eq_decide.2 Zv
 obtain⟨h1,h2⟩:=C;by_cases hm:eO n 1 16=XR
 .go_enter func99,ntmps99;go_wp2_with(go_at_call 100;refine(za _ _).m ?_;rintro e y ⟨rfl,rfl⟩)
  go_ret;exact⟨cD (by simp[hm]),rfl⟩
 .have j:eO n 1 16=false:=by simpa using hm
  clear hm;by_cases F: -9223372036854775808<=n - 100
  .go_enter func99,ntmps99;go_wp2_with(first|(go_at_call 100;refine(za _ _).m ?_;rintro e y ⟨rfl,rfl⟩)|(go_at_call 101;refine(LZ _ _).m ?_;rintro e D ⟨rfl,rfl⟩))
   go_ret;exact⟨cD (by simp[j,c]),rfl⟩
  .have A:eO (n - 100) 1 8=false:=dr5 (by omega);have z:eO (wrap64 (n - 100)) 1 8=false:=by
    have:wrap64 (n - 100)=n - 100+18446744073709551616:=by unfold wrap64;omega
    rw[this];simp[eO];omega
   go_enter func99,ntmps99;go_wp2_with(first|(go_at_call 100;refine(za _ _).z ?_)|(go_at_call 101;refine(LZ _ _).z ?_))
   go_ret;exact⟨cD (by simp[j,<-c,A,z]),rfl⟩
def dr8{w w':XO}{base:Nat}{e:Ya}{y:Nat}{v:XP}{n:Nat}{xs:List XP}(h:w.ownsRow base e y v n xs)(A:Below w w w'):w'.ownsRow base e y v n xs:=by
 obtain⟨hl,h⟩:=h;refine⟨hl,?_⟩;rcases h with h|⟨g,cap,c,D,C,j,F⟩
 .exact .inl h
 .refine .inr ⟨g,cap,c,D,C,?_,F⟩;have z:g<w:=by
   rcases Yt g w with h|h
   .exact h
   .rw[Array.getElem?_eq_none h]at j;cases j
  rw[A.block g z];exact j
def FH:(Tryz.prog.info? 9).map (λi=>(i.zero,i.size,i.bytes))=XL (XL (X2 ⟨#[]⟩),1,16):=aI
def bR(w:XO)(base:Nat)(v:XP)(l:List ByteArray):Prop:=w.ownsRow base 9 1 v l.length (l.map X2)
def bR.below{w w':XO}{base:Nat}{v:XP}{l:List ByteArray}(h:bR w base v l)(c:Below w w w'):bR w' base v l:=dr8 h c
def bR.slS{w:XO}{base:Nat}{v:XP}{l:List ByteArray}(h:bR w base v l):cP w w v l:=Sl.of_own h
def bR.nil_(w:XO)(base:Nat):bR w base (Zk XM 0 0) []:=⟨rfl,.inl ⟨rfl,rfl⟩⟩
def bR.alloc{w:XO}{base:Nat}{v:XP}{l:List ByteArray}(h:bR w base v l)(o:Obj):(w.alloc o).ownsRow base 9 1 v l.length (l.map X2):=World.ownsRow.alloc h o
def bR.snoc{w:XO}{base:Nat}{v:XP}{l:List ByteArray}{x:ByteArray}(h:w.ownsRow base 9 1 v (l.length+1) (l.map X2++[X2 x])):bR w base v (l++[x]):=by unfold bR;rw[X0,Yp];exact h
def bR.grown{a w w':XO}{v:XP}{l:List ByteArray}(h:bR w a v l)(c:Below a a w)(j:w.grownBy w' v.ownBlock):Below a a w':=
 c.grown j c.size λk y=>(X6 h k y).1
def PT(x:ByteArray):∀u∈[X2 x],u.oneCell'=true:=uF
def rB(n:Int):ByteArray:=bs (XS n)
def Ca(v:XP)(l:List Int)(w:XO)(C:dd w)(h:aS w w v l)(I:l.length<=100000):
 X4 X3 20 #[v] w λe w'=>∃u,e=YT u/\bR w' w u (l.map rB)/\Below w w w':=by
 obtain⟨A,n,c,rfl,hn,hc,hm⟩:=h.form;obtain⟨i0,hi,cA,a_,bd⟩:=Y0 FH;have HL:=aj hn;have H:=aj h;have D:=aj C;have V:n<=100000:=Zv;clear h hn I C;go_enter func20,ntmps20;go_wp2_with fail
 go_loopw [3,8] (λs i wr=>∃k:Nat,k<=n/\i=ah k/\bR wr w s ((l.take k).map rB)/\Below w w wr) (λ_ i _=>n - (X8 i).toNat)
 case atStart=>exact⟨0,bU _,rfl,bR.nil_ _ _,am w⟩
 case round=>
  obtain⟨k,hk,rfl,bD,hb⟩:=hrel;have j:=aj bD;clear bD;by_cases ap:k<n
  .obtain⟨b,o,rfl,BK,bo⟩:=(H.below hb (ar _)).at_ k ap;have U:=bo k ap;clear bo;have G:aN (cY l k):=H.2 _ (al7 (by rw[HL.o];exact ap))
   go_wp2_with(first
    |(go_at_call 21;refine(LV _ G _ (D.step hb)).r λO y=>?_;have z:=j.below y)
    |(at_builtin;refine YV _ rfl (Zt 12) (Zt 15) _ rfl w.heap.size 9 i0 _ 1 16 Zo hi cA a_ bd rfl aD _ _ _ rfl (z.alloc _) (O 0 XM) 1 1 [X2 (bs (XS (cY l k)))] rfl rfl (cell_one_new _ _ _) (PT _) uE bN (bC hb.size (by have:=y.size;simp;omega)) ?_;intro v' X J F _))
   refine⟨⟨k+1,by omega,by go_num,?_,(z.below (ak (am _) _)).grown (ak (aq hb y) _) F⟩,by simp[X8];omega⟩;rw[al6 l k Ho,Yp];exact bR.snoc J
  .go_wp2_with fail
   go_ret;exact⟨_,rfl,by rw[Ye (by rw[HL.o];omega)]at j;exact j,hb⟩
def bX(s:ByteArray):Option Int:=
 match Lib.atoiAll s.data.toList with
 | .ok v=>if bs (XS v)=s then XL v else XM
 |_=>XM
def eU:List ByteArray->Option (List Int)
 |[]=>XL []
 |s::r=>match bX s with
  |none=>XM
  |some v=>(eU r).map (v:: ·)
def sM(cs:Array XP):List Nat->List Int->Array XP
 |o::os,v::vs=>sM (cs.setIfInBounds o (ah v)) os vs
 |_,_=>cs
def L4:∀(os:List Nat)(h:List Int)(c:Array XP),(sM c os h).size=c.size
 |[],_,c=>by simp[sM]
 |_::_,[],c=>by simp[sM]
 |o::os,v::h,c=>by rw[sM,L4 os h];simp
def am4:∀(os:List Nat)(c:List Int)(j:Array XP)(o:Nat)(v:Int),os.length=c.length->sM j (os++[o]) (c++[v])=(sM j os c).setIfInBounds o (ah v)
 |[],[],j,o,v,_=>rfl
 |[],_::_,_,_,_,h=>by simp at h
 |_::_,[],_,_,_,h=>by simp at h
 |o'::os,v'::c,j,o,v,h=>by show sM (j.setIfInBounds o' (ah v')) (os++[o]) (c++[v])=_;rw[am4 os c _ o v zH];rfl
def DT:∀{l:List ByteArray}{c:List Int},eU l=XL c->c.length=l.length
 |[],c,h=>by simp[eU]at h;subst h;rfl
 |s::r,c,h=>by
  rw[eU]at h;split at h
  .cases h
  .obtain⟨us,hu,rfl⟩:=Option.map_eq_some_iff.1 h;simp[DT hu]
def PU:∀(l:List ByteArray)(s:ByteArray),eU (l++[s])=(eU l).bind λc=>(bX s).map λv=>c++[v]
 |[],s=>by cases h:bX s<;>simp[eU,h]
 |x::r,s=>by
  rw[Yk,eU,eU];cases hx:bX x with
  |none=>rfl
  |some v=>
   rw[PU r s];cases eU r with
   |none=>rfl
   |some c=>cases bX s<;>simp
def am5:∀(l r:List ByteArray),eU l=XM->eU (l++r)=XM
 |[],_,h=>by simp[eU]at h
 |x::l,r,h=>by
  rw[Yk,eU];rw[eU]at h;cases hx:bX x with
  |none=>rfl
  |some v=>rw[hx]at h;have:eU l=none:=zH;simp[am5 l r this]
def IR{s:ByteArray}{v:Int}(h:bX s=XL v):aN v:=by
 unfold bX at h;split at h
 .rename_i v' j;split at h
  .injection h with h;subst h;have c:Lib.parseIntB 64 s.data.toList= .ok v':=by rw[Lib.parseIntB_64];exact j
   have:=Lib.parseIntB_bounds c;exact⟨by omega,by omega⟩
  .cases h
 .cases h
def am6(w:XO)(b:Nat)(t:Ya)(cs:Array XP)(offs:List Nat)(l:List ByteArray)(e:Zb)(w':XO):Prop:=
 w.grownBy w' (XL b)/\match eU l with
  |some vs=>e=YT (Zp XR)/\af w' b (sM cs offs vs) t
  |none=>e=YT (Zp XQ)/\∃cs',af w' b cs' t/\cs'.size=cs.size
def AC{a w w':XO}{y:Option Nat}(h:a.grownBy w y)(j:Below w w w'):a.grownBy w' y:=
 ⟨j.os.t h.os,j.tape.t h.tape,j.output.t h.output,bC h.size j.size,λi z A=>(j.block i (bJ z h.size)).t (h.block i z A)⟩
def PV(w:XO)(c:Option Nat):w.grownBy w c:=Zl w c
def cP.grown{w w':XO}{B b:Nat}{v:XP}{l:List ByteArray}(h:cP w B v l)(j:w.grownBy w' (XL b))(z:B<=b)(A:B<=w):cP w' B v l:=
 Sl.keep h λc o y=>Y1 (j.block c Zv On)
def dd.grown{w w':XO}{b:Nat}(h:dd w)(c:w.grownBy w' (XL b))(j:8<=b):dd w':=
 h.below (B:=8) ⟨c.os,c.tape,c.output,c.size,λk y=>c.block k (by have:=h.size;omega) On⟩ (ar _)
def ku{w:XO}{b:Nat}{C:Array XP}{t:Ya}(h:af w b C t)(o:Nat)(u:XP):(w.setCell (b o XM) u).heap[b]?=XL (Zq (C.setIfInBounds o u) t (0,0)):=by simp[YS,Array.getElem?_modify,h]
def xw{a w:XO}{b:Nat}(h:a.grownBy w (XL b))(o:Nat)(u:XP):a.grownBy (w.setCell (b o XM) u) (XL b):=
 ⟨h.os,h.tape,h.output,by simpa[YS]using h.size,λi c aT=>(Below.heap_setCell w (b o XM) u i Oo).t (h.block i c aT)⟩
def lR{w:XO}{b:Nat}{C:Array XP}{t:Ya}(h:af w b C t){o:Nat}(ho:o<C.size):w.cell? (b o XM)=XL C[o]:=by simp[Zc,h,ho]
def py{w:XO}{b:Nat}{C:Array XP}{t:Ya}(h:af w b C t)(o:Nat):w.frozen? (b o XM)=false:=by simp[World.frozen?,h]
def t8(l:List Nat)(k:Nat):Nat:=l.getD k 0
def WW(l:List ByteArray)(k:Nat)(h:k<l.length):l.take (k+1)=l.take k++[aK l k]:=by rw[List.take_succ_eq_append_getElem h,WQ h]
def dr9(l:List Nat)(k:Nat)(h:k<l.length):l.take (k+1)=l.take k++[t8 l k]:=by rw[List.take_succ_eq_append_getElem h];simp[t8,List.getD,XT h]
def Cb{l:List ByteArray}{k:Nat}(h:k<l.length):aK l k∈l:=by rw[WQ h];exact List.getElem_mem h
def ds0(l:List ByteArray)(k:Nat)(h:k<l.length):l=l.take k++(aK l k::l.drop (k+1)):=by rw[WQ h,<-List.drop_eq_getElem_cons h,List.take_append_drop]
def am7(v:XP)(l:List ByteArray)(offs:List Nat)(bu J b:Nat)(t:Ya)(cs:Array XP)(w:XO)(C:dd w)(B:Nat)
 (h:cP w B v l)(O:B<=b)(V:B<=w)(z:∀s∈l,s.size<=1000000)(y:l.length=offs.length)(U:l.length<=100000)
 (D:∀j,j<offs.length->w.cell? (bu j XM)=XL (Zs (XL ⟨b,t8 offs j,XM⟩)))(F:bu≠b)(oq:bu<w)(gm:8<=b)
 (jm:af w b cs t)(G:∀j,j<offs.length->t8 offs j<cs.size):
 X4 X3 95 #[v,Zk (XL (bu 0 XM)) offs.length J] w (am6 w b t cs offs l):=by
 obtain⟨A,n,c,rfl,hl,hc,hm⟩:=h.form;have cp3:b<w:=by exact PW
 rw[<-y,hl];have li:=aj hl;have GX:=aj (y.symm.t hl);have H:=aj h;have HG:=aj C;have uw:=aj z;have HU:=aj D;have I:=aj jm;have HI:=aj G;have Y:n<=100000:=Zv;have bp1:=aj F;clear hl y h C z D jm G U F;go_enter func95,ntmps95;go_wp2_with fail
 go_loopw [16] (λi wr=>∃(k:Nat)(vs:List Int),k<=n/\i=ah k/\eU (l.take k)=XL vs/\w.grownBy wr (XL b)/\af wr b (sM cs (offs.take k) vs) t) (λi _=>n - (X8 i).toNat)
 case atStart=>exact⟨0,[],bU _,rfl,rfl,PV _ _,I⟩
 case round=>
  obtain⟨k,vs,hk,rfl,Do,hg,jm⟩:=hrel;have HV:=aj Do;have ti:=aj hg;have iA:=aj jm;clear Do hg jm;by_cases ap:k<n
  .obtain⟨bl,ol,rfl,jG,bo⟩:=(H.grown ti O V).at_ k ap;have X:=bo k ap;have h2:wr.cell? ⟨bu,k,none⟩=some (.pointer (some ⟨b,t8 offs k,none⟩)):=by exact am8
   clear bo;exact am9
  .exact ai2
def dy4{s:ByteArray}{v:Int}(h:Lib.parseIntB 64 s.data.toList= .ok v):bX s=if bs (XS v)=s then XL v else none:=by
 have:Lib.atoiAll s.data.toList= .ok v:=by rw[<-Lib.parseIntB_64];exact h
 simp[bX,this]
def dy5{s:ByteArray}(h:∀v,Lib.parseIntB 64 s.data.toList≠ .ok v):bX s=none:=by
 have:∀v,Lib.atoiAll s.data.toList≠ .ok v:=λv=>by rw[<-Lib.parseIntB_64];exact h v
 unfold bX;split
 .rename_i v c;exact absurd c (this v)
 .rfl
def dy6(w:XO)(b:Nat)(t:Ya)(cs:Array XP)(o:Nat)(s:ByteArray)(e:Zb)(w':XO):Prop:=
 w.grownBy w' (XL b)/\∃v:Int,af w' b (cs.setIfInBounds o (ah v)) t/\e=YT (Zp (bX s).isSome)/\∀u,bX s=XL u->v=u
def PX(s:ByteArray)(b o:Nat)(t:Ya)(F:Array XP)(w:XO)(X:dd w)(hs:s.size<=1000000)(gm:8<=b)
 (jm:af w b F t)(ho:o<F.size):
 X4 X3 127 #[s,Zs (XL (b o XM))] w (dy6 w b t F o s):=by
 have Z:b<w:=by exact PW
 have O:=aj jm;have U:=aj X;clear jm X;cases hp:Lib.parseIntB 64 s.data.toList with
 |ok v=>
  have Po:aN v:=by have:=Lib.parseIntB_bounds hp;exact⟨by omega,by omega⟩
  have z:=λW=>dt0 s Zv v hp W;have I:=aj z;have A:=aj (dy4 hp);clear z hp;have key:∀r:Bool,((bs (XS v)).toList==s.toList)=r->(bX s).isSome=r/\∀u,bX s=XL u->v=u:=λr Y=>by
   rw[A.o];by_cases C:bs (XS v)=s
   .rw[if_pos C];refine⟨?_,λu h=>by injection h⟩;rw[<-Y,C];simp
   .rw[if_neg C];refine⟨?_,λu h=>by cases h⟩;rw[<-Y];symm;show _=XQ;rw[beq_eq_false_iff_ne];intro h;exact C (by rw[<-nY s,<-je,<-h,je,ie])
  have y:=aj key;clear key;go_enter func127,ntmps127
  go_wp2_with(first
   |(go_at_call 227;refine(I _).r λw1 j=>?_;have c:=(j.block b Z).t O.o;have U0:=lR c ho;have G:=py c o;have D:=xw (AC (PV w (XL b)) j) o (ah v))
   |(go_at_call 129;refine(PN _ Po _ (U.grown D gm)).r λw2 V=>?_))
  go_ret;exact⟨AC D V,v,(V.block b (by simp[YS];have:=j.size;omega)).t (ku c _ _),(cD (y _ rfl).1.symm),(y _ rfl).2⟩
 |_=>
  have J:∀v,Lib.parseIntB 64 s.data.toList≠ .ok v:=by intro v h;rw[hp]at h;cases h
  have z:=λW=>dt1 s Zv J W;have I:=aj z;have A:=aj (dy5 J);clear z hp J;go_enter func127,ntmps127
  go_wp2_with(first
   |(go_at_call 227;refine(I _ U).m ?_;rintro e w1 ⟨v1,t1,p1,rfl,j⟩;have c:=(j.block b Z).t O.o;have U0:=lR c ho;have G:=py c o;have D:=xw (AC (PV w (XL b)) j) o (ah v1)))
  go_ret;exact⟨D,_,ku c _ _,by rw[A.o];rfl,by rw[A.o];intro u h;cases h⟩
def dy7(n:Nat)(y:n<=1000000)(W:XO):
 (Instr.makeSlice 30 (ah (n:Int)) (ah (n:Int))).run X3 W= .ok (Zk (XL (W 0 XM)) n n) (W.alloc (Zq (Array.replicate n (ah 0)) 3)):=by
 refine L5 λi0 hi cA a_ bd=>?_;have j:(i0.bytes:Int)*(n:Int)<=281474976710656:=by rw[bd];omega
 have c:=run_make (P:=X3) W 30 3 i0 _ underlying30 hi cA .i64 .i64 n n Zv Zv j Zv;simp only[Int.toNat_natCast]at c;rw[c,a_];congr 3;apply Array.ext<;>simp[madeCells,Value.cells,Nat.mod_one]
def F8(w:XO)(l:List ByteArray)(e:Zb)(w':XO):Prop:=
 Below w w w'/\match eU l with
  |some vs=>∃b n c,e=YT (.tuple #[Zk (XL ⟨b,0,XM⟩) n c,Zp XR])/\aS w' w' (Zk (XL ⟨b,0,XM⟩) n c) vs/\w.heap.size<=b
  |none=>e=YT (.tuple #[Zk XM 0 0,Zp XQ])
def L6:∀{l:List ByteArray}{c:List Int},eU l=XL c->∀x∈c,aN x
 |[],c,h=>by simp[eU]at h;subst h;simp
 |s::r,c,h=>by
  rw[eU]at h;split at h
  .cases h
  .rename_i v j;obtain⟨us,hu,rfl⟩:=Option.map_eq_some_iff.1 h;intro x hx;rcases List.mem_cons.1 hx with rfl|hx
   .exact IR j
   .exact L6 hu x hx
def cP.cut1{w:XO}{B:Nat}{b o n c:Nat}{l:List ByteArray}(h:cP w B (Zk (XL (b o XM)) n c) l)(k:Nat)(D:k<n):
 cP w B (Zk (XL ⟨b,o+k,XM⟩) 1 (c - k)) [aK l k]:=by
 obtain⟨A,n',c',he,hl,ph,hm⟩:=h.form;injection he with y z F;subst y z F;obtain⟨b',o',C,hb,bo⟩:=h.at_ k D;injection C with C;injection C with y z;subst y z;refine⟨_,c - k,rfl,by simp;omega,by simp[Yd];omega,λ_=>⟨b,o+k,rfl,hb,λj u hj=>?_⟩⟩
 match j,hj with
 |0,hj=>exact(bo k D).t Bz
def dy8(v:XP)(s:ByteArray)(o c A b:Nat)(t:Ya)(y:Array XP)(w:XO)(G:dd w)(B:Nat)
 (h:cP w B v [s])(F:B<=b)(J:B<=w)(C:s.size<=1000000)
 (I:ae w c (Zs (XL (b o XM))))(V:c≠b)(U:c<w)(D:8<=b)
 (O:af w b y t)(X:o<y.size):
 X4 X3 95 #[v,Zk (XL (c 0 XM)) 1 A] w λe w'=>e=YT (Zp (bX s).isSome)/\w.grownBy w' (XL b)/\∃cs',af w' b cs' t/\cs'.size=y.size/\∀u,bX s=XL u->cs'=y.setIfInBounds o (ah u):=by
 refine(am7 v [s] [o] c A b t y w G B h F J (by simpa using C) rfl Zy (λj z=>?_) V U D O λj z=>?_).mono λe w'⟨hg,hp⟩=>?_
 .have:j=0:=by simpa using z
  subst this;exact I
 .have:j=0:=by simpa using z
  subst this;exact X
 .exact ai3
def dy9{c:List Int}{u:Int}{j:Nat}(h:j<c.length):cY (c++[u]) j=cY c j:=by simp[cY,YN h]
def dz0{c:List Int}{u:Int}:cY (c++[u]) c.length=u:=by simp[cY]
def ai4{a w w':XO}{B:Nat}(h:Below B a w)(y:w.grownBy w' (XL B))(j:B<=w):Below B a w':=
 h.grown y j (λk c=>by injection c with c;omega)
def Mw(v:XP)(l:List ByteArray)(w:XO)(hG:dd w)(h:cP w w v l)(bm:∀s∈l,s.size<=1000000)(hn:l.length<=100000):
 X4 X3 96 #[v] w (F8 w l):=by
 obtain⟨A,n,c,rfl,z,hc,hm⟩:=h.form;have li:=aj z;have H:=aj h;have HG:=aj hG;have uw:=aj bm;have iE:n<=100000:=Zv;have U:=dy7 n Zv;clear z h hG bm hn;go_enter func96,ntmps96;go_wp2_with fail
 clear U;go_loopw [11] (λi wr=>∃(k:Nat)(y:List Int)(C:Array XP),k<=n/\i=ah k/\eU (l.take k)=XL y/\Below w w wr/\af wr w.heap.size C 3/\C.size=n/\∀j,j<k->C[j]?=XL (ah (cY y j))) (λi _=>n - (X8 i).toNat)
 case atStart=>exact⟨0,[],_,bU _,rfl,rfl,ak (am w) _,by rw[Yy],by simp,by omega⟩
 case round=>
  obtain⟨k,y,C,hk,rfl,Do,hb,jm,hC,fj⟩:=hrel;have HV:=aj Do;have iA:=aj jm;have J:=aj hC;have tg:=aj fj;clear Do jm hC fj;by_cases ap:k<n
  .obtain⟨bl,ol,rfl,jG,bo⟩:=(H.below hb (ar _)).at_ k ap;have hcut:=(H.below hb (ar _)).cut1 k ap;have SE:=aj hcut;clear bo hcut;obtain⟨i1,i2⟩:=dt ap;refine Pz λi3=>?_;have i4:((k:Int)+1).toNat=k+1:=by omega
   have i5:(0:Int)<=(k:Int)+1:=Zv;have i6:(k:Int)+1<=(c:Int):=Zv;have i7:k+1<=c:=Zv;have UZ:¬c=k:=Zv;have BK:=hb;have oq:w.heap.size<wr:=by exact ai5
   have D:=aW (ak hb (Zq #[Zs (XL (w k XM))] 158));have call:=dy8 (Zk (XL ⟨bl,ol+k,XM⟩) 1 (c - k)) (aK l k) k wr 1 w 3 C (wr.alloc (Zq #[Zs (XL (w k XM))] 158)).drew
    (HG.step D) w (Sl.belowM SE (aW (ak (am wr) _)) Zv) (ar _) bN (uw _ (Cb Ku))
    jM Zv Zy HG.size ((Below.heap_alloc wr _ _ oq).t iA) (by rw[J.o];exact ap)
   have F:=aj call;have stop:bX (aK l k)=XM->eU l=none:=λh=>by exact ai6
   have STOP:=aj stop;clear call stop BK;cases hp:bX (aK l k)with
   |some u=>
    have O:=aj hp;rw[hp]at F;clear hp;go_wp2_with fail
    go_region_with (go_at_call 95;refine F.m ?_;rintro e w1 ⟨rfl,X,C1,tH,mY,Y⟩)
    all_goals go_wp2_with fail
    all_goals
     have I:y.length=k:=by rw[DT HV.o,YK,li.o];omega
     have V:=Y u rfl;have Ao:eU (l.take (k+1))=XL (y++[u]):=by rw[WW l k Ku,PU,HV.o,O.o];rfl
     exact⟨⟨k+1,y++[u],C1,by omega,by go_num,Ao,ai4 D X D.size,tH,by rw[mY,J.o],λj G=>by
      rw[V];by_cases e:j=k
      .subst e;rw[Array.getElem?_setIfInBounds_self_of_lt (by rw[J.o];exact ap),<-I,dz0]
      .rw[Array.getElem?_setIfInBounds_ne Zv,tg j Zv,dy9 Zv]⟩,by simp[X8];omega⟩
   |none=>
    have O:=aj hp;rw[hp]at F;clear hp;go_wp2_with fail
    go_region_with (go_at_call 95;refine F.m ?_;rintro e w1 ⟨rfl,X,C1,tH,mY,Y⟩)
    all_goals go_wp2_with fail
    all_goals go_ret2
    all_goals
     refine⟨ai4 D X D.size,?_⟩;rw[STOP O.o];rfl
  .go_wp2_with fail
   go_ret2
   have pf:k=n:=Zv;have z:eU l=XL y:=by have:=HV.o;rwa [Ye Of]at this
   refine⟨hb,?_⟩;rw[z];have I:y.length=n:=by rw[DT z,li.o]
   refine⟨w.heap.size,n,n,rfl,⟨⟨_,n,by rw[XY,I],by rw[XY,I];exact ar _,by simp[Yd];omega,λaT=>⟨w.heap.size,0,rfl,?_,λj u G=>?_⟩⟩,L6 z⟩,ar _⟩
   .exact ai5
   .have Z:j<y.length:=by
     rcases Yt j y.length with h|h
     .exact h
     .rw[List.getElem?_eq_none zH]at G;cases G
    have:=tg j Zv;simp only[Zc,iA.o,Y9];simp only[Option.isSome_none,Yh,if_false];rw[this,<-G,X5,XT Z,LW Z];rfl
end
section
open Go Go.RowKit Go.MapKept Go.ChangeMaps Go.Proofs.Tryz
def bV:Nat->List (XP×XP)->List MapEntry
 |_,[]=>[]
 |i,p::r=>⟨p.1,p.2,i⟩::bV (i+1) r
def ai7(p:XP×XP):∀(l:List (XP×XP))(i:Nat),bV i (l++[p])=bV i l++[⟨p.1,p.2,i+l.length⟩]
 |[],i=>by simp[bV]
 |a::l,i=>by simp[bV,ai7 p l (i+1)];omega
def DU{x:MapEntry}:∀{l:List (XP×XP)}{i:Nat},x∈bV i l->∃j,l[j]?=XL (x.key,x.val)/\x.born=i+j
 |[],_,h=>by simp[bV]at h
 |a::l,i,h=>by
  simp only[bV,Ys]at h;rcases h with rfl|h
  .exact⟨0,by simp⟩
  .obtain⟨j,h1,h2⟩:=DU h;exact⟨j+1,by simpa using h1,by omega⟩
def PA:∀(l:List (XP×XP))(i j:Nat)(p:XP×XP),l[j]?=XL p->⟨p.1,p.2,i+j⟩∈bV i l
 |[],_,_,_,h=>by simp at h
 |a::l,i,0,p,h=>by simp at h;subst h;simp[bV]
 |a::l,i,j+1,p,h=>by
  have:=PA l (i+1) j p zH;simp only[bV,Ys];right;have e:i+1+j=i+(j+1):=Zv
  rwa [e]at this
def PB:∀(l:List (XP×XP))(i j:Nat),(bV i l)[j]?=(l[j]?).map λp=>⟨p.1,p.2,i+j⟩
 |[],_,_=>by simp[bV]
 |a::l,i,0=>by simp[bV]
 |a::l,i,j+1=>by simp only[bV,List.getElem?_cons_succ,PB l (i+1) j];have e:i+1+j=i+(j+1):=Zv;rw[e]
def ai8:∀(l:List (XP×XP))(i:Nat),((bV i l).map (·.born)).Nodup
 |[],_=>by simp[bV]
 |a::l,i=>by simp only[bV,Yg,List.nodup_cons];refine⟨λh=>?_,ai8 l (i+1)⟩;obtain⟨x,hx,e⟩:=List.mem_map.1 h;obtain⟨j,_,hj⟩:=DU hx;omega
def gy(w:XO)(b:Nat)(l:List (XP×XP)):Prop:=w.heap[b]?=XL (.map (bV 0 l).toArray l.length)
def gy.lt{w:XO}{b:Nat}{l:List (XP×XP)}(h:gy w b l):b<w:=(Array.getElem?_eq_some_iff.1 h).1
def gy.below{B b:Nat}{w w':XO}{l:List (XP×XP)}(h:gy w b l)(j:Below B w w')(c:b<B):gy w' b l:=(j.block b c).t h
def gy.later{b:Nat}{w w':XO}{l:List (XP×XP)}(h:gy w b l)(c:Below w w w'):gy w' b l:=h.below c h.lt
def gy.made(w:XO):gy (w.alloc (.map #[] 0)) w []:=(heap_alloc w _).1
def dz1{B b:Nat}{c w:XO}(h:Below B c w)(y:B<=b){o:Obj}:Below B c (setBlock w b o):=
 ⟨h.os,h.tape,h.output,by simpa[setBlock]using h.size,λi j=>by show(w.heap.setIfInBounds b o)[i]?=_;rw[Array.getElem?_setIfInBounds_ne Zv];exact h.block i j⟩
def j5(w w':XO)(b:Nat):Prop:=(∀B w0,Below B w0 w->B<=b->Below B w0 w')/\w'.heap.size=w.heap.size/\∀i,i≠b->w'.heap[i]?=w.heap[i]?
def IS(w:XO)(b:Nat)(o:Obj):j5 w (setBlock w b o) b:=
 ⟨λ_ _ h c=>dz1 h c,by simp[setBlock],λi j=>by show(w.heap.setIfInBounds b o)[i]?=_;rw[Array.getElem?_setIfInBounds_ne Zv]⟩
def j5.cell{w w':XO}{b:Nat}(h:j5 w w' b){a:Zf}(c:a.block≠b):w'.cell? a=w.cell? a:=by unfold Zc;rw[h.2.2 _ c]
section
variable {P:Zh} (w:XO) {ops:Array YO} {rest:List YO} {o:YO} {a:Act} {Q:Exit->Act->XO->Prop}
theorem ai9{P:Zh}{w:XO}{t k e:Ya}{d:TypeDesc}{b:Nat}{l:List (XP×XP)}(I:P.underlying t=XL (.map k e))(A:P.underlying k=XL d)(G:gy w b l)
 {key:XP}(val:XP)(y:IsKey d key)(O:∀p∈l,IsKey d p.1/\p.1≠key):
 (Instr.mapUpdate t (.map (XL b)) key val).run P w= .ok () (setBlock w b (.map (bV 0 (l++[(key,val)])).toArray (l++[(key,val)]).length)):=by
 have c:∀x∈bV 0 l,IsKey d x.key/\x.key≠key:=λx hx=>by obtain⟨j,hj,_⟩:=DU hx;exact O _ (eE hj)
 rcases findNow_spec y (bV 0 l) 0 (λx hx=>(c x hx).1)with⟨C,_⟩|⟨j,x,_,D,F⟩
 .have z:w.heap[b]?=XL (.map (bV 0 l).toArray l.length):=G;have J:Instr.findNow d key (bV 0 l).toArray.toList 0=XL none:=C;simp only[Instr.mapUpdate,run_underlying I,MapKept.run_getObj_map z,MapKept.run_checkKey A y,MapKept.run_findKey A J,MapKept.run_setObj_map _ z,Result.andThen,Sem.run_bind,setBlock,ai7,X0,Yl,Y9];simp
 .exact absurd F (c x (eE D)).2
theorem xx(D:o.guard=XM)(m x v:Operand)(t:Ya)(dO:o.op=Op.mapUpdate t m x v\/o.op=Op.insert t m x v)
 (k e:Ya)(d:TypeDesc)(G:P.underlying t=XL (.map k e))(F:P.underlying k=XL d)(b:Nat)(l:List (XP×XP))(hm:a.eval m= .map (XL b))(z:gy w b l)
 (key val:XP)(hx:a.eval x=key)(hv:a.eval v=val)(C:IsKey d key)(I:∀p∈l,IsKey d p.1/\p.1≠key)
 (y:∀w',gy w' b (l++[(key,val)])->j5 w w' b->wpList P ops Q rest (a.put o.dst YQ) w'):
 wpList P ops Q (o::rest) a w:=by
 refine wpList_plain D λJ A=>?_;have fB:=ai9 G F z val C I;have c:gy (setBlock w b (.map (bV 0 (l++[(key,val)])).toArray (l++[(key,val)]).length)) b (l++[(key,val)]):=heap_setBlock_same z _;unfold Zm;have j:=y _ c (IS _ _ _);have h4:=A _ _ j;clear c j y A;generalize setBlock w b (.map (bV 0 (l++[(key,val)])).toArray (l++[(key,val)]).length)=W at fB h4;exact WX
theorem My{P:Zh}{w:XO}{t k e:Ya}{d:TypeDesc}{b:Nat}{l:List (XP×XP)}(U:P.underlying t=XL (.map k e))(A:P.underlying k=XL d)(O:gy w b l)
 {key v:XP}(c:Bool)(C:IsKey d key)(X:∀p∈l,IsKey d p.1)(I:∀p∈l,p.1=key->p.2=v)(V:∃p∈l,p.1=key):
 (Yu t (.map (XL b)) key c).run P w= .ok (if c then .tuple #[v,Zp XR]else v) w:=by
 have z:∀x∈bV 0 l,IsKey d x.key/\(x.key=key->x.val=v):=λx hx=>by obtain⟨j,hj,_⟩:=DU hx;exact⟨X _ (eE hj),I _ (eE hj)⟩
 have J:w.heap[b]?=XL (.map (bV 0 l).toArray l.length):=O;rcases findNow_spec C (bV 0 l) 0 (λx hx=>(z x hx).1)with⟨_,y⟩|⟨j,x,y,D,F⟩
 .obtain⟨p,hp,he⟩:=V;obtain⟨j,hj⟩:=List.mem_iff_getElem?.1 hp;exact absurd he (y _ (PA l 0 j p hj))
 .have G:Instr.findNow d key (bV 0 l).toArray.toList 0=XL (XL (0+j,x.val)):=y;rw[(z x (eE D)).2 F]at G;simp only[Yu,run_underlying U,MapKept.run_getObj_map J,MapKept.run_checkKey A C,MapKept.run_findKey A G,Result.andThen,Sem.run_bind];rw[(z x (eE D)).2 F]at y;cases c<;>simp[MapKept.run_findKey A y]
theorem WY{P:Zh}{w:XO}{t k e:Ya}{d:TypeDesc}{b:Nat}{l:List (XP×XP)}(U:P.underlying t=XL (.map k e))(y:P.underlying k=XL d)(O:gy w b l)
 {key z:XP}(c:Bool)(C:IsKey d key)(X:∀p∈l,IsKey d p.1/\p.1≠key)(F:(zeroValue e).run P w= .ok z w):
 (Yu t (.map (XL b)) key c).run P w= .ok (if c then .tuple #[z,Zp XQ]else z) w:=by
 have A:∀x∈bV 0 l,IsKey d x.key/\x.key≠key:=λx hx=>by obtain⟨j,hj,_⟩:=DU hx;exact X _ (eE hj)
 have G:w.heap[b]?=XL (.map (bV 0 l).toArray l.length):=O;rcases findNow_spec C (bV 0 l) 0 (λx hx=>(A x hx).1)with⟨D,_⟩|⟨j,x,_,I,J⟩
 .have V:Instr.findNow d key (bV 0 l).toArray.toList 0=XL none:=D;simp only[Yu,run_underlying U,MapKept.run_getObj_map G,MapKept.run_checkKey y C,MapKept.run_findKey y V,Result.andThen,Sem.run_bind,F];cases c<;>simp[MapKept.run_findKey y D,F]
 .exact absurd J (A x (eE I)).2
theorem aj0(A:o.guard=XM)(m x:Operand)(t:Ya)(c:Bool)(dO:o.op=Op.lookup t m x c)
 (k e:Ya)(d:TypeDesc)(D:P.underlying t=XL (.map k e))(C:P.underlying k=XL d)(b:Nat)(l:List (XP×XP))(hm:a.eval m= .map (XL b))(z:gy w b l)
 (key v:XP)(hx:a.eval x=key)(y:IsKey d key)(G:∀p∈l,IsKey d p.1)(j:∀p∈l,p.1=key->p.2=v)(F:∃p∈l,p.1=key)
 (hK:wpList P ops Q rest (a.put o.dst (if c then .tuple #[v,Zp XR]else v)) w):
 wpList P ops Q (o::rest) a w:=by
 refine wpList_plain A λI iV=>?_;have fB:=My D C z c y G j F;exact WZ
theorem dz2(A:o.guard=XM)(m x:Operand)(t:Ya)(c:Bool)(dO:o.op=Op.lookup t m x c)
 (k e:Ya)(d:TypeDesc)(D:P.underlying t=XL (.map k e))(C:P.underlying k=XL d)(b:Nat)(l:List (XP×XP))(hm:a.eval m= .map (XL b))(y:gy w b l)
 (key z:XP)(hx:a.eval x=key)(j:IsKey d key)(G:∀p∈l,IsKey d p.1/\p.1≠key)(F:(zeroValue e).run P w= .ok z w)
 (hK:wpList P ops Q rest (a.put o.dst (if c then .tuple #[z,Zp XQ]else z)) w):
 wpList P ops Q (o::rest) a w:=by
 refine wpList_plain A λI iV=>?_;have fB:=WY D C y c j G F;exact WZ
def xy(w:XO)(b r:Nat)(l:List (XP×XP))(seen:Array Nat):Prop:=
 ∃c0,gy w b l/\w.heap[r]?=XL (.mapIter (XL b) l.length seen c0)/\l.length<=c0
theorem xy.below{B b r:Nat}{w w':XO}{l:List (XP×XP)}{seen:Array Nat}(h:xy w b r l seen)(c:Below B w w')(j:b<B)(y:r<B):xy w' b r l seen:=by obtain⟨c0,hm,hr,hc⟩:=h;exact⟨c0,hm.below c j,(c.block r y).t hr,hc⟩
theorem xy.lt{w:XO}{b r:Nat}{l:List (XP×XP)}{seen:Array Nat}(h:xy w b r l seen):b<w/\r<w:=by obtain⟨c0,hm,hr,_⟩:=h;exact⟨hm.lt,(Array.getElem?_eq_some_iff.1 hr).1⟩
theorem xy.left{w:XO}{b r:Nat}{l:List (XP×XP)}{seen:Array Nat}(h:xy w b r l seen):w.rangeLeft b r=(leftOf (bV 0 l).toArray seen).size:=by obtain⟨c0,hm,hr,_⟩:=h;have c:w.heap[b]?=XL (.map (bV 0 l).toArray l.length):=hm;simp only[World.rangeLeft,c,hr]
theorem dz3(A:o.guard=XM)(m:Operand)(t:Ya)(j:o.op=Op.range t m)(k e:Ya)(C:P.underlying t=XL (.map k e))(b:Nat)(l:List (XP×XP))
 (hm:a.eval m= .map (XL b))(c:gy w b l)
 (z:∀w',xy w' b w l #[]->Below w w w'->w'.heap.size=w.heap.size+1->wpList P ops Q rest (a.put o.dst (Zs (XL w))) w'):
 wpList P ops Q (o::rest) a w:=by
 refine wpList_plain A λF D=>?_;have y:=run_range_map w t k e b _ _ C c;unfold Zm;simp[Y7,j,hm,y,Result.andThen];refine D _ _ (z _ ⟨l.length,c.later (ak (am w) _),(heap_alloc w _).1,ar _⟩ (ak (am w) _) Zy)
theorem wpList_step(hg:o.guard=XM)(it:Operand)(Y:o.op=Op.next it XQ)(b r:Nat)(l:List (XP×XP))(seen:Array Nat)
 (z:a.eval it=Zs (XL r))(h:xy w b r l seen)
 (F:(∀i,i<l.length->seen.contains i=XR)->wpList P ops Q rest (a.put o.dst (.tuple #[Zp XQ])) w)
 (G:∀(i:Nat)(k v:XP)(w':XO),l[i]?=XL (k,v)->seen.contains i=XQ->xy w' b r l (seen.push i)->w'.rangeLeft b r<w.rangeLeft b r->j5 w w' r->
   (Instr.entry (Zs (XL r))).run P w'= .ok (.tuple #[k,v]) w'->wpList P ops Q rest (a.put o.dst (.tuple #[Zp XR,k,v])) w'):
 wpList P ops Q (o::rest) a w:=by
 refine wpList_plain hg λK' iV=>?_;have I:=h.left;have h':=h;obtain⟨c0,hm,hr,hc⟩:=h;have hold:∀x∈(bV 0 l).toArray.toList,x.born<l.length:=λx hx=>by obtain⟨j,hj,e⟩:=DU hx;have:=(List.getElem?_eq_some_iff.1 hj).1;omega
 have aT:b≠r:=by intro e;subst e;have rh:w.heap[b]?=XL (.map (bV 0 l).toArray l.length):=hm;rw[rh]at hr;cases hr
 unfold Zm;rcases run_next_at (P:=P) w o.type r b l.length c0 seen _ _ hr hm hold hc with⟨h0,D⟩|⟨x,hx,c,O,D⟩
 .simp[Y7,Y,z,D,Result.andThen];refine iV _ _ (F λi hi=>?_);have:=all_seen _ seen h0 _ (PA l 0 i l[i] (XT hi));simpa using this
 .obtain⟨cy3,IF⟩:=mem_left hx;obtain⟨j,hj,hb⟩:=DU cy3;rw[Nat.zero_add]at hb;have pJ:=left_shrinks _ seen x hx;have cr:c.heap[b]?=some (.map (bV 0 l).toArray l.length):=by rcases O with rfl|rfl<;>exact hm
  have cd:c.heap[r]?=XL (.mapIter (XL b) l.length seen c0):=by rcases O with rfl|rfl<;>exact hr
  have C:=heap_set (o':= .mapIter (XL b) l.length (seen.push x.born) l.length) cd;have X:(setBlock c r (.mapIter (XL b) l.length (seen.push x.born) l.length)).heap[b]?=XL (.map (bV 0 l).toArray l.length):=(C.2 b aT).t cr;have J:xy (setBlock c r (.mapIter (XL b) l.length (seen.push x.born) l.length)) b r l (seen.push x.born):=⟨l.length,X,C.1,ar _⟩;have V:(setBlock c r (.mapIter (XL b) l.length (seen.push x.born) l.length)).rangeLeft b r<w.rangeLeft b r:=by rw[J.left,I];exact pJ
  have A:=IS c r (.mapIter (XL b) l.length (seen.push x.born) l.length);have Z:j5 w (setBlock c r (.mapIter (XL b) l.length (seen.push x.born) l.length)) r:=by
   rcases O with rfl|rfl
   .exact A
   .exact⟨λB w0 y fl=>A.1 B w0 ⟨y.os,y.tape,y.output,y.size,y.block⟩ fl,A.2.1,A.2.2⟩
  have U:=run_entry_at (P:=P) (setBlock c r (.mapIter (XL b) l.length (seen.push x.born) l.length)) r b l.length seen _ _ x C.1 X cy3 (ai8 l 0);simp[Y7,Y,z,D,Result.andThen];rw[hb]at IF J V Z U⊢
  exact iV _ _ (G j x.key x.val _ hj IF J V Z U)
end
def Cc(r:Nat):Bool:=XN (r<33)||XN (126<r)
def dz4{s:ByteArray}{i:Nat}(h:y' (s.get! i)=XR):Utf8.decode s i=((s.get! i).toNat,1):=by have:=(LY _).1 h;unfold Utf8.decode;simp only[X7];rw[if_pos Zv]
def dz5{s:ByteArray}{i:Nat}(h:y' (s.get! i)=XQ):Cc (Utf8.decode s i).1=true:=by
 have c:¬(33<=(s.get! i).toNat/\(s.get! i).toNat<=126):=by rw[<-LY,h];simp
 unfold Utf8.decode Cc;simp only[X7,Utf8.runeError];split
 .simp;omega
 .exact aj1
def aj2(s:ByteArray):∀(f pos:Nat),s.size<=pos+f->(0<=Lib.idxFuncFrom Cc XR s f pos↔∃k,pos<=k/\k<s.size/\y' (s.get! k)=XQ)
 |0,pos,h=>by simp only[Lib.idxFuncFrom];exact PC
 |f+1,pos,h=>by
  simp only[Lib.idxFuncFrom];by_cases c:pos<s.size
  .rw[if_pos c];cases ho:y' (s.get! pos)with
   |true=>
    have j:=dz4 ho;have y:Cc (s.get! pos).toNat=false:=by have:=(LY _).1 ho;simp[Cc];omega
    rw[j];simp only[y,Yh,if_false];rw[aj2 s f (pos+1) Zv];exact aj3
   |false=>rw[if_pos (dz5 ho)];exact⟨λ_=>⟨pos,ar _,c,ho⟩,λ_=>by omega⟩
  .rw[if_neg c];exact PC
def W_(s:ByteArray)(k:Nat)(h:k<s.size):s.get! k=s[k]:=by rw[ByteArray.getElem_eq_getElem_data];exact getElem!_pos s.data k h
def dz6(s:ByteArray):XN (0<=Lib.idxFunc Cc XR s)= !xr s:=by
 have h:=aj2 s s.size 0 Zv;cases c:xr s with
 |true=>
  simp only[Bool.not_true,decide_eq_false_iff_not];rw[Lib.idxFunc,h];rintro⟨k,_,j,y⟩;rw[W_ s k j]at y;rw[al3 j (by simp[y])]at c;cases c
 |false=>
  simp only[Bool.not_false,decide_eq_true_eq];rw[Lib.idxFunc,h];apply Classical.byContradiction;intro z;rw[al2 (λk c=>by
   cases ho:y' s[k]with
   |true=>rfl
   |false=>exact absurd ⟨k,bU _,c,by rw[W_ s k c];exact ho⟩ z)]at c
  cases c
def dz7(w:XO):PredAt X3 226 #[] Go.Proofs.encR Cc w:=by
 intro W r _;show X4 _ _ _ _ _;go_enter func226,ntmps226
 go_wp2
 .go_ret;refine⟨?_,0,rfl⟩;have c:XN ((r:Int)<33)=XN (r<33):=decide_eq_decide.2 Zv;have j:XN ((126:Int)<r)=XN (126<r):=decide_eq_decide.2 Zv;show YT (Zp (XN ((r:Int)<33)||XN ((126:Int)<r)))=_;rw[c,j];rfl
 .go_ret;refine⟨?_,0,rfl⟩;show YT (Zp XR)=_;simp only[Cc,Ending.returned.injEq,Value.bool.injEq];simp;omega
def aj4{s:ByteArray}:s.toList=[]↔s.size=0:=by rw[je];have e:s.size=s.data.toList.length:=Oh;rw[e];exact List.length_eq_zero_iff.symm
def dz8(x:aQ)(w:XO):
 aR 119 #[Zr (Az x)] w (Zp (ve x)):=by
 have j:=λW=>strings_ContainsFunc 226 #[] (XX func226 aI rfl) Cc x.key W (dz7 W);simp only[dz6]at j;have y:=aj j;clear j;rw[Az];go_enter func119,ntmps119;go_wp2_with(go_at_call 158;refine(y _).r λD c=>?_;have z:=aq (ak (am w) _) c;have A:w.heap.size<D:=dQ c Zy;obtain⟨br,bM⟩:=dE c)
 all_goals
  go_ret;refine⟨cD ?_,by first|exact z|exact ak (am w) _⟩;clear y;rw[Yf];simp_all only[ve,aj4,List.isEmpty_iff,XW,YX,decide_eq_true_eq,beq_iff_eq,YZ,bne_iff_ne,beq_eq_false_iff_ne,not_or,Yh,false_iff,ne_eq,true_iff,not_true,not_false_iff,Bool.not_eq_false,Bool.not_eq_true];try clear c
  try clear br
  try clear bM
  try clear z
  try clear A
  try(cases C:xr x.key<;>simp only[C,false_and,or_self,List.isEmpty_eq_false_iff,aj4,ne_eq,Bool.not_eq_false',Bool.not_true,Bool.not_false,Yh,and_false,not_false_iff,and_true,or_true,or_false,Bool.true_eq_false,reduceCtorEq,false_or,true_and,not_true_eq_false,not_false_eq_true]at* <;>omega)
def xz(x:aQ):List ByteArray:=
 if x.ok=0 then[bs [103,101,116],x.key]else if x.ok=1 then[bs [112,117,116],x.key,bs (XS x.val)]else
 if x.ok=2 then[bs [99,97,115],x.key,bs (XS x.old),bs (XS x.val)]else[bs [97,100,100],x.key,bs (XS x.val)]
def Cd{k:Int}:IsKey (.int .i64) (.int .i64 k):=rfl
def zb(W:XO)(k:Nat)(l:List ByteArray):Prop:=k<W/\∀j u,(l.map X2)[j]?=XL u->W.cell? (k j XM)=XL u
def DV{W c:XO}{b k j:Nat}{o:Obj}(y:j5 (W.alloc o) c b)(z:k<W)(h:k≠b):c.cell? (k j XM)=W.cell? (k j XM):=
 (y.cell (by simpa using h)).t ((ak (am W) o).cell (p:=k j XM) z)
def Ce{W c:XO}{b k:Nat}{o:Obj}(j:j5 (W.alloc o) c b)(h:k<W):k<c:=by rw[j.2.1];simp;omega
def zb.put{W c:XO}{b k:Nat}{o:Obj}{l:List ByteArray}(h:zb W k l)(y:j5 (W.alloc o) c b)(z:k≠b):zb c k l:=
 ⟨Ce y h.1,λj u A=>(DV y h.1 z).t (h.2 j u A)⟩
def zb.new_{W c:XO}{b t:Nat}{C:Array XP}{l:List ByteArray}(y:j5 (W.alloc (Zq C t)) c b)(D:b<W)(z:C=(l.map X2).toArray):zb c W l:=
 ⟨by rw[y.2.1];simp,λj u A=>by rw[y.cell bN,z];simp only[Zc,Yy];simpa using A⟩
def zb.slS{W:XO}{k n:Nat}{l:List ByteArray}(h:zb W k l)(c:n=l.length)(z:l.length<=100):cP W W (Zk (XL (k 0 XM)) n n) l:=by subst c;exact⟨_,l.length,by simp,by simp,by simp[Yd];omega,λ_=>⟨k,0,rfl,h.1,λj u y=>by rw[Y9];exact h.2 j u y⟩⟩
def dz9(x:aQ)(w:XO)(hG:dd w)(Y:0<=x.ok)(Z:x.ok<=3)(hv:aN x.val)(ho:aN x.old):
 X4 X3 123 #[Zr (Az x)] w λe w'=>∃u,e=YT u/\cP w' w' u (xz x)/\Below w w w':=by
 have H0:=aj Y;have H3:=aj Z;have V:=aj λW(hg:dd W)=>PN x.val hv W hg;have SK:=aj λW(hg:dd W)=>PN x.old ho W hg;have HG:=aj hG;refine vg λmG=>?_;clear Y Z hG hv ho;rw[Az];go_enter func123,ntmps123;go_wp2_with fail
 go_region_held3 (λw'=>aa w' w 2 (ah x.val)/\aa w' w 3 (ah x.old)) (go_simp)
  (first
    |(go_at_call_of 129 (ah x.val);refine(V _ (HG.step (aW (ak (am w) _)))).r λw1 I=>?_;have U:=aq (aW (ak (am w) _)) I;have a_:w.heap.size<w1:=dQ I Zy;obtain⟨br,bM⟩:=oQ I)
    |(go_at_call_of 129 (ah x.old);refine(SK _ (HG.step U)).r λc J=>?_;have aZ:=aq U J;have bd:w.heap.size<c:=dQ J a_;obtain⟨cM,cj⟩:=dE J))
 have OH:=gy.made c;have z:¬w.heap.size=c.heap.size:=Zv;have pm:w.heap.size<c+1:=Zv;have Ar:w.heap.size<c+1+1:=Zv;have k1:aa c w 1 (X2 x.key):=jM;have k0:ae c w (ah x.ok):=jM;have X:=ak aZ (.map #[] 0);clear br bM cM cj I J U aZ
 go_wp2_with(first
  |(refine xx _ rfl (.tmp 11) (.const (.int .i64 0)) (.tmp 14) 235 (.inr rfl) 3 22 _ underlying235 underlying3 c _ rfl (OH.later (ak (am _) _)) (.int .i64 0) (.slice (some ⟨c+1,0,none⟩) 2 2) rfl rfl Cd (by simp) ?_;intro C jR G;have m3:c.heap.size<C:=Ce G (by simp);have z3:w.heap.size<C:=Ce G (by simp;omega);have z3a:w.heap.size<C+1:=by omega
    have k3:aa C w 1 (X2 x.key):=(DV G bN z).t jM;have o3:ae C w (ah x.ok):=(DV G bN z).t jM;have s3:=zb.new_ (l:=[bs [103,101,116],x.key]) G Zy rfl;have du:=G.1 w w (ak X _) Zv)
  |(refine xx _ rfl (.tmp 11) (.const (.int .i64 1)) (.tmp 18) 235 (.inr rfl) 3 22 _ underlying235 underlying3 c _ rfl (jR.later (ak (am _) _)) (.int .i64 1) (.slice (some ⟨C,0,none⟩) 3 3) rfl rfl Cd (by simp[Cd]) ?_;intro D jS A;have m4:c.heap.size<D:=Ce A m3;have z4:w.heap.size<D:=Ce A z3;have z4a:w.heap.size<D+1:=by omega
    have k4:aa D w 1 (X2 x.key):=(DV A z3 z).t k3;have o4:ae D w (ah x.ok):=(DV A z3 z).t o3;have s4:=zb.new_ (l:=[bs [112,117,116],x.key,bs (XS x.val)]) A m3 rfl;have hi3:=s3.put A Zy;have gP:=A.1 w w (ak du _) Zv)
  |(refine xx _ rfl (.tmp 11) (.const (.int .i64 2)) (.tmp 23) 235 (.inr rfl) 3 22 _ underlying235 underlying3 c _ rfl (jS.later (ak (am _) _)) (.int .i64 2) (.slice (some ⟨D,0,none⟩) 4 4) rfl rfl Cd (by simp[Cd]) ?_;intro F jT j;have m5:c.heap.size<F:=Ce j m4;have z5:w.heap.size<F:=Ce j z4;have z5a:w.heap.size<F+1:=by omega
    have k5:aa F w 1 (X2 x.key):=(DV j z4 z).t k4;have o5:ae F w (ah x.ok):=(DV j z4 z).t o4;have s5:=zb.new_ (l:=[bs [99,97,115],x.key,bs (XS x.old),bs (XS x.val)]) j m4 rfl;have hi4:=hi3.put j Zy;have hi6:=s4.put j Zv;have kV:=j.1 w w (ak gP _) Zv)
  |(refine xx _ rfl (Zt 11) (Zu (ah 3)) (Zt 27) 235 (.inr rfl) 3 22 _ Yx XZ c _ rfl (jT.later (ak (am _) _)) (ah 3) (Zk (XL (F 0 XM)) 3 3) rfl rfl Cd (by simp[Cd]) ?_;intro w6 vN y;have m6:c.heap.size<w6:=Ce y m5;have z6:w.heap.size<w6:=Ce y z5;have o6:ae w6 w (ah x.ok):=(DV y z5 z).t o5;have s6:=zb.new_ (l:=[bs [97,100,100],x.key,bs (XS x.val)]) y m5 rfl;have hi5:=hi4.put y Zy;have hi7:=hi6.put y Zv;have hi8:=s5.put y Zv;have O:=y.1 w w (ak kV _) Zv)
  |(refine aj0 _ rfl (Zt 28) (Zt 30) 235 XQ rfl 3 22 _ Yx XZ c _ rfl vN (ah x.ok)
     (if x.ok=0 then .slice (XL ⟨c+1,0,XM⟩) 2 2 else if x.ok=1 then .slice (XL (C 0 XM)) 3 3 else if x.ok=2 then .slice (XL (D 0 XM)) 4 4 else .slice (XL (F 0 XM)) 3 3) rfl Cd (by simp[Cd])
     (λp hp he=>by simp only[YA,Yk,Ys,Yq,or_false]at hp;rcases hp with rfl|rfl|rfl|rfl<;>simp only[Value.int.injEq,true_and]at he<;>simp[<-he])
     (by have Y:=H0.o;have Z:=H3.o;rcases(show x.ok=0\/x.ok=1\/x.ok=2\/x.ok=3 by omega)with h|h|h|h<;>simp[h]) ?_))
 .go_ret;refine⟨_,rfl,?_,O⟩;rw[xz,if_pos x_];have h:=hi5.slS (n:=2) rfl Zy;rw[show(c.alloc (Obj.map #[] 0)).heap.size=c.heap.size+1 by simp]at h;exact h
 .go_ret;refine⟨_,rfl,?_,O⟩;rw[xz,if_neg x_,if_pos x_];exact hi7.slS rfl Zy
 .go_ret;refine⟨_,rfl,?_,O⟩;rw[xz,if_neg x_,if_neg x_,if_pos x_];exact hi8.slS rfl Zy
 .go_ret;refine⟨_,rfl,?_,O⟩;rw[xz,if_neg x_,if_neg x_,if_neg x_];exact s6.slS rfl Zy
end
section
open Go Go.RowKit Go.Proofs.Tryz
def fJ{α:Type}(c:α->List α->Bool)(b xs:List α)(j:Nat):Bool:=match xs[j]? with|some x=>c x (b++xs.take j)|none=>XR
def FD{α:Type}{c:α->List α->Bool}{b xs:List α}{j:Nat}{x:α}(h:xs[j]?=XL x):fJ c b xs j=c x (b++xs.take j):=by unfold fJ;rw[h]
def eV(P:Nat->Bool)(n:Nat):Bool:=(Yz n).all P
def wj{P:Nat->Bool}{n k:Nat}(c:k<n)(h:P k=XQ):eV P n=false:=by unfold eV;rw[List.all_eq_false];exact⟨k,List.mem_range.2 c,by simp[h]⟩
def AU{P:Nat->Bool}{n:Nat}(h:∀j,j<n->P j=XR):eV P n=true:=by unfold eV;rw[Yn];exact λj c=>h j (List.mem_range.1 c)
def xI{α:Type}(c:α->List α->Bool):∀(xs b:List α),eD c b xs=eV (fJ c b xs) xs.length
 |[],b=>rfl
 |x::r,b=>by
  rw[eD,xI c r (b++[x])];unfold eV;rw[YF,List.range_succ_eq_map,List.all_cons,List.all_map];congr 1
  .simp[fJ]
  .congr 1;funext j;simp[fJ,Function.comp]
def Z5{α:Type}(xs:List α)(p:α->Bool):eV (kg xs p) xs.length=xs.all p:=by
 rw[Yf];unfold eV;rw[Yn,Yn];constructor
 .intro h x hx;obtain⟨j,c⟩:=List.mem_iff_getElem?.1 hx;have:=h j (List.mem_range.2 (List.getElem?_eq_some_iff.1 c).1)
  rwa [fW c]at this
 .intro h j c;have y:=List.mem_range.1 c;rw[fW (XT y)];exact h _ (List.getElem_mem y)
def ci.take{α:Type}{k:Nat}{R:XO->Nat->List XP->α->Prop}{w:XO}{B n c:Nat}{A:Option Zf}{xs:List α}(h:ci k R w B (Zk A n c) xs){j:Nat}(F:j<=n):ci k R w B (Zk A j c) (xs.take j):=by
 obtain⟨A',c',he,h1,h2,h3⟩:=h;injection he with z C D;subst z D;refine⟨A,c,by rw[YK,<-C,Nat.min_eq_left F],by rw[YK];omega,h2,λG=>?_⟩;have y:xs≠[]:=λe=>G (by rw[e];simp);obtain⟨b,o,hA,hb,hc⟩:=h3 y;refine⟨b,o,hA,hb,λi x hx=>hc i x ?_⟩;rw[List.getElem?_take]at hx;split at hx
 .exact hx
 .cases hx
def M_(n k:Int)(w:XO):X4 X3 143 #[n,k] w λe w'=>e=YT (Zp (aE n 1 k))/\w'=w:=by
 go_enter func143,ntmps143
 go_wp2
 all_goals (go_ret;exact⟨cD Kw,rfl⟩)
def bb4(n:Int)(w:XO):X4 X3 150 #[n] w λe w'=>e=YT (Zp (aE n 0 1048576))/\w'=w:=by
 go_enter func150,ntmps150
 go_wp2
 all_goals (go_ret;exact⟨cD Kw,rfl⟩)
def Je(x y:nC):Bool:=XN (y.feed=x.feed)&& !XN (y.site=x.site)
def el8(m:aU)(x:nC)(b:List nC):jI m x b=(aF x.site m.sites.length&&aF x.feed m.feeds.length&& !b.any (Je x)):=rfl
def zh(a b:Int):(a==b)=XN (a=b):=by rw[Yf];simp
def el9(x y:nC)(A:List XP)(xb:Nat)(w:XO)(D:qn w w A y)(G:aa w xb 1 (ah x.site))(I:aa w xb 2 (ah x.feed))(J:xb<w):
 aR 146 #[Zr A.toArray,az xb] w (Zp (Je x y)):=by
 obtain⟨rfl,eC,bh⟩:=D;have F:¬xb=w:=Zv;have j:Hid (Je x y=(XN (y.feed=x.feed)&& !XN (y.site=x.site))):=rfl;generalize Je x y=r at j;clear eC bh;simp only[az];by_cases z:(y.feed==x.feed)=XR
 .have c:=aj z;go_enter func146,ntmps146;go_wp2_with fail
  go_ret;refine⟨cD ?_,ak (am w) _⟩;have e:=c.o;rw[zh]at e;rw[j.o,e];simp[bne,zh]
 .have C:(y.feed==x.feed)=false:=by simpa using z
  clear z;have c:=aj C;go_enter func146,ntmps146;go_wp2_with fail
  go_ret;refine⟨cD ?_,ak (am w) _⟩;have e:=c.o;rw[zh]at e;rw[j.o,e];rfl
def aU.In.cells{m:aU}{w:XO}{B:Nat}{v:MV}(h:m.In w B v):
 (∃A c,v.s=Zk A m.sites.length c/\m.sites.length<=c/\c<=9223372036854775807)/\(∃A c,v.f=Zk A m.feeds.length c/\m.feeds.length<=c/\c<=9223372036854775807)/\(∃A c,v.r=Zk A m.racks.length c/\m.racks.length<=c/\c<=9223372036854775807)/\
 (∃A c,v.m=Zk A m.machs.length c/\m.machs.length<=c/\c<=9223372036854775807)/\(∃A c,v.l=Zk A m.links.length c/\m.links.length<=c/\c<=9223372036854775807)/\(∃A c,v.i=Zk A m.items.length c/\m.items.length<=c/\c<=9223372036854775807)/\
 (∃A c,v.u=Zk A m.rules.length c/\m.rules.length<=c/\c<=9223372036854775807):=by
 have s1 {l:List ay} {v:XP} (h:bg w B v l):∃A c,v=Zk A l.length c/\l.length<=c/\c<=9223372036854775807:=by obtain⟨A,c,h1,h2,h3,_⟩:=h;simp only[XY]at h1 h2;exact⟨A,c,h1,h2,h3⟩
 have sk {α:Type} {k:Nat} {R:XO->Nat->List XP->α->Prop} {l:List α} {v:XP} (h:ci k R w B v l):∃A c,v=Zk A l.length c/\l.length<=c/\c<=9223372036854775807:=by obtain⟨A,c,h1,h2,h3,_⟩:=h;exact⟨A,c,h1,h2,h3⟩
 exact⟨s1 h.ss,s1 h.fs,sk h.rs,sk h.ms,sk h.ls,sk h.is,sk h.us⟩
def em0(m:aU)(v:MV)(mb:Nat)(x:nC)(F:List XP)(b:List nC)(V:XP)(w:XO)(hm:af w mb (m.cells v) 29)(Y:m.In w w v)(hx:qn w w F x)(J:ci 3 qn w w V b):
 aR 145 #[Zr F.toArray,V,az mb] w (Zp (jI m x b)):=by
 obtain⟨rfl,eC,bh⟩:=hx;obtain⟨⟨Sa,sc,hs,bZ,bL⟩,⟨Fa,fc,hf,bM,cj⟩,_⟩:=Y.cells;have gw:=blk_lt hm;have c0:ae w mb (Zk Sa m.sites.length sc):=by rw[<-hs];exact ag hm rfl
 have c1:aa w mb 1 (Zk Fa m.feeds.length fc):=by rw[<-hf];exact ag hm rfl
 have aT:¬mb=w:=Zv;obtain⟨A,n,c,rfl,hl,hc,fQ⟩:=J.form;have D:=aj (fun(W:XO)(X:Below w w W)(xb:Nat)(h1:aa W xb 1 (ah x.site))(h2:aa W xb 2 (ah x.feed))(hx:xb<W)=>
  eh3 qn qn.ab (Zk A n c) b 146 #[az xb] (kg b (Je x)) W (J.to qn.ab X (ar _) X.size) (XX func146 aI rfl)
   (λj y F Z hy O hr _=>by rw[fW hy];exact el9 x y F xb Z hr ((O.cell (p:=xb 1 XM) hx).t h1) ((O.cell (p:=xb 2 XM) hx).t h2) (bJ hx O.size)))
 rw[DE]at D;have z:=λW=>M_ x.site m.sites.length W;have U:=λW=>M_ x.feed m.feeds.length W;have G:=aj z;have I:=aj U;refine rF λqa=>?_;rw[el8];unfold aF;generalize aE x.site 1 (m.sites.length:Nat)=r1 at G;generalize aE x.feed 1 (m.feeds.length:Nat)=r2 at I;generalize b.any (Je x)=r3 at D;have tL:∀n:Nat,(w.alloc (Zq #[bs x.name,x.site,x.feed] 82)).cell? (w 1 XM)=XL (ah x.site):=λ_=>ag (cR w _) rfl;clear z U Y hm J hs hf eC bh hl tL;unfold bH az at D;simp only[az];cases r1 with
 |false=>
  go_enter func145,ntmps145;go_wp2_with(first|(go_at_call 143;refine(G _).m ?_;rintro e C ⟨rfl,rfl⟩))
  go_ret;exact⟨rfl,ak (am w) _⟩
 |true=>
  cases r2 with
  |false=>
   go_enter func145,ntmps145;have tok1:True:=trivial
   go_wp2_with(first
    |(go_at_call 143;have _t:=tok1;refine(G _).m ?_;rintro e C ⟨rfl,rfl⟩;clear tok1)
    |(go_at_call 143;refine(I _).m ?_;rintro e C ⟨rfl,rfl⟩))
   go_ret;exact⟨rfl,ak (am w) _⟩
  |true=>
   go_enter func145,ntmps145;have tok1:True:=trivial
   go_wp2_with(first
    |(go_at_call 143;have _t:=tok1;refine(G _).m ?_;rintro e C ⟨rfl,rfl⟩;clear tok1)
    |(go_at_call 143;refine(I _).m ?_;rintro e C ⟨rfl,rfl⟩))
   refine(D _ (ak (am w) _) w (ag (cR w _) rfl) (ag (cR w _) rfl) Zy).r λC aC=>?_;go_wp2_with fail
   go_ret;exact⟨by simp,aq (ak (am w) _) aC⟩
def vt(n a b:Int)(w:XO):X4 X3 54 #[n,a,b] w λe w'=>e=YT (Zp (aE n a b))/\w'=w:=by
 go_enter func54,ntmps54
 go_wp2
 all_goals (go_ret;exact⟨cD Kw,rfl⟩)
def cF.vals(x:cF)(o:XP):Array Value:= #[ah x.kind,ah x.item,ah x.other,ah x.n,ah x.by_,Zp x.always,o]
def cF.vals_def(x:cF)(o:XP):x.vals o= #[ah x.kind,ah x.item,ah x.other,ah x.n,ah x.by_,Zp x.always,o]:=rfl
def Cm(k:Nat)(m:aU)(x:cF):Bool:=
 match k with
 |0=>aF x.item m.items.length&&XN (rr m x.item=0)
 |1=>aF x.item m.items.length&&aE x.n 0 16
 |2=>aF x.item m.items.length&&(aE x.n 0 16&&aE x.by_ 2 4)
 |3=>aF x.item m.items.length&&fF m x.ms
 |4=>aF x.item m.items.length&&(aF x.other m.items.length&& !XN (x.item=x.other))
 |5=>aE x.n 0 200
 |6=>aF x.item m.items.length&&aE x.n 0 16
 |_=>XQ
def sT:cF:=⟨0,0,0,0,0,XQ,[]⟩
def j7(k:Nat)(x:cF):cF:=
 match k with
 |0=>{sT with item:=x.item}
 |1=>{sT with item:=x.item,n:=x.n,always:=x.always}
 |2=>{sT with item:=x.item,n:=x.n,by_:=x.by_}
 |3=>{sT with item:=x.item,ms:=x.ms}
 |4=>{sT with item:=x.item,other:=x.other}
 |5=>{sT with n:=x.n}
 |6=>{sT with item:=x.item,n:=x.n}
 |_=>sT
def FQ(a b:cF):Bool:=XN (a.item=b.item)&&(XN (a.other=b.other)&&(XN (a.n=b.n)&&(XN (a.by_=b.by_)&&(XN (a.always=b.always)&&XN (a.ms=b.ms)))))
def em1(m:aU)(x:cF)(k:Nat)(j:k<=6)(hx:x.kind=k):dw m x=(Cm k m x&&FQ x (j7 k x)):=by
 have h:k=0\/k=1\/k=2\/k=3\/k=4\/k=5\/k=6:=Zv;have c:∀b:Bool,XN (b=XQ)= !b:=by intro b;cases b<;>rfl
 rcases h with rfl|rfl|rfl|rfl|rfl|rfl|rfl<;>(simp only[dw,Cm,j7,FQ,sT,hx];rw[Yf];simp[and_assoc];try grind)
def bb5(m:aU)(x:cF)(h:¬(0<=x.kind/\x.kind<=6)):dw m x=false:=by unfold dw;simp only;repeat rw[if_neg Zv]
def zi(k:Nat)(l:List Int)(j:Nat):Bool:=fJ (λn b=>aF n k&&(match b.getLast? with|none=>XR|some p=>XN (p<n))) [] l j
def bb6(k:Nat)(l:List Int):WO k l=eV (zi k l) l.length:=xI _ l []
def bb7{k:Nat}{l:List Int}{n:Int}(h:l[0]?=XL n):zi k l 0=aF n k:=by unfold zi;rw[FD h];simp
def Z8{k j:Nat}{l:List Int}{p n:Int}(c:l[j]?=XL p)(h:l[j+1]?=XL n):zi k l (j+1)=(aF n k&&XN (p<n)):=by
 unfold zi;rw[FD h];have:([]++l.take (j+1)).getLast?=XL p:=by rw[YA,List.getLast?_eq_getElem?,YK];have y:=(List.getElem?_eq_some_iff.1 h).1;rw[Nat.min_eq_left Zv,List.getElem?_take];simpa using c
 rw[this]
def gh4(a:Int)(c:aN a)(t:Ya)(W:XO)(h:Nat)(j:h=W):
 X4 X3 77 #[Zk (XL (h 0 XM)) 1 1] (W.alloc (Zq #[a] t)) λe w'=>e=YT (X2 (bs (fV [a])))/\Below (W.alloc (Zq #[a] t)).heap.size (W.alloc (Zq #[a] t)) w':=
 j▸Gv _ [a] _ (aS.lit W [a] (by simpa using c) Zy t) Zy
def RB(a b:Int)(c:aN a)(j:aN b)(t:Ya)(W:XO)(h:Nat)(y:h=W):
 X4 X3 77 #[Zk (XL (h 0 XM)) 2 2] (W.alloc (Zq #[a,b] t)) λe w'=>e=YT (X2 (bs (fV [a,b])))/\Below (W.alloc (Zq #[a,b] t)).heap.size (W.alloc (Zq #[a,b] t)) w':=
 y▸Gv _ [a,b] _ (aS.lit W [a,b] (by simpa using⟨c,j⟩) Zy t) Zy
def gh5(a b c:Int)(j:aN a)(y:aN b)(z:aN c)(t:Ya)(W:XO)(h:Nat)(A:h=W):
 X4 X3 77 #[Zk (XL (h 0 XM)) 3 3] (W.alloc (Zq #[a,b,c] t)) λe w'=>e=YT (X2 (bs (fV [a,b,c])))/\Below (W.alloc (Zq #[a,b,c] t)).heap.size (W.alloc (Zq #[a,b,c] t)) w':=
 A▸Gv _ [a,b,c] _ (aS.lit W [a,b,c] (by simpa using⟨j,y,z⟩) Zy t) Zy
end
end Go.Proofs.YtihhpjmclebfpaaGreatDoor
