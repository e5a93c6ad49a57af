/- A part of the proof. -/
import Derived.Test.YtklfdkdebgfmiaaGreatDoorQba
set_option linter.defProp false
set_option linter.unusedVariables false
set_option linter.unusedSimpArgs false
set_option maxRecDepth 100000
set_option maxHeartbeats 32000000
open Option renaming none->Wr,some->Ws
open Decidable renaming decide->Wt
open Go renaming World->Wu,Value->Wv,Calls->WJ,TypeId->WQ,maxLen->Xe,undef->XE,Oper->XH,execOp->XX,Addr->X8
open Bool renaming false->Ww,true->Wz
open List renaming range->Xs
open Go.RowKit renaming Hid->WA
open Go.Lib renaming itoa->WB
open Go.Proofs renaming intOf->WS
open Go.Proofs.Tryz renaming prog->WH
open Go.Value renaming int->WK,string->WM,oneCell'->Xp,ownBlock->Xq,slice->Yb,bool->Yc,agg->Ye,pointer->Yf
open Go.Instr renaming lookup->WT
open Go.World renaming cell?->X3
open Go.IntKind renaming i64->Xr
open Go.Region renaming wanted->Xy,ready->XC,Mode->X6
open Go.Ending renaming returned->Xz
open Go.Obj renaming cells->Yd
open Go.Operand renaming tmp->Yg
namespace Go.Proofs.YtklfdkdebgfmiaaGreatDoor
section
open Go Go.Proofs.Tryz
section
variable {P:Program} {ops:Array XH} {Q:Exit->Act->Wu->Prop} {md:X6}
def V9 (md:X6) (ops:Array XH):Bool:=
 (Xs ops.size).all λi=>match ops[i]? with|some o=>o.after.all λe=> !Region.binds md e||Wt (e.on<i)|none=>Wz
def ab1 (h:V9 md ops=Wz) {i:Nat} {o:XH} (ho:ops[i]? =Ws o): ∀e∈o.after,Region.binds md e=Wz->e.on<i:=by intro e y j;have z:=(Array.getElem?_eq_some_iff.1 ho).1;have c:=List.all_eq_true.1 h i (List.mem_range.2 z);simp only[ho] at c;have g:=Array.all_eq_true'.1 c e y;simpa[j] using g
def Md (listed:Array Bool) (n:Nat):Nat:=(Xs n).countP λj=> !listed.getD j Wz
def ab2 {listed:Array Bool} {n i:Nat} (z:i<n) (h:listed.getD i Wz=Ww):Md (listed.setIfInBounds i Wz) n+1<=Md listed n:=by
 unfold Md;induction n with
 |zero=>omega
 |succ n ih=>
  rw[List.range_succ,List.countP_append,List.countP_append,List.countP_singleton,List.countP_singleton];by_cases e:i=n
  .subst e;have c:(listed.setIfInBounds i true).getD i true=true:=by
    exact V_
   have y:(Xs i).countP (λj=> !(listed.setIfInBounds i Wz).getD j Wz)<=(Xs i).countP (λj=> !listed.getD j Wz):=by
    refine Nat.le_of_eq (List.countP_congr λj g=> ?_);have: ¬i=j:=by have:=List.mem_range.1 g;omega
    rw[getD_set_ne Wz this]
   rw[c,h];simp only[Bool.not_true,Bool.not_false,WW,if_false,if_true];omega
  .have:=ih Yi;rw[getD_set_ne Wz e];omega
def h_ (md:X6) (ops:Array XH) (j i:Nat):Bool:=match ops[j]? with|some o=>o.after.any λe=>Region.binds md e&&Wt (e.on=i)|none=>Ww
def V' {i j:Nat} (h:h_ md ops j i=Wz): ∃o,ops[j]? =Ws o/\∃e,e∈o.after/\Region.binds md e=Wz/\e.on=i:=by
 unfold h_ at h;split at h
 .rename_i o ho;obtain⟨e,he,hq⟩:=Array.any_eq_true'.1 h;simp at hq;exact⟨o,ho,e,he,hq.1,hq.2⟩
 .cases h
def dn4 (D:Act->Wu->Prop) (Y:Nat->Act->Wu->Prop) (hb:V9 md ops=Wz)
 (zM: ∀i o,ops[i]? =Ws o->∀a w,D a w->(∀j,h_ md ops i j=Wz->Y j a w)->
   wpOp P ops Q i (λG w'=>D G w'/\Y i G w'/\∀j,j≠i->j<ops.size->h_ md ops j i=Ww->Y j a w->Y j G w') a w)
 (UL: ∀a w,D a w->(∀i,i<ops.size->Y i a w)->Q .normal a w):
 ∀(fuel:Nat) (listed:Array Bool) (a:Act) (w:World),listed.size=ops.size->Md listed ops.size<=fuel->(∀j i,listed.getD j true=true->j<ops.size->h_ md ops j i=true->listed.getD i true=true)->
  D a w->(∀i,i<ops.size->listed.getD i Wz=Wz->Y i a w)->wpAny P md ops Q fuel listed a w:=by
 have I: ∀(listed:Array Bool) (a:Act) (w:Wu),listed.size=ops.size->D a w->(∀i,i<ops.size->listed.getD i Wz=Wz->Y i a w)->XC md ops listed=[]->Q .normal a w:=by
  intro listed a w J C z V;have all: ∀(m i:Nat),i<m->i<ops.size->listed.getD i Wz=true:=by
   intro m;induction m with
   |zero=>intro i g;omega
   |succ m ih=>
    intro i g F;cases hl:listed.getD i Wz with
    |true=>rfl
    |false=>
     obtain⟨o,ho⟩: ∃o,ops[i]? =Ws o:=⟨_,Array.getElem?_eq_getElem F⟩;have:i∈XC md ops listed:=mem_ready.2 ⟨hl,o,ho,λe U O=>by
      have ar:=ab1 hb ho e U O;have y:=ih e.on Yi Yi;have Lh:e.on<listed.size:=Yi;simp[Lh] at y⊢
      exact y⟩
     rw[V] at this;cases this
  exact UL a w C λi g=>z i g (all (i+1) i Yi g)
 intro fuel;induction fuel with
 |zero=>
  intro listed a w J hu eF C z;have V:XC md ops listed=[]:=by apply List.eq_nil_iff_forall_not_mem.2;intro i g;obtain⟨hl,o,ho,_⟩:=mem_ready.1 g;have F:=(Array.getElem?_eq_some_iff.1 ho).1;have:=ab2 F hl;omega
  exact⟨V,I listed a w J C z V⟩
 |succ fuel ih=>
  intro listed a w J hu eF C z;refine⟨I listed a w J C z,λi g=> ?_⟩;obtain⟨hl,o,ho,kE⟩:=mem_ready.1 g;have F:=(Array.getElem?_eq_some_iff.1 ho).1;have Hz:=ab2 F hl;have tr: ∀j,h_ md ops i j=Wz->j<ops.size/\listed.getD j Wz=true:=by
   intro j c;obtain⟨o',Z,e,U,O,rfl⟩:=V' c;rw[ho] at Z;injection Z with Z;subst Z;have ar:=ab1 hb ho e U O;have y:=kE e U O;have Lh:e.on<listed.size:=Yi;refine⟨by omega,?_⟩;simp[Lh] at y⊢
   exact y
  refine wpOp_mono (λG w' h=> ?_) (zM i o ho a w C λj c=>z j (tr j c).1 (tr j c).2);obtain⟨y,h2,h3⟩:=h;refine ih _ G w' (by simp[J]) Yi (λj k A c X=> ?_) y λj c A=> ?_
  .by_cases e:k=i
   .subst e;exact V_
   .rw[getD_set_ne true (λh=>e h.symm)];by_cases e2:j=i
    .subst e2;exact(tr k X).2
    .rw[getD_set_ne Wz (λh=>e2 h.symm)] at A;exact eF j k A c X
  .by_cases e:j=i
   .subst e;exact h2
   .rw[getD_set_ne true (λh=>e h.symm)] at A;refine h3 j e c ?_ (z j c A);cases X:h_ md ops j i with
    |false=>rfl
    |true=>have:=eF j i A c X;rw[hl] at this;cases this
def dn5 (g:Act->Wu->Prop) (Y:Nat->Act->Wu->Prop) {id:Nat} {a:Act} {w:Wu} (hm:P.follows .mixedOrders=Wz) (C:V9 .any ops=Wz)
 (A:g a w.drew)
 (G: ∀i o,ops[i]? =Ws o->∀a w,g a w->(∀j,h_ .any ops i j=Wz->Y j a w)->
   wpOp P ops Q i (λy w'=>g y w'/\Y i y w'/\∀j,j≠i->j<ops.size->h_ .any ops j i=Ww->Y j a w->Y j y w') a w)
 (z: ∀a w,g a w->(∀i,i<ops.size->Y i a w)->Q .normal a w):(Code.region id ops Wz).wp P Q a w:=by
 refine wp_region_any hm (dn4 g Y C G z _ _ _ _ Yl ?_ (λj i h F=> ?_) A λi D h=> ?_)
 .unfold Md;exact bo (List.countP_le_length) Yl
 .simp[F] at h
 .simp[D] at h
def ab3 {i:Nat} {o:XH} {K:Act->Wu->Prop} {a:Act} {w w':Wu} {v:Wv} (ho:ops[i]? =Ws o) (h:o.guard=Wr) (c:(XX a.eval o).run P w= .ok (.value v) w') (g:K (a.put o.dst v) w'):wpOp P ops Q i K a w:=by unfold wpOp;rw[ho];simp only[Xy,h,if_true];refine .inl ?_;unfold Oper.wp;rw[c];exact g
def dn6 {i:Nat} {o:XH} {K:Act->Wu->Prop} {a:Act} {w w':Wu} (ho:ops[i]? =Ws o) (h:o.guard=Wr) (c:(XX a.eval o).run P w= .ok .skip w') (g:K (a.put o.dst XE) w'):wpOp P ops Q i K a w:=by unfold wpOp;rw[ho];simp only[Xy,h,if_true];refine .inl ?_;unfold Oper.wp;rw[c];exact g
def dn7 {i:Nat} {o:XH} {K:Act->Wu->Prop} {a:Act} {w w':Wu} {f:FuncId} {args:Array Wv} (ho:ops[i]? =Ws o) (y:o.guard=Wr) (g:(XX a.eval o).run P w= .ok (.enter f args) w')
 (j:WJ P f args w' λe c=> ∃v,e=Xz v/\K (a.put o.dst v) c):wpOp P ops Q i K a w:=by
 unfold wpOp;rw[ho];simp only[Xy,y,if_true];refine .inl ?_;unfold Oper.wp;rw[g,Oper.upon_enter];refine j.m ?_;rintro e c ⟨v,rfl,h⟩;exact h
end
def sP {α:Type} (x:α) (xs:List α) (a:α):(x::xs).set 0 a=a::xs:=rfl
def sO {α:Type} (x:α) (xs:List α) (n:Nat) (a:α):(x::xs).set (n+1) a=x::xs.set n a:=rfl
def sN {α:Type} (xs:List α) (i:Nat) (a:α):xs.toArray.setIfInBounds i a=(xs.set i a).toArray:=List.setIfInBounds_toArray ..
section
variable {P:Program} {ops:Array XH} {Q:Exit->Act->Wu->Prop} {md:X6} {S:Wu->Prop}
def mS (md:X6) (ops:Array XH) (listed:Array Bool) (i t:Nat):Bool:=
 Region.noSelect ops&&Region.free md ops listed i&&(XC md ops listed).contains i&&match ops[i]? with|some o=>o.dst==Ws t|none=>Ww
def Ii {listed:Array Bool} {i t:Nat} {c:XH} (h:mS md ops listed i t=Wz) (g:ops[i]? =Ws c):Region.noSelect ops=Wz/\Region.free md ops listed i=Wz/\(XC md ops listed).contains i=Wz/\c.dst=Ws t:=by unfold mS at h;rw[g] at h;simp only[WC,beq_iff_eq] at h;exact⟨h.1.1.1,h.1.1.2,h.1.2,h.2⟩
def tA (m s:Nat) {y:XH} {v:Wv} {fuel:Nat} {listed:Array Bool} {a:Act} {w:Wu} (j:ops[m - (fuel+1)]? =Ws y) (z:mS md ops listed (m - (fuel+1)) (s+(m - (fuel+1)))=Wz)
 (g: ∀c a w,Q (.panic c) (a.put (Ws (s+(m - (fuel+1)))) v) w->Q (.panic c) a w) (A:Yields P ops y v a)
 (h:wpAny P md ops Q fuel (listed.setIfInBounds (m - (fuel+1)) Wz) (a.put (Ws (s+(m - (fuel+1)))) v) w):wpAny P md ops Q (fuel+1) listed a w:=by
 obtain⟨h1,h2,h3,hd⟩:=Ii z j;rw[<-hd] at h g;exact wpAny_take j h1 h2 h3 g A h
def ct2 (m s:Nat) {y:XH} {v:Wv} {fuel:Nat} {listed:Array Bool} {a:Act} {w:Wu} (j:ops[m - (fuel+1)]? =Ws y) (A:mS md ops listed (m - (fuel+1)) (s+(m - (fuel+1)))=Wz)
 (g: ∀c a w,Q (.panic c) (a.put (Ws (s+(m - (fuel+1)))) v) w->Q (.panic c) a w) (C:YieldsIf P ops S y v a) (z:S w)
 (h:wpAnyH P md ops Q S fuel (listed.setIfInBounds (m - (fuel+1)) Wz) (a.put (Ws (s+(m - (fuel+1)))) v) w):wpAnyH P md ops Q S (fuel+1) listed a w:=by
 obtain⟨h1,h2,h3,hd⟩:=Ii A j;rw[<-hd] at h g;exact wpAnyH_take j h1 h2 h3 g C z h
def dn8 (i t:Nat) {y:XH} {v:Wv} {fuel:Nat} {listed:Array Bool} {a:Act} {w:Wu} (j:ops[i]? =Ws y) (z:mS md ops listed i t=Wz)
 (g: ∀c a w,Q (.panic c) (a.put (Ws t) v) w->Q (.panic c) a w) (A:Yields P ops y v a)
 (h:wpAny P md ops Q fuel (listed.setIfInBounds i Wz) (a.put (Ws t) v) w):wpAny P md ops Q (fuel+1) listed a w:=by
 obtain⟨h1,h2,h3,hd⟩:=Ii z j;rw[<-hd] at h g;exact wpAny_take j h1 h2 h3 g A h
def dn9 (i t:Nat) {y:XH} {v:Wv} {fuel:Nat} {listed:Array Bool} {a:Act} {w:Wu} (j:ops[i]? =Ws y) (A:mS md ops listed i t=Wz)
 (g: ∀c a w,Q (.panic c) (a.put (Ws t) v) w->Q (.panic c) a w) (C:YieldsIf P ops S y v a) (z:S w)
 (h:wpAnyH P md ops Q S fuel (listed.setIfInBounds i Wz) (a.put (Ws t) v) w):wpAnyH P md ops Q S (fuel+1) listed a w:=by
 obtain⟨h1,h2,h3,hd⟩:=Ii A j;rw[<-hd] at h g;exact wpAnyH_take j h1 h2 h3 g C z h
def ja (m s:Nat) {g:XH} {v:Wv} {fuel:Nat} {listed:Array Bool} {a:Act} {w:Wu} {p:Prop} (h:p)
 (y:ops[m - (fuel+1)]? =Ws g:=by rfl) (z:mS md ops listed (m - (fuel+1)) (s+(m - (fuel+1)))=true:=by kernel_rfl)
 (j: ∀c a w,Q (.panic c) (a.put (Ws (s+(m - (fuel+1)))) v) w->Q (.panic c) a w:=by exact λ_ _ _ h=>h) (C:Yields P ops g v a:=by(refine Or.inl ⟨by rfl,?_⟩;intro w;go_simp;try with_reducible rfl))
 (A:p->wpAny P md ops Q fuel (listed.setIfInBounds (m - (fuel+1)) Wz) (a.put (Ws (s+(m - (fuel+1)))) v) w:=by(intro hq;simp only[Act.put,sN,sP,sO,Nat.reduceSub,Nat.reduceAdd];exact hq)):wpAny P md ops Q (fuel+1) listed a w:=
 tA m s y z j C (A h)
def E7 (m s:Nat) {g:XH} {fuel:Nat} {listed:Array Bool} {a:Act} {w:Wu} {p:Prop} (h:p)
 (y:ops[m - (fuel+1)]? =Ws g:=by rfl) (z:mS md ops listed (m - (fuel+1)) (s+(m - (fuel+1)))=true:=by kernel_rfl)
 (j: ∀c a w,Q (.panic c) (a.put (Ws (s+(m - (fuel+1)))) XE) w->Q (.panic c) a w:=by exact λ_ _ _ h=>h) (C:Yields P ops g XE a:=by exact Or.inr ⟨by rfl,rfl⟩)
 (A:p->wpAny P md ops Q fuel (listed.setIfInBounds (m - (fuel+1)) Wz) (a.put (Ws (s+(m - (fuel+1)))) XE) w:=by(intro hq;simp only[Act.put,sN,sP,sO,Nat.reduceSub,Nat.reduceAdd];exact hq)):wpAny P md ops Q (fuel+1) listed a w:=
 tA m s y z j C (A h)
def lW (i t:Nat) {g:XH} {v:Wv} {fuel:Nat} {listed:Array Bool} {a:Act} {w:Wu} {p:Prop} (h:p)
 (y:ops[i]? =Ws g:=by rfl) (z:mS md ops listed i t=true:=by kernel_rfl)
 (j: ∀c a w,Q (.panic c) (a.put (Ws t) v) w->Q (.panic c) a w:=by exact λ_ _ _ h=>h) (C:Yields P ops g v a:=by(refine Or.inl ⟨by rfl,?_⟩;intro w;go_simp;try with_reducible rfl))
 (A:p->wpAny P md ops Q fuel (listed.setIfInBounds i Wz) (a.put (Ws t) v) w:=by(intro hq;simp only[Act.put,sN,sP,sO];exact hq)):wpAny P md ops Q (fuel+1) listed a w:=
 dn8 i t y z j C (A h)
def mC (m s:Nat) {g:XH} {v:Wv} {fuel:Nat} {listed:Array Bool} {a:Act} {w:Wu} {p:Prop} (h:p) (hS:S w:=by exact hS)
 (y:ops[m - (fuel+1)]? =Ws g:=by rfl) (z:mS md ops listed (m - (fuel+1)) (s+(m - (fuel+1)))=true:=by kernel_rfl)
 (j: ∀c a w,Q (.panic c) (a.put (Ws (s+(m - (fuel+1)))) v) w->Q (.panic c) a w:=by exact λ_ _ _ h=>h) (C:YieldsIf P ops S g v a:=by(refine Or.inl ⟨by rfl,?_⟩;intro w il;(try have il:=du.out w il);(try dsimp only at il);go_simp;try with_reducible rfl))
 (A:p->wpAnyH P md ops Q S fuel (listed.setIfInBounds (m - (fuel+1)) Wz) (a.put (Ws (s+(m - (fuel+1)))) v) w:=by(intro hq;simp only[Act.put,sN,sP,sO,Nat.reduceSub,Nat.reduceAdd];exact hq)):wpAnyH P md ops Q S (fuel+1) listed a w:=
 ct2 m s y z j C hS (A h)
def gt8 (m s:Nat) {g:XH} {fuel:Nat} {listed:Array Bool} {a:Act} {w:Wu} {p:Prop} (h:p) (hS:S w:=by exact hS)
 (y:ops[m - (fuel+1)]? =Ws g:=by rfl) (z:mS md ops listed (m - (fuel+1)) (s+(m - (fuel+1)))=true:=by kernel_rfl)
 (j: ∀c a w,Q (.panic c) (a.put (Ws (s+(m - (fuel+1)))) XE) w->Q (.panic c) a w:=by exact λ_ _ _ h=>h) (C:YieldsIf P ops S g XE a:=by exact Or.inr ⟨by rfl,rfl⟩)
 (A:p->wpAnyH P md ops Q S fuel (listed.setIfInBounds (m - (fuel+1)) Wz) (a.put (Ws (s+(m - (fuel+1)))) XE) w:=by(intro hq;simp only[Act.put,sN,sP,sO,Nat.reduceSub,Nat.reduceAdd];exact hq)):wpAnyH P md ops Q S (fuel+1) listed a w:=
 ct2 m s y z j C hS (A h)
def cb (i t:Nat) {g:XH} {v:Wv} {fuel:Nat} {listed:Array Bool} {a:Act} {w:Wu} {p:Prop} (h:p) (hS:S w:=by exact hS)
 (y:ops[i]? =Ws g:=by rfl) (z:mS md ops listed i t=true:=by kernel_rfl)
 (j: ∀c a w,Q (.panic c) (a.put (Ws t) v) w->Q (.panic c) a w:=by exact λ_ _ _ h=>h) (C:YieldsIf P ops S g v a:=by(refine Or.inl ⟨by rfl,?_⟩;intro w il;(try have il:=du.out w il);(try dsimp only at il);go_simp;try with_reducible rfl))
 (A:p->wpAnyH P md ops Q S fuel (listed.setIfInBounds i Wz) (a.put (Ws t) v) w:=by(intro hq;simp only[Act.put,sN,sP,sO];exact hq)):wpAnyH P md ops Q S (fuel+1) listed a w:=
 dn9 i t y z j C hS (A h)
def fi (i:Nat) {o:XH} {fuel:Nat} {listed:Array Bool} {a:Act} {w:Wu} (h: ∀c:Act->Wu->Prop,(∀a w,wpAny P md ops Q fuel (listed.setIfInBounds i Wz) a w->c a w)->if Xy o (yielded ops a.tmps)=Wz then Oper.wp P o a w c Q else c (a.put o.dst XE) w)
 (g:XC md ops listed=[i]:=by kernel_rfl) (ho:ops[i]? =Ws o:=by rfl):wpAny P md ops Q (fuel+1) listed a w:=wpAny_ready g Yl (AllReady.cons ho h AllReady.nil)
def dY (i:Nat) {o:XH} {fuel:Nat} {listed:Array Bool} {a:Act} {w:Wu} (h: ∀c:Act->Wu->Prop,Shut (∀a w,S w->(S w->wpAnyH P md ops Q S fuel (listed.setIfInBounds i Wz) a w)->c a w)->if Xy o (yielded ops a.tmps)=Wz then Oper.wp P o a w c Q else c (a.put o.dst XE) w)
 (g:XC md ops listed=[i]:=by kernel_rfl) (ho:ops[i]? =Ws o:=by rfl):wpAnyH P md ops Q S (fuel+1) listed a w:=wpAnyH_ready g Yl (AllReadyH.cons ho h AllReadyH.nil)
def pD (n:Nat) {id:Nat} {a:Act} {w:Wu} (h:wpAny P .any ops Q n (Array.replicate n Ww) a (World.drew w)) (hm:P.follows .mixedOrders=true:=by kernel_rfl) (c:ops.size=n:=by rfl):(Code.region id ops Wz).wp P Q a w:=by subst c;exact wp_region_any hm h
def pE {S:Wu->Prop} (n:Nat) {id:Nat} {a:Act} {w:Wu} (c:S (World.drew w)) (h:S (World.drew w)->wpAnyH P .any ops Q S n (Array.replicate n Ww) a (World.drew w)) (hm:P.follows .mixedOrders=true:=by kernel_rfl) (g:ops.size=n:=by rfl):(Code.region id ops Wz).wp P Q a w:=by subst g;exact wp_region_held_drew hm c h
def wh {listed:Array Bool} {a:Act} {w:Wu} {fuel:Nat} (h:Q .normal a w) (c:XC md ops listed=[]:=by kernel_rfl):wpAny P md ops Q fuel listed a w:=wpAny_done c h fuel
def oQ {listed:Array Bool} {a:Act} {w:Wu} {fuel:Nat} (h:Q .normal a w) (c:XC md ops listed=[]:=by kernel_rfl):wpAnyH P md ops Q S fuel listed a w:=wpAnyH_done c h fuel
end
section
variable {P:Program} {ops:Array XH} {Q:Exit->Act->Wu->Prop} {md:X6} {S:Wu->Prop} {N:Nat}
def gx (P:Program) (md:X6) (ops:Array XH) (Q:Exit->Act->Wu->Prop) (S:Wu->Prop) (N:Nat):Nat->Array Bool->Act->Wu->Prop
 |0,listed,a,w=>XC md ops listed=[]/\Q .normal a w
 |fuel+1,listed,a,w=>
  (XC md ops listed=[]->Q .normal a w)/\
  ∀i∈XC md ops listed,wpOp P ops Q i (λa' w'=>(i<N->S w')/\gx P md ops Q S N fuel (listed.setIfInBounds i Wz) a' w') a w
def ab4: ∀(fuel:Nat) (listed:Array Bool) (a:Act) (w:Wu),gx P md ops Q S N fuel listed a w->wpAny P md ops Q fuel listed a w
 |0,_,_,_,h=>h
 |fuel+1,_,_,_,h=>⟨h.1,λi j=>wpOp_mono (λc w' g=>ab4 fuel _ c w' g.2) (h.2 i j)⟩
def Da (md:X6) (ops:Array XH) (N i:Nat):Bool:=(Xs ops.size).all λj=>Wt (j<N)||h_ md ops j i
def do0 {i j:Nat} (h:Da md ops N i=Wz) (hj:j<ops.size) (c:N<=j):h_ md ops j i=true:=by exact ab5
def do1 {i:Nat} {g:XH} {v:Wv} (hi:ops[i]? =Ws g) (Lk:i<N) (D: ∀(j:Nat) (o:XH) z b,ops[j]? =Ws o->o.op≠ .select z b) (U:Da md ops N i=Wz)
 (Y: ∀c a w,Q (.panic c) (a.put g.dst v) w->Q (.panic c) a w):
 ∀(fuel:Nat) (listed:Array Bool) (a:Act) (w:World),
  (∀j y,ops[j]? =Ws y->j≠i->listed.getD j Wz=Ww->(∀e∈y.after,Region.binds md e=Wz->e.on≠i)->g.apart ops y=Wz)->
  i∈XC md ops listed->YieldsIf P ops S g v a->S w->
  gx P md ops Q S N fuel (listed.setIfInBounds i Wz) (a.put g.dst v) w->gx P md ops Q S N (fuel+1) listed a w:=by
 intro fuel;induction fuel with
 |zero=>intro listed a w _ hr hy hS H;exact ab6
 |succ fuel ih=>
  intro listed a w F hr hy hS H;refine⟨λh=>(by rw[h] at hr;cases hr),λj hj=> ?_⟩;by_cases pY:j=i
  .subst pY;exact hy.wpOp hi hS ⟨λ_=>hS,H⟩
  .have h1:=H.2 j (ready_mono hj pY);obtain⟨Lm,y,zI,dw⟩:=mem_ready.1 hj;have G: ∀e∈y.after,Region.binds md e=true->e.on≠i:=λe he hb heq=>by exact ab7
   have J:j<N:=by
    rcases Xk j N with h|h
    .exact h
    .obtain⟨o,ho,e,he,hb,gl7⟩:=V' (do0 U (Array.getElem?_eq_some_iff.1 zI).1 h);rw[zI] at ho;injection ho with ho;subst ho;exact absurd gl7 (G e he hb)
   have X:=wpOp_putIf zI (F j y zI pY Lm G) (λz b=>D i g z b hi) (λz b=>D j y z b zI) Y hy h1;have hfree': ∀k ok,ops[k]? =Ws ok->k≠i->(listed.setIfInBounds j Wz).getD k Wz=Ww->
    (∀e∈ok.after,Region.binds md e=Wz->e.on≠i)->g.apart ops ok=true:=λk ok Z O C qY=>by
    refine F k ok Z O ?_ qY;by_cases I:j=k
    .subst I;exact Lm
    .rw[getD_set_ne Wz I] at C;exact C
   refine wpOp_mono (λV w' A=>⟨A.2.1,ih (listed.setIfInBounds j Wz) V w' hfree' (ready_mono hr (Ne.symm pY)) A.1 (A.2.1 J) ?_⟩) X;rw[Array.setIfInBounds_comm _ _ pY];exact A.2.2
def Ij {i:Nat} {g:XH} {v:Wv} {fuel:Nat} {listed:Array Bool} {a:Act} {w:Wu} (d:Option Tmp) (j:ops[i]? =Ws g) (C:g.dst=d) (y:Wt (i<N)=Wz)
 (I:Region.noSelect ops=Wz) (D:Region.free md ops listed i=Wz) (G:(XC md ops listed).contains i=Wz) (F:Da md ops N i=Wz)
 (z: ∀c a w,Q (.panic c) (a.put d v) w->Q (.panic c) a w) (J:YieldsIf P ops S g v a) (A:S w)
 (h:gx P md ops Q S N fuel (listed.setIfInBounds i Wz) (a.put d v) w):gx P md ops Q S N (fuel+1) listed a w:=by
 subst C;exact do1 j (of_decide_eq_true y) (Region.noSelect_spec I) F z fuel listed a w (Region.free_spec j D) (by simpa using G) J A h
def ct3 (m s:Nat) {g:XH} {v:Wv} {fuel:Nat} {listed:Array Bool} {a:Act} {w:Wu} (hi:ops[m - (fuel+1)]? =Ws g) (hk:(mS md ops listed (m - (fuel+1)) (s+(m - (fuel+1)))&&(Wt (m - (fuel+1)<N)&&Da md ops N (m - (fuel+1))))=Wz)
 (hQ: ∀c a w,Q (.panic c) (a.put (Ws (s+(m - (fuel+1)))) v) w->Q (.panic c) a w) (hy:YieldsIf P ops S g v a) (hS:S w)
 (h:gx P md ops Q S N fuel (listed.setIfInBounds (m - (fuel+1)) Wz) (a.put (Ws (s+(m - (fuel+1)))) v) w):gx P md ops Q S N (fuel+1) listed a w:=by
 exact ab8
def do2 (i t:Nat) {g:XH} {v:Wv} {fuel:Nat} {listed:Array Bool} {a:Act} {w:Wu} (hi:ops[i]? =Ws g) (hk:(mS md ops listed i t&&(Wt (i<N)&&Da md ops N i))=Wz)
 (hQ: ∀c a w,Q (.panic c) (a.put (Ws t) v) w->Q (.panic c) a w) (hy:YieldsIf P ops S g v a) (hS:S w)
 (h:gx P md ops Q S N fuel (listed.setIfInBounds i Wz) (a.put (Ws t) v) w):gx P md ops Q S N (fuel+1) listed a w:=by
 exact ab8
def eQ (P:Program) (md:X6) (ops:Array XH) (Q:Exit->Act->Wu->Prop) (S:Wu->Prop) (N:Nat) (fuel:Nat) (listed:Array Bool) (a:Act) (w:Wu) (rs:List Nat):Prop:=
 ∀i∈rs,wpOp P ops Q i (λa' w'=>(i<N->S w')/\gx P md ops Q S N fuel (listed.setIfInBounds i Wz) a' w') a w
def eQ.nil {fuel:Nat} {listed:Array Bool} {a:Act} {w:Wu}:eQ P md ops Q S N fuel listed a w []:=λ_ h=>by cases h
def eQ.cons1 {fuel:Nat} {listed:Array Bool} {a:Act} {w:Wu} {i:Nat} {o:XH} {rs:List Nat} (ho:ops[i]? =Ws o)
 (h: ∀c:Act->Wu->Prop,Shut (∀a w,S w->(S w->gx P md ops Q S N fuel (listed.setIfInBounds i Wz) a w)->c a w)->if Xy o (yielded ops a.tmps)=Wz then Oper.wp P o a w c Q else c (a.put o.dst XE) w)
 (C:eQ P md ops Q S N fuel listed a w rs):eQ P md ops Q S N fuel listed a w (i::rs):=λj g=>by
 rcases List.mem_cons.1 g with rfl|g
 .exact wpOp_step ho (λc z=>h c (λa w y A=>z a w ⟨λ_=>y,A y⟩))
 .exact C j g
def eQ.cons2 {fuel:Nat} {listed:Array Bool} {a:Act} {w:Wu} {i:Nat} {o:XH} {rs:List Nat} (ho:ops[i]? =Ws o) (z:Wt (N<=i)=Wz)
 (h: ∀c:Act->Wu->Prop,Shut (∀a w,gx P md ops Q S N fuel (listed.setIfInBounds i Wz) a w->c a w)->if Xy o (yielded ops a.tmps)=Wz then Oper.wp P o a w c Q else c (a.put o.dst XE) w)
 (C:eQ P md ops Q S N fuel listed a w rs):eQ P md ops Q S N fuel listed a w (i::rs):=λj g=>by
 rcases List.mem_cons.1 g with rfl|g
 .exact wpOp_step ho (λc y=>h c (λa w A=>y a w ⟨λh=>by have:=of_decide_eq_true z;omega,A⟩))
 .exact C j g
def uS {rs:List Nat} {fuel:Nat} {listed:Array Bool} {a:Act} {w:Wu} (c:XC md ops listed=rs) (g:rs≠[])
 (h:eQ P md ops Q S N fuel listed a w rs):gx P md ops Q S N (fuel+1) listed a w:=⟨λj=>absurd (c▸j) g,c▸h⟩
def do3 {listed:Array Bool} {a:Act} {w:Wu} (c:XC md ops listed=[]) (h:Q .normal a w):
 ∀fuel,gx P md ops Q S N fuel listed a w
 |0=>⟨c,h⟩
 |_+1=>⟨λ_=>h,by rw[c];simp⟩
def do4 {id:Nat} {a:Act} {w:Wu} (N:Nat) (hm:P.follows .mixedOrders=Wz) (c:S w.drew)
 (h:S w.drew->gx P .any ops Q S N ops.size (Array.replicate ops.size Ww) a w.drew):(Code.region id ops Wz).wp P Q a w:=
 wp_region_any hm (ab4 _ _ _ _ (h c))
def cI (m s:Nat) {g:XH} {v:Wv} {fuel:Nat} {listed:Array Bool} {a:Act} {w:Wu} {p:Prop} (h:p) (hS:S w:=by exact hS)
 (y:ops[m - (fuel+1)]? =Ws g:=by rfl) (z:(mS md ops listed (m - (fuel+1)) (s+(m - (fuel+1)))&&(Wt ((m - (fuel+1))<N)&&Da md ops N (m - (fuel+1))))=true:=by kernel_rfl)
 (j: ∀c a w,Q (.panic c) (a.put (Ws (s+(m - (fuel+1)))) v) w->Q (.panic c) a w:=by exact λ_ _ _ h=>h) (C:YieldsIf P ops S g v a:=by(refine Or.inl ⟨by rfl,?_⟩;intro w il;(try have il:=du.out w il);(try dsimp only at il);go_simp;try with_reducible rfl))
 (A:p->gx P md ops Q S N fuel (listed.setIfInBounds (m - (fuel+1)) Wz) (a.put (Ws (s+(m - (fuel+1)))) v) w:=by(intro hq;simp only[Act.put,sN,sP,sO,Nat.reduceSub,Nat.reduceAdd];exact hq)):gx P md ops Q S N (fuel+1) listed a w:=
 ct3 m s y z j C hS (A h)
def rE (m s:Nat) {g:XH} {fuel:Nat} {listed:Array Bool} {a:Act} {w:Wu} {p:Prop} (h:p) (hS:S w:=by exact hS)
 (y:ops[m - (fuel+1)]? =Ws g:=by rfl) (z:(mS md ops listed (m - (fuel+1)) (s+(m - (fuel+1)))&&(Wt ((m - (fuel+1))<N)&&Da md ops N (m - (fuel+1))))=true:=by kernel_rfl)
 (j: ∀c a w,Q (.panic c) (a.put (Ws (s+(m - (fuel+1)))) XE) w->Q (.panic c) a w:=by exact λ_ _ _ h=>h) (C:YieldsIf P ops S g XE a:=by exact Or.inr ⟨by rfl,rfl⟩)
 (A:p->gx P md ops Q S N fuel (listed.setIfInBounds (m - (fuel+1)) Wz) (a.put (Ws (s+(m - (fuel+1)))) XE) w:=by(intro hq;simp only[Act.put,sN,sP,sO,Nat.reduceSub,Nat.reduceAdd];exact hq)):gx P md ops Q S N (fuel+1) listed a w:=
 ct3 m s y z j C hS (A h)
def ie (i t:Nat) {g:XH} {v:Wv} {fuel:Nat} {listed:Array Bool} {a:Act} {w:Wu} {p:Prop} (h:p) (hS:S w:=by exact hS)
 (y:ops[i]? =Ws g:=by rfl) (z:(mS md ops listed i t&&(Wt (i<N)&&Da md ops N i))=true:=by kernel_rfl)
 (j: ∀c a w,Q (.panic c) (a.put (Ws t) v) w->Q (.panic c) a w:=by exact λ_ _ _ h=>h) (C:YieldsIf P ops S g v a:=by(refine Or.inl ⟨by rfl,?_⟩;intro w il;(try have il:=du.out w il);(try dsimp only at il);go_simp;try with_reducible rfl))
 (A:p->gx P md ops Q S N fuel (listed.setIfInBounds i Wz) (a.put (Ws t) v) w:=by(intro hq;simp only[Act.put,sN,sP,sO];exact hq)):gx P md ops Q S N (fuel+1) listed a w:=
 do2 i t y z j C hS (A h)
def bF (i:Nat) {o:XH} {fuel:Nat} {listed:Array Bool} {a:Act} {w:Wu} (h: ∀c:Act->Wu->Prop,Shut (∀a w,S w->(S w->gx P md ops Q S N fuel (listed.setIfInBounds i Wz) a w)->c a w)->if Xy o (yielded ops a.tmps)=Wz then Oper.wp P o a w c Q else c (a.put o.dst XE) w)
 (g:XC md ops listed=[i]:=by kernel_rfl) (ho:ops[i]? =Ws o:=by rfl):gx P md ops Q S N (fuel+1) listed a w:=uS g Yl (eQ.cons1 ho h eQ.nil)
def eC (i:Nat) {o:XH} {fuel:Nat} {listed:Array Bool} {a:Act} {w:Wu} (h: ∀c:Act->Wu->Prop,Shut (∀a w,gx P md ops Q S N fuel (listed.setIfInBounds i Wz) a w->c a w)->if Xy o (yielded ops a.tmps)=Wz then Oper.wp P o a w c Q else c (a.put o.dst XE) w)
 (j:XC md ops listed=[i]:=by kernel_rfl) (ho:ops[i]? =Ws o:=by rfl) (g:Wt (N<=i)=true:=by rfl):gx P md ops Q S N (fuel+1) listed a w:=uS j Yl (eQ.cons2 ho g h eQ.nil)
def fC {S:Wu->Prop} (N n:Nat) {id:Nat} {a:Act} {w:Wu} (c:S (World.drew w)) (h:S (World.drew w)->gx P .any ops Q S N n (Array.replicate n Ww) a (World.drew w)) (hm:P.follows .mixedOrders=true:=by kernel_rfl) (g:ops.size=n:=by rfl):(Code.region id ops Wz).wp P Q a w:=by subst g;exact do4 N hm c h
def gK {listed:Array Bool} {a:Act} {w:Wu} {fuel:Nat} (h:Q .normal a w) (c:XC md ops listed=[]:=by kernel_rfl):gx P md ops Q S N fuel listed a w:=do3 c h fuel
end
end
section
open Go Go.RowKit Go.Proofs.Tryz
def ag2 (c:UInt8): ∀(l:List UInt8),Wt (0<=Lib.indexByte l c)=Wt (c∈l)
 |[]=>by simp[Lib.indexByte]
 |b::l=>by
  have y:=ag2 c l;have z:=Lib.indexByte_ge l c;rw[Lib.indexByte];by_cases h:b=c
  .subst h;simp
  .have g:(b==c)=false:=by simpa using h
   rw[g];simp only[WW,if_false];have j:(c∈b::l)=(c∈l):=by simp[Ne.symm h]
   simp only[j,<-y];by_cases hm:Lib.indexByte l c= -1
   .simp[hm]
   .have:(Lib.indexByte l c== -1)=false:=by simpa using hm
    rw[this];simp only[WW,if_false,decide_eq_decide];omega
structure ju (w:Wu) (F:Wv) (p:UInt8->Bool):Prop where
 ex: ∃g caps,F=bm g caps/\dp g/\∀(W:Wu) (c:UInt8),Below w w W->aQ g (#[.int .u8 c.toNat]++caps) W (Yc (p c))
def ju.later {w w':Wu} {F:Wv} {p:UInt8->Bool} (h:ju w F p) (y:Below w w w'):ju w' F p:=by obtain⟨g,caps,h1,h2,h3⟩:=h.ex;exact⟨g,caps,h1,h2,λW c j=>h3 W c (ai y j)⟩
def ju.congr {w:Wu} {F:Wv} {p q:UInt8->Bool} (h:ju w F p) (e: ∀c,p c=q c):ju w F q:=by obtain rfl:p=q:=funext e;exact h
def ag3 (s:ByteArray) (w:Wu):
 WJ WH 186 #[s] w λe w'=>e=Xz (bm 279 #[aj w.heap.size])/\w'=w.alloc (Yd #[s] 9):=by
 refine ou λnV=> ?_;go_enter func186,ntmps186
 go_wp2
 go_ret;exact⟨rfl,rfl⟩
def dm4 (s:ByteArray) (c:UInt8) (b:Nat) (w:Wu) (h:w.cell? b=Ws (WM s)):
 WJ WH 279 #[.int .u8 c.toNat,aj b] w λe w'=>e=Xz (Yc (Wt (c∈s.data.toList)))/\w'=w:=by
 simp only[aj];go_enter func279,ntmps279;go_wp2_with(go_at_call 280;refine(strings_IndexByte s _ _).m ?_;rintro e w' ⟨rfl,rfl⟩)
 go_ret;refine⟨?_,rfl⟩;have:=ag2 c s.data.toList;simpa using this
def ag4 (s:ByteArray) (w:Wu):ju (w.alloc (Yd #[s] 9)) (bm 279 #[aj w.heap.size]) (λc=>Wt (c∈s.data.toList)):=by refine⟨_,_,rfl,WD func279 aC rfl,λW c g=> ?_⟩;have h:W.cell? w=Ws (WM s):=(g.cell (p:=w) Yl).trans jJ;exact(dm4 s c w W h).mono λe w' ⟨j,y⟩=>⟨j,y▸af W⟩
def dm5 (a b:UInt8) (w:Wu):
 WJ WH 188 #[.int .u8 a.toNat,.int .u8 b.toNat] w λe w'=>e=Xz (bm 281 #[aj w.heap.size,aj (w.heap.size+1)])/\w'=(w.alloc (Yd #[.int .u8 a.toNat] 5)).alloc (Yd #[.int .u8 b.toNat] 5):=by
 refine ou λnV=> ?_;go_enter func188,ntmps188
 go_wp2
 go_ret;exact⟨rfl,rfl⟩
def dm6 (a b c:UInt8) (p q:Nat) (w:Wu) (g:w.cell? p=Ws (.int .u8 a.toNat)) (h:w.cell? q=Ws (.int .u8 b.toNat)):
 WJ WH 281 #[.int .u8 c.toNat,aj p,aj q] w λe w'=>e=Xz (Yc (Wt (a.toNat<=c.toNat)&&Wt (c.toNat<=b.toNat)))/\w'=w:=by
 simp only[aj];go_enter func281,ntmps281
 go_wp2
 all_goals
  go_ret;refine⟨?_,rfl⟩;simp_all;try omega
def dm7 (a b:UInt8) (w:Wu):ju ((w.alloc (Yd #[.int .u8 a.toNat] 5)).alloc (Yd #[.int .u8 b.toNat] 5)) (bm 281 #[aj w.heap.size,aj (w.heap.size+1)]) (λc=>Wt (a.toNat<=c.toNat)&&Wt (c.toNat<=b.toNat)):=by refine⟨_,_,rfl,WD func281 aC rfl,λW c g=> ?_⟩;have j:W.cell? w=Ws (.int .u8 a.toNat):=(g.cell (p:=w) bI).trans jJ;have y:W.cell? ⟨w.heap.size+1,0,Wr⟩=Ws (.int .u8 b.toNat):=(g.cell (p:=⟨w.heap.size+1,0,Wr⟩) Yl).trans jJ;exact(dm6 a b c _ _ W j y).mono λe w' ⟨z,A⟩=>⟨z,A▸af W⟩
def j5 (s:ByteArray):s.data.toList.length=s.size:=Oj
def PV {s:ByteArray} {k:Nat} (h:k<s.size):s.data.toList[k]? =Ws s[k]:=by rw[Wy (by rw[j5];exact h)];rfl
def YB {p:UInt8->Bool}: ∀{l:List UInt8} {k:Nat},(∀j c,j<k->l[j]? =Ws c->p c=Wz)->k<=l.length->(k=l.length\/∃c,l[k]? =Ws c/\p c=Ww)->(l.takeWhile p).length=k
 |[],k,_,hk,_=>by simp at hk;simp[hk]
 |c::l,0,_,_,h=>by
  rcases h with h|⟨d,g,y⟩
  .simp at h
  .simp at g;subst g;simp[y]
 |c::l,k+1,dw,hk,h=>by
  have z:=dw 0 c Yi Yl;rw[List.takeWhile_cons,if_pos z,Xg];have:=YB (p:=p) (l:=l) (k:=k) (λj d A g=>dw (j+1) d Yi (by simpa using g)) (by simpa using hk) (by
   rcases h with h|⟨d,g,y⟩
   .exact .inl zi
   .exact .inr ⟨d,by simpa using g,y⟩)
  omega
def gd (p:UInt8->Bool) (s:ByteArray):Nat:=(s.data.toList.takeWhile p).length
def Ml (s:ByteArray) (F:Wv) (p:UInt8->Bool) (w:Wu) (V:s.size<=9223372036854775807) (h:ju w F p):
 aQ 185 #[s,F] w (WK Xr (gd p s)):=by
 unfold gd;obtain⟨g,caps,rfl,eg,hg⟩:=h.ex;have G:=aa hg;unfold dp at eg;simp only[bm];clear h hg;go_enter func185,ntmps185;go_wp2_with fail
 go_loopw [5] (λi wr=> ∃k:Nat,k<=s.size/\i=WK Xr k/\(∀j c,j<k->s.data.toList[j]? =Ws c->p c=Wz)/\Below w w wr) (λi _=>s.size - (WS i).toNat)
 case atStart=>exact⟨0,bU _,rfl,by omega,af w⟩
 case round=>
  obtain⟨k,hk,rfl,dw,hB⟩:=hrel;have z:=aa dw;clear dw;by_cases C:k<s.size
  .have O:(0:Int)<=k:=by omega
   have J:(k:Int)<s.size:=Yi;go_wp2_with fail
   refine(G.out wr s[k] hB).m ?_;rintro e w' ⟨rfl,I⟩;have D:=ai hB I;cases hp:p s[k] with
   |true=>
    have A:=aa hp;clear hp;go_wp2_with fail
    refine⟨⟨k+1,by omega,by go_num,λj c U y=> ?_,D⟩,by simp[WS];omega⟩;by_cases e:j=k
    .subst e;rw[PV C] at y;injection y with y;rw[<-y];exact A.out
    .exact z.out j c Yi y
   |false=>
    have A:=aa hp;clear hp;go_wp2_with fail
    go_ret;refine⟨?_,D⟩;rw[YB z.out (by rw[j5];exact hk) (.inr ⟨_,PV C,A.out⟩)];rfl
  .go_wp2_with fail
   go_ret;refine⟨?_,hB⟩;rw[YB z.out (by rw[j5];exact hk) (.inl (by rw[j5];omega))];rfl
def wT (w:Wu) (B:Nat) (cs:List Wv) (p:UInt8->Bool):Prop:=
 ∃g caps,cs=[bm g caps]/\dp g/\∀(W:Wu) (c:UInt8),Below B w W->aQ g (#[.int .u8 c.toNat]++caps) W (Yc (p c))
def wT.ab:jf wT:=λw w' B B₂ B' F p ⟨g,caps,j,y,z⟩ D A h=>⟨g,caps,j,y,λW c C=>z W c ((D.mono A).trans (C.mono h))⟩
def ju.toR {w:Wu} {F:Wv} {p:UInt8->Bool} (h:ju w F p):wT w w [F] p:=by obtain⟨g,caps,h1,h2,h3⟩:=h.ex;exact⟨g,caps,by rw[h1],h2,h3⟩
def dm8 (v:Wv) (w:Wu) (g: ∃A n c,v=Yb A n c):
 WJ WH 282 #[v] w λe w'=>e=Xz (bm 339 #[aj w.heap.size])/\w'=w.alloc (Yd #[v] 306):=by
 obtain⟨A,n,c,rfl⟩:=g;refine ou λnV=> ?_;go_enter func282,ntmps282
 go_wp2
 go_ret;exact⟨rfl,rfl⟩
def dm9 (c:UInt8) (b g:Nat) (caps:Array Wv) (r:Bool) (w:Wu) (h:w.cell? b=Ws (.int .u8 c.toNat)) (z:dp g)
 (j:aQ g (#[.int .u8 c.toNat]++caps) w (Yc r)):
 aQ 341 #[bm g caps,aj b] w (Yc r):=by
 have y:=aa j;unfold dp at z;simp only[bm,aj];clear j;go_enter func341,ntmps341;go_wp2_with fail
 refine y.out.m ?_;rintro e w' ⟨rfl,A⟩;go_wp2_with fail
 go_ret;exact⟨rfl,A⟩
def dn0 (c:UInt8) (b:Nat) (v:Wv) (z:List (UInt8->Bool)) (w:Wu) (h:w.cell? b=Ws v) (U:b<w.heap.size) (y:bW 1 wT w w v z):
 aQ 339 #[.int .u8 c.toNat,aj b] w (Yc (z.any λp=>p c)):=by
 refine ou λnV=> ?_;have J:=aa y;obtain⟨A,n,cc,rfl,hl,_,_⟩:=y.form;have C:=dl2 wT wT.ab (Yb A n cc) z 341 #[aj w.heap.size] (jg z λp=>p c) (w.alloc (Yd #[.int .u8 c.toNat] 5)) (y.to wT.ab (ae (af w) _) (ag _) Yl) (WD func341 aC rfl)
  (λj x O W hx G I _=>by obtain⟨g,caps,rfl,eg,hg⟩:=I;have F:W.cell? w=Ws (.int .u8 c.toNat):=(G.cell (p:=w) Yl).trans jJ;rw[eW hx];exact dm9 c _ g caps _ W F eg (hg W c (XA _ _)))
 rw[BF] at C;have D:=aa C;clear C y hl;simp only[bm,aj] at D⊢
 go_enter func339,ntmps339;go_wp2_with(go_at_call 340;refine D.out.m ?_;rintro e V ⟨rfl,ap⟩)
 exact Mn
def dn1 (v:Wv) (j:List (UInt8->Bool)) (w:Wu) (z:bW 1 wT w w v j):ju (w.alloc (Yd #[v] 306)) (bm 339 #[aj w.heap.size]) (λc=>j.any λp=>p c):=by
 refine⟨_,_,rfl,WD func339 aC rfl,λW c g=> ?_⟩;have y:W.cell? w=Ws v:=by refine(g.cell (p:=w) Yl).trans ?_;rw[Xa];rfl
 exact dn0 c w v j W y (bq Yl g.size) (z.to wT.ab (ai (ae (af w) _) g) (ag _) (ai (ae (af w) _) g).size)
def YC (s:ByteArray) (n:Nat):(s.extract n s.size).data.toList=s.data.toList.drop n:=by have h:=j5 s;simp[ByteArray.data_extract];exact WY (by rw[Xc];omega)
def YE (p:UInt8->Bool) (s:ByteArray) (n:Nat):gd p (s.extract n s.size)=((s.data.toList.drop n).takeWhile p).length:=by unfold gd;rw[YC]
def YF {p:UInt8->Bool}: ∀(l:List UInt8),l.drop (l.takeWhile p).length=l.dropWhile p
 |[]=>rfl
 |c::l=>by
  rw[List.takeWhile_cons,List.dropWhile_cons];split
  .simp[YF l]
  .simp
def Mo (p:UInt8->Bool) (l:List UInt8):(l.takeWhile p).length<=l.length:=by
 induction l with
 |nil=>simp
 |cons c l ih=>rw[List.takeWhile_cons];split<;>simp;omega
def dn2 (w:Wu):ju w (bm 187 #[]) fX:=by
 refine⟨_,_,rfl,WD func187 aC rfl,λW c _=> ?_⟩;show WJ _ _ #[_] _ _;go_enter func187,ntmps187
 go_wp2
 go_ret;refine⟨cE ?_,af W⟩;unfold fX;have:((c.toNat:Int)!=10)= !(c==10):=by
  by_cases h:c=10
  .subst h;rfl
  .have g:(c==10)=false:=by simpa using h
   rw[g];have:c.toNat≠10:=λe=>h (UInt8.toNat_inj.1 e);simp;omega
 simpa using this
def dn3 (c:UInt8):Wt (c∈(⟨#[32,9,10,13]⟩:ByteArray).data.toList)=ig c:=by unfold ig;rw[WU];simp[or_assoc]
def dj8 (w:Wu):ju (w.alloc (Yd #[WM ⟨#[32,9,10,13]⟩] 9)) (bm 279 #[aj w.heap.size]) ig:=(ag4 ⟨#[32,9,10,13]⟩ w).congr dn3
def dj9 (L:List UInt8) (n:Nat) (I:n<=L.length) (h:bV (L.drop n)=bV L):
 (n+((L.drop n).takeWhile ig).length<=L.length)/\
 (n+((L.drop n).takeWhile ig).length=L.length->bV L=[])/\
 (∀c,L[n+((L.drop n).takeWhile ig).length]? =Ws c->c≠35->(bV L).length=L.length - (n+((L.drop n).takeWhile ig).length))/\
 (L[n+((L.drop n).takeWhile ig).length]? =some 35->
   n<n+((L.drop n).takeWhile ig).length+((L.drop (n+((L.drop n).takeWhile ig).length)).takeWhile fX).length/\
   n+((L.drop n).takeWhile ig).length+((L.drop (n+((L.drop n).takeWhile ig).length)).takeWhile fX).length<=L.length/\
   bV (L.drop (n+((L.drop n).takeWhile ig).length+((L.drop (n+((L.drop n).takeWhile ig).length)).takeWhile fX).length))=bV L):=by
 have C:=Mo ig (L.drop n);rw[Xc] at C;have g:L.drop (n+((L.drop n).takeWhile ig).length)=(L.drop n).dropWhile ig:=by rw[<-YF,List.drop_drop]
 generalize hm:n+((L.drop n).takeWhile ig).length=m at*
 refine⟨by omega,λe=> ?_,λc j G=> ?_,λj=> ?_⟩
 .rw[e,List.drop_length] at g;rw[<-h,Im g.symm];rfl
 .have y:m<L.length:=(List.getElem?_eq_some_iff.1 j).1;rw[List.drop_eq_getElem_cons y] at g;have A:L[m]=c:=(List.getElem?_eq_some_iff.1 j).2;rw[<-h,Im g.symm,A];show(if c=35 then bV (List.dropWhile fX (L.drop (m+1))) else c::L.drop (m+1)).length=_;rw[if_neg G];simp;omega
 .have y:m<L.length:=(List.getElem?_eq_some_iff.1 j).1;have A:L[m]=35:=(List.getElem?_eq_some_iff.1 j).2;have z:=List.drop_eq_getElem_cons y;rw[A] at z;have D:(L.drop m).takeWhile fX=35::(L.drop (m+1)).takeWhile fX:=by rw[z];rfl
  rw[D];have F:=Mo fX (L.drop (m+1));rw[Xc] at F;simp only[Xg];refine⟨by omega,by omega,?_⟩;have e:m+((L.drop (m+1)).takeWhile fX).length.succ=(m+1)+((L.drop (m+1)).takeWhile fX).length:=Yi;rw[show m+(((L.drop (m+1)).takeWhile fX).length+1)=(m+1)+((L.drop (m+1)).takeWhile fX).length by omega];rw[<-List.drop_drop,YF,<-h,Im (s:=L.drop n) (l:=L.drop m) g.symm,z];show _=if(35:UInt8)=35 then bV (List.dropWhile fX (L.drop (m+1))) else(35:UInt8)::L.drop (m+1)
  rw[if_pos rfl]
def YG {c d:UInt8} (h:c≠d):((c.toNat:Int)!=(d.toNat:Int))=true:=by rw[bne_iff_ne];intro e;exact h (UInt8.toNat_inj.1 Yi)
def ag5 (s:ByteArray) (w:Wu) (hs:s.size<=16384):
 aQ 114 #[s] w (WK Xr ((s.size - (bV s.data.toList).length:Nat):Int)):=by
 go_enter func114,ntmps114;go_wp2_with fail
 go_loopw [3] (λi wr=> ∃k:Nat,k<=s.size/\i=WK Xr k/\bV (s.data.toList.drop k)=bV s.data.toList/\Below w w wr) (λi _=>s.size - (WS i).toNat)
 case atStart=>exact⟨0,bU _,rfl,rfl,af w⟩
 case round=>
  obtain⟨k,hk,rfl,cq4,hB⟩:=hrel;have c:=dj9 s.data.toList k (by rw[j5];exact hk) cq4;have j:=aa c;have dz:(0:Int)<=k:=Yi;have bJ:(k:Int)<=s.size:=Yi;have hz:(s.extract k s.size).size<=9223372036854775807:=zj;clear c cq4;go_wp2_with fail
  go_region_held3 (λ_=>True) (trivial)
   (first
     |(go_at_call 186;refine(ag3 _ _).m ?_;rintro e w1 ⟨rfl,rfl⟩)
     |(go_at_call 185;refine(Ml _ _ ig _ hz ((dj8 wr).later (aX (af _)))).m ?_;rintro e w2 ⟨rfl,V⟩))
  rw[YE];have A:=ai hB (ai (aX (ae (af wr) _)) V);clear V;generalize hm:((s.data.toList.drop k).takeWhile ig).length=d at*
  have hd:k+d<=s.size:=by have:=j.out.1;rw[j5] at this;exact this
  have O:IntKind.i64.wrap ((k:Int)+(d:Int))=((k+d:Nat):Int):=by rw[Xf _ Yi];omega
  rw[O];clear O;have HM:=aa hm;clear hm;obtain⟨m,hm⟩: ∃m,k+d=m:=⟨_,rfl⟩;rw[hm] at hd j;simp only[hm];have D:=aa hm;clear hm;have hb2:(0:Int)<=m:=Yi;by_cases y:m=s.size
  .have G:((m:Int)==(s.size:Int))=true:=by simp[y]
   have U:=aa y;clear y;go_wp2_with fail
   go_ret;refine⟨?_,A⟩;have h0:=j.out.2.1 (by rw[j5];exact U.out);rw[h0];show Xz (WK Xr (m:Int))=_;rw[U.out];rfl
  .have G:((m:Int)==(s.size:Int))=false:=by simp;omega
   have I:m<s.size:=Yi;have ce6:(m:Int)<s.size:=Yi;have Z:=PV I;have Y:=aa Z;clear y Z;by_cases g:s[m]=35
   .have Uf:((s[m].toNat:Int)!=35)=false:=by rw[g];rfl
    have c:=j.out.2.2.2 (by rw[Y.out,g]);have J:=aa c;have X:(s.extract m s.size).size<=9223372036854775807:=zj;rw[<-YE] at c;have z:=aa (Ml (s.extract m s.size) _ fX w2 X (dn2 _));obtain⟨q,hq⟩: ∃q,gd fX (s.extract m s.size)=q:=⟨_,rfl⟩;rw[hq] at c z;rw[j5] at c;obtain⟨dh,bS,p_⟩:=c;have C:=aa p_;have F:=D.out;have he9:k<=m:=Yi;clear p_ hq g X J F;unfold bm at z;go_wp2_with(go_at_call 185;refine z.out.m ?_;rintro e w3 ⟨rfl,aL⟩)
    refine⟨⟨m+q,by omega,by go_num,C.out,ai A aL⟩,by simp[WS];omega⟩
   .have Uf:((s[m].toNat:Int)!=35)=true:=by
     exact YG g
    have c:=j.out.2.2.1 _ Y.out g;rw[j5] at c;have J:=aa c;clear c g;go_wp2_with fail
    go_ret;refine⟨?_,A⟩;rw[J.out];show Xz (WK Xr (m:Int))=_;congr 2;omega
structure fD (w:Wu):Prop where
 g:cH w
 sp:Lib.TabIs WH w "strings.asciiSpace" .u8 Lib.asciiSpaceTab
def fD.below {w w':Wu} {B:Nat} (h:fD w) (z:Below B w w') (y:8<=B):fD w' where
 g:=h.g.below z y
 sp:=by
  have e:w'.var? WH "strings.asciiSpace" =w.var? WH "strings.asciiSpace" :=by have A:Tryz.prog.globalNamed "strings.asciiSpace" =Ws 4:=aC;have C:=z.block 4 (bq az y);simp only[World.var?,A];show(match w'.heap[4]? with|some (Obj.cells cs _ _)=>Ws cs|_=>Wr)=(match w.heap[4]? with|some (Obj.cells cs _ _)=>Ws cs|_=>Wr);rw[C]
  have j:=h.sp;unfold Lib.TabIs at j⊢
  rw[e];exact j
def fD.step {w w':Wu} (h:fD w) (c:Below w w w'):fD w':=h.below c h.g.size
def LS {l c:List UInt8} (h:bs l=bs c):l=c:=by rw[<-gI l,h,gI]
def dk7 (l:List UInt8) (h:l.all (λb=>Wt (b.toNat<128))=Wz) (j:Nat) (b:UInt8) (c:l[j]? =Ws b):b.toNat<128:=by have:=List.all_eq_true.1 h b (eD c);simpa using this
def YK (w:Wu) (c:fD w):
 WJ WH 226 #[] w λe w'=> ∃v,e=Xz v/\bG w' w' v dH/\Below w w w':=by
 have z:=aa c;clear c;go_enter func226,ntmps226;go_wp2_with fail
 refine(strings_Fields _ _ (by decide+kernel) (λj b h=>dk7 _ (by decide+kernel) j b h) z.out.sp).m ?_;rintro e w' ⟨g,y⟩;rw[show Lib.fields _=dH from by decide+kernel] at g y;subst g y;go_wp2_with fail
 go_ret;refine⟨_,rfl,?_,ae (af w) _⟩;refine⟨_,28,rfl,by decide,by decide,λ_=>⟨w.heap.size,0,rfl,by simp,λj u A=> ?_⟩⟩;rw[Xa];simpa[bs] using A
def Px (v:Wv) (l:List ak) (s:ak) (w:Wu) (B:Nat) (h:bG w B v l):
 WJ WH 199 #[v,bs s] w λe w'=>e=Xz (Yc (Wt (s∈l)))/\w'=w:=by
 have C:=cD.form h;obtain⟨A,n,c,rfl,hl,hc,hm⟩:=C;rw[WF] at hl;by_cases z:n=0
 .subst z;have:l=[]:=X7 hl;subst this;refine(slices_Contains_string_empty A c _ w).mono λe w' ⟨g,y⟩=>⟨by rw[g];simp,y⟩
 .obtain⟨b,o,rfl,hb,bk⟩:=cD.at_ h 0 Yi;refine(slices_Contains_string b o n c (l.map bs) (bs s) w (by simp[hl]) Yi (λj D=>bk j (by simp at D;omega))).mono λe w' ⟨g,y⟩=>⟨?_,y⟩;rw[g];refine cE ?_;rw[WY (by simp[hl])];rw[WU,Lib.containsS_iff];simp only[List.mem_map,decide_eq_true_eq];exact⟨λ⟨x,hx,e⟩=>LS e▸hx,λhx=>⟨s,hx,rfl⟩⟩
def yr (c:UInt8):Bool:=Wt (33<=c.toNat)&&Wt (c.toNat<=126)
def Al (x:aP):Array Value:= #[WK Xr x.ok,WM x.key,WK Xr x.val,WK Xr x.old]
def wU (s:ByteArray):Bool:=s.data.toList.all yr
def ad6 {s:ByteArray} (h: ∀k (j:k<s.size),yr s[k]=Wz):wU s=true:=by rw[wU,Xo];intro c g;obtain⟨i,hi,rfl⟩:=List.getElem_of_mem g;exact h i (by rw[Array.length_toList] at hi;exact hi)
def ad7 {s:ByteArray} {k:Nat} (g:k<s.size) (h: ¬yr s[k]=Wz):wU s=false:=by rw[Bool.eq_false_iff];intro c;rw[wU,Xo] at c;exact h (c _ (Array.mem_toList_iff.2 (Array.getElem_mem g)))
def LY (c:UInt8):yr c=Wz↔33<=c.toNat/\c.toNat<=126:=by simp[yr]
def uU (x:aP):Bool:=
 Wt (0<=x.ok)&&Wt (x.ok<=3)&&Wt (1<=x.key.size)&&Wt (x.key.size<=31)&&((x.old==0)||(x.ok==2))&&((x.val==0)|| !(x.ok==0))&&wU x.key
def du1 (x:aP) (w:Wu) (c: ¬(0<=x.ok/\x.ok<=3/\1<=x.key.size/\x.key.size<=31/\(x.old=0\/x.ok=2)/\(x.val=0\/x.ok≠0))):
 aQ 71 #[Ye (Al x)] w (Yc Ww):=by
 have g:=aa c;clear c;rw[Al];go_enter func71,ntmps71;go_wp2_with fail
 all_goals first
  |(go_ret;exact⟨rfl,ae (af w) _⟩)
  |(exfalso;refine g.out ?_;simp only[bne_iff_ne,ne_eq,beq_iff_eq,beq_eq_false_iff_ne,bne_eq_false_iff_eq] at*;omega)
def du2 (x:aP) (w:Wu) (G:0<=x.ok/\x.ok<=3/\1<=x.key.size/\x.key.size<=31/\(x.old=0\/x.ok=2)/\(x.val=0\/x.ok≠0)):
 aQ 71 #[Ye (Al x)] w (Yc (wU x.key)):=by
 obtain⟨h1,h2,h3,h4,c,g⟩:=G;have z:((x.old !=0)=Ww)\/((x.old !=0)=Wz/\(x.ok !=2)=Ww):=by
  rcases c with h|h
  .simp[h]
  .by_cases C:x.old=0<;>simp[h,C]
 have A:((x.val !=0)=Ww)\/((x.val !=0)=Wz/\(x.ok==0)=Ww):=by
  rcases g with h|h
  .simp[h]
  .by_cases C:x.val=0<;>simp[h,C]
 clear c g;rw[Al];rcases z with c|⟨c,I⟩<;>rcases A with g|⟨g,J⟩;all_goals
  go_enter func71,ntmps71;go_wp2_with fail
  go_loopw [3] (λi wr=> ∃k:Nat,k<=x.key.size/\i=WK Xr k/\(∀j (y:j<x.key.size),j<k->yr x.key[j]=Wz)/\wr=w.alloc (Yd #[x.ok,x.key,x.val,x.old] 44)) (λi _=>x.key.size - (WS i).toNat)
  case atStart=>exact⟨0,bU _,rfl,by omega,rfl⟩
  case round=>
   obtain⟨k,hk,rfl,bN,rfl⟩:=hrel;have D:=aa bN;clear bN;by_cases F:k<x.key.size
   .go_wp2_with fail
    all_goals first
     |exact⟨⟨k+1,by omega,by go_num,(λj y O=>by
       by_cases e:j=k
       .subst e;rw[LY];omega
       .exact D.out j y Yi),trivial⟩,by simp[WS];omega⟩
     |(go_ret;exact⟨cE (ad7 F (by rw[LY];omega)).symm,ae (af w) _⟩)
   .go_wp2_with fail
    go_ret;exact⟨cE (ad6 λj y=>D.out j y Yi).symm,ae (af w) _⟩
def ad8 (x:aP) (w:Wu):
 aQ 71 #[Ye (Al x)] w (Yc (uU x)):=by
 by_cases j:0<=x.ok/\x.ok<=3/\1<=x.key.size/\x.key.size<=31/\(x.old=0\/x.ok=2)/\(x.val=0\/x.ok≠0)
 .refine(du2 x w j).mono λe w' ⟨y,z⟩=>⟨?_,z⟩;obtain⟨h1,h2,h3,h4,c,g⟩:=j;rw[y];refine cE ?_;by_cases A:x.val=0<;>rcases c with c|c<;>rcases g with g|g<;>simp[uU,h1,h2,h3,h4,c,g,A]
 .refine(du1 x w j).mono λe w' ⟨y,z⟩=>⟨?_,z⟩;rw[y];refine cE ?_;simp only[uU];symm;rw[Bool.eq_false_iff];intro h;simp only[WC,XK,decide_eq_true_eq,beq_iff_eq,X2,beq_eq_false_iff_ne] at h;exact j ⟨h.1.1.1.1.1.1,h.1.1.1.1.1.2,h.1.1.1.1.2,h.1.1.1.2,h.1.1.2,h.1.2⟩
def dV:Nat->List UInt8
 |0=>[100,101,108,105,118,101,114]
 |1=>[100,114,111,112]
 |2=>[100,111,117,98,108,101]
 |3=>[116,105,99,107]
 |4=>[115,108,111,116]
 |5=>[99,114,97,115,104]
 |6=>[114,101,115,116,97,114,116]
 |7=>[102,97,105,108]
 |8=>[105,115,111,108,97,116,101]
 |9=>[106,111,105,110]
 |10=>[114,101,113,117,101,115,116]
 |11=>[114,101,116,114,121]
 |12=>[99,97,108,108]
 |13=>[99,111,109,112,97,99,116]
 |14=>[116,114,97,110,115,102,101,114]
 |15=>[114,101,112,108,97,110]
 |16=>[100,97,114,107]
 |17=>[99,97,108,109]
 |_=>[]
def du3 (l:List Int) (k:Nat) (h:k<l.length):l.take (k+1)=l.take k++[cT l k]:=by rw[List.take_succ_eq_append_getElem h,LP h]
def du4 {l:List Int} {k:Nat} (h:k<l.length):cT l k∈l:=by rw[LP h];exact List.getElem_mem h
def j6 (w:Wu) (b:Nat) (x:aP) (m s:Wv):Prop:=
 w.cell? b=Ws (WK Xr x.kind)/\w.cell? (b 1 Wr)=Ws (WK Xr x.a)/\w.cell? (b 2 Wr)=Ws (WK Xr x.b)/\w.cell? (b 3 Wr)=Ws (WK Xr x.c)/\w.cell? (b 4 Wr)=Ws (WK Xr x.ok)/\w.cell? (b 5 Wr)=Ws (WM x.key)/\w.cell? (b 6 Wr)=Ws (WK Xr x.val)/\w.cell? (b 7 Wr)=Ws (WK Xr x.old)/\w.cell? (b 8 Wr)=Ws m/\w.cell? (b 9 Wr)=Ws s
def j6.keep {w w':Wu} {b:Nat} {x:aP} {m s:Wv} (h:j6 w b x m s) (c: ∀o,w'.cell? (b o Wr)=w.cell? (b o Wr)):j6 w' b x m s:=by
 unfold j6 at h⊢
 simp only[c];exact h
def j6.below {w w':Wu} {b B:Nat} {x:aP} {m s:Wv} (h:j6 w b x m s) (g:Below B w w') (c:b<B):j6 w' b x m s:=
 h.keep λ_=>g.cell c
def j6.new (w:Wu) (t:WQ) (x:aP) (m s:Wv):j6 (w.alloc (Yd (x.cells m s) t)) w.heap.size x m s:=by simp[j6,aP.cells]
def An (n:Int):Prop:=0<=n/\n<=128
def yt (l:List Int) (j:Nat):Prop:=(1<=cT l j/\cT l j<=16)/\(0<j->cT l (j - 1)<cT l j)
instance (n:Int):Decidable (An n):=by unfold An;infer_instance
instance (l:List Int) (j:Nat):Decidable (yt l j):=by unfold yt;infer_instance
def sq (l:List Int):Bool:=(Xs l.length).all λj=>Wt (An (cT l j))
def su (l:List Int):Bool:=(Xs l.length).all λj=>Wt (yt l j)
def ad9 {l:List Int} (h: ∀j,j<l.length->An (cT l j)):sq l=true:=by rw[sq,Xo];intro j hj;exact decide_eq_true (h j Cq)
def ae0 {l:List Int} {k:Nat} (g:k<l.length) (h: ¬An (cT l k)):sq l=false:=by rw[Bool.eq_false_iff,sq];intro c;rw[Xo] at c;exact h (of_decide_eq_true (c k (by simpa using g)))
def ae1 {l:List Int} (h: ∀j,j<l.length->yt l j):su l=true:=by rw[su,Xo];intro j hj;exact decide_eq_true (h j Cq)
def PD {l:List Int} {k:Nat} (g:k<l.length) (h: ¬yt l k):su l=false:=by rw[Bool.eq_false_iff,su];intro c;rw[Xo] at c;exact h (of_decide_eq_true (c k (by simpa using g)))
def Fe (n a b:Int) (h:a<=n/\n<=b) (w:Wu):WJ WH 70 #[n,a,b] w λe w'=>e=Xz (Yc Wz)/\w'=w:=
 (Wa n a b w).mono λe w' ⟨c,g⟩=>⟨by rw[c];simp[h.1,h.2],g.symm⟩
def We (n a b:Int) (h: ¬(a<=n/\n<=b)) (w:Wu):WJ WH 70 #[n,a,b] w λe w'=>e=Xz (Yc Ww)/\w'=w:=
 (Wa n a b w).mono λe w' ⟨c,g⟩=>⟨by rw[c];refine cE ?_;rw[Bool.eq_false_iff];simpa using h,g.symm⟩
def dT (n a b:Int):Bool:=Wt (a<=n)&&Wt (n<=b)
def PE (n a b:Int) (w:Wu):WJ WH 70 #[n,a,b] w λe w'=>e=Xz (Yc (dT n a b))/\w'=w:=
 (Wa n a b w).mono λe w' ⟨c,g⟩=>⟨c,g.symm⟩
def nG (x:aP):Bool:=
 if x.kind=0\/x.kind=1\/x.kind=2 then dT x.a 0 1048576
 else if x.kind=3\/x.kind=6\/x.kind=13\/x.kind=5 then dT x.a 1 16
 else if x.kind=4\/x.kind=16\/x.kind=15 then Wz
 else if x.kind=7 then dT x.a 1 16&&dT x.b 0 1048576
 else if x.kind=8\/x.kind=9 then dT x.a 1 16||dT x.a 101 108
 else if x.kind=10 then dT x.a 1 8&&dT x.b 0 8&&uU x
 else if x.kind=11 then dT x.a 1 8
 else if x.kind=12 then dT x.a 1 8&&dT x.b 1 8
 else if x.kind=14 then dT x.a 1 16&&dT x.c 1 16&&dT x.b 0 8
 else if x.kind=17 then dT x.a 1 200
 else Ww
def fE (x:aP):Bool:=mX x (ch x)&&Wt (x.ss.length<=20)&&sq x.ss&&su x.ms&&nG x
def dp5 (x:aP) (m s:Wv) (w:Wu) (hx:x.In w w m s) (y:mX x (ch x)=Ww):
 aQ 32 #[Ye (x.cells m s)] w (Yc Ww):=by
 obtain⟨Am,nm,cm,rfl,gV,_,iG⟩:=hx.ms.form;obtain⟨As,ns,cs,rfl,lO,_,fW⟩:=hx.ss.form;have HX:=aa hx;have V:=aa gV;have O:=aa lO;refine Wf λused' same'=> ?_;rw[y] at same';have A:=aa used';have z:=aa same';clear used' same' hx y gV lO;rw[aP.cells_def];go_enter func32,ntmps32;go_wp2_with fail
 first|(go_region_with
  (first
    |(go_at_call 69;refine(A.out _ (aX (ae (af w) _))).m ?_;rintro e I ⟨G,s1,rfl,C,g⟩;have j:=ai (aX (ae (af w) _)) g;have F:w.heap.size<I.heap.size:=jM g Yl;obtain⟨bt,cr⟩:=gw g)
    |(go_at_call 12;refine(z.out _ G s1 j C).m ?_;rintro e J ⟨rfl,c⟩;have D:=ai j c;have U:w.heap.size<J.heap.size:=jM c F;obtain⟨cR,cL⟩:=gw c)))|fail
 all_goals go_wp2_with fail
 all_goals go_ret
 all_goals exact⟨rfl,D⟩
def dp6 (x:aP) (m s:Wv) (w:Wu) (hx:x.In w w m s) (z:mX x (ch x)=Wz) (y:20<x.ss.length):
 aQ 32 #[Ye (x.cells m s)] w (Yc Ww):=by
 obtain⟨Am,nm,cm,rfl,gV,_,iG⟩:=hx.ms.form;obtain⟨As,ns,cs,rfl,lO,_,fW⟩:=hx.ss.form;have HX:=aa hx;have Y:=aa gV;have A:=aa lO;refine Wf λused' same'=> ?_;rw[z] at same';have D:=aa used';have C:=aa same';clear used' same' hx z gV lO;have X:(20:Int)<ns:=by rw[A.out] at y;omega
 clear y;rw[aP.cells_def];go_enter func32,ntmps32;go_wp2_with fail
 go_region_held3 (λw'=>w'.cell? w=Ws (WK Xr x.kind)/\w'.cell? (w 1 Wr)=Ws (WK Xr x.a)/\w'.cell? (w 2 Wr)=Ws (WK Xr x.b)/\w'.cell? (w 3 Wr)=Ws (WK Xr x.c)/\w'.cell? (w 4 Wr)=Ws (WK Xr x.ok)/\w'.cell? (w 5 Wr)=Ws (WM x.key)/\w'.cell? (w 6 Wr)=Ws (WK Xr x.val)/\w'.cell? (w 7 Wr)=Ws (WK Xr x.old)/\w'.cell? (w 8 Wr)=Ws (Yb Am nm cm)/\w'.cell? (w 9 Wr)=Ws (Yb As ns cs)) (simp[*])
  (first
    |(go_at_call 69;refine(D.out _ (aX (ae (af w) _))).m ?_;rintro e O ⟨J,s1,rfl,F,g⟩;have j:=ai (aX (ae (af w) _)) g;have I:w.heap.size<O.heap.size:=jM g Yl;obtain⟨bt,cr⟩:=gw g)
    |(go_at_call 12;refine(C.out _ J s1 j F).m ?_;rintro e U ⟨rfl,c⟩;have G:=ai j c;have V:w.heap.size<U.heap.size:=jM c I;obtain⟨cR,cL⟩:=gw c))
 all_goals go_wp2_with fail
 all_goals go_ret
 all_goals exact⟨rfl,G⟩
def dp7 (x:aP) (m s:Wv) (w:Wu) (hx:x.In w w m s) (hv:mX x (ch x)=Wz) (hl:x.ss.length<=20):
 aQ 32 #[Ye (x.cells m s)] w (Yc (sq x.ss&&su x.ms&&nG x)):=by
 obtain⟨Am,nm,cm,rfl,gV,_,iG⟩:=hx.ms.form;obtain⟨As,ns,cs,rfl,lO,_,fW⟩:=hx.ss.form;have HX:=aa hx;have oe:=aa gV;have Y:=aa lO;refine Wf λused' same'=> ?_;rw[hv] at same';have HU:=aa used';have HS:=aa same';clear used' same' hx hv gV lO;have eX:(ns:Int)<=20:=by rw[Y.out] at hl;omega
 clear hl;rw[aP.cells_def];go_enter func32,ntmps32;go_wp2_with fail
 go_region_held3 (λw'=>w'.cell? w=Ws (WK Xr x.kind)/\w'.cell? (w 1 Wr)=Ws (WK Xr x.a)/\w'.cell? (w 2 Wr)=Ws (WK Xr x.b)/\w'.cell? (w 3 Wr)=Ws (WK Xr x.c)/\w'.cell? (w 4 Wr)=Ws (WK Xr x.ok)/\w'.cell? (w 5 Wr)=Ws (WM x.key)/\w'.cell? (w 6 Wr)=Ws (WK Xr x.val)/\w'.cell? (w 7 Wr)=Ws (WK Xr x.old)/\w'.cell? (w 8 Wr)=Ws (Yb Am nm cm)/\w'.cell? (w 9 Wr)=Ws (Yb As ns cs)) (simp[*])
  (first
    |(go_at_call 69;refine(HU.out _ (aX (ae (af w) _))).m ?_;rintro e w1 ⟨m1,s1,rfl,Hl,V⟩;have c_:=ai (aX (ae (af w) _)) V;have ba:w.heap.size<w1.heap.size:=jM V Yl;obtain⟨bt,cr⟩:=gw V)
    |(go_at_call 12;refine(HS.out _ m1 s1 c_ Hl).m ?_;rintro e w2 ⟨rfl,U⟩;have aV:=ai c_ U;have bd:w.heap.size<w2.heap.size:=jM U ba;obtain⟨cR,cL⟩:=gw U))
 all_goals go_wp2_with fail
 have G:=HX.out.below aV (ag _);have li:=aa G;clear G HU HS bt cr cR cL ba V U Hl c_
 go_loop [3] (λi=> ∃k:Nat,k<=ns/\i=WK Xr k/\∀j,j<k->An (cT x.ss j)) (λi=>ns - (WS i).toNat)
 case atStart=>exact⟨0,bU _,rfl,by omega⟩
 case round=>
  obtain⟨k,hk,rfl,xZ⟩:=hrel;have C:=aa xZ;clear xZ;by_cases ar:k<ns
  .obtain⟨b,o,rfl,CJ,bk⟩:=li.out.ss.at_ k ar;have h1:=bk k ar;clear bk;by_cases X:An (cT x.ss k)
   .have F:=aa X;clear X;go_wp2_with(go_at_call 70;refine(Fe _ _ _ F.out _).m ?_;rintro e w3 ⟨rfl,rfl⟩)
    exact⟨⟨k+1,by omega,by go_num,(λj O=>by
     by_cases e:j=k
     .rw[e];exact F.out
     .exact C.out j Yi)⟩,by simp[WS];omega⟩
   .have F:=aa X;clear X;go_wp2_with(go_at_call 70;refine(We _ _ _ F.out _).m ?_;rintro e w3 ⟨rfl,rfl⟩)
    go_ret;exact⟨cE (by rw[ae0 (by rw[Y.out];exact ar) F.out];rfl),aV⟩
  .have jS:sq x.ss=true:=ad9 λj O=>C.out j (by rw[Y.out] at O;omega);have Z:=aa jS;clear jS C;go_wp2_with fail
   go_loopw [4] (λi wr=> ∃k:Nat,k<=nm/\i=WK Xr k/\(∀j,j<k->yt x.ms j)/\∃q,wr=w2.drewN q) (λi _=>nm - (WS i).toNat)
   case atStart=>exact⟨0,bU _,rfl,by omega,0,rfl⟩
   case round=>
    obtain⟨c,gM,rfl,xZ,q,rfl⟩:=hrel;have C:=aa xZ;clear xZ;by_cases tu:c<nm
    .obtain⟨b,o,rfl,CJ,bk⟩:=li.out.ms.at_ c tu;have h1:=bk c tu;have D:0<c->w2.cell? ⟨b,o+(c - 1),none⟩=some (.int .i64 (cT x.ms (c - 1))):=λh=>bk (c - 1) (by omega);have i1:(0:Int)<=(c:Int):=by omega
     have i2:(c:Int)<(nm:Int):=Yi;clear bk;have g: ¬yt x.ms c->Hid (su x.ms=Ww):=λh=>PD (by rw[oe.out];exact tu) h;have good:yt x.ms c->Hid (∀j,j<c+1->yt x.ms j):=λh j O=>by
      by_cases e:j=c
      .rw[e];exact h
      .exact C.out j Yi
     by_cases z:1<=cT x.ms c/\cT x.ms c<=16
     .have y:=aa z;by_cases hz:c=0
      .have GOOD:=good ⟨z,λh=>by omega⟩;have gm7:decide (0<c)=false:=by simp;omega
       clear z g good D hz;go_wp2_with fail
       go_quiet ((go_at_call 70;first|exact Mc (Fe _ _ _ y.out _)|exact Calls.quiet_of_same (Fe _ _ _ y.out _)))
       go_wp2
       exact⟨⟨c+1,by omega,by go_num,GOOD.out,_,rfl⟩,by simp[WS];omega⟩
      .have cc6:=D (by omega);have gm7:decide (0<c)=true:=by simp;omega
       have i3:IntKind.i64.wrap ((c:Int) - 1)=(c:Int) - 1:=Xf _ Yi;have i4:((c:Int) - 1).toNat=c - 1:=Yi;have i5:(0:Int)<=(c:Int) - 1:=Yi;have i6:(c:Int) - 1<(nm:Int):=Yi;by_cases J:cT x.ms (c - 1)<cT x.ms c
       .have GOOD:=good ⟨z,λ_=>J⟩;have xY:decide (cT x.ms c<=cT x.ms (c - 1))=false:=by simpa using J
        clear z g good D hz J;go_wp2_with fail
        go_quiet ((go_at_call 70;first|exact Mc (Fe _ _ _ y.out _)|exact Calls.quiet_of_same (Fe _ _ _ y.out _)))
        clear i3 i4
        go_wp2
        exact⟨⟨c+1,by omega,by go_num,GOOD.out,_,rfl⟩,by simp[WS];omega⟩
       .have A:=g (λh=>J (h.2 (by omega)));have xY:decide (cT x.ms c<=cT x.ms (c - 1))=true:=by simp;omega
        clear z g good D hz J;go_wp2_with fail
        go_quiet ((go_at_call 70;first|exact Mc (Fe _ _ _ y.out _)|exact Calls.quiet_of_same (Fe _ _ _ y.out _)))
        clear i3 i4
        go_wp2
        go_ret;exact⟨cE (by rw[Z.out,A.out];rfl),Oa⟩
     .have y:=aa z;have A:=g (λh=>z h.1);clear z g good D;go_wp2_with fail
      go_quiet ((go_at_call 70;first|exact Mc (We _ _ _ y.out _)|exact Calls.quiet_of_same (We _ _ _ y.out _)))
      go_wp2
      go_ret;exact⟨cE (by rw[Z.out,A.out];rfl),Oa⟩
    .have fp:su x.ms=true:=ae1 λj O=>C.out j (by rw[oe.out] at O;omega);have cz7:=aa fp;clear fp C;have I: ∀b,b=nG x->(sq x.ss&&su x.ms&&nG x)=b:=λb hb=>by rw[Z.out,cz7.out,hb];rfl
     have uh:=aa I;clear I;go_wp2_with fail
     go_quiet ((go_at_call 70;first|exact Mc (PE _ _ _ _)|exact Calls.quiet_of_same (PE _ _ _ _)))
     by_cases D:x.kind=0
     .exact pO
     have e0:(x.kind==0)=false:=by simp[D]
     by_cases h1:x.kind=1
     .exact pO
     have e1:(x.kind==1)=false:=by simp[h1]
     by_cases h2:x.kind=2
     .exact pO
     have e2:(x.kind==2)=false:=by simp[h2]
     by_cases h3:x.kind=3
     .exact pO
     have e3:(x.kind==3)=false:=by simp[h3]
     by_cases h6:x.kind=6
     .exact pO
     have e6:(x.kind==6)=false:=by simp[h6]
     by_cases jF:x.kind=13
     .exact pO
     have oq:(x.kind==13)=false:=by simp[jF]
     by_cases h5:x.kind=5
     .exact pO
     have e5:(x.kind==5)=false:=by simp[h5]
     by_cases h4:x.kind=4
     .exact pO
     have e4:(x.kind==4)=false:=by simp[h4]
     by_cases pQ:x.kind=16
     .exact pO
     have pI:(x.kind==16)=false:=by simp[pQ]
     by_cases Cw:x.kind=15
     .exact pO
     have oP:(x.kind==15)=false:=by simp[Cw]
     by_cases h7:x.kind=7
     .exact pO
     have e7:(x.kind==7)=false:=by simp[h7]
     by_cases h8:x.kind=8
     .exact pO
     have e8:(x.kind==8)=false:=by simp[h8]
     by_cases h9:x.kind=9
     .exact pO
     have e9:(x.kind==9)=false:=by simp[h9]
     by_cases d_:x.kind=10
     .go_wp2_with(first
       |(go_at_call 70;refine(PE _ _ _ _).m ?_;rintro e w3 ⟨rfl,rfl⟩)
       |(go_at_call 71;refine(ad8 x _).m ?_;rintro e w3 ⟨rfl,aL⟩))
      all_goals go_ret
      all_goals refine⟨cE (uh.out _ (by simp[nG, *])).symm,?_⟩
      all_goals first|exact zw aV _|exact zw (zw aV _) _|exact ai (zw aV _) aL|exact ai (zw (zw aV _) _) aL
     have dJ:(x.kind==10)=false:=by simp[d_]
     by_cases cc7:x.kind=11
     .exact pO
     have jL:(x.kind==11)=false:=by simp[cc7]
     by_cases KH:x.kind=12
     .exact pO
     have jC:(x.kind==12)=false:=by simp[KH]
     by_cases wj:x.kind=14
     .exact pO
     have mq:(x.kind==14)=false:=by simp[wj]
     by_cases pe:x.kind=17
     .exact pO
     have A_:(x.kind==17)=false:=by simp[pe]
     go_wp2_with fail
     go_ret;exact⟨cE (uh.out _ (by simp[nG, *])).symm,Oa⟩
def dp8 (x:aP) (m s:Wv) (w:Wu) (hx:x.In w w m s):
 aQ 32 #[Ye (x.cells m s)] w (Yc (fE x)):=by
 cases hv:mX x (ch x) with
 |false=>exact(dp5 x m s w hx hv).mono λe w' ⟨c,g⟩=>⟨by rw[c];simp[fE,hv],g⟩
 |true=>
  by_cases j:x.ss.length<=20
  .exact(dp7 x m s w hx hv j).mono λe w' ⟨c,g⟩=>⟨by rw[c];simp[fE,hv,j],g⟩
  .exact(dp6 x m s w hx hv Yi).mono λe w' ⟨c,g⟩=>⟨by rw[c];simp[fE,hv,j],g⟩
def ow (x:aP):List (List UInt8):=
 if x.ok=0 then[[103,101,116],x.key.data.toList]
 else if x.ok=1 then[[112,117,116],x.key.data.toList,WB x.val]
 else if x.ok=2 then[[99,97,115],x.key.data.toList,WB x.old,WB x.val]
 else[[97,100,100],x.key.data.toList,WB x.val]
def eO (x:aP):List (List UInt8):=
 if x.kind=4\/x.kind=16 then[]
 else if x.kind=15 then x.ms.map WB
 else if x.kind=5 then WB x.a::x.ss.map WB
 else if x.kind=7 then[WB x.a,WB x.b]
 else if x.kind=14 then[WB x.a,WB x.b,WB x.c]
 else if x.kind=12 then[WB x.a,WB x.b,WB x.val]
 else if x.kind=10 then[WB x.a,WB x.b]++ow x
 else[WB x.a]
def eS (x:aP):List UInt8:=Lib.join (dV x.kind.toNat::eO x) [32]
def Wg (x:aP):eS x=dV x.kind.toNat++Lib.joinTail [32] (eO x):=Lib.join_cons _ _ _
def aW.lit (W:Wu) (l:List Int) (hl: ∀x∈l,aK x) (c:l.length<=1000) (t:WQ):
 aW (W.alloc (Yd (l.map (WK .i64)).toArray t)) (W.alloc (Yd (l.map (WK .i64)).toArray t)).heap.size (Yb (Ws (W 0 Wr)) l.length l.length) l:=by
 exact ae2
def aW.of1 {W:Wu} {h:Nat} {a:Int} (g:W.cell? h=Ws (WK Xr a)) (y:h<W.heap.size) (c:aK a):aW W W (Yb (Ws (h 0 Wr)) 1 1) [a]:=
 ⟨⟨_,1,rfl,ag _,by simp[maxLen],λ_=>⟨h,0,rfl,y,λj u hj=>by
   match j,hj with
   |0,hj=>simpa using(g.trans Cq)⟩⟩,by simpa using c⟩
def aW.of2 {W:Wu} {h:Nat} {a b:Int} (z:W.cell? h=Ws (WK Xr a)) (c:W.cell? (h 1 Wr)=Ws (WK Xr b)) (A:h<W.heap.size) (g:aK a) (y:aK b):aW W W (Yb (Ws (h 0 Wr)) 2 2) [a,b]:=
 ⟨⟨_,2,rfl,ag _,by simp[maxLen],λ_=>⟨h,0,rfl,A,λj u hj=>by
   match j,hj with
   |0,hj=>simpa using(z.trans Cq)
   |1,hj=>simpa using(c.trans Cq)⟩⟩,by simpa using⟨g,y⟩⟩
def Ih {W c:Wu} (g:Below W.drew.heap.size W.drew c):(∀b o,b<W.heap.size->c.cell? ⟨b,o,Wr⟩=W.cell? ⟨b,o,Wr⟩)/\(∀b o,b<W.heap.size->c.frozen? ⟨b,o,Wr⟩=W.frozen? ⟨b,o,Wr⟩):=
 ⟨λb o h=>g.cell (p:=⟨b,o,Wr⟩) h,λb o h=>g.frozen (p:=⟨b,o,Wr⟩) h⟩
def IS (x:aP):List UInt8:=if fE x then eS x else[]
def Ff {x:aP} (h:nG x=Wz):0<=x.kind/\x.kind<=17:=by
 by_cases c:0<=x.kind/\x.kind<=17
 .exact c
 .exfalso;have:nG x=false:=by
   unfold nG;repeat rw[if_neg Yi]
  rw[this] at h;cases h
def Fg {x:aP} (h:fE x=Wz):nG x=true:=by simp only[fE,WC] at h;exact h.2
def dp9 {n a b:Int} (h:n<a):dT n a b=false:=by simp[dT];omega
def PF {n a b:Int}:dT n a b=Wz↔a<=n/\n<=b:=by simp[dT]
def yu (n:Int) (w:Wu):WJ WH 73 #[n] w λe w'=>e=Xz (Yc (dT n 1 16))/\w'=w:=by
 go_enter func73,ntmps73
 go_wp2
 all_goals (go_ret;exact⟨cE Ki,rfl⟩)
def LZ (n:Int) (w:Wu):WJ WH 74 #[n] w λe w'=>e=Xz (Yc (dT n 1 8))/\w'=w:=by
 go_enter func74,ntmps74
 go_wp2
 all_goals (go_ret;exact⟨cE Ki,rfl⟩)
def Wh (n:Int) (w:Wu):WJ WH 91 #[n] w λe w'=>e=Xz (Yc (dT n 0 8))/\w'=w:=by
 go_enter func91,ntmps91
 go_wp2
 all_goals (go_ret;exact⟨cE Ki,rfl⟩)
def PG (n:Int) (w:Wu):WJ WH 76 #[n] w λe w'=>e=Xz (Yc (dT n 0 1048576))/\w'=w:=by
 go_enter func76,ntmps76
 go_wp2
 all_goals (go_ret;exact⟨cE Ki,rfl⟩)
def dq0 (n:Int) (w:Wu):WJ WH 78 #[n] w λe w'=>e=Xz (Yc (dT n 1 200))/\w'=w:=by
 go_enter func78,ntmps78
 go_wp2
 all_goals (go_ret;exact⟨cE Ki,rfl⟩)
def dq1 (n:Int) (w:Wu):WJ WH 81 #[n] w λe w'=>e=Xz (Yc (!dT n 0 128))/\w'=w:=by
 go_enter func81,ntmps81
 go_wp2
 all_goals (go_ret;exact⟨cE (by rw[WU];simp[dT];try omega),rfl⟩)
def ae3 (n:Int) (A:aK n) (w:Wu):WJ WH 72 #[n] w λe w'=>e=Xz (Yc (dT n 1 16||dT n 101 108))/\w'=w:=by
 have c:dT (n - 100) 1 8=dT n 101 108:=by simp only[dT];congr 1<;>exact decide_eq_decide.2 Yi
 obtain⟨h1,h2⟩:=A;by_cases hm:dT n 1 16=Wz
 .go_enter func72,ntmps72;go_wp2_with(go_at_call 73;refine(yu _ _).m ?_;rintro e j ⟨rfl,rfl⟩)
  go_ret;exact⟨cE (by simp[hm]),rfl⟩
 .have g:dT n 1 16=false:=by simpa using hm
  clear hm;by_cases D: -9223372036854775808<=n - 100
  .go_enter func72,ntmps72;go_wp2_with(first|(go_at_call 73;refine(yu _ _).m ?_;rintro e j ⟨rfl,rfl⟩)|(go_at_call 74;refine(LZ _ _).m ?_;rintro e C ⟨rfl,rfl⟩))
   go_ret;exact⟨cE (by simp[g,c]),rfl⟩
  .have z:dT (n - 100) 1 8=false:=dp9 (by omega);have y:dT (wrap64 (n - 100)) 1 8=false:=by
    have:wrap64 (n - 100)=n - 100+18446744073709551616:=by unfold wrap64;omega
    rw[this];simp[dT];omega
   go_enter func72,ntmps72;go_wp2_with(first|(go_at_call 73;refine(yu _ _).m ?_;rintro e j ⟨rfl,rfl⟩)|(go_at_call 74;refine(LZ _ _).m ?_;rintro e C ⟨rfl,rfl⟩))
   go_ret;exact⟨cE (by simp[g,<-c,z,y]),rfl⟩
def dq2 {w w':Wu} {base:Nat} {e:WQ} {y:Nat} {v:Wv} {n:Nat} {xs:List Wv} (h:w.ownsRow base e y v n xs) (A:Below w w w'):w'.ownsRow base e y v n xs:=by
 obtain⟨hl,h⟩:=h;refine⟨hl,?_⟩;rcases h with h|⟨g,cap,c,D,C,j,F⟩
 .exact .inl h
 .refine .inr ⟨g,cap,c,D,C,?_,F⟩;have z:g<w.heap.size:=by
   rcases Xk g w.heap.size with h|h
   .exact h
   .rw[Array.getElem?_eq_none h] at j;cases j
  rw[A.block g z];exact j
def IT:(Tryz.prog.info? 9).map (λi=>(i.zero,i.size,i.bytes))=Ws (Ws (WM ⟨#[]⟩),1,16):=aC
def bX (w:Wu) (base:Nat) (v:Wv) (l:List ByteArray):Prop:=w.ownsRow base 9 1 v l.length (l.map WM)
def bX.below {w w':Wu} {base:Nat} {v:Wv} {l:List ByteArray} (h:bX w base v l) (c:Below w w w'):bX w' base v l:=dq2 h c
def bX.slS {w:Wu} {base:Nat} {v:Wv} {l:List ByteArray} (h:bX w base v l):cD w w v l:=Sl.of_own h
def bX.nil_ (w:Wu) (base:Nat):bX w base (Yb Wr 0 0) []:=⟨rfl,.inl ⟨rfl,rfl⟩⟩
def bX.alloc {w:Wu} {base:Nat} {v:Wv} {l:List ByteArray} (h:bX w base v l) (o:Obj):(w.alloc o).ownsRow base 9 1 v l.length (l.map WM):=World.ownsRow.alloc h o
def bX.snoc {w:Wu} {base:Nat} {v:Wv} {l:List ByteArray} {x:ByteArray} (h:w.ownsRow base 9 1 v (l.length+1) (l.map WM++[WM x])):bX w base v (l++[x]):=by unfold bX;rw[WG,Xb];exact h
def bX.grown {a w w':Wu} {v:Wv} {l:List ByteArray} (h:bX w a v l) (c:Below a a w) (g:w.grownBy w' v.ownBlock):Below a a w':=
 c.grown g c.size λk j=>(WL h k j).1
def PH (x:ByteArray): ∀u∈[WM x],u.oneCell'=true:=ti
def pP (n:Int):ByteArray:=bs (WB n)
def BH (v:Wv) (l:List Int) (w:Wu) (z:cH w) (h:aW w w v l) (I:l.length<=100000):
 WJ WH 28 #[v] w λe w'=> ∃u,e=Xz u/\bX w' w u (l.map pP)/\Below w w w':=by
 obtain⟨A,n,c,rfl,hn,hc,hm⟩:=h.form;obtain⟨i0,hi,cJ,ba,bd⟩:=XU IT;have HL:=aa hn;have H:=aa h;have C:=aa z;have U:n<=100000:=Yi;clear h hn I z;go_enter func28,ntmps28;go_wp2_with fail
 go_loopw [3,8] (λs i wr=> ∃k:Nat,k<=n/\i=WK Xr k/\bX wr w s ((l.take k).map pP)/\Below w w wr) (λ_ i _=>n - (WS i).toNat)
 case atStart=>exact⟨0,bU _,rfl,bX.nil_ _ _,af w⟩
 case round=>
  obtain⟨k,hk,rfl,bA,hb⟩:=hrel;have g:=aa bA;clear bA;by_cases ar:k<n
  .obtain⟨b,o,rfl,CJ,bk⟩:=(H.out.below hb (ag _)).at_ k ar;have O:=bk k ar;clear bk;have G:aK (cT l k):=H.out.2 _ (du4 (by rw[HL.out];exact ar))
   go_wp2_with(first
    |(go_at_call 29;refine(LO _ G _ (C.out.step hb)).m ?_;rintro e J ⟨rfl,j⟩;have y:=g.out.below j)
    |(at_builtin;refine Xu _ rfl (Yg 12) (Yg 15) _ rfl w.heap.size 9 i0 _ 1 16 X9 hi cJ ba bd rfl az _ _ _ rfl (y.alloc _) (J 0 Wr) 1 1 [WM (bs (WB (cT l k)))] rfl rfl (cell_one_new _ _ _) (PH _) ul bI (bo hb.size (by have:=j.size;simp;omega)) ?_;intro v' V F D _))
   refine⟨⟨k+1,by omega,by go_num,?_,(y.below (ae (af _) _)).grown (ae (ai hb j) _) D⟩,by simp[WS];omega⟩;rw[du3 l k we,Xb];exact bX.snoc F
  .go_wp2_with fail
   go_ret;exact⟨_,rfl,by rw[WY (by rw[HL.out];omega)] at g;exact g.out,hb⟩
end
section
open Go Go.RowKit Go.MapKept Go.ChangeMaps Go.Proofs.Tryz
def bK:Nat->List (Wv×Wv)->List MapEntry
 |_,[]=>[]
 |i,p::r=>⟨p.1,p.2,i⟩::bK (i+1) r
def ac3 (p:Wv×Wv): ∀(l:List (Wv×Wv)) (i:Nat),bK i (l++[p])=bK i l++[⟨p.1,p.2,i+l.length⟩]
 |[],i=>by simp[bK]
 |a::l,i=>by simp[bK,ac3 p l (i+1)];omega
def Dg {x:MapEntry}: ∀{l:List (Wv×Wv)} {i:Nat},x∈bK i l->∃j,l[j]? =Ws (x.key,x.val)/\x.born=i+j
 |[],_,h=>by simp[bK] at h
 |a::l,i,h=>by
  simp only[bK,Xj] at h;rcases h with rfl|h
  .exact⟨0,by simp⟩
  .obtain⟨j,h1,h2⟩:=Dg h;exact⟨j+1,by simpa using h1,by omega⟩
def Pw: ∀(l:List (Wv×Wv)) (i j:Nat) (p:Wv×Wv),l[j]? =Ws p->⟨p.1,p.2,i+j⟩∈bK i l
 |[],_,_,_,h=>by simp at h
 |a::l,i,0,p,h=>by simp at h;subst h;simp[bK]
 |a::l,i,j+1,p,h=>by
  have:=Pw l (i+1) j p zi;simp only[bK,Xj];right;have e:i+1+j=i+(j+1):=Yi
  rwa [e] at this
def Qk: ∀(l:List (Wv×Wv)) (i j:Nat),(bK i l)[j]? =(l[j]?).map λp=>⟨p.1,p.2,i+j⟩
 |[],_,_=>by simp[bK]
 |a::l,i,0=>by simp[bK]
 |a::l,i,j+1=>by simp only[bK,List.getElem?_cons_succ,Qk l (i+1) j];have e:i+1+j=i+(j+1):=Yi;rw[e]
def ac4: ∀(l:List (Wv×Wv)) (i:Nat),((bK i l).map (·.born)).Nodup
 |[],_=>by simp[bK]
 |a::l,i=>by simp only[bK,WO,List.nodup_cons];refine⟨λh=> ?_,ac4 l (i+1)⟩;obtain⟨x,hx,e⟩:=List.mem_map.1 h;obtain⟨j,_,hj⟩:=Dg hx;omega
def fF (w:Wu) (b:Nat) (l:List (Wv×Wv)):Prop:=w.heap[b]? =Ws (.map (bK 0 l).toArray l.length)
def fF.lt {w:Wu} {b:Nat} {l:List (Wv×Wv)} (h:fF w b l):b<w.heap.size:=(Array.getElem?_eq_some_iff.1 h).1
def fF.below {B b:Nat} {w w':Wu} {l:List (Wv×Wv)} (h:fF w b l) (g:Below B w w') (c:b<B):fF w' b l:=(g.block b c).trans h
def fF.later {b:Nat} {w w':Wu} {l:List (Wv×Wv)} (h:fF w b l) (c:Below w w w'):fF w' b l:=h.below c h.lt
def fF.made (w:Wu):fF (w.alloc (.map #[] 0)) w.heap.size []:=(heap_alloc w _).1
def dr2 {B b:Nat} {c w:Wu} (h:Below B c w) (j:B<=b) {o:Obj}:Below B c (setBlock w b o):=
 ⟨h.os,h.tape,h.output,by simpa[setBlock] using h.size,λi g=>by show(w.heap.setIfInBounds b o)[i]? =_;rw[Array.getElem?_setIfInBounds_ne Yi];exact h.block i g⟩
def jv (w w':Wu) (b:Nat):Prop:=(∀B w0,Below B w0 w->B<=b->Below B w0 w')/\w'.heap.size=w.heap.size/\∀i,i≠b->w'.heap[i]? =w.heap[i]?
def IW (w:Wu) (b:Nat) (o:Obj):jv w (setBlock w b o) b:=
 ⟨λ_ _ h c=>dr2 h c,by simp[setBlock],λi g=>by show(w.heap.setIfInBounds b o)[i]? =_;rw[Array.getElem?_setIfInBounds_ne Yi]⟩
def jv.cell {w w':Wu} {b:Nat} (h:jv w w' b) {a:X8} (c:a.block≠b):w'.cell? a=w.cell? a:=by unfold X3;rw[h.2.2 _ c]
section
variable {P:Program} (w:Wu) {ops:Array XH} {rest:List XH} {o:XH} {a:Act} {Q:Exit->Act->Wu->Prop}
theorem ac5 {P:Program} {w:Wu} {t k e:WQ} {d:TypeDesc} {b:Nat} {l:List (Wv×Wv)} (G:P.underlying t=Ws (.map k e)) (y:P.underlying k=Ws d) (F:fF w b l)
 {key:Wv} (val:Wv) (z:IsKey d key) (J: ∀p∈l,IsKey d p.1/\p.1≠key):
 (Instr.mapUpdate t (.map (Ws b)) key val).run P w= .ok () (setBlock w b (.map (bK 0 (l++[(key,val)])).toArray (l++[(key,val)]).length)):=by
 have g: ∀x∈bK 0 l,IsKey d x.key/\x.key≠key:=λx hx=>by obtain⟨j,hj,_⟩:=Dg hx;exact J _ (eD hj)
 rcases findNow_spec z (bK 0 l) 0 (λx hx=>(g x hx).1) with ⟨A,_⟩|⟨j,x,_,C,D⟩
 .have c:w.heap[b]? =Ws (.map (bK 0 l).toArray l.length):=F;have I:Instr.findNow d key (bK 0 l).toArray.toList 0=Ws none:=A;simp only[Instr.mapUpdate,run_underlying G,MapKept.run_getObj_map c,MapKept.run_checkKey y z,MapKept.run_findKey y I,MapKept.run_setObj_map _ c,Result.andThen,Sem.run_bind,setBlock,ac3,WG,XF,XP];simp
 .exact absurd D (g x (eD C)).2
theorem wV (A:o.guard=Wr) (m x v:Operand) (t:WQ) (dg:o.op=Op.mapUpdate t m x v\/o.op=Op.insert t m x v)
 (k e:WQ) (d:TypeDesc) (D:P.underlying t=Ws (.map k e)) (C:P.underlying k=Ws d) (b:Nat) (l:List (Wv×Wv)) (hm:a.eval m= .map (Ws b)) (z:fF w b l)
 (key val:Wv) (hx:a.eval x=key) (hv:a.eval v=val) (F:IsKey d key) (G: ∀p∈l,IsKey d p.1/\p.1≠key)
 (y: ∀w',fF w' b (l++[(key,val)])->jv w w' b->wpList P ops Q rest (a.put o.dst XE) w'):
 wpList P ops Q (o::rest) a w:=by
 refine wpList_plain A λI c=> ?_;have eG:=ac5 D C z val F G;have g:fF (setBlock w b (.map (bK 0 (l++[(key,val)])).toArray (l++[(key,val)]).length)) b (l++[(key,val)]):=heap_setBlock_same z _;unfold Oper.wp;have j:=y _ g (IW _ _ _);have h4:=c _ _ j;clear g j y c;generalize setBlock w b (.map (bK 0 (l++[(key,val)])).toArray (l++[(key,val)]).length)=W at eG h4;exact Wj
theorem L8 {P:Program} {w:Wu} {t k e:WQ} {d:TypeDesc} {b:Nat} {l:List (Wv×Wv)} (O:P.underlying t=Ws (.map k e)) (z:P.underlying k=Ws d) (J:fF w b l)
 {key v:Wv} (c:Bool) (D:IsKey d key) (V: ∀p∈l,IsKey d p.1) (G: ∀p∈l,p.1=key->p.2=v) (U: ∃p∈l,p.1=key):
 (WT t (.map (Ws b)) key c).run P w= .ok (if c then .tuple #[v,Yc Wz] else v) w:=by
 have y: ∀x∈bK 0 l,IsKey d x.key/\(x.key=key->x.val=v):=λx hx=>by obtain⟨j,hj,_⟩:=Dg hx;exact⟨V _ (eD hj),G _ (eD hj)⟩
 have I:w.heap[b]? =Ws (.map (bK 0 l).toArray l.length):=J;rcases findNow_spec D (bK 0 l) 0 (λx hx=>(y x hx).1) with ⟨_,g⟩|⟨j,x,g,A,C⟩
 .obtain⟨p,hp,he⟩:=U;obtain⟨j,hj⟩:=List.mem_iff_getElem?.1 hp;exact absurd he (g _ (Pw l 0 j p hj))
 .have F:Instr.findNow d key (bK 0 l).toArray.toList 0=Ws (Ws (0+j,x.val)):=g;rw[(y x (eD A)).2 C] at F;simp only[WT,run_underlying O,MapKept.run_getObj_map I,MapKept.run_checkKey z D,MapKept.run_findKey z F,Result.andThen,Sem.run_bind];rw[(y x (eD A)).2 C] at g;cases c<;>simp[MapKept.run_findKey z g]
theorem L9 {P:Program} {w:Wu} {t k e:WQ} {d:TypeDesc} {b:Nat} {l:List (Wv×Wv)} (O:P.underlying t=Ws (.map k e)) (g:P.underlying k=Ws d) (J:fF w b l)
 {key z:Wv} (c:Bool) (D:IsKey d key) (V: ∀p∈l,IsKey d p.1/\p.1≠key) (C:(zeroValue e).run P w= .ok z w):
 (WT t (.map (Ws b)) key c).run P w= .ok (if c then .tuple #[z,Yc Ww] else z) w:=by
 have y: ∀x∈bK 0 l,IsKey d x.key/\x.key≠key:=λx hx=>by obtain⟨j,hj,_⟩:=Dg hx;exact V _ (eD hj)
 have F:w.heap[b]? =Ws (.map (bK 0 l).toArray l.length):=J;rcases findNow_spec D (bK 0 l) 0 (λx hx=>(y x hx).1) with ⟨A,_⟩|⟨j,x,_,G,I⟩
 .have U:Instr.findNow d key (bK 0 l).toArray.toList 0=Ws none:=A;simp only[WT,run_underlying O,MapKept.run_getObj_map F,MapKept.run_checkKey g D,MapKept.run_findKey g U,Result.andThen,Sem.run_bind,C];cases c<;>simp[MapKept.run_findKey g A,C]
 .exact absurd I (y x (eD G)).2
theorem ac6 (y:o.guard=Wr) (m x:Operand) (t:WQ) (c:Bool) (dg:o.op=Op.lookup t m x c)
 (k e:WQ) (d:TypeDesc) (A:P.underlying t=Ws (.map k e)) (z:P.underlying k=Ws d) (b:Nat) (l:List (Wv×Wv)) (hm:a.eval m= .map (Ws b)) (j:fF w b l)
 (key v:Wv) (hx:a.eval x=key) (C:IsKey d key) (F: ∀p∈l,IsKey d p.1) (g: ∀p∈l,p.1=key->p.2=v) (D: ∃p∈l,p.1=key)
 (hK:wpList P ops Q rest (a.put o.dst (if c then .tuple #[v,Yc Wz] else v)) w):
 wpList P ops Q (o::rest) a w:=by
 refine wpList_plain y λG gO=> ?_;have eG:=L8 A z j c C F g D;exact Wk
theorem dr3 (j:o.guard=Wr) (m x:Operand) (t:WQ) (c:Bool) (dg:o.op=Op.lookup t m x c)
 (k e:WQ) (d:TypeDesc) (A:P.underlying t=Ws (.map k e)) (y:P.underlying k=Ws d) (b:Nat) (l:List (Wv×Wv)) (hm:a.eval m= .map (Ws b)) (g:fF w b l)
 (key z:Wv) (hx:a.eval x=key) (D:IsKey d key) (F: ∀p∈l,IsKey d p.1/\p.1≠key) (C:(zeroValue e).run P w= .ok z w)
 (hK:wpList P ops Q rest (a.put o.dst (if c then .tuple #[z,Yc Ww] else z)) w):
 wpList P ops Q (o::rest) a w:=by
 refine wpList_plain j λG gO=> ?_;have eG:=L9 A y g c D F C;exact Wk
def wM (w:Wu) (b r:Nat) (l:List (Wv×Wv)) (seen:Array Nat):Prop:=
 ∃c0,fF w b l/\w.heap[r]? =Ws (.mapIter (Ws b) l.length seen c0)/\l.length<=c0
theorem wM.below {B b r:Nat} {w w':Wu} {l:List (Wv×Wv)} {seen:Array Nat} (h:wM w b r l seen) (c:Below B w w') (g:b<B) (j:r<B):wM w' b r l seen:=by obtain⟨c0,hm,hr,hc⟩:=h;exact⟨c0,hm.below c g,(c.block r j).trans hr,hc⟩
theorem wM.lt {w:Wu} {b r:Nat} {l:List (Wv×Wv)} {seen:Array Nat} (h:wM w b r l seen):b<w.heap.size/\r<w.heap.size:=by obtain⟨c0,hm,hr,_⟩:=h;exact⟨hm.lt,(Array.getElem?_eq_some_iff.1 hr).1⟩
theorem wM.left {w:Wu} {b r:Nat} {l:List (Wv×Wv)} {seen:Array Nat} (h:wM w b r l seen):w.rangeLeft b r=(leftOf (bK 0 l).toArray seen).size:=by obtain⟨c0,hm,hr,_⟩:=h;have c:w.heap[b]? =Ws (.map (bK 0 l).toArray l.length):=hm;simp only[World.rangeLeft,c,hr]
theorem dr4 (A:o.guard=Wr) (m:Operand) (t:WQ) (g:o.op=Op.range t m) (k e:WQ) (C:P.underlying t=Ws (.map k e)) (b:Nat) (l:List (Wv×Wv))
 (hm:a.eval m= .map (Ws b)) (c:fF w b l)
 (z: ∀w',wM w' b w l #[]->Below w w w'->w'.heap.size=w.heap.size+1->wpList P ops Q rest (a.put o.dst (Yf (Ws w))) w'):
 wpList P ops Q (o::rest) a w:=by
 refine wpList_plain A λD y=> ?_;have j:=run_range_map w t k e b _ _ C c;unfold Oper.wp;simp[XX,g,hm,j,Result.andThen];refine y _ _ (z _ ⟨l.length,c.later (ae (af w) _),(heap_alloc w _).1,ag _⟩ (ae (af w) _) Yl)
theorem wpList_step (hg:o.guard=Wr) (it:Operand) (X:o.op=Op.next it Ww) (b r:Nat) (l:List (Wv×Wv)) (seen:Array Nat)
 (y:a.eval it=Yf (Ws r)) (h:wM w b r l seen)
 (C:(∀i,i<l.length->seen.contains i=Wz)->wpList P ops Q rest (a.put o.dst (.tuple #[Yc Ww])) w)
 (D: ∀(i:Nat) (k v:Wv) (w':Wu),l[i]? =Ws (k,v)->seen.contains i=Ww->wM w' b r l (seen.push i)->w'.rangeLeft b r<w.rangeLeft b r->jv w w' r->
   (Instr.entry (Yf (Ws r))).run P w'= .ok (.tuple #[k,v]) w'->wpList P ops Q rest (a.put o.dst (.tuple #[Yc Wz,k,v])) w'):
 wpList P ops Q (o::rest) a w:=by
 refine wpList_plain hg λK' Y=> ?_;have F:=h.left;have h':=h;obtain⟨c0,hm,hr,hc⟩:=h;have hold: ∀x∈(bK 0 l).toArray.toList,x.born<l.length:=λx hx=>by obtain⟨j,hj,e⟩:=Dg hx;have:=(List.getElem?_eq_some_iff.1 hj).1;omega
 have aO:b≠r:=by intro e;subst e;have nU:w.heap[b]? =Ws (.map (bK 0 l).toArray l.length):=hm;rw[nU] at hr;cases hr
 unfold Oper.wp;rcases run_next_at (P:=P) w o.type r b l.length c0 seen _ _ hr hm hold hc with ⟨h0,A⟩|⟨x,hx,c,J,A⟩
 .simp[XX,X,y,A,Result.andThen];refine Y _ _ (C λi hi=> ?_);have:=all_seen _ seen h0 _ (Pw l 0 i l[i] (Wy hi));simpa using this
 .obtain⟨cr9,Ic⟩:=mem_left hx;obtain⟨j,hj,hb⟩:=Dg cr9;rw[Nat.zero_add] at hb;have k_:=left_shrinks _ seen x hx;have dd:c.heap[b]? =some (.map (bK 0 l).toArray l.length):=by rcases J with rfl|rfl<;>exact hm
  have cM:c.heap[r]? =Ws (.mapIter (Ws b) l.length seen c0):=by rcases J with rfl|rfl<;>exact hr
  have I:=heap_set (o':= .mapIter (Ws b) l.length (seen.push x.born) l.length) cM;have U:(setBlock c r (.mapIter (Ws b) l.length (seen.push x.born) l.length)).heap[b]? =Ws (.map (bK 0 l).toArray l.length):=(I.2 b aO).trans dd;have G:wM (setBlock c r (.mapIter (Ws b) l.length (seen.push x.born) l.length)) b r l (seen.push x.born):=⟨l.length,U,I.1,ag _⟩;have V:(setBlock c r (.mapIter (Ws b) l.length (seen.push x.born) l.length)).rangeLeft b r<w.rangeLeft b r:=by rw[G.left,F];exact k_
  have z:=IW c r (.mapIter (Ws b) l.length (seen.push x.born) l.length);have Z:jv w (setBlock c r (.mapIter (Ws b) l.length (seen.push x.born) l.length)) r:=by
   rcases J with rfl|rfl
   .exact z
   .exact⟨λB w0 g fI=>z.1 B w0 ⟨g.os,g.tape,g.output,g.size,g.block⟩ fI,z.2.1,z.2.2⟩
  have O:=run_entry_at (P:=P) (setBlock c r (.mapIter (Ws b) l.length (seen.push x.born) l.length)) r b l.length seen _ _ x I.1 U cr9 (ac4 l 0);simp[XX,X,y,A,Result.andThen];rw[hb] at Ic G V Z O⊢
  exact Y _ _ (D j x.key x.val _ hj Ic G V Z O)
end
end
section
open Go Go.RowKit Go.Proofs.Tryz
def fl {α:Type} (c:α->List α->Bool) (b xs:List α) (j:Nat):Bool:=match xs[j]? with|some x=>c x (b++xs.take j)|none=>Wz
def E8 {α:Type} {c:α->List α->Bool} {b xs:List α} {j:Nat} {x:α} (h:xs[j]? =Ws x):fl c b xs j=c x (b++xs.take j):=by unfold fl;rw[h]
def ep (P:Nat->Bool) (n:Nat):Bool:=(Xs n).all P
def uZ {P:Nat->Bool} {n k:Nat} (c:k<n) (h:P k=Ww):ep P n=false:=by unfold ep;rw[List.all_eq_false];exact⟨k,List.mem_range.2 c,by simp[h]⟩
def zU {P:Nat->Bool} {n:Nat} (h: ∀j,j<n->P j=Wz):ep P n=true:=by unfold ep;rw[Xo];exact λj c=>h j (List.mem_range.1 c)
def wY {α:Type} (c:α->List α->Bool): ∀(xs b:List α),dN c b xs=ep (fl c b xs) xs.length
 |[],b=>rfl
 |x::r,b=>by
  rw[dN,wY c r (b++[x])];unfold ep;rw[Xg,List.range_succ_eq_map,List.all_cons,List.all_map];congr 1
  .simp[fl]
  .congr 1;funext j;simp[fl,Function.comp]
def Zj {α:Type} (xs:List α) (p:α->Bool):ep (jg xs p) xs.length=xs.all p:=by
 rw[WU];unfold ep;rw[Xo,Xo];constructor
 .intro h x hx;obtain⟨j,c⟩:=List.mem_iff_getElem?.1 hx;have:=h j (List.mem_range.2 (List.getElem?_eq_some_iff.1 c).1)
  rwa [eW c] at this
 .intro h j c;have g:=List.mem_range.1 c;rw[eW (Wy g)];exact h _ (List.getElem_mem g)
def bW.take {α:Type} {k:Nat} {R:Wu->Nat->List Wv->α->Prop} {w:Wu} {B n c:Nat} {A:Option X8} {xs:List α} (h:bW k R w B (Yb A n c) xs) {j:Nat} (D:j<=n):bW k R w B (Yb A j c) (xs.take j):=by
 obtain⟨A',c',he,h1,h2,h3⟩:=h;injection he with y z C;subst y C;refine⟨A,c,by rw[XW,<-z,Nat.min_eq_left D],by rw[XW];omega,h2,λF=> ?_⟩;have g:xs≠[]:=λe=>F (by rw[e];simp);obtain⟨b,o,hA,hb,hc⟩:=h3 g;refine⟨b,o,hA,hb,λi x hx=>hc i x ?_⟩;rw[List.getElem?_take] at hx;split at hx
 .exact hx
 .cases hx
def ei6 (v:Wv) (xs:List mU) (g:Nat) (caps:Array Wv) (P:Nat->Bool) (w:Wu) (h:bW 3 pM w w v xs) (G:dp g)
 (D: ∀(j:Nat) x cs bv W,xs[j]? =Ws x->Below w w W->pM W W cs x->cs.length=3->bW 3 pM W W bv (xs.take j)->aQ g (#[Ye cs.toArray,bv]++caps) W (Yc (P j))):
 aQ 212 #[v,bm g caps] w (Yc (ep P xs.length)):=by
 obtain⟨A,n,c,rfl,hl,hc,hm⟩:=h.form;have H:=aa h;have F:=aa D;have HL:=aa hl;unfold dp at G;simp only[bm];rw[hl];clear h D hl;go_enter func212,ntmps212;go_wp2_with fail
 go_loopw [9] (λi wr=> ∃k:Nat,k<=n/\i=WK Xr k/\(∀j,j<k->P j=Wz)/\Below w w wr) (λi _=>n - (WS i).toNat)
 case atStart=>exact⟨0,bU _,rfl,by omega,af w⟩
 case round=>
  obtain⟨k,hk,rfl,dw,hB⟩:=hrel;have HA:=aa dw;clear dw;by_cases ar:k<n
  .have O:(0:Int)<=k:=by omega
   have J:(k:Int)<n:=Yi;have I:(k:Int)<=c:=Yi;obtain⟨x,hx⟩: ∃x,xs[k]? =Ws x:=⟨_,Wy we⟩;have C:=H.out.to pM.ab hB (ag _) hB.size;obtain⟨b,o,cs,rfl,gP,eF,hr,bk⟩:=C.at_ hx;have z:=aa (λW (y:Below wr wr W)=>F.out k x cs (Yb (Ws (b o Wr)) k c) W hx (ai hB y) (pM.ab _ _ _ _ _ _ _ hr y (ag _) y.size) eF ((C.to pM.ab y (ag _) y.size).take (by omega:k<=n)));obtain⟨rfl,po⟩:=hr;refine Dd λh0 h1 h2=> ?_;simp only[WR] at h0;have HQ:=aa hB;clear bk eF C hB po;cases hp:P k with
   |false=>
    rw[hp] at z;have HP:=aa hp;clear hp;go_wp2_with fail
    go_region_held3 (λw'=>w'.cell? wr=Ws (WM (bs x.name))/\w'.cell? (wr 1 Wr)=Ws (WK Xr x.site)/\w'.cell? (wr 2 Wr)=Ws (WK Xr x.feed)) (go_simp)
     ((refine(z.out _ (aX (ae (af wr) _))).m ?_;rintro e w' ⟨rfl,fP⟩;obtain⟨cR,cL⟩:=gw fP))
    exact Zl
   |true=>
    rw[hp] at z;have HP:=aa hp;clear hp;go_wp2_with fail
    go_region_held3 (λw'=>w'.cell? wr=Ws (WM (bs x.name))/\w'.cell? (wr 1 Wr)=Ws (WK Xr x.site)/\w'.cell? (wr 2 Wr)=Ws (WK Xr x.feed)) (go_simp)
     ((refine(z.out _ (aX (ae (af wr) _))).m ?_;rintro e w' ⟨rfl,fP⟩;obtain⟨cR,cL⟩:=gw fP))
    have gR:=ai HQ.out (ai (aX (ae (af wr) _)) fP);exact PZ
  .exact Zm
def ei7 (v:Wv) (xs:List ri) (g:Nat) (caps:Array Wv) (P:Nat->Bool) (w:Wu) (h:bW 3 wR w w v xs) (G:dp g)
 (D: ∀(j:Nat) x cs bv W,xs[j]? =Ws x->Below w w W->wR W W cs x->cs.length=3->bW 3 wR W W bv (xs.take j)->aQ g (#[Ye cs.toArray,bv]++caps) W (Yc (P j))):
 aQ 216 #[v,bm g caps] w (Yc (ep P xs.length)):=by
 obtain⟨A,n,c,rfl,hl,hc,hm⟩:=h.form;have H:=aa h;have F:=aa D;have HL:=aa hl;unfold dp at G;simp only[bm];rw[hl];clear h D hl;go_enter func216,ntmps216;go_wp2_with fail
 go_loopw [9] (λi wr=> ∃k:Nat,k<=n/\i=WK Xr k/\(∀j,j<k->P j=Wz)/\Below w w wr) (λi _=>n - (WS i).toNat)
 case atStart=>exact⟨0,bU _,rfl,by omega,af w⟩
 case round=>
  obtain⟨k,hk,rfl,dw,hB⟩:=hrel;have HA:=aa dw;clear dw;by_cases ar:k<n
  .have O:(0:Int)<=k:=by omega
   have J:(k:Int)<n:=Yi;have I:(k:Int)<=c:=Yi;obtain⟨x,hx⟩: ∃x,xs[k]? =Ws x:=⟨_,Wy we⟩;have C:=H.out.to wR.ab hB (ag _) hB.size;obtain⟨b,o,cs,rfl,gP,eF,hr,bk⟩:=C.at_ hx;have z:=aa (λW (y:Below wr wr W)=>F.out k x cs (Yb (Ws (b o Wr)) k c) W hx (ai hB y) (wR.ab _ _ _ _ _ _ _ hr y (ag _) y.size) eF ((C.to wR.ab y (ag _) y.size).take (by omega:k<=n)));obtain⟨rfl,po⟩:=hr;refine Dd λh0 h1 h2=> ?_;simp only[WR] at h0;have HQ:=aa hB;clear bk eF C hB po;cases hp:P k with
   |false=>
    rw[hp] at z;have HP:=aa hp;clear hp;go_wp2_with fail
    go_region_held3 (λw'=>w'.cell? wr=Ws (WM (bs x.name))/\w'.cell? (wr 1 Wr)=Ws (WK Xr x.rack)/\w'.cell? (wr 2 Wr)=Ws (WK Xr x.cap)) (go_simp)
     ((refine(z.out _ (aX (ae (af wr) _))).m ?_;rintro e w' ⟨rfl,fP⟩;obtain⟨cR,cL⟩:=gw fP))
    exact Zl
   |true=>
    rw[hp] at z;have HP:=aa hp;clear hp;go_wp2_with fail
    go_region_held3 (λw'=>w'.cell? wr=Ws (WM (bs x.name))/\w'.cell? (wr 1 Wr)=Ws (WK Xr x.rack)/\w'.cell? (wr 2 Wr)=Ws (WK Xr x.cap)) (go_simp)
     ((refine(z.out _ (aX (ae (af wr) _))).m ?_;rintro e w' ⟨rfl,fP⟩;obtain⟨cR,cL⟩:=gw fP))
    have gR:=ai HQ.out (ai (aX (ae (af wr) _)) fP);exact PZ
  .exact Zm
def ei8 (v:Wv) (xs:List tO) (g:Nat) (caps:Array Wv) (P:Nat->Bool) (w:Wu) (h:bW 3 pN w w v xs) (G:dp g)
 (D: ∀(j:Nat) x cs bv W,xs[j]? =Ws x->Below w w W->pN W W cs x->cs.length=3->bW 3 pN W W bv (xs.take j)->aQ g (#[Ye cs.toArray,bv]++caps) W (Yc (P j))):
 aQ 219 #[v,bm g caps] w (Yc (ep P xs.length)):=by
 obtain⟨A,n,c,rfl,hl,hc,hm⟩:=h.form;have H:=aa h;have F:=aa D;have HL:=aa hl;unfold dp at G;simp only[bm];rw[hl];clear h D hl;go_enter func219,ntmps219;go_wp2_with fail
 go_loopw [9] (λi wr=> ∃k:Nat,k<=n/\i=WK Xr k/\(∀j,j<k->P j=Wz)/\Below w w wr) (λi _=>n - (WS i).toNat)
 case atStart=>exact⟨0,bU _,rfl,by omega,af w⟩
 case round=>
  obtain⟨k,hk,rfl,dw,hB⟩:=hrel;have HA:=aa dw;clear dw;by_cases ar:k<n
  .have O:(0:Int)<=k:=by omega
   have J:(k:Int)<n:=Yi;have I:(k:Int)<=c:=Yi;obtain⟨x,hx⟩: ∃x,xs[k]? =Ws x:=⟨_,Wy we⟩;have C:=H.out.to pN.ab hB (ag _) hB.size;obtain⟨b,o,cs,rfl,gP,eF,hr,bk⟩:=C.at_ hx;have z:=aa (λW (y:Below wr wr W)=>F.out k x cs (Yb (Ws (b o Wr)) k c) W hx (ai hB y) (pN.ab _ _ _ _ _ _ _ hr y (ag _) y.size) eF ((C.to pN.ab y (ag _) y.size).take (by omega:k<=n)));obtain⟨rfl,po⟩:=hr;refine Dd λh0 h1 h2=> ?_;simp only[WR] at h0;have HQ:=aa hB;clear bk eF C hB po;cases hp:P k with
   |false=>
    rw[hp] at z;have HP:=aa hp;clear hp;go_wp2_with fail
    go_region_held3 (λw'=>w'.cell? wr=Ws (WK Xr x.a)/\w'.cell? (wr 1 Wr)=Ws (WK Xr x.b)/\w'.cell? (wr 2 Wr)=Ws (WK Xr x.cap)) (go_simp)
     ((refine(z.out _ (aX (ae (af wr) _))).m ?_;rintro e w' ⟨rfl,fP⟩;obtain⟨cR,cL⟩:=gw fP))
    exact Zl
   |true=>
    rw[hp] at z;have HP:=aa hp;clear hp;go_wp2_with fail
    go_region_held3 (λw'=>w'.cell? wr=Ws (WK Xr x.a)/\w'.cell? (wr 1 Wr)=Ws (WK Xr x.b)/\w'.cell? (wr 2 Wr)=Ws (WK Xr x.cap)) (go_simp)
     ((refine(z.out _ (aX (ae (af wr) _))).m ?_;rintro e w' ⟨rfl,fP⟩;obtain⟨cR,cL⟩:=gw fP))
    have gR:=ai HQ.out (ai (aX (ae (af wr) _)) fP);exact PZ
  .exact Zm
def t7 (n a b:Int) (w:Wu):WJ WH 145 #[n,a,b] w λe w'=>e=Xz (Yc (aD n a b))/\w'=w:=by
 go_enter func145,ntmps145
 go_wp2
 all_goals (go_ret;exact⟨cE Kj,rfl⟩)
def cC.vals (x:cC) (o:Wv):Array Value:= #[WK Xr x.kind,WK Xr x.item,WK Xr x.other,WK Xr x.n,WK Xr x.by_,Yc x.always,o]
def cC.vals_def (x:cC) (o:Wv):x.vals o= #[WK Xr x.kind,WK Xr x.item,WK Xr x.other,WK Xr x.n,WK Xr x.by_,Yc x.always,o]:=rfl
def B0 (k:Nat) (m:aM) (x:cC):Bool:=
 match k with
 |0=>aH x.item m.items.length&&Wt (pL m x.item=0)
 |1=>aH x.item m.items.length&&aD x.n 0 16
 |2=>aH x.item m.items.length&&(aD x.n 0 16&&aD x.by_ 2 4)
 |3=>aH x.item m.items.length&&ff m x.ms
 |4=>aH x.item m.items.length&&(aH x.other m.items.length&& !Wt (x.item=x.other))
 |5=>aD x.n 0 200
 |6=>aH x.item m.items.length&&aD x.n 0 16
 |_=>Ww
def ru:cC:=⟨0,0,0,0,0,Ww,[]⟩
def jw (k:Nat) (x:cC):cC:=
 match k with
 |0=>{ru with item:=x.item}
 |1=>{ru with item:=x.item,n:=x.n,always:=x.always}
 |2=>{ru with item:=x.item,n:=x.n,by_:=x.by_}
 |3=>{ru with item:=x.item,ms:=x.ms}
 |4=>{ru with item:=x.item,other:=x.other}
 |5=>{ru with n:=x.n}
 |6=>{ru with item:=x.item,n:=x.n}
 |_=>ru
def FR (a b:cC):Bool:=Wt (a.item=b.item)&&(Wt (a.other=b.other)&&(Wt (a.n=b.n)&&(Wt (a.by_=b.by_)&&(Wt (a.always=b.always)&&Wt (a.ms=b.ms)))))
def ej2 (m:aM) (x:cC) (k:Nat) (g:k<=6) (hx:x.kind=k):df m x=(B0 k m x&&FR x (jw k x)):=by
 have h:k=0\/k=1\/k=2\/k=3\/k=4\/k=5\/k=6:=Yi;have c: ∀b:Bool,Wt (b=Ww)= !b:=by intro b;cases b<;>rfl
 rcases h with rfl|rfl|rfl|rfl|rfl|rfl|rfl<;>(simp only[df,B0,jw,FR,ru,hx];rw[WU];simp[and_assoc];try grind)
def as3 (m:aM) (x:cC) (h: ¬(0<=x.kind/\x.kind<=6)):df m x=false:=by unfold df;simp only;repeat rw[if_neg Yi]
def yA (k:Nat) (l:List Int) (j:Nat):Bool:=fl (λn b=>aH n k&&(match b.getLast? with|none=>Wz|some p=>Wt (p<n))) [] l j
def as4 (k:Nat) (l:List Int):Yt k l=ep (yA k l) l.length:=wY _ l []
def as5 {k:Nat} {l:List Int} {n:Int} (h:l[0]? =Ws n):yA k l 0=aH n k:=by unfold yA;rw[E8 h];simp
def Zn {k j:Nat} {l:List Int} {p n:Int} (c:l[j]? =Ws p) (h:l[j+1]? =Ws n):yA k l (j+1)=(aH n k&&Wt (p<n)):=by
 unfold yA;rw[E8 h];have:([]++l.take (j+1)).getLast?=Ws p:=by rw[Xl,List.getLast?_eq_getElem?,XW];have g:=(List.getElem?_eq_some_iff.1 h).1;rw[Nat.min_eq_left Yi,List.getElem?_take];simpa using c
 rw[this]
def ez4 {α:Type} (R:Wu->Nat->List Wv->α->Prop) (hR:jf R) (v:Wv) (xs:List α) (g:Nat) (caps:Array Wv) (P:Nat->Bool) (w:Wu) (h:bW 1 R w w v xs) (z:dp g)
 (y: ∀(j:Nat) x cs W,xs[j]? =Ws x->Below w w W->R W W cs x->cs.length=1->aQ g (#[(cs.headD XE)]++caps) W (Yc (P j))):
 aQ 178 #[v,bm g caps] w (WK Xr (kj P xs.length)):=by
 obtain⟨A,n,c,rfl,hl,hc,hm⟩:=h.form;have H:=aa h;have HG:=aa y;have HL:=aa hl;unfold dp at z;simp only[bm];rw[hl];clear h y hl;go_enter func178,ntmps178;exact Yx
def Z3 {α:Type} (R:Wu->Nat->List Wv->α->Prop) (D:jf R) (v:Wv) (xs:List α) (g:Nat) (caps:Array Wv) (P:Nat->Bool) (w:Wu) (h:bW 1 R w w v xs) (z:dp g)
 (C: ∀(j:Nat) x cs W,xs[j]? =Ws x->Below w w W->R W W cs x->cs.length=1->aQ g (#[(cs.headD XE)]++caps) W (Yc (P j))):
 aQ 82 #[v,bm g caps] w (Yc ((Xs xs.length).any P)):=by
 obtain⟨A,n,c,rfl,hl,hc,hm⟩:=h.form;have y:=aa (ez4 R D _ xs g caps P w h z C);have G: -1<=kj P xs.length:=AW;rw[<-BE];clear h C z hl;simp only[bm] at y⊢
 go_enter func82,ntmps82;go_wp2_with(go_at_call 178;refine y.out.m ?_;rintro e F ⟨rfl,ap⟩)
 exact yp
def RJ:Go.Shelf.Ren:=⟨fun|166=>24|169=>30|240=>60|276=>159|n=>n,fun|37=>66|70=>65|72=>68|75=>70|80=>78|127=>145|164=>208|n=>n,λn=>n⟩
def fy6:Lays.n166 WH RJ:=ca4
def ft9:Lays.n169 WH RJ:=ca4
def by4:Builder.Extra WH RJ:=by constructor;all_goals first|(intros;kernel_rfl)|decide|(constructor<;>first|(intros;kernel_rfl)|decide)
def qh (B b:Nat) (l:ak) (w:Wu):Prop:=Lib.IsBuilderF 68 5 B b (Lib.byteCells l) w
def qh.new (w:Wu) {B:Nat} (c:B<=w.heap.size):qh B w [] (w.alloc (Yd #[Yf Wr,Yb Wr 0 0] 68)):=
 .inl ⟨c,_,bQ w _,World.ownsRowF_nil _ _ _ _,by simp[Xq]⟩
def qh.later {B b:Nat} {l:ak} {w w':Wu} (h:qh B b l w) (y:Below w w w'):qh B b l w':=by
 have key: ∀p,Lib.BuilderAtF 68 5 B b p (Lib.byteCells l) w->Lib.BuilderAtF 68 5 B b p (Lib.byteCells l) w':=by
  rintro p ⟨A,v,C,⟨D,j⟩,F⟩;refine⟨A,v,aq C y,⟨D,?_⟩,F⟩;rcases j with j|⟨g,cap,c,z,e,G,I,J⟩
  .exact .inl j
  .exact .inr ⟨g,cap,c,z,e,G,aq I y,J⟩
 exact h.elim (λh=> .inl (key _ h)) λh=> .inr (key _ h)
def Rf (B b:Nat) (l s:ak) (w:Wu) (h:qh B b l w) (z:l.length+s.length<=100000000) (y:B<=w.heap.size):
 WJ WH 24 #[Yf (Ws b),bs s] w λe w'=>e=Xz (.tuple #[WK Xr (bs s).size,.nilIface])/\qh B b (l++s) w'/\Below B w w'/\Lib.OthersKept 5 (Ws b) w w':=by
 refine(Any.Builder_WriteString_k fy6 by4 B b _ (bs s) w h (by rw[Lib.byteCells_length];show l.length+s.length<=_;omega) y).m ?_;rintro e w' ⟨c,g,j⟩;refine⟨c,.inr ?_,j⟩;rw[Lib.byteCells_append];exact g
def bt8 (B b:Nat) (l:ak) (w:Wu) (h:qh B b l w) (c:B<=w.heap.size):
 WJ WH 30 #[Yf (Ws b)] w λe w'=>e=Xz (WM (bs l))/\Below B w w':=
 (Any.Builder_String_any_k ft9 by4 B b l w h c).mono λe w' h=>⟨h.1,h.2.2.1⟩
end
end Go.Proofs.YtklfdkdebgfmiaaGreatDoor
