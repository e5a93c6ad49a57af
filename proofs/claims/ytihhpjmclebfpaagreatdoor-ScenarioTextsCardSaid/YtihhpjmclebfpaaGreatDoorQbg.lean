/- A part of the proof. -/
import Derived.Test.YtihhpjmclebfpaaGreatDoorQbf
set_option linter.defProp false
set_option linter.unusedVariables false
set_option linter.unusedSimpArgs false
set_option maxRecDepth 100000
set_option maxHeartbeats 32000000
open Option renaming some->XL,none->XM
open Decidable renaming decide->XN
open Go renaming World->XO,Value->XP,Calls->X4,TypeId->Ya,maxLen->Yd,Oper->YO,undef->YQ,Ending->Zb,Program->Zh
open Bool renaming false->XQ,true->XR
open List renaming range->Yz
open And renaming intro->XU
open Go.RowKit renaming Hid->XV
open Go.Proofs.Tryz renaming prog->X3,underlying22->Zo
open Go.Value renaming int->X1,string->X2,ownBlock->YC,slice->Zk,bool->Zp,agg->Zr
open Go.World renaming setCell->YS,cell?->Zc
open Go.Region renaming wanted->YB,ready->YR,Mode->Y4
open Go.Ending renaming returned->YT
open Go.Oper renaming wp->Zm
open Go.Obj renaming cells->Zq
open Go.Operand renaming tmp->Zt,const->Zu
namespace Go.Proofs.YtihhpjmclebfpaaGreatDoor
section
open Go Go.Proofs.Tryz
section
variable {P:Zh} {ops:Array YO} {Q:Exit->Act->XO->Prop} {md:Y4} {S:XO->Prop} {N:Nat}
def f'(P:Zh)(md:Y4)(ops:Array YO)(Q:Exit->Act->XO->Prop)(S:XO->Prop)(N:Nat):Nat->Array Bool->Act->XO->Prop
 |0,listed,a,w=>YR md ops listed=[]/\Q .normal a w
 |fuel+1,listed,a,w=>
  (YR md ops listed=[]->Q .normal a w)/\
  ∀i∈YR md ops listed,wpOp P ops Q i (λa' w'=>(i<N->S w')/\f' P md ops Q S N fuel (listed.setIfInBounds i XR) a' w') a w
def ag6:∀(fuel:Nat)(listed:Array Bool)(a:Act)(w:XO),f' P md ops Q S N fuel listed a w->wpAny P md ops Q fuel listed a w
 |0,_,_,_,h=>h
 |fuel+1,_,_,_,h=>⟨h.1,λi y=>wpOp_mono (λc w' j=>ag6 fuel _ c w' j.2) (h.2 i y)⟩
def DP(md:Y4)(ops:Array YO)(N i:Nat):Bool:=(Yz ops.size).all λj=>XN (j<N)||iU md ops j i
def dv3{i j:Nat}(h:DP md ops N i=XR)(hj:j<ops.size)(c:N<=j):iU md ops j i=true:=by exact ag7
def dv4{i:Nat}{y:YO}{v:XP}(hi:ops[i]?=XL y)(Ld:i<N)(F:∀(j:Nat)(o:YO)A b,ops[j]?=XL o->o.op≠ .select A b)(V:DP md ops N i=XR)
 (Z:∀c a w,Q (.panic c) (a.put y.dst v) w->Q (.panic c) a w):
 ∀(fuel:Nat)(listed:Array Bool)(a:Act)(w:World),
  (∀j z,ops[j]?=XL z->j≠i->listed.getD j XR=XQ->(∀e∈z.after,Region.binds md e=XR->e.on≠i)->y.apart ops z=XR)->
  i∈YR md ops listed->YieldsIf P ops S y v a->S w->
  f' P md ops Q S N fuel (listed.setIfInBounds i XR) (a.put y.dst v) w->f' P md ops Q S N (fuel+1) listed a w:=by
 intro fuel;induction fuel with
 |zero=>intro listed a w _ hr hy hS H;exact ag8
 |succ fuel ih=>
  intro listed a w G hr hy hS H;refine⟨λh=>(by rw[h]at hr;cases hr),λj hj=>?_⟩;by_cases rd:j=i
  .subst rd;exact hy.wpOp hi hS ⟨λ_=>hS,H⟩
  .have h1:=H.2 j (ready_mono hj rd);obtain⟨Li,z,Ah,dx⟩:=mem_ready.1 hj;have I:∀e∈z.after,Region.binds md e=true->e.on≠i:=λe he hb heq=>by exact ag9
   have O:j<N:=by
    rcases Yt j N with h|h
    .exact h
    .obtain⟨o,ho,e,he,hb,gx7⟩:=WJ (dv3 V (Array.getElem?_eq_some_iff.1 Ah).1 h);rw[Ah]at ho;injection ho with ho;subst ho;exact absurd gx7 (I e he hb)
   have Y:=wpOp_putIf Ah (G j z Ah rd Li I) (λA b=>F i y A b hi) (λA b=>F j z A b Ah) Z hy h1;have hfree':∀k ok,ops[k]?=XL ok->k≠i->(listed.setIfInBounds j XR).getD k XR=XQ->
    (∀e∈ok.after,Region.binds md e=XR->e.on≠i)->y.apart ops ok=true:=λk ok hk U D sA=>by
    refine G k ok hk U ?_ sA;by_cases J:j=k
    .subst J;exact Li
    .rw[getD_set_ne XR J]at D;exact D
   refine wpOp_mono (λX w' C=>⟨C.2.1,ih (listed.setIfInBounds j XR) X w' hfree' (ready_mono hr (Ne.symm rd)) C.1 (C.2.1 O) ?_⟩) Y;rw[Array.setIfInBounds_comm _ _ rd];exact C.2.2
def WK{i:Nat}{j:YO}{v:XP}{fuel:Nat}{listed:Array Bool}{a:Act}{w:XO}(d:Option Tmp)(y:ops[i]?=XL j)(D:j.dst=d)(z:XN (i<N)=XR)
 (J:Region.noSelect ops=XR)(F:Region.free md ops listed i=XR)(I:(YR md ops listed).contains i=XR)(G:DP md ops N i=XR)
 (A:∀c a w,Q (.panic c) (a.put d v) w->Q (.panic c) a w)(O:YieldsIf P ops S j v a)(C:S w)
 (h:f' P md ops Q S N fuel (listed.setIfInBounds i XR) (a.put d v) w):f' P md ops Q S N (fuel+1) listed a w:=by
 subst D;exact dv4 y (of_decide_eq_true z) (Region.noSelect_spec J) G A fuel listed a w (Region.free_spec y F) (by simpa using I) O C h
def da0(m s:Nat){j:YO}{v:XP}{fuel:Nat}{listed:Array Bool}{a:Act}{w:XO}(hi:ops[m - (fuel+1)]?=XL j)(hk:(nW md ops listed (m - (fuel+1)) (s+(m - (fuel+1)))&&(XN (m - (fuel+1)<N)&&DP md ops N (m - (fuel+1))))=XR)
 (hQ:∀c a w,Q (.panic c) (a.put (XL (s+(m - (fuel+1)))) v) w->Q (.panic c) a w)(hy:YieldsIf P ops S j v a)(hS:S w)
 (h:f' P md ops Q S N fuel (listed.setIfInBounds (m - (fuel+1)) XR) (a.put (XL (s+(m - (fuel+1)))) v) w):f' P md ops Q S N (fuel+1) listed a w:=by
 exact ah0
def dv5(i t:Nat){j:YO}{v:XP}{fuel:Nat}{listed:Array Bool}{a:Act}{w:XO}(hi:ops[i]?=XL j)(hk:(nW md ops listed i t&&(XN (i<N)&&DP md ops N i))=XR)
 (hQ:∀c a w,Q (.panic c) (a.put (XL t) v) w->Q (.panic c) a w)(hy:YieldsIf P ops S j v a)(hS:S w)
 (h:f' P md ops Q S N fuel (listed.setIfInBounds i XR) (a.put (XL t) v) w):f' P md ops Q S N (fuel+1) listed a w:=by
 exact ah0
def dC(P:Zh)(md:Y4)(ops:Array YO)(Q:Exit->Act->XO->Prop)(S:XO->Prop)(N:Nat)(fuel:Nat)(listed:Array Bool)(a:Act)(w:XO)(rs:List Nat):Prop:=
 ∀i∈rs,wpOp P ops Q i (λa' w'=>(i<N->S w')/\f' P md ops Q S N fuel (listed.setIfInBounds i XR) a' w') a w
def dC.nil{fuel:Nat}{listed:Array Bool}{a:Act}{w:XO}:dC P md ops Q S N fuel listed a w []:=λ_ h=>by cases h
def dC.cons1{fuel:Nat}{listed:Array Bool}{a:Act}{w:XO}{i:Nat}{o:YO}{rs:List Nat}(ho:ops[i]?=XL o)
 (h:∀c:Act->XO->Prop,Shut (∀a w,S w->(S w->f' P md ops Q S N fuel (listed.setIfInBounds i XR) a w)->c a w)->if YB o (yielded ops a.tmps)=XR then Zm P o a w c Q else c (a.put o.dst YQ) w)
 (D:dC P md ops Q S N fuel listed a w rs):dC P md ops Q S N fuel listed a w (i::rs):=λj y=>by
 rcases List.mem_cons.1 y with rfl|y
 .exact wpOp_step ho (λc A=>h c λa w z C=>A a w ⟨λ_=>z,C z⟩)
 .exact D j y
def dC.cons2{fuel:Nat}{listed:Array Bool}{a:Act}{w:XO}{i:Nat}{o:YO}{rs:List Nat}(ho:ops[i]?=XL o)(A:XN (N<=i)=XR)
 (h:∀c:Act->XO->Prop,Shut (∀a w,f' P md ops Q S N fuel (listed.setIfInBounds i XR) a w->c a w)->if YB o (yielded ops a.tmps)=XR then Zm P o a w c Q else c (a.put o.dst YQ) w)
 (D:dC P md ops Q S N fuel listed a w rs):dC P md ops Q S N fuel listed a w (i::rs):=λj y=>by
 rcases List.mem_cons.1 y with rfl|y
 .exact wpOp_step ho (λc z=>h c (λa w C=>z a w ⟨λh=>by have:=of_decide_eq_true A;omega,C⟩))
 .exact D j y
def ny{rs:List Nat}{fuel:Nat}{listed:Array Bool}{a:Act}{w:XO}(c:YR md ops listed=rs)(j:rs≠[])
 (h:dC P md ops Q S N fuel listed a w rs):f' P md ops Q S N (fuel+1) listed a w:=⟨λy=>absurd (c▸y) j,c▸h⟩
def dv6{listed:Array Bool}{a:Act}{w:XO}(c:YR md ops listed=[])(h:Q .normal a w):
 ∀fuel,f' P md ops Q S N fuel listed a w
 |0=>⟨c,h⟩
 |_+1=>⟨λ_=>h,by rw[c];simp⟩
def ds1{id:Nat}{a:Act}{w:XO}(N:Nat)(hm:P.follows .mixedOrders=XR)(c:S w.drew)
 (h:S w.drew->f' P .any ops Q S N ops.size (Array.replicate ops.size XQ) a w.drew):(Code.region id ops XR).wp P Q a w:=
 wp_region_any hm (ag6 _ _ _ _ (h c))
def da(m s:Nat){j:YO}{v:XP}{fuel:Nat}{listed:Array Bool}{a:Act}{w:XO}{p:Prop}(h:p)(hS:S w:=by exact hS)
 (z:ops[m - (fuel+1)]?=XL j:=by rfl)(A:(nW md ops listed (m - (fuel+1)) (s+(m - (fuel+1)))&&(XN ((m - (fuel+1))<N)&&DP md ops N (m - (fuel+1))))=true:=by kernel_rfl)
 (y:∀c a w,Q (.panic c) (a.put (XL (s+(m - (fuel+1)))) v) w->Q (.panic c) a w:=by exact λ_ _ _ h=>h)(D:YieldsIf P ops S j v a:=by(refine Or.inl ⟨by rfl,?_⟩;intro w jF;(try have jF:=cU w jF);(try dsimp only at jF);go_simp;try with_reducible rfl))
 (C:p->f' P md ops Q S N fuel (listed.setIfInBounds (m - (fuel+1)) XR) (a.put (XL (s+(m - (fuel+1)))) v) w:=by(intro hq;simp only[Act.put,ug,ui,uh,Nat.reduceSub,Nat.reduceAdd];exact hq)):f' P md ops Q S N (fuel+1) listed a w:=
 da0 m s z A y D hS (C h)
def ta(m s:Nat){j:YO}{fuel:Nat}{listed:Array Bool}{a:Act}{w:XO}{p:Prop}(h:p)(hS:S w:=by exact hS)
 (z:ops[m - (fuel+1)]?=XL j:=by rfl)(A:(nW md ops listed (m - (fuel+1)) (s+(m - (fuel+1)))&&(XN ((m - (fuel+1))<N)&&DP md ops N (m - (fuel+1))))=true:=by kernel_rfl)
 (y:∀c a w,Q (.panic c) (a.put (XL (s+(m - (fuel+1)))) YQ) w->Q (.panic c) a w:=by exact λ_ _ _ h=>h)(D:YieldsIf P ops S j YQ a:=by exact Or.inr ⟨by rfl,rfl⟩)
 (C:p->f' P md ops Q S N fuel (listed.setIfInBounds (m - (fuel+1)) XR) (a.put (XL (s+(m - (fuel+1)))) YQ) w:=by(intro hq;simp only[Act.put,ug,ui,uh,Nat.reduceSub,Nat.reduceAdd];exact hq)):f' P md ops Q S N (fuel+1) listed a w:=
 da0 m s z A y D hS (C h)
def ke(i t:Nat){j:YO}{v:XP}{fuel:Nat}{listed:Array Bool}{a:Act}{w:XO}{p:Prop}(h:p)(hS:S w:=by exact hS)
 (z:ops[i]?=XL j:=by rfl)(A:(nW md ops listed i t&&(XN (i<N)&&DP md ops N i))=true:=by kernel_rfl)
 (y:∀c a w,Q (.panic c) (a.put (XL t) v) w->Q (.panic c) a w:=by exact λ_ _ _ h=>h)(D:YieldsIf P ops S j v a:=by(refine Or.inl ⟨by rfl,?_⟩;intro w jF;(try have jF:=cU w jF);(try dsimp only at jF);go_simp;try with_reducible rfl))
 (C:p->f' P md ops Q S N fuel (listed.setIfInBounds i XR) (a.put (XL t) v) w:=by(intro hq;simp only[Act.put,ug,ui,uh];exact hq)):f' P md ops Q S N (fuel+1) listed a w:=
 dv5 i t z A y D hS (C h)
def bt(i:Nat){o:YO}{fuel:Nat}{listed:Array Bool}{a:Act}{w:XO}(h:∀c:Act->XO->Prop,Shut (∀a w,S w->(S w->f' P md ops Q S N fuel (listed.setIfInBounds i XR) a w)->c a w)->if YB o (yielded ops a.tmps)=XR then Zm P o a w c Q else c (a.put o.dst YQ) w)
 (j:YR md ops listed=[i]:=by kernel_rfl)(ho:ops[i]?=XL o:=by rfl):f' P md ops Q S N (fuel+1) listed a w:=ny j Zy (dC.cons1 ho h dC.nil)
def eA(i:Nat){o:YO}{fuel:Nat}{listed:Array Bool}{a:Act}{w:XO}(h:∀c:Act->XO->Prop,Shut (∀a w,f' P md ops Q S N fuel (listed.setIfInBounds i XR) a w->c a w)->if YB o (yielded ops a.tmps)=XR then Zm P o a w c Q else c (a.put o.dst YQ) w)
 (y:YR md ops listed=[i]:=by kernel_rfl)(ho:ops[i]?=XL o:=by rfl)(j:XN (N<=i)=true:=by rfl):f' P md ops Q S N (fuel+1) listed a w:=ny y Zy (dC.cons2 ho j h dC.nil)
def eT{S:XO->Prop}(N n:Nat){id:Nat}{a:Act}{w:XO}(c:S (World.drew w))(h:S (World.drew w)->f' P .any ops Q S N n (Array.replicate n XQ) a (World.drew w))(hm:P.follows .mixedOrders=true:=by kernel_rfl)(j:ops.size=n:=by rfl):(Code.region id ops XR).wp P Q a w:=by subst j;exact ds1 N hm c h
def gc{listed:Array Bool}{a:Act}{w:XO}{fuel:Nat}(h:Q .normal a w)(c:YR md ops listed=[]:=by kernel_rfl):f' P md ops Q S N fuel listed a w:=dv6 c h fuel
end
end
section
open Go Go.RowKit Go.Proofs.Tryz
def Zw(b:List aG)(d:aG):Nat:=(b.filter λx=>XN (cB x.kind=cB d.kind)).length
def pK:List aG->List aG->dK
 |_,[]=>[]
 |b,d::r=>(if d.name=[]then[]else[(d.name,d.kind,Zw (b++[d]) d)])++pK (b++[d]) r
def lS(l:List aG):List ay:=(l.map (·.name)).filter λs=> !XN (s=[])
def eb0{t:dK}{s:ay}(h:s∉t.map (·.1)):el t s=none:=by unfold el;rw[List.find?_eq_none.2 (λx hx=>by have:x.1≠s:=λe=>h (e▸List.mem_map_of_mem hx);simpa using this)];rfl
def I6:∀{t:dK}{s:ay}{k n:Nat},(t.map (·.1)).Nodup->(s,k,n)∈t->el t s=XL (k,n)
 |[],s,k,n,_,h=>by cases h
 |x::t,s,k,n,hn,h=>by
  rw[Yg,List.nodup_cons]at hn;unfold el;rcases List.mem_cons.1 h with rfl|h
  .simp
  .have hx:x.1≠s:=λe=>hn.1 (e▸List.mem_map_of_mem (f:=(·.1)) h);rw[List.find?_cons_of_neg (by simpa using hx)];exact I6 hn.2 h
def Zx:∀(c b h:List aG),pK b (c++h)=pK b c++pK (b++c) h
 |[],b,h=>by simp[pK]
 |d::c,b,h=>by rw[Yk,pK,pK,Zx c (b++[d]) h];simp
def ap4:∀(l b:List aG),(pK b l).map (·.1)=lS l
 |[],b=>rfl
 |d::l,b=>by rw[pK,Yp,ap4 l (b++[d])];by_cases e:d.name=[]<;>simp[lS,e]
def ap5:∀(l b:List aG)(t:dK),(∀d∈l,bK d=XR)->(t.map (·.1)++lS l).Nodup->
 (∀k,k=8\/k=9->((b++l).filter λx=>XN (x.kind=k)).length<=1)->ks b t l= .ok (t++pK b l)
 |[],b,t,_,_,_=>by simp[ks,pK]
 |d::r,b,t,hv,hn,hk=>by
  rw[ks,if_neg (by simp[hv d Zy]),if_neg ?_]
  .rw[ap5 r (b++[d]) _ (λx hx=>hv x (by simp[hx])) ?_ (λk h=>by have:=hk k h;simpa using this)]
   .by_cases e:d.name=[]<;>simp[e,pK,Zw]
   .by_cases e:d.name=[]
    .simpa[e,lS]using hn
    .simpa[e,lS]using hn
  .intro h;rw[Bool.or_eq_true]at h;rcases h with h|h
   .rw[Bool.and_eq_true]at h;have z:d.name≠[]:=by simpa using h.1
    have A:d.name∈lS (d::r):=by simp[lS,z]
    have:=eb0 (t:=t) (s:=d.name) λhm=>(List.nodup_append.1 hn).2.2 _ hm _ A rfl;rw[this]at h;simp at h
   .rw[Bool.and_eq_true]at h;obtain⟨h8,h9⟩:=h;obtain⟨x,hx,c⟩:=List.any_eq_true.1 h9;have c:x.kind=d.kind:=by simpa using c
    have j:d.kind=8\/d.kind=9:=by simpa using h8
    have:=hk d.kind j;rw[List.filter_append,X0,List.filter_cons_of_pos Zy,YF]at this;have C:0<(b.filter λy=>XN (y.kind=d.kind)).length:=List.length_pos_of_mem (List.mem_filter.2 ⟨hx,by simpa using c⟩);omega
def ap6(c:Nat):∀(seg b:List aG)(i:Nat)(d:aG),(∀x∈seg,cB x.kind=c)->seg[i]?=XL d->d.name≠[]->
 (d.name,d.kind,(b.filter λx=>XN (cB x.kind=c)).length+i+1)∈pK b seg
 |[],b,i,d,_,h,_=>by simp at h
 |x::seg,b,0,d,hc,h,hn=>by simp at h;subst h;have hx:=hc x Zy;rw[pK,if_neg hn];refine List.mem_append_left _ ?_;simp[Zw,hx]
 |x::seg,b,i+1,d,hc,h,hn=>by
  have hx:=hc x Zy;have j:=ap6 c seg (b++[x]) i d (λy hy=>hc y uG) zH hn;rw[pK];refine List.mem_append_right _ ?_;rw[List.filter_append,X0,List.filter_cons_of_pos By]at j;have e:(b.filter λx=>XN (cB x.kind=c)).length+(i+1)+1=(b.filter λx=>XN (cB x.kind=c)).length+([x].filter λx=>XN (cB x.kind=c)).length+i+1:=by simp[hx];omega
  rw[e];simpa[hx]using j
def Md{c:Nat}{A seg C:List aG}(j:∀x∈A,cB x.kind≠c)(z:∀x∈seg,cB x.kind=c){i:Nat}{d:aG}(h:seg[i]?=XL d)(y:d.name≠[]):
 (d.name,d.kind,i+1)∈pK [] (A++(seg++C)):=by
 have:=ap6 c seg A i d z h y;rw[List.filter_eq_nil_iff.2 (λx hx=>by simpa using j x hx)]at this;rw[Zx,Zx];refine List.mem_append_right _ (List.mem_append_left _ ?_);simpa using this
def Gf{α:Type}{c:α->List α->Bool}:∀{l b:List α}{x:α},eD c b l=XR->x∈l->∃j,c x j=XR
 |[],b,x,_,h=>by cases h
 |y::l,b,x,hs,h=>by
  rw[eD,XW]at hs;rcases List.mem_cons.1 h with rfl|h
  .exact⟨b,hs.1⟩
  .exact Gf hs.2 h
def an0:∀(l b:List ay),eD (λs b=>bI s&& !XN (s∈b)) b l=XR->l.Nodup/\∀s∈l,s∉b/\bI s=XR
 |[],b,_=>⟨List.nodup_nil,by simp⟩
 |x::l,b,h=>by
  rw[eD,XW,XW]at h;obtain⟨⟨h1,h2⟩,h3⟩:=h;obtain⟨i1,i2⟩:=an0 l (b++[x]) h3;have y:x∉b:=by simpa using h2
  refine⟨List.nodup_cons.2 ⟨λhx=>(i2 x hx).1 Zy,i1⟩,λs c=>?_⟩;rcases List.mem_cons.1 c with rfl|c
  .exact⟨y,h1⟩
  .exact⟨λj=>(i2 s c).1 (by simp[j]),(i2 s c).2⟩
def jh{n:Int}{k:Nat}:aF n k=XR↔1<=n/\n<=k:=by simp[aF,aE]
def xF{n a b:Int}:aE n a b=XR↔a<=n/\n<=b:=by simp[aE]
def Zz(k:Nat):∀(l b:List Int),eD (λn b=>aF n k&&(match b.getLast? with|none=>XR|some p=>XN (p<n))) b l=XR->
 l.Pairwise (· < ·)/\(∀n∈l,aF n k=XR)/\∀p,b.getLast?=XL p->∀n∈l,p<n
 |[],b,_=>⟨List.Pairwise.nil,by simp,by simp⟩
 |x::l,b,h=>by
  rw[eD,XW,XW]at h;obtain⟨⟨h1,j⟩,h3⟩:=h;obtain⟨i1,i2,i3⟩:=Zz k l (b++[x]) h3;have y:=i3 x Zy;refine⟨List.pairwise_cons.2 ⟨y,i1⟩,λn c=>?_,λp z n c=>?_⟩
  .rcases List.mem_cons.1 c with rfl|c
   .exact h1
   .exact i2 n c
  .rw[z]at j;have j:p<x:=by simpa using j
   rcases List.mem_cons.1 c with rfl|c
   .exact j
   .have:=y n c;omega
def an1:∀(l:List Int),l.Pairwise (· < ·)->ql l=l
 |[],_=>rfl
 |x::l,h=>by
  obtain⟨h1,h2⟩:=List.pairwise_cons.1 h;show B9 x (ql l)=_;rw[an1 l h2];cases l with
  |nil=>rfl
  |cons y l=>rw[B9,if_pos (by have:=h1 y Zy;omega)]
def eb1{k:Nat}{l:List Int}(h:WO k l=XR):ql l=l/\l.Nodup/\∀n∈l,aF n k=true:=by obtain⟨h1,h2,_⟩:=Zz k l [] h;exact⟨an1 l h1,h1.imp (λh=>by omega),h2⟩
def I7{l:List ay}{n:Int}(h:aF n l.length=XR):∃i:Nat,l[i]?=XL (fw l n)/\(i:Int)+1=n/\i+1=n.toNat:=by obtain⟨h1,h2⟩:=jh.1 h;refine⟨(n - 1).toNat,?_,by omega,by omega⟩;have c:(n - 1).toNat<l.length:=Zv;unfold fw;rw[X9,XT c];rfl
def AQ{l:List ay}{n:Int}(h:aF n l.length=XR):fw l n∈l:=by obtain⟨i,hi,_⟩:=I7 h;exact eE hi
def dS(m:aU):List aG:=m.sites.map λs=>{kind:=0,name:=s}
def dF(m:aU):List aG:=m.feeds.map λs=>{kind:=1,name:=s}
def mU(m:aU)(x:nC):aG:={kind:=2,name:=x.name,refs:=[fw m.sites x.site,fw m.feeds x.feed]}
def dR(m:aU):List aG:=m.racks.map (mU m)
def mV(m:aU)(x:rq):aG:={kind:=3,name:=x.name,refs:=[fw (m.racks.map (·.name)) x.rack],nums:=[x.cap.toNat]}
def dM(m:aU):List aG:=m.machs.map (mV m)
def oR(m:aU)(x:t5):aG:={kind:=4,refs:=[fw m.sites x.a,fw m.sites x.b],nums:=[x.cap.toNat]}
def dL(m:aU):List aG:=m.links.map (oR m)
def dI(m:aU):List aG:=m.items.map (kP m)
def dD(m:aU):List aG:=[{kind:=8,refs:=[fw m.sites m.dark],nums:=[m.slots.toNat,m.reserve.toNat]}]
def dX(m:aU):List aG:=if 0<m.failures then[{kind:=9,by_:=m.failures.toNat}]else[]
def uJ(m:aU):List aG:=m.rules.map (ch m)
def AR(m:aU):jO m=dS m++(dF m++(dR m++(dM m++(dL m++(dI m++(dD m++(dX m++uJ m))))))):=by simp only[jO,Yi];rfl
structure sQ(m:aU):Prop where
 sn:1<=m.sites.length/\m.sites.length<=4
 fn:m.feeds.length<=16
 rn:m.racks.length<=16
 mn:1<=m.machs.length/\m.machs.length<=16
 ln:m.links.length<=12
 xn:m.items.length<=8
 un:m.rules.length<=40
 racks:∀x∈m.racks,aF x.site m.sites.length=XR/\aF x.feed m.feeds.length=XR
 machs:∀x∈m.machs,aF x.rack m.racks.length=XR/\0<=x.cap/\x.cap<=1048576
 links:∀x∈m.links,aF x.a m.sites.length=XR/\aF x.b m.sites.length=XR/\x.a<x.b/\0<=x.cap/\x.cap<=1048576
 items:∀x∈m.items,dV m x=XR
 rules:∀x∈m.rules,dw m x=XR
 dark:aF m.dark m.sites.length=XR
 slots:1<=m.slots/\m.slots<=16
 reserve:0<=m.reserve/\m.reserve<m.slots
 failures:0<=m.failures/\m.failures<=7
 nodup:(dp m).Nodup
 names:∀s∈dp m,bI s=XR
def wh{m:aU}(h:ew m=XR):sQ m:=by
 unfold ew fO at h;simp only[XW,decide_eq_true_eq,jh,xF,Yn]at h;obtain⟨⟨⟨⟨⟨⟨⟨⟨⟨⟨⟨⟨⟨⟨⟨⟨c,hf⟩,hr⟩,hm⟩,hl⟩,sr⟩,sm⟩,sl⟩,xi⟩,xu⟩,hd⟩,j9⟩,V5⟩,p9⟩,fG⟩,hit⟩,BZ⟩:=h;obtain⟨n1,n2⟩:=an0 _ _ fG;refine⟨by omega,hf,hr,by omega,hl,xi,xu,λx hx=>?_,λx hx=>?_,λx hx=>?_,hit,BZ,jh.2 hd,j9,by omega,p9,n1,λs c=>(n2 s c).2⟩
 .obtain⟨b,hb⟩:=Gf sr hx;simp only[jI,XW]at hb;exact hb.1
 .obtain⟨b,hb⟩:=Gf sm hx;simp only[vY,XW,xF]at hb;exact hb
 .obtain⟨b,hb⟩:=Gf sl hx;simp only[jJ,XW,xF,decide_eq_true_eq]at hb;obtain⟨⟨⟨⟨h1,h2⟩,h3⟩,h4⟩,_⟩:=hb;exact⟨jh.2 ⟨h1,by omega⟩,jh.2 ⟨by omega,h3⟩,h2,h4⟩
def an2{s:ay}(h:bI s=XR):s≠[]:=by rintro rfl;simp[bI]at h
def eb2(a b:List aG):lS (a++b)=lS a++lS b:=by simp[lS]
def Me{α:Type}(f:α->aG)(l:List α)(h:∀x∈l,(f x).name≠[]):lS (l.map f)=l.map λx=>(f x).name:=by unfold lS;rw[YM];exact List.filter_eq_self.2 λs c=>by obtain⟨x,hx,rfl⟩:=List.mem_map.1 c;simpa using h x hx
def QC(l:List aG)(h:∀x∈l,x.name=[]):lS l=[]:=by unfold lS;exact List.filter_eq_nil_iff.2 λs c=>by obtain⟨x,hx,rfl⟩:=List.mem_map.1 c;simp[h x hx]
def an3{m:aU}(h:sQ m):lS (jO m)=dp m:=by
 have ne:∀s∈dp m,s≠[]:=λs J=>an2 (h.names s J);unfold dp at ne;simp only[YL]at ne;rw[AR];simp only[eb2];have c:lS (dS m)=m.sites:=by rw[dS,Me _ _ (λx hx=>ne x (.inl (.inl (.inl (.inl hx)))))];simp
 have j:lS (dF m)=m.feeds:=by rw[dF,Me _ _ (λx hx=>ne x (.inl (.inl (.inl (.inr hx)))))];simp
 have z:lS (dR m)=m.racks.map (·.name):=by rw[dR,Me _ _ (λx hx=>ne x.name (.inl (.inl (.inr (List.mem_map_of_mem hx)))))];rfl
 have A:lS (dM m)=m.machs.map (·.name):=by rw[dM,Me _ _ (λx hx=>ne x.name (.inl (.inr (List.mem_map_of_mem hx))))];rfl
 have C:lS (dL m)=[]:=QC _ λx hx=>by obtain⟨y,_,rfl⟩:=List.mem_map.1 hx;rfl
 have D:lS (dI m)=m.items.map (·.name):=by rw[dI,Me _ _ (λx hx=>ne x.name (.inr (List.mem_map_of_mem hx)))];rfl
 have F:lS (dD m)=[]:=QC _ λx hx=>by simp only[dD,List.mem_singleton]at hx;subst hx;rfl
 have G:lS (dX m)=[]:=QC _ λx hx=>by
  unfold dX at hx;split at hx
  .simp only[List.mem_singleton]at hx;subst hx;rfl
  .cases hx
 have I:lS (uJ m)=[]:=QC _ λx hx=>by obtain⟨y,_,rfl⟩:=List.mem_map.1 hx;rfl
 rw[c,j,z,A,C,D,F,G,I];simp[dp]
def DB{m:aU}{x:fq}(h:dV m x=XR):(x.kind=0\/x.kind=1\/x.kind=2)/\fF m x.on=XR/\(0<=x.load/\x.load<=1048576)/\(0<=x.size/\x.size<=1048576)/\(1<=x.share/\x.share<=1048576)/\
 (x.kind=0->(x.count=1\/x.count=3\/x.count=5)/\x.count=x.on.length)/\(x.kind=1->1<=x.count/\x.count<=8)/\(x.kind=2->x.count=1/\x.on.length=1):=by
 unfold dV at h;simp only[XW,xF]at h;obtain⟨⟨⟨⟨h1,h2⟩,h3⟩,h4⟩,h5⟩:=h;refine⟨?_,h2,h3,h4,h5,λe=>?_,λe=>?_,λe=>?_⟩
 .by_cases c:x.kind=0
  .exact .inl c
  .by_cases j:x.kind=1
   .exact .inr (.inl j)
   .by_cases y:x.kind=2
    .exact .inr (.inr y)
    .simp[c,j,y]at h1
 .simp[e]at h1;exact⟨by omega,h1.2⟩
 .simp[e,aE]at h1;exact h1
 .simp[e]at h1;exact h1
def Cj{m:aU}{l:List Int}(h:fF m l=XR):ql l=l/\l.Nodup/\(∀n∈l,aF n m.machs.length=XR)/\0<l.length:=by unfold fF at h;rw[XW,decide_eq_true_eq]at h;obtain⟨h1,h2,h3⟩:=eb1 h.1;exact⟨h1,h2,h3,h.2⟩
structure nS(m:aU)(T:dK):Prop where
 site:∀n,aF n m.sites.length=XR->el T (fw m.sites n)=XL (0,n.toNat)
 feed:∀n,aF n m.feeds.length=XR->el T (fw m.feeds n)=XL (1,n.toNat)
 rack:∀n,aF n m.racks.length=XR->el T (fw (m.racks.map (·.name)) n)=XL (2,n.toNat)
 mach:∀n,aF n m.machs.length=XR->el T (fw (m.machs.map (·.name)) n)=XL (3,n.toNat)
 item:∀n,aF n m.items.length=XR->el T (fw (m.items.map (·.name)) n)=XL ((5+rr m n).toNat,n.toNat)/\(rr m n=0\/rr m n=1\/rr m n=2)
def I8{m:aU}{x:aG}(h:x∈dS m):x.kind=0:=Kr
def Mf{m:aU}{x:aG}(h:x∈dF m):x.kind=1:=Kr
def QD{m:aU}{x:aG}(h:x∈dR m):x.kind=2:=Kr
def ZA{m:aU}{x:aG}(h:x∈dM m):x.kind=3:=Kr
def av4{m:aU}{x:aG}(h:x∈dL m):x.kind=4:=Kr
def av5{m:aU}(hm:sQ m){x:aG}(h:x∈dI m):x.kind=5\/x.kind=6\/x.kind=7:=by obtain⟨y,hy,rfl⟩:=List.mem_map.1 h;have:=(DB (hm.items y hy)).1;show(5+y.kind).toNat=5\/(5+y.kind).toNat=6\/(5+y.kind).toNat=7;omega
def eb3{m:aU}{x:aG}(h:x∈dD m):x.kind=8:=by simp only[dD,List.mem_singleton]at h;subst h;rfl
def eb4{m:aU}{x:aG}(h:x∈dX m):x.kind=9:=by
 unfold dX at h;split at h
 .simp only[List.mem_singleton]at h;subst h;rfl
 .cases h
def eb5{m:aU}{x:cF}(h:dw m x=XR):0<=x.kind/\x.kind<=6:=by
 unfold dw at h;dsimp only at h;by_cases c:x.kind=0
 .omega
 by_cases j:x.kind=1
 .omega
 by_cases y:x.kind=2
 .omega
 by_cases z:x.kind=3
 .omega
 by_cases A:x.kind=4
 .omega
 by_cases C:x.kind=5
 .omega
 by_cases D:x.kind=6
 .omega
 rw[if_neg c,if_neg j,if_neg y,if_neg z,if_neg A,if_neg C,if_neg D]at h;cases h
def av6{m:aU}(hm:sQ m){x:aG}(h:x∈uJ m):10<=x.kind/\x.kind<=16:=by obtain⟨y,hy,rfl⟩:=List.mem_map.1 h;have:=eb5 (hm.rules y hy);show 10<=(10+y.kind).toNat/\(10+y.kind).toNat<=16;omega
def av7{k:Nat}(h:k=5\/k=6\/k=7):cB k=5:=by unfold cB;rw[if_pos Zv]
def ej1{m:aU}(hm:sQ m):nS m (pK [] (jO m)):=by
 have I:((pK [] (jO m)).map (·.1)).Nodup:=by rw[ap4,an3 hm];exact hm.nodup
 have F:=hm.names;unfold dp at F;simp only[YL]at F;have ne:∀s,((((s∈m.sites\/s∈m.feeds)\/s∈m.racks.map (·.name))\/s∈m.machs.map (·.name))\/s∈m.items.map (·.name))->s≠[]:=λs U=>an2 (F s U);have G:=AR m;constructor
 .intro n j;obtain⟨i,h1,h2,h3⟩:=I7 j;refine I6 I ?_;rw[G,<-h3];have:=Md (c:=0) (A:=[]) (seg:=dS m) (C:=dF m++(dR m++(dM m++(dL m++(dI m++(dD m++(dX m++uJ m))))))) (i:=i) (d:={kind:=0,name:=fw m.sites n}) (by simp) (λx hx=>by rw[I8 hx];rfl)
   (by rw[dS,X5,h1];rfl) (ne _ (.inl (.inl (.inl (.inl (AQ j))))))
  simpa using this
 .intro n j;obtain⟨i,h1,h2,h3⟩:=I7 j;refine I6 I ?_;rw[G,<-h3];have:=Md (c:=1) (A:=dS m) (seg:=dF m) (C:=dR m++(dM m++(dL m++(dI m++(dD m++(dX m++uJ m)))))) (i:=i) (d:={kind:=1,name:=fw m.feeds n}) (λx hx=>by rw[I8 hx];decide) (λx hx=>by rw[Mf hx];rfl)
   (by rw[dF,X5,h1];rfl) (ne _ (.inl (.inl (.inl (.inr (AQ j))))))
  simpa using this
 .intro n j;have z:aF n (m.racks.map (·.name)).length=true:=by rw[List.length_map];exact j
  obtain⟨i,h1,h2,h3⟩:=I7 z;obtain⟨x,hx,Dq⟩:=X5 ..▸h1|>Option.map_eq_some_iff.1;refine I6 I ?_;rw[G,<-h3];have:=Md (c:=2) (A:=dS m++dF m) (seg:=dR m) (C:=dM m++(dL m++(dI m++(dD m++(dX m++uJ m))))) (i:=i) (d:=mU m x)
   (λy D=>by rcases List.mem_append.1 D with h|h;(rw[I8 h];decide);(rw[Mf h];decide)) (λx hx=>by rw[QD hx];rfl)
   (by rw[dR,X5,hx];rfl) (by show x.name≠[];rw[Dq];exact ne _ (.inl (.inl (.inr (AQ z)))))
  rw[<-Dq];simpa[mU]using this
 .intro n j;have z:aF n (m.machs.map (·.name)).length=true:=by rw[List.length_map];exact j
  obtain⟨i,h1,h2,h3⟩:=I7 z;obtain⟨x,hx,Dq⟩:=X5 ..▸h1|>Option.map_eq_some_iff.1;refine I6 I ?_;rw[G,<-h3];have:=Md (c:=3) (A:=dS m++(dF m++dR m)) (seg:=dM m) (C:=dL m++(dI m++(dD m++(dX m++uJ m)))) (i:=i) (d:=mV m x)
   (λy D=>by
     simp only[YL]at D;rcases D with h|h|h
     .rw[I8 h];decide
     .rw[Mf h];decide
     .rw[QD h];decide) (λx hx=>by rw[ZA hx];rfl)
   (by rw[dM,X5,hx];rfl) (by show x.name≠[];rw[Dq];exact ne _ (.inl (.inr (AQ z))))
  rw[<-Dq];simpa[mV]using this
 .intro n j;have z:aF n (m.items.map (·.name)).length=true:=by rw[List.length_map];exact j
  obtain⟨i,h1,h2,h3⟩:=I7 z;obtain⟨x,hx,Dq⟩:=X5 ..▸h1|>Option.map_eq_some_iff.1;have J:rr m n=x.kind:=by unfold rr;rw[show(n - 1).toNat=i by omega,hx];rfl
  have O:=(DB (hm.items x (eE hx))).1;refine⟨I6 I ?_,by rw[J];exact O⟩;rw[G,<-h3,J];have:=Md (c:=5) (A:=dS m++(dF m++(dR m++(dM m++dL m)))) (seg:=dI m) (C:=dD m++(dX m++uJ m)) (i:=i) (d:=kP m x)
   (λy D=>by
     simp only[YL]at D;rcases D with h|h|h|h|h
     .rw[I8 h];decide
     .rw[Mf h];decide
     .rw[QD h];decide
     .rw[ZA h];decide
     .rw[av4 h];decide) (λx hx=>av7 (av5 hm hx))
   (by rw[dI,X5,hx];rfl) (by show x.name≠[];rw[Dq];exact ne _ (.inr (AQ z)))
  rw[<-Dq];simpa[kP]using this
def nS.nsite{m:aU}{T:dK}(h:nS m T){n:Int}(c:aF n m.sites.length=XR):bT T (fw m.sites n)=n:=by unfold bT;rw[h.site n c];have:=jh.1 c;simp;omega
def nS.nfeed{m:aU}{T:dK}(h:nS m T){n:Int}(c:aF n m.feeds.length=XR):bT T (fw m.feeds n)=n:=by unfold bT;rw[h.feed n c];have:=jh.1 c;simp;omega
def nS.nrack{m:aU}{T:dK}(h:nS m T){n:Int}(c:aF n m.racks.length=XR):bT T (fw (m.racks.map (·.name)) n)=n:=by unfold bT;rw[h.rack n c];have:=jh.1 c;simp;omega
def nS.nmach{m:aU}{T:dK}(h:nS m T){n:Int}(c:aF n m.machs.length=XR):bT T (fw (m.machs.map (·.name)) n)=n:=by unfold bT;rw[h.mach n c];have:=jh.1 c;simp;omega
def nS.nitem{m:aU}{T:dK}(h:nS m T){n:Int}(c:aF n m.items.length=XR):bT T (fw (m.items.map (·.name)) n)=n:=by unfold bT;rw[(h.item n c).1];have:=jh.1 c;simp;omega
def nS.nmachs{m:aU}{T:dK}(h:nS m T){l:List Int}(c:∀n∈l,aF n m.machs.length=XR):(l.map (fw (m.machs.map (·.name)))).map (bT T)=l:=by rw[YM];have:l.map (bT T∘fw (m.machs.map (·.name)))=l.map id:=List.map_congr_left λn j=>h.nmach (c n j);rw[this,List.map_id]
def nS.nodup{m:aU}{T:dK}(h:nS m T){l:List Int}(j:∀n∈l,aF n m.machs.length=XR)(c:l.Nodup):(l.map (fw (m.machs.map (·.name)))).Nodup:=by have:=h.nmachs j;rw[<-this]at c;exact List.Pairwise.of_map (bT T) (λa b y e=>y (congrArg (bT T) e)) c
def xq{t:dK}{d:aG}{i:Nat}{s:ay}{r:List ay}{x:Nat×Nat}(h:el t s=XL x)(c:iY d i x.1=XR):nZ t d i (s::r)=nZ t d (i+1) r:=by
 rw[nZ,h];simp only
 rw[if_pos c]
def QE{m:aU}{T:dK}(h:nS m T)(d:aG)(y:∀i,iY d i 3=XR\/i<1):∀(l:List Int)(i:Nat),1<=i\/(∀i,iY d i 3=XR)->(∀n∈l,aF n m.machs.length=XR)->nZ T d i (l.map (fw (m.machs.map (·.name))))=0
 |[],i,_,_=>rfl
 |n::l,i,c,hl=>by
  have j:iY d i 3=true:=by
   rcases c with c|c
   .rcases y i with h|h
    .exact h
    .omega
   .exact c i
  rw[Yg,xq (h.mach n (hl n Zy)) j];exact QE h d y l (i+1) (by rcases c with c|c;exact .inl Zv;exact .inr c) (λx hx=>hl x By)
def rE{d:aG}(c:kf d=XR)(h:∀w∈d.refs,bI w=XR)(j:∀n∈d.nums,n<=1048576):bK d=true:=by unfold bK;simp only[XW,Yn,decide_eq_true_eq];exact⟨⟨c,h⟩,j⟩
def De(k:Nat):∀(l:List Int)(p:Int),l.Pairwise (· < ·)->0<=p->(∀n∈l,p<n/\n<=k)->(l.length:Int)<=k - p\/l=[]
 |[],p,_,_,_=> .inr rfl
 |x::l,p,h,hp,hb=>by
  obtain⟨h1,j⟩:=List.pairwise_cons.1 h;have hx:=hb x Zy;rcases De k l x j Zv (λn c=>⟨h1 n c,(hb n (by simp[c])).2⟩)with h|h
  .left;simp;omega
  .subst h;left;simp;omega
def Mg{m:aU}{l:List Int}(h:fF m l=XR):l.length<=m.machs.length:=by
 unfold fF at h;rw[XW,decide_eq_true_eq]at h;obtain⟨c,h2,_⟩:=Zz _ l [] h.1;rcases De m.machs.length l 0 c Zv (λn j=>by have:=jh.1 (h2 n j);omega)with h|h
 .omega
 .subst h;simp
section
variable {m:aU} (hm:sQ m)
include hm
theorem QF{n:Int}(h:aF n m.sites.length=XR):bI (fw m.sites n)=true:=hm.names _ (by unfold dp;simp only[YL];exact .inl (.inl (.inl (.inl (AQ h)))))
theorem ej2{n:Int}(h:aF n m.feeds.length=XR):bI (fw m.feeds n)=true:=hm.names _ (by unfold dp;simp only[YL];exact .inl (.inl (.inl (.inr (AQ h)))))
theorem ej3{n:Int}(h:aF n m.racks.length=XR):bI (fw (m.racks.map (·.name)) n)=true:=
 hm.names _ (by unfold dp;simp only[YL];exact .inl (.inl (.inr (AQ (by rw[XY];exact h)))))
theorem ej4{n:Int}(h:aF n m.machs.length=XR):bI (fw (m.machs.map (·.name)) n)=true:=
 hm.names _ (by unfold dp;simp only[YL];exact .inl (.inr (AQ (by rw[XY];exact h))))
theorem ej5{n:Int}(h:aF n m.items.length=XR):bI (fw (m.items.map (·.name)) n)=true:=
 hm.names _ (by unfold dp;simp only[YL];exact .inr (AQ (by rw[XY];exact h)))
theorem QG{l:List Int}(h:∀n∈l,aF n m.machs.length=XR):∀w∈l.map (fw (m.machs.map (·.name))),bI w=true:=λw c=>by obtain⟨n,hn,rfl⟩:=List.mem_map.1 c;exact ej4 hm (h n hn)
end
inductive qr(m:aU):cF->Prop where
 |quorum (i:Int):aF i m.items.length=XR->rr m i=0->qr m ⟨0,i,0,0,0,XQ,[]⟩
 |keep (i n:Int) (a:Bool):aF i m.items.length=XR->0<=n->n<=16->qr m ⟨1,i,0,n,0,a,[]⟩
 |spread (i n b:Int):aF i m.items.length=XR->0<=n->n<=16->2<=b->b<=4->qr m ⟨2,i,0,n,b,XQ,[]⟩
 |only(i:Int) (l:List Int):aF i m.items.length=XR->fF m l=XR->qr m ⟨3,i,0,0,0,XQ,l⟩
 |order (i o:Int):aF i m.items.length=XR->aF o m.items.length=XR->i≠o->qr m ⟨4,i,o,0,0,XQ,[]⟩
 |disturb (n:Int):0<=n->n<=200->qr m ⟨5,0,0,n,0,XQ,[]⟩
 |silence (i n:Int):aF i m.items.length=XR->0<=n->n<=16->qr m ⟨6,i,0,n,0,XQ,[]⟩
def QH{m:aU}{x:cF}(h:dw m x=XR):qr m x:=by
 obtain⟨k,i,o,n,b,a,l⟩:=x;unfold dw at h;dsimp only at h;by_cases c:k=0
 .subst c;rw[if_pos rfl]at h;simp only[XW,YX,decide_eq_true_eq,Yh,false_or,YZ]at h;obtain⟨⟨⟨h1,h2⟩,rfl⟩,⟨⟨rfl,rfl⟩,rfl⟩,rfl⟩:=h;exact .quorum i h1 h2
 rw[if_neg c]at h;by_cases j:k=1
 .subst j;rw[if_pos rfl]at h;simp only[XW,YX,decide_eq_true_eq,Yh,false_or,YZ,true_or,and_true,xF]at h;obtain⟨⟨h1,h2,h3⟩,⟨rfl,rfl⟩,rfl⟩:=h;exact .keep i n a h1 h2 h3
 rw[if_neg j]at h;by_cases y:k=2
 .subst y;rw[if_pos rfl]at h;simp only[XW,YX,decide_eq_true_eq,Yh,false_or,YZ,true_or,and_true,xF]at h;obtain⟨⟨⟨h1,h2,h3⟩,h4,h5⟩,⟨rfl,rfl⟩,rfl⟩:=h;exact .spread i n b h1 h2 h3 h4 h5
 rw[if_neg y]at h;by_cases z:k=3
 .subst z;rw[if_pos rfl]at h;simp only[XW,YX,decide_eq_true_eq,Yh,false_or,YZ,true_or,and_true,xF]at h;obtain⟨⟨⟨h1,h2⟩,rfl⟩,⟨rfl,rfl⟩,rfl⟩:=h;exact .only i l h1 h2
 rw[if_neg z]at h;by_cases A:k=4
 .subst A;rw[if_pos rfl]at h;simp only[XW,YX,decide_eq_true_eq,Yh,false_or,YZ,true_or,and_true,true_and,xF,decide_eq_false_iff_not]at h;obtain⟨⟨⟨⟨h1,h2⟩,h3⟩,rfl⟩,⟨rfl,rfl⟩,rfl⟩:=h;exact .order i o h1 h2 h3
 rw[if_neg A]at h;by_cases C:k=5
 .subst C;rw[if_pos rfl]at h;simp only[XW,YX,decide_eq_true_eq,Yh,false_or,YZ,xF]at h;obtain⟨⟨rfl,h2,h3⟩,⟨⟨rfl,rfl⟩,rfl⟩,rfl⟩:=h;exact .disturb n h2 h3
 rw[if_neg C]at h;by_cases D:k=6
 .subst D;rw[if_pos rfl]at h;simp only[XW,YX,decide_eq_true_eq,Yh,false_or,YZ,xF]at h;obtain⟨⟨h1,h2,h3⟩,⟨⟨rfl,rfl⟩,rfl⟩,rfl⟩:=h;exact .silence i n h1 h2 h3
 rw[if_neg D]at h;cases h
def nU(m:aU)(i:Int):ay:=fw (m.items.map (·.name)) i
def ZB(m:aU){i:Int}(h:1<=i):ch m ⟨0,i,0,0,0,XQ,[]⟩={kind:=10,refs:=[nU m i]}:=by exact Mh
def Xc(m:aU){i:Int}(n:Int)(a:Bool)(h:1<=i):ch m ⟨1,i,0,n,0,a,[]⟩={kind:=11,refs:=[nU m i],nums:=[n.toNat],always:=a}:=by exact Mh
def Xd(m:aU){i:Int}(n b:Int)(h:1<=i):ch m ⟨2,i,0,n,b,XQ,[]⟩={kind:=12,refs:=[nU m i],nums:=[n.toNat],by_:=b.toNat}:=by exact Mh
def Xe(m:aU){i:Int}(l:List Int)(h:1<=i):ch m ⟨3,i,0,0,0,XQ,l⟩={kind:=13,refs:=nU m i::l.map (fw (m.machs.map (·.name)))}:=by exact Mh
def Xf(m:aU){i o:Int}(h:1<=i)(c:1<=o):ch m ⟨4,i,o,0,0,XQ,[]⟩={kind:=14,refs:=[nU m i,nU m o]}:=by simp[ch,nU,show(0:Int)<i by omega,show(0:Int)<o by omega]
def Xg(m:aU)(n:Int):ch m ⟨5,0,0,n,0,XQ,[]⟩={kind:=15,nums:=[n.toNat]}:=by simp[ch,nU]
def Xh(m:aU){i:Int}(n:Int)(h:1<=i):ch m ⟨6,i,0,n,0,XQ,[]⟩={kind:=16,refs:=[nU m i],nums:=[n.toNat]}:=by exact Mh
def ej6{m:aU}(hm:sQ m){x:cF}(h:qr m x):bK (ch m x)=true:=by
 have nm {i:Int} (h:aF i m.items.length=XR):bI (nU m i)=true:=ej5 hm h;have ge {i:Int} (h:aF i m.items.length=XR):1<=i:=(jh.1 h).1;cases h with
 |quorum i c j=>rw[ZB m (ge c)];exact rE rfl (by simp[nm c]) Zy
 |keep i n a c j h3=>rw[Xc m n a (ge c)];exact rE (by simp[kf,jf]) (by simp[nm c]) bN
 |spread i n b c j h3 h4 h5=>rw[Xd m n b (ge c)];exact rE (by simp[kf,jf];omega) (by simp[nm c]) bN
 |only i l c j=>
  rw[Xe m l (ge c)];obtain⟨_,_,h3,h4⟩:=Cj j;have:=Mg j;have z:=hm.mn;refine rE (by simp[kf,jf];omega) (λw y=>?_) Zy;rcases List.mem_cons.1 y with rfl|y
  .exact nm c
  .exact QG hm h3 w y
 |order i o c j h3=>rw[Xf m (ge c) (ge j)];exact rE rfl (by simp[nm c,nm j]) Zy
 |disturb n c j=>rw[Xg];exact rE rfl Zy bN
 |silence i n c j h3=>rw[Xh m n (ge c)];exact rE rfl (by simp[nm c]) bN
def zg{m:aU}{x:fq}(k:Nat)(h:x.kind=k):kP m x={kind:=5+k,name:=x.name,refs:=x.on.map (fw (m.machs.map (·.name))),nums:=(if k=1 then[x.count.toNat]else[])++[x.load.toNat,x.size.toNat,x.share.toNat]}:=by
 unfold kP;rw[h];by_cases e:k=1
 .subst e;rfl
 .rw[if_neg Zv,if_neg e];congr 1
def ej7{m:aU}(hm:sQ m){x:fq}(hx:x∈m.items):bK (kP m x)=true:=by
 obtain⟨j,h1,h2,h3,h4,h5,h6,h7⟩:=DB (hm.items x hx);obtain⟨_,_,h8,h9⟩:=Cj h1;have y:=Mg h1;have z:=hm.mn;have c:bI x.name=true:=hm.names _ (by unfold dp;simp only[YL];exact .inr (List.mem_map_of_mem hx));rcases j with e|e|e
 .rw[zg 0 e];exact rE (by simp[kf,jf,c];omega) (QG hm h8) bN
 .rw[zg 1 e];exact rE (by simp[kf,jf,c];omega) (QG hm h8) (by have:=h6 e;simp;omega)
 .rw[zg 2 e];have:=(h7 e).2;exact rE (by simp[kf,jf,c];omega) (QG hm h8) bN
def Mi{m:aU}(hm:sQ m):∀d∈jO m,bK d=true:=by
 have c:=hm.names;unfold dp at c;simp only[YL]at c;intro d z;rw[AR]at z;simp only[YL]at z;rcases z with h|h|h|h|h|h|h|h|h
 .obtain⟨s,hs,rfl⟩:=List.mem_map.1 h;exact rE (by simp[kf,jf,c s (.inl (.inl (.inl (.inl hs))))]) Zy Zy
 .obtain⟨s,hs,rfl⟩:=List.mem_map.1 h;exact rE (by simp[kf,jf,c s (.inl (.inl (.inl (.inr hs))))]) Zy Zy
 .obtain⟨x,hx,rfl⟩:=List.mem_map.1 h;obtain⟨j,y⟩:=hm.racks x hx;exact rE (by simp[kf,jf,mU,c x.name (.inl (.inl (.inr (List.mem_map_of_mem hx))))]) (by simp[mU,QF hm j,ej2 hm y]) (by simp[mU])
 .obtain⟨x,hx,rfl⟩:=List.mem_map.1 h;obtain⟨j,y,h3⟩:=hm.machs x hx;exact rE (by simp[kf,jf,mV,c x.name (.inl (.inr (List.mem_map_of_mem hx)))]) (by simp[mV,ej3 hm j]) (by simp[mV];omega)
 .obtain⟨x,hx,rfl⟩:=List.mem_map.1 h;obtain⟨j,y,h3,h4,h5⟩:=hm.links x hx;exact rE rfl (by simp[oR,QF hm j,QF hm y]) (by simp[oR];omega)
 .obtain⟨x,hx,rfl⟩:=List.mem_map.1 h;exact ej7 hm hx
 .simp only[dD,List.mem_singleton]at h;subst h;have j:=hm.slots;have y:=hm.reserve;exact rE rfl (by simp[QF hm hm.dark]) bN
 .unfold dX at h;have:=hm.failures;split at h
  .simp only[List.mem_singleton]at h;subst h;exact rE (by simp[kf,jf];omega) Zy Zy
  .cases h
 .obtain⟨x,hx,rfl⟩:=List.mem_map.1 h;exact ej6 hm (QH (hm.rules x hx))
def sR{t:dK}{d:aG}(c:nZ t d 0 d.refs=0)(j:(kJ d).Nodup)(y:d.kind=4\/d.kind=14->d.refs[0]?≠d.refs[1]?):n_ t d=0:=by unfold n_;simp only[c];rw[if_neg Zy,if_neg (by simp[j]),if_neg (by rintro⟨a,b⟩;exact y a b)]
def ej8{m:aU}(hm:sQ m){T:dK}(j:nS m T){x:cF}(h:qr m x):n_ T (ch m x)=0:=by
 have ge {i:Int} (h:aF i m.items.length=XR):1<=i:=(jh.1 h).1;have lk {i:Int} (h:aF i m.items.length=XR):el T (nU m i)=XL ((5+rr m i).toNat,i.toNat):=(j.item i h).1;have sc {i:Int} (h:aF i m.items.length=XR):cB (5+rr m i).toNat=5:=av7 (by have:=(j.item i h).2;omega);cases h with
 |quorum i h1 c=>rw[ZB m (ge h1)];exact sR (by rw[xq (lk h1) (by rw[c];rfl)];rfl) xZ Zy
 |keep i n a h1 c h3=>rw[Xc m n a (ge h1)];exact sR TF xZ Zy
 |spread i n b h1 c h3 h4 h5=>rw[Xd m n b (ge h1)];exact sR TF xZ Zy
 |only i l h1 c=>
  rw[Xe m l (ge h1)];obtain⟨_,h5,h3,h4⟩:=Cj c;refine sR ?_ ?_ Zy
  .rw[xq (lk h1) (by simp[iY,sc h1])];refine QE j _ (λi=>?_) l 1 (.inl (ar _)) h3
   match i with
   |0=>exact .inr Zv
   |i+1=>exact .inl rfl
  .simp[kJ];exact j.nodup h3 h5
 |order i o h1 c h3=>
  rw[Xf m (ge h1) (ge c)];refine sR (by rw[xq (lk h1) (by simp[iY,sc h1]),xq (lk c) (by simp[iY,sc c])];rfl) xZ λ_ e=>h3 ?_;simp at e;have a:=j.nitem h1;have b:=j.nitem c;unfold nU at e;rw[e,b]at a;exact a.symm
 |disturb n h1 c=>rw[Xg];exact sR rfl xZ Zy
 |silence i n h1 c h3=>rw[Xh m n (ge h1)];exact sR TF xZ Zy
def ej9{m:aU}(hm:sQ m){T:dK}(hT:nS m T):∀d∈jO m,n_ T d=0:=by
 intro d c;rw[AR]at c;simp only[YL]at c;rcases c with h|h|h|h|h|h|h|h|h
 .obtain⟨s,hs,rfl⟩:=List.mem_map.1 h;exact sR rfl xZ Zy
 .obtain⟨s,hs,rfl⟩:=List.mem_map.1 h;exact sR rfl xZ Zy
 .obtain⟨x,hx,rfl⟩:=List.mem_map.1 h;obtain⟨h1,h2⟩:=hm.racks x hx;exact sR (by unfold mU;rw[xq (hT.site _ h1) rfl,xq (hT.feed _ h2) rfl];rfl) (by simp[kJ,mU]) (by simp[mU])
 .obtain⟨x,hx,rfl⟩:=List.mem_map.1 h;obtain⟨h1,h2,h3⟩:=hm.machs x hx;exact sR (by unfold mV;rw[xq (hT.rack _ h1) rfl];rfl) (by simp[kJ,mV]) (by simp[mV])
 .obtain⟨x,hx,rfl⟩:=List.mem_map.1 h;obtain⟨h1,h2,h3,h4,h5⟩:=hm.links x hx;refine sR (by unfold oR;rw[xq (hT.site _ h1) rfl,xq (hT.site _ h2) rfl];rfl) (by simp[kJ,oR]) λ_ e=>?_;simp[oR]at e;have a:=hT.nsite h1;rw[e,hT.nsite h2]at a;omega
 .obtain⟨x,hx,rfl⟩:=List.mem_map.1 h;obtain⟨j,h1,_⟩:=DB (hm.items x hx);obtain⟨_,h5,h3,h4⟩:=Cj h1;have h6:=hT.nodup h3 h5;rcases j with e|e|e
  .rw[zg 0 e];exact av8
  .rw[zg 1 e];exact av8
  .rw[zg 2 e];exact sR (QE hT _ (λi=> .inl de) x.on 0 (.inr λi=>by rfl) h3) xZ Zy
 .simp only[dD,List.mem_singleton]at h;subst h;exact sR (by rw[xq (hT.site _ hm.dark) rfl];rfl) xZ Zy
 .unfold dX at h;split at h
  .simp only[List.mem_singleton]at h;subst h;exact sR rfl xZ Zy
  .cases h
 .obtain⟨x,hx,rfl⟩:=List.mem_map.1 h;exact ej8 hm hT (QH (hm.rules x hx))
def av9(t:dK):∀(l:List aG)(i:Nat)(m:aU),(∀d∈l,n_ t d=0)->t6 t i m l= .ok (l.foldl (fv t) m)
 |[],i,m,_=>rfl
 |d::l,i,m,h=>by rw[t6,if_neg (by simp[h d Zy])];exact av9 t l (i+1) _ λx hx=>h x By
def DC{α:Type}(t:dK)(f:α->aG)(aY:aU->List α->aU)(c:∀M,aY M []=M)(j:∀M a b,aY (aY M [a]) b=aY M (a::b)):
 ∀(l:List α)(M:aU),(∀M,∀x∈l,fv t M (f x)=aY M [x])->(l.map f).foldl (fv t) M=aY M l
 |[],M,_=>(c M).symm
 |x::l,M,h=>by rw[Yg,List.foldl_cons,h M x Zy,DC t f aY c j l _ (λM y hy=>h M y uG),j]
def aw0{n:Int}(h:0<=n):gj [n.toNat] 0=n:=by simp[gj];omega
def ek0{m:aU}(hm:sQ m){T:dK}(y:nS m T){x:cF}(h:qr m x):oa T (ch m x)=x:=by
 have ge {i:Int} (h:aF i m.items.length=XR):1<=i:=(jh.1 h).1;have nm {i:Int} (h:aF i m.items.length=XR):bT T (nU m i)=i:=y.nitem h;cases h with
 |quorum i c j=>rw[ZB m (ge c)];simp[oa,gV,gj,nm c]
 |keep i n a c j h3=>rw[Xc m n a (ge c)];simp[oa,gV,gj,nm c];omega
 |spread i n b c j h3 h4 h5=>rw[Xd m n b (ge c)];simp[oa,gV,gj,nm c];omega
 |only i l c j=>
  rw[Xe m l (ge c)];obtain⟨h5,_,h3,_⟩:=Cj j;have:=y.nmachs h3;simp only[YM]at this;simp[oa,gV,gj,nm c,this,h5]
 |order i o c j h3=>rw[Xf m (ge c) (ge j)];simp[oa,gV,gj,nm c,nm j]
 |disturb n c j=>rw[Xg];simp[oa,gV,gj];omega
 |silence i n c j h3=>rw[Xh m n (ge c)];simp[oa,gV,gj,nm c];omega
def ek1{t:dK}{M:aU}{d:aG}(h:10<=d.kind):fv t M d={M with rules:=M.rules++[oa t d]}:=by obtain⟨k,hk⟩:∃k,d.kind=k+10:=⟨d.kind - 10,by omega⟩;unfold fv;simp only[hk]
def ek2{m:aU}(hm:sQ m){T:dK}(j:nS m T){x:fq}(hx:x∈m.items)(M:aU):fv T M (kP m x)={M with items:=M.items++[x]}:=by
 obtain⟨y,h1,h2,h3,h4,h5,h6,h7⟩:=DB (hm.items x hx);obtain⟨h8,_,h9,_⟩:=Cj h1;have h:=j.nmachs h9;obtain⟨nm,k,c,ld,sz,sh,on⟩:=x;dsimp only at*
 rcases y with e|e|e
 .rw[zg 0 e];have:=(h5 e).2;subst e;simp only[fv,mu,h,h8];simp[gj,h2.1,h3.1,this];omega
 .rw[zg 1 e];have:=h6 e;subst e;simp only[fv,mu,h,h8];simp[gj,h2.1,h3.1];omega
 .rw[zg 2 e];have:=(h7 e).1;subst e;simp only[fv,mu,h,h8];simp[gj,h2.1,h3.1,this];omega
def ek3{m:aU}(hm:sQ m){T:dK}(c:nS m T):(jO m).foldl (fv T) {}=m:=by
 rw[AR];simp only[List.foldl_append];have z:∀M,(dS m).foldl (fv T) M={M with sites:=M.sites++m.sites}:=λM=>DC T _ (λM l=>{M with sites:=M.sites++l}) Zy Zy m.sites M λM x hx=>rfl;have A:∀M,(dF m).foldl (fv T) M={M with feeds:=M.feeds++m.feeds}:=λM=>DC T _ (λM l=>{M with feeds:=M.feeds++l}) Zy Zy m.feeds M λM x hx=>rfl;have C:∀M,(dR m).foldl (fv T) M={M with racks:=M.racks++m.racks}:=λM=>DC T _ (λM l=>{M with racks:=M.racks++l}) Zy Zy m.racks M (λM x hx=>by obtain⟨j,y⟩:=hm.racks x hx;simp[fv,mU,gV,c.nsite j,c.nfeed y]);have D:∀M,(dM m).foldl (fv T) M={M with machs:=M.machs++m.machs}:=λM=>DC T _ (λM l=>{M with machs:=M.machs++l}) Zy Zy m.machs M (λM x hx=>by obtain⟨j,y,h3⟩:=hm.machs x hx;simp only[fv,mV,Yg,List.map_nil,c.nrack j,aw0 y];rfl);have F:∀M,(dL m).foldl (fv T) M={M with links:=M.links++m.links}:=λM=>DC T _ (λM l=>{M with links:=M.links++l}) Zy Zy m.links M (λM x hx=>by obtain⟨j,y,h3,h4,h5⟩:=hm.links x hx;simp only[fv,oR,Yg,List.map_nil,c.nsite j,c.nsite y,aw0 h4];have a:min x.a x.b=x.a:=Zv;have b:max x.a x.b=x.b:=Zv;simp[gV,a,b]);have G:∀M,(dI m).foldl (fv T) M={M with items:=M.items++m.items}:=λM=>DC T _ (λM l=>{M with items:=M.items++l}) Zy Zy m.items M λM x hx=>ek2 hm c hx M;have I:∀M,(dD m).foldl (fv T) M={M with dark:=m.dark,slots:=m.slots,reserve:=m.reserve}:=λM=>by
  have j:=hm.slots;have y:=hm.reserve;simp only[dD,List.foldl_cons,List.foldl_nil,fv,Yg,List.map_nil,c.nsite hm.dark];have a:gj [m.slots.toNat,m.reserve.toNat] 0=m.slots:=by simp[gj];omega
  have b:gj [m.slots.toNat,m.reserve.toNat] 1=m.reserve:=by simp[gj];omega
  rw[a,b];rfl
 have J:∀M:aU,M.failures=0->(dX m).foldl (fv T) M={M with failures:=m.failures}:=λM U=>by
  have j:=hm.failures;unfold dX;split
  .simp only[List.foldl_cons,List.foldl_nil,fv];congr 1;omega
  .have:m.failures=0:=by omega
   rw[this,<-U];rfl
 have O:∀M,(uJ m).foldl (fv T) M={M with rules:=M.rules++m.rules}:=λM=>DC T _ (λM l=>{M with rules:=M.rules++l}) Zy Zy m.rules M (λM x hx=>by have V:=QH (hm.rules x hx);rw[ek1 (av6 hm (List.mem_map_of_mem hx)).1,ek0 hm c V]);rw[z,A,C,D,F,G,I,J _ rfl,O];simp
def Ck(k:Nat){l:List aG}(h:∀x∈l,x.kind≠k):(l.filter λx=>XN (x.kind=k)).length=0:=by rw[List.filter_eq_nil_iff.2 λx hx=>by simpa using h x hx];rfl
def ek4{m:aU}(h:ew m=XR):ru (jO m)= .ok m:=by
 have hm:=wh h;have j:=ej1 hm;have y:ks [] [] (jO m)= .ok (pK [] (jO m)):=by
  have:=ap5 (jO m) [] [] (Mi hm) (by rw[an3 hm];simpa using hm.nodup) (λk z=>?_)
  .simpa using this
  .rw[List.nil_append,AR];simp only[List.filter_append,List.length_append];rw[Ck k (l:=dS m) (λx hx=>by rw[I8 hx];omega),Ck k (l:=dF m) (λx hx=>by rw[Mf hx];omega),Ck k (l:=dR m) (λx hx=>by rw[QD hx];omega),
    Ck k (l:=dM m) (λx hx=>by rw[ZA hx];omega),Ck k (l:=dL m) (λx hx=>by rw[av4 hx];omega),Ck k (l:=dI m) (λx hx=>by have:=av5 hm hx;omega),
    Ck k (l:=uJ m) (λx hx=>by have:=av6 hm hx;omega)]
   have A:(dD m).length=1:=rfl;have C:(dX m).length<=1:=by unfold dX;split<;>simp
   have D:=List.length_filter_le (λx:aG=>XN (x.kind=k)) (dD m);have F:=List.length_filter_le (λx:aG=>XN (x.kind=k)) (dX m);rcases z with rfl|rfl
   .rw[Ck 8 (l:=dX m) (λx hx=>by rw[eb4 hx];omega)];omega
   .rw[Ck 9 (l:=dD m) (λx hx=>by rw[eb3 hx];omega)];omega
 have c:(jO m).any (λd=>XN (d.kind=8))=true:=by rw[List.any_eq_true];refine⟨{kind:=8,refs:=[fw m.sites m.dark],nums:=[m.slots.toNat,m.reserve.toNat]},?_,rfl⟩;rw[AR];simp[dD]
 unfold ru;rw[y];simp only;rw[av9 _ _ _ _ (ej9 hm j),ek3 hm j];simp only;rw[c,h];rfl
end
section
open Go Go.RowKit Go.Shelf Go.Lib Go.Proofs.Tryz
def em4:Go.Shelf.Ren:=⟨fun|10=>350|6=>35|n=>n,fun|0=>0|3=>3|4=>4|22=>22|23=>9|25=>70|n=>n,fun|n=>n⟩
def em5:Go.Proofs.SlLaysH.n10 X3 em4:={
 mixed:=aI
 f6:=⟨Tryz.f35.name,by decide,Tryz.func35.t (congrArg XL aI)⟩
 f10:=⟨Tryz.f350.name,by decide,Tryz.func350.t (congrArg XL aI)⟩
 t0:=underlying0
 a0:=Tryz.isAgg0
 z0:=Tryz.sizeOf0
 v0:=zeroValue0
 t3:=XZ
 a3:=Tryz.isAgg3
 z3:=Tryz.sizeOf3
 v3:=zeroValue3
 t4:=underlying4
 a4:=Tryz.isAgg4
 z4:=Tryz.sizeOf4
 v4:=zeroValue4
 t22:=Zo
 a22:=Tryz.isAgg22
 z22:=Tryz.sizeOf22
 v22:=zeroValue22
 a23:=Tryz.isAgg9
 z23:=Tryz.sizeOf9
 t25:=underlying70
 a25:=Tryz.isAgg70
 z25:=Tryz.sizeOf70
 v25:=zeroValue70}
def vp(s:ay):Value:=X2 (bs s)
def av3(x word:ay)(b:Nat)(w:XO)(h:ae w b (X2 (bs word))):
 FnGives X3 351 #[az b] #[vp x] (Zp (XN (x=word))) w:=by
 show X4 X3 351 #[bs x,az b] w _;have c:((bs x).toList==(bs word).toList)=XN (x=word):=by rw[je,je,ie,ie,Yf];simp
 simp only[az];go_enter func351,ntmps351
 go_wp2
 all_goals (go_ret;exact⟨by simp_all,0,rfl⟩)
def em6(l:List ay)(word:ay)(blk cap c:Nat)(w:XO)(C:Sort.Holds vp w blk 0 l.toArray)(F:ae w c (X2 (bs word)))(G:c<w.heap.size)(J:¬c=blk)(A:l.length<=cap)(Z:cap<=100):
 X4 X3 350 #[Zk (XL (blk 0 XM)) l.length cap,bH 351 #[az c]] w λe w'=>e=YT (Zk (XL (blk 0 XM)) (l.filter λs=> !XN (s=word)).length cap)/\
  Sort.Holds vp w' blk 0 (l.filter λs=> !XN (s=word)).toArray/\(∀i,¬i=blk->w'.heap[i]?=w.heap[i]?)/\w'.os=w.os/\w'.tape=w.tape/\w'.output=w.output/\w'.heap.size=w.heap.size:=by
 have U:∀args w,(callFunc 351 args).run X3 w= .ok (.enter 351 args) w:=XX func351 aI rfl;have y:=AnyE.slices_DeleteFunc em5 vp (λ_=>rfl) (λx=>XN (x=word)) 351 #[az c] U [] (λw=>zeroValue9 w) blk 0 cap l.toArray w
  (λW x V=>av3 x word c W ((V.cell (p:=c) G).t F))
  (λn os Y x _=>av3 x word c _ (by unfold sortWorld;rw[Sort.cell?_grow _ _ _ (by show c<(Sort.putRow _ _ _ _ _).heap.size;rw[Sort.size_putRow];exact G),Sort.cell?_putRow_other _ _ blk 0 _ _ (Or.inl J)];exact F)) C bN (by simpa using A)
 generalize D:(l.filter λs=> !XN (s=word))=r;have hr:r.length<=l.length:=by rw[<-D];exact List.length_filter_le _ _
 have O:(l.toArray.toList.filter λx=> !XN (x=word))=r:=D;rw[O]at y;refine y.m ?_;rintro e w' ⟨rfl,q,rfl⟩;have hold:∀i,¬i=blk->(Sort.putRow vp (Sort.ahead w q) blk 0 (r++List.replicate (l.toArray.size - r.length) []).toArray).heap[i]?=w.heap[i]? :=λi X=>by show(w.heap.modify blk _)[i]?=_;rw[Array.getElem?_modify,if_neg (λe=>X e.symm)]
 refine⟨rfl,λj hj=>?_,hold,rfl,rfl,rfl,by simp[Sort.ahead]⟩;have z:Sort.Holds vp (Sort.ahead w q) blk 0 l.toArray:=C;have h:=Sort.holds_putRow vp (Sort.ahead w q) blk 0 l.toArray (r++List.replicate (l.toArray.size - r.length) []).toArray z bN j (by simp at hj⊢;omega);have e:(r++List.replicate (l.toArray.size - r.length) []).toArray[j]! =r.toArray[j]! :=by have I:j<r.length:=Bz;rw[getElem!_pos _ j bN,getElem!_pos _ j hj];simp[List.getElem_append_left I]
 rw[e]at h;exact h
end
section
open Go Go.RowKit Go.Shelf Go.Lib Go.MapKept Go.Proofs.Tryz
def Jc:List (ay×Int):=[(mR,1),(fN,2),(ga,4)]
def em7(s:ay):(Jc.lookup s).getD 0=(gX s:Nat):=by
 unfold gX;by_cases c:s=mR
 .subst c;rfl
 by_cases h:s=fN
 .subst h;rfl
 by_cases j:s=ga
 .subst j;rfl
 have y:=beq_eq_false_iff_ne.2 c;have z:=beq_eq_false_iff_ne.2 h;have A:=beq_eq_false_iff_ne.2 j;simp[Jc,List.lookup,y,z,A,c,h,j]
def as2(s:ay):gX s<=4:=by unfold gX;split<;>(try split)<;>(try split)<;>omega
def Qd{w w':XO}{b:Nat}{d:Array ay}(h:Sort.Holds vp w b 0 d)(e:w'.heap[b]?=w.heap[b]?):Sort.Holds vp w' b 0 d:=λj c=>by
 obtain⟨h1,h2⟩:=h j c;refine⟨(Y1 (a:=⟨b,0+j,XM⟩) e).t h1,?_⟩;simp only[World.frozen?,e]at h2⊢
 exact h2
def em8{w:XO}{b c:Nat}{l:List ay}(h:Sort.Holds vp w b 0 l.toArray)(A:b<w)(C:l.length<=c)(D:c<=100):bg w w (Zk (XL (b 0 XM)) l.length c) l:=by
 refine⟨_,c,by simp,by simpa using C,by simp[Yd];omega,λ_=>⟨b,0,rfl,A,λj u y=>?_⟩⟩;have z:j<l.length:=by have:=(List.getElem?_eq_some_iff.1 y).1;simpa using this
 obtain⟨h1,_⟩:=h j (by simpa using z);rw[h1,getElem!_pos _ j (by simpa using z)];simp[XT z]at y;rw[<-y];simp[vp]
def cK.del{w w':XO}{pb B M blk:Nat}{p:PS}{r n:XP}(h:cK w pb B M p)(G:aa w pb 4 r)(I:aa w pb 5 n)(J:∀g,r.ownBlock=XL g->¬g=blk)(A:∀g,n.ownBlock=XL g->¬g=blk)
 (Y:pb<blk)(z:∀i,¬i=blk->w'.heap[i]?=w.heap[i]?)(C:w'.os=w.os)(D:w'.tape=w.tape)(F:w'.output=w.output)(hs:w'.heap.size=w.heap.size):cK w' pb B M p:=by
 obtain⟨t,r',n',g1,g2,g3,g4,g5,g6,g7⟩:=h;have c:=ag (o:=4) g1 rfl;have j:=ag (o:=5) g1 rfl;rw[G]at c;rw[I]at j;injection c with c;injection j with j;subst c j;have own {e:Ya} {v:XP} {k:Nat} {xs:List XP} (ho:w.ownsRow B e 1 v k xs) (O:∀g,v.ownBlock=XL g->¬g=blk):w'.ownsRow B e 1 v k xs:=by
  refine⟨ho.1,?_⟩;rcases ho.2 with A|⟨g,cap,y,k1,U,V,X⟩
  .exact .inl A
  .exact .inr ⟨g,cap,y,k1,U,(z g (O g (by rw[k1];rfl))).t V,X⟩
 refine⟨t,_,_,(z pb Zv).t g1,g2.to oe.ab (B₂:=pb) ⟨C,D,F,by omega,λi Z=>z i Zv⟩ (ar _) (ar _),own g3 J,own g4 A,g5,by omega,g7⟩
def PS.clsR(q:PS×gU):PS:={q.1 with d:={q.1.d with by_:=q.1.d.by_+gX q.2.text}}
def em9{p:PS}{l:List ay}(c:l≠[]):p.classGo l=if(PS.clsR (p.take 2 l)).comma.2=XR then PS.classGo (l.filter λs=> !XN (s=(p.take 2 l).2.text)) (PS.clsR (p.take 2 l)).comma.1 else(PS.clsR (p.take 2 l)).comma.1:=by
 rw[PS.classGo,if_neg c];by_cases h:(PS.clsR (p.take 2 l)).comma.2=XR
 .rw[if_pos h];exact dif_pos h
 .rw[if_neg h];exact dif_neg h
def en0{p:PS}{M:Nat}{l:List ay}(y:p.Ok M)(c:(p.take 2 l).1.Ok M):(PS.clsR (p.take 2 l)).Ok M:=by
 show PS.Ok {(p.take 2 l).1 with d:={(p.take 2 l).1.d with by_:=(p.take 2 l).1.d.by_+gX (p.take 2 l).2.text}} M;refine⟨c.last,c.toks,c.nums,c.e,?_,c.n⟩;have z:=c.by_;by_cases j:p.e≠0\/p.head.kind≠2\/(l≠[]/\p.head.text∉l)
 .rw[FJ j]at z⊢
  have:gX ([]:ay)=0:=rfl;simp only[this];dsimp only at z⊢
  omega
 .rw[Ja j];have:=as2 p.head.text;have h:=y.by_;obtain⟨a,r,h1,h2,h3⟩:=y.cons;simp only[h1,List.tail_cons];rw[h1]at h;simp at h;omega
def as3(w:XO)(o:Obj){b:Nat}(h:b<w):(w.alloc o).heap[b]?=w.heap[b]? :=(ak (am w) o).block b h
def as4(w:XO){b o j:Nat}{u:XP}(h:¬o=j):(w.setCell (b o XM) u).cell? (b j XM)=w.cell? (b j XM):=by
 simp only[Zc,YS,Array.getElem?_modify];cases hq:w.heap[b]? with
 |none=>simp
 |some ob=>cases ob<;>simp[Array.getElem?_setIfInBounds,h]
def Z2(v m:XP):Nat:=2*(match v with|Zk _ n _=>n|_=>0)+(match m with|Zp XR=>1|_=>0)
def en1{p:PS}{l:List ay}(y:l≠[])(h:(PS.clsR (p.take 2 l)).comma.2=XR):(l.filter λs=> !XN (s=(p.take 2 l).2.text)).length<l.length:=by
 have j:(p.take 2 l).1.e=0:=av2 (p:=PS.clsR (p.take 2 l)) h;by_cases c:p.e≠0\/p.head.kind≠2\/(l≠[]/\p.head.text∉l)
 .rw[FJ c]at j;exact absurd j (p.fail_e aD)
 .rw[Ja c];have hm:p.head.text∈l:=by
   apply Classical.byContradiction;intro z;exact c (.inr (.inr ⟨y,z⟩))
  rcases Nat.lt_or_eq_of_le (List.length_filter_le (λs=> !XN (s=p.head.text)) l)with h|h
  .exact h
  .have:=List.filter_eq_self.1 (List.filter_sublist.eq_of_length h) p.head.text hm;simp at this
def en2(pb B M:Nat)(p:PS)(w:XO)(hM:M<=1000000)(h:cK w pb B M p):
 X4 X3 317 #[az pb] w (uf w pb B M p.classes):=by
 have HP:=aj h;have bm:=h.size;have Fb:=λa b c d w=>Qa a b c d w;refine vg λmG=>?_;obtain⟨tv,r,n,J,h2,h3,h4,h5,h6,h7⟩:=id h;have mg:=blk_lt J;have CB:=aj (show aa w pb 4 r from ag J rfl);have CC:=aj (show aa w pb 5 n from ag J rfl);have HR:=aj (λg hg=>show ¬g=w.heap.size from by have:=(X6 h3 g hg).2;omega);have dh9:=aj (λg hg=>show ¬g=w.heap.size from by have:=(X6 h4 g hg).2;omega);have oG:=λo=>(show gy ((w.alloc o).alloc (.map #[] 0)) (w+1) (xH [])from by have h:=gy.made (w.alloc o);rw[show(w.alloc o).heap.size=w.heap.size+1 from by simp]at h;exact h);have dd1:Hid (p.classes=p.classGo [mR,fN,ga]):=rfl;simp only[az];go_enter func317,ntmps317
 go_wp2_with first
             |(refine xx _ rfl (Zt 7) (Zu (X2 ⟨#[109,97,99,104,105,110,101]⟩)) (Zu (ah 1)) 248 (.inr rfl) 9 3 .string underlying248 YP (w+1) (xH []) rfl (oG _) (X2 (bs mR)) (ah 1) rfl rfl AT (FL aD) ?_;intro w1 jR eY)
             |(refine xx _ rfl (Zt 7) (Zu (X2 ⟨#[114,97,99,107]⟩)) (Zu (ah 2)) 248 (.inr rfl) 9 3 .string underlying248 YP (w+1) (xH [(mR,1)]) rfl jR (X2 (bs fN)) (ah 2) rfl rfl AT (FL aD) ?_;intro w2 jS fP)
             |(refine xx _ rfl (Zt 7) (Zu (X2 ⟨#[102,101,101,100]⟩)) (Zu (ah 4)) 248 (.inr rfl) 9 3 .string underlying248 YP (w+1) (xH [(mR,1),(fN,2)]) rfl jS (X2 (bs ga)) (ah 4) rfl rfl AT (FL aD) ?_;intro w3 jT gd;have Z:=aj (gd.1 _ _ (fP.1 _ _ (eY.1 _ _ (ak (ak (am w) _) _) Zv) Zv) Zv);have jc:=aj λi(hi:¬i=w.heap.size+1)=>(gd.2.2 i hi).t ((fP.2.2 i hi).t (eY.2.2 i hi));have tl:=aj jT)
 go_loopw [2,4] (λv m wr=>∃(left:List ay)(q:PS)(more:Bool),v=Zk (XL (w 0 XM)) left.length 3/\m=Zp more/\Sort.Holds vp wr w 0 left.toArray/\left.length<=3/\cK wr pb B M q/\aL B pb w wr/\gy wr (w+1) (xH Jc)/\aa wr pb 4 r/\aa wr pb 5 n/\p.classes=(if more then q.classGo left else q)) (λv m _=>Z2 v m)
 case atStart=>
  have kZ:=Z.size;have hb:af w3 w.heap.size #[bs mR,bs fN,bs ga] 9:=(jc _ Zv).t (gl (cR w _) (ak (am _) _) Zy);have pG:aL B pb w w3:=aL.of_below Z bm.2 kZ;refine⟨[mR,fN,ga],p,XR,rfl,rfl,λj hj=>?_,by decide,HP.later Z,pG,tl,(Z.cell (p:=pb 4 XM) mg).t CB,(Z.cell (p:=pb 5 XM) mg).t CC,dd1⟩;refine⟨ag hb ?_,cO hb _⟩
  match j,hj with
  |0,_=>rfl
  |1,_=>rfl
  |2,_=>rfl
  |j+3,hj=>exact absurd hj Zy
 case round=>
  obtain⟨left,q,more,rfl,rfl,hH,BS,kD,hK,UD,mE,KV,ep⟩:=hrel;have V:=aj ep;have dh2:=aj UD;have fC:=aj hK;have U:=aj kD;have HH:=aj hH;have Wb:=kD.size;have hd8:=hK.size;have dG:=UD.lt;cases more with
  |false=>
   go_wp2_with fail
   go_end0
   rw[V.o];exact⟨rfl,U.more (Y5 M),λ_=>U.ok,fC⟩
  |true=>
   by_cases lZ:left=[]
   .subst lZ;have HF:=aj (Xu pb B M q wr 3 U (by omega));have D:Hid (p.classes=q.fail 3):=by show _=_;have h:=V.o;rw[if_pos rfl,PS.classGo,if_pos rfl]at h;exact h
    unfold az at HF;go_wp2_with(go_at_call 83;refine HF.m ?_;rintro e A ⟨rfl,kX,F,wT⟩;have rX:=aj kX;have il:=aj F)
    refine bodyPost_ret (v:= .tuple #[]) (by simp[results,results317,go_sem]) rfl ?_;rw[D.o];exact⟨rfl,rX.more (Y5 M),λ_=>rX.ok,fC.t (il.mono Wb.2)⟩
   .have ht7:((left.length:Int)==0)=false:=by
     have:=List.length_pos_iff.2 lZ;simp;omega
    have HT:=aj (AS pb B M q wr 2 2 left (Zk (XL (w 0 XM)) left.length 3) rfl U aD (em8 HH Zv BS Zv));have wC:=aj λhq=>en0 (l:=left) (p:=q) (M:=M) U.ok hq;have I:=aj λhc=>en1 (p:=q) lZ hc;have D:Hid (p.classes=if(PS.clsR (q.take 2 left)).comma.2=XR then PS.classGo (left.filter λs=> !XN (s=(q.take 2 left).2.text)) (PS.clsR (q.take 2 left)).comma.1 else(PS.clsR (q.take 2 left)).comma.1):=by show _=_;have h:=V.o;rw[if_pos rfl,em9 lZ]at h;exact h
    generalize q.take 2 left=qt at HT wC I D;obtain⟨q1,t⟩:=qt;dsimp only at wC I D;obtain⟨z,C⟩:∃z:PS,PS.clsR (q1,t)=z:=⟨_,rfl⟩;have dj8:Hid (z={q1 with d:={q1.d with by_:=q1.d.by_+gX t.text}}):=C.symm;rw[C]at wC I D;have Sz:=aj λW hW=>Xv pb B M z W hW;generalize z.comma=cm at Sz I D;obtain⟨q3,more⟩:=cm;dsimp only at I D;obtain⟨left2,dh⟩:∃l2,(left.filter λs=> !XN (s=t.text))=l2:=⟨_,rfl⟩;have hr7:left2.length<=left.length:=by rw[<-dh];exact List.length_filter_le _ _
    have NJ:=aj λW(hW:W.heap.size>w.heap.size+1)(J:Sort.Holds vp W w 0 left.toArray)bw(h2:aa W bw 0 (X2 (bs t.text)))(h3:bw<W.heap.size)(h4:¬bw=w.heap.size)=>em6 left t.text w 3 bw W J h2 h3 h4 BS Zv;rw[dh]at NJ I D;unfold az at HT Sz NJ;unfold bH at NJ
    go_wp2_with first
                |(go_at_call 192;refine HT.mono ?_;unfold sS;rintro e A ⟨rfl,kX,F,wT⟩;have rX:=aj kX;have il:=aj F;have bp7:=aj wT;have LB:=F.size;have de8:=aj (Qd HH (F.block w Zv Zv));have vI:=aj (F.blk dh2 dG Zv);simp only[ue])
                |(go_at_call 350;refine(NJ _ bN (Qd de8 (as3 _ _ Zv)) A (ag (cR A _) rfl) Zy Zv).m ?_;rintro e y ⟨rfl,ck9,G,VS,Fu,Wi,cw3⟩;have de9:=aj ck9)
    have cj3:=rX.later (ak (am A) (Zq #[bs t.text] 9));have e4:(A.alloc (Zq #[bs t.text] 9)).cell? (pb 4 XM)=XL r:=((lo.of_below (ak (am A) _) Zv) 4 aD).t ((bp7 4 aD).t mE);have e5:(A.alloc (Zq #[bs t.text] 9)).cell? (pb 5 XM)=XL n:=((lo.of_below (ak (am A) _) Zv) 5 aD).t ((bp7 5 aD).t KV);have sj:cK y pb B M q1:=cj3.del e4 e5 HR dh9 mg G VS Fu Wi cw3;have ci6:aa y pb 4 r:=(Y1 (a:=pb 4 XM) (G pb Zv)).t e4;have ci7:aa y pb 5 n:=(Y1 (a:=pb 5 XM) (G pb Zv)).t e5;have tD:aL B pb w y:=(fC.t (((il.mono Wb.2).alloc (bC Wb.2 (ar _)) (Zq #[bs t.text] 9)))).t ⟨VS,Fu,Wi,by omega,λi hi _=>G i Zv⟩;have H_:gy y (w+1) (xH Jc):=(G _ Zv).t ((as3 A _ Zv).t vI);have cw:ae y A (X2 (bs t.text)):=(Y1 (a:=A) (G A Zv)).t (ag (cR A _) rfl);obtain⟨VY,OU,c1,c2,c3,c6,c7⟩:=sj.cells;have f6:=OU 6;have j8:=au9 (w:=y.drew) (l:=Jc) aD H_ t.text;rw[em7]at j8;have mZ:=sj.ok.by_;have hc8:w.heap.size+1<y:=by rw[cw3];simp;omega
    have jG:=as2 t.text;have hy5:IntKind.i64.wrap ((q1.d.by_:Int)+(gX t.text:Nat))=(q1.d.by_:Int)+(gX t.text:Nat):=Yr _ Zv;have np:=aj sj;have gK:=aj tD;have zv:=aj H_;have ul:=aj ci6;have Ef:=aj ci7
    go_region
    have C:=dj8.o;have Lu:z.Ok M:=wC np.ok;have hv:X1 .i64 ((q1.d.by_:Int)+(gX t.text:Nat))=ah (z.d.by_:Nat):=by rw[C];simp
    rw[hv];have H':cK (y.setCell (pb 6 XM) (ah (z.d.by_:Nat))).drew pb B M z:=cK.later (np.setD (by rw[C]) (by rw[C]) (by rw[C]) (λ_ _ _=>by rw[C];rfl) Lu) (aW (am _));have O:aL B pb w (y.setCell (pb 6 XM) (ah (z.d.by_:Nat))).drew:=(gK.set (.inl rfl) _).drew;have sH:(y.setCell (pb 6 XM) (ah (z.d.by_:Nat))).drew.cell? (pb 4 XM)=XL r:=(as4 y aD).t ul.o;have oF:(y.setCell (pb 6 XM) (ah (z.d.by_:Nat))).drew.cell? (pb 5 XM)=XL n:=(as4 y aD).t Ef.o;have xg:(y.setCell (pb 6 XM) (ah (z.d.by_:Nat))).drew.heap.size=y.heap.size:=by simp[YS]
    have Y:gy (y.setCell (pb 6 XM) (ah (z.d.by_:Nat))).drew (w+1) (xH Jc):=(mT zv Zv);have X:Sort.Holds vp (y.setCell (pb 6 XM) (ah (z.d.by_:Nat))).drew w 0 left2.toArray:=Qd de9 (Below.heap_setCell y (pb 6 XM) _ w bN);generalize (y.setCell (pb 6 XM) (ah (z.d.by_:Nat))).drew=w6 at H' O sH oF xg Y X⊢
    have hx0:w.heap.size+1<w6:=by rw[xg];exact hc8
    have te:=aj (Sz w6 H');have GA:=aj (XU O (XU sH (XU oF (XU Y X))));have hc9:=H'.size;go_wp2_with(go_at_call 349;refine te.mono ?_;unfold Jb;rintro e w7 ⟨rfl,Ib,wU,Oz⟩;have J7:=aj Ib;have j':=aj wU;have GL:=aj Oz)
    obtain⟨O,sH,oF,Y,X⟩:=GA.o;refine⟨⟨left2,q3,more,rfl,rfl,Qd X (j'.block _ Zv Zv),by omega,J7,O.t (j'.mono hc9.2),j'.blk Y Zv Zv,(GL 4 aD).t sH,(GL 5 aD).t oF,D⟩,?_⟩;have ap:=I.o;cases more with
    |true=>have:=ap rfl;simp[Z2];omega
    |false=>simp[Z2];omega
end
section
open Go Go.RowKit Go.Proofs.Tryz
def en3(w:XO)(pb B:Nat):tP w pb B (.func (.func 317) #[az pb] #[]) .classes:=FO (x:= .classes) (XX func317 aI rfl) (λW B M p c j=>en2 pb B M p W c j) w B
def Mu(F:XO)(pb B:Nat):List XP->List mt->Prop
 |[],[]=>True
 |u::us,x::l=>tP F pb B u x/\Mu F pb B us l
 |_,_=>False
def Mu.get{F:XO}{pb B:Nat}:∀{us:List XP}{l:List mt},Mu F pb B us l->us.length=l.length/\∀(j:Nat)x,l[j]?=XL x->∃u,us[j]?=XL u/\tP F pb B u x
 |[],[],_=>⟨rfl,λj x h=>by simp at h⟩
 |[],_::_,h=>h.elim
 |_::_,[],h=>h.elim
 |u::us,y::l,h=>by
  obtain⟨h1,h2⟩:=Mu.get h.2;refine⟨by simp[h1],λj x hx=>?_⟩;cases j with
  |zero=>simp at hx;subst hx;exact⟨u,rfl,h.1⟩
  |succ j=>simpa using h2 j x (by simpa using hx)
def rG{F:XO}{pb B b n c:Nat}{us:List XP}{l:List mt}{C:Array XP}{t:Ya}(D:af F b C t)(A:∀(j:Nat)u,us[j]?=XL u->C[j]?=XL u)(h:Mu F pb B us l)(I:n=l.length)(G:l.length<=c)(z:c<=Yd)(J:pb<b)(y:b<B):Mt F pb B (Zk (XL (b 0 XM)) n c) l:=by obtain⟨h1,h2⟩:=h.get;subst I;refine⟨b,c,rfl,G,z,J,y,λj x hx=>?_⟩;obtain⟨u,h3,h4⟩:=h2 j x hx;exact⟨u,ag D (A j u h3),h4⟩
def vq{us:List XP}(j:Nat)(u:XP)(h:us[j]?=XL u):us.toArray[j]?=XL u:=zH
def Jd{w:XO}{e:Ya}{us:List XP}{n:Nat}(c:n=us.length)(h:us≠[])(hm:us.length<=1000):(w.alloc (Zq us.toArray e)).ownsRow w e 1 (Zk (XL (w 0 XM)) n n) n us:=by subst c;refine⟨by simp,.inr ⟨w.heap.size,us.length,us.toArray,rfl,ar _,cR w _,ar _,by simp[Yd];omega,by simp,by simp⟩⟩
def en4(w:XO)(pb:Nat)(s:ay)(A:pb<w):
 X4 X3 312 #[az pb,bs s] w λe w'=>∃caps,e=YT (.func (.func 348) #[] caps)/\tP w' pb w' (.func (.func 348) #[] caps) (.word s)/\Below w w w':=by
 refine(ep7 pb s w).z ?_;refine⟨_,rfl,⟨348,#[],#[az w,az (w+1)],rfl,XX func348 aI rfl,λW B' M p _ j _ z=>?_⟩,ak (ak (am w) _) _⟩;have y:=j.blk (gl (cR w _) (ak (am _) _) Zy) bN Zv;have c:=j.blk (cR (w.alloc (Zq #[az pb] 131)) (Zq #[bs s] 9)) Zy bN;simp at c;exact ep8 pb B' M p s _ _ W z (ag y rfl) (ag c rfl)
def Qe{w:XO}{base:Nat}{e:Ya}{v:XP}{n:Nat}{xs:List XP}(h:w.ownsRow base e 1 v n xs)(F:0<n):
 ∃g cap c,v=Zk (XL ⟨g,0,XM⟩) n cap/\base<=g/\af w g c e/\n<=cap/\cap<=Yd/\c.toList.take n=xs:=by
 rcases h.2 with⟨_,G⟩|⟨g,cap,c,j,y,z,A,C,_,D⟩
 .omega
 .exact⟨g,cap,c,j,y,z,A,C,by simpa using D⟩
def Z3{c:Array XP}{n:Nat}{us:List XP}(h:c.toList.take n=us)(j:Nat)(u:XP)(y:us[j]?=XL u):c[j]?=XL u:=by
 subst h;rw[List.getElem?_take]at y;split at y
 .simpa using y
 .cases y
def Qf(w:XO)(a b c d:Obj):((((w.alloc a).alloc b).alloc c).alloc d).heap[w.heap.size]?=XL a/\((((w.alloc a).alloc b).alloc c).alloc d).heap[w.heap.size+1]?=XL b/\((((w.alloc a).alloc b).alloc c).alloc d).heap[w.heap.size+2]?=XL c/\((((w.alloc a).alloc b).alloc c).alloc d).heap[w.heap.size+3]?=XL d:=by
 refine⟨ai (ai (ai (cR w a) (ak (am _) b)) (ak (am _) c)) (ak (am _) d),?_,?_,?_⟩
 .have h:=ai (ai (cR (w.alloc a) b) (ak (am _) c)) (ak (am _) d);simpa only[YY]using h
 .have h:=ai (cR ((w.alloc a).alloc b) c) (ak (am _) d);simpa only[YY]using h
 .have h:=cR (((w.alloc a).alloc b).alloc c) d;simpa only[YY]using h
def en5(pb:Nat)(w:XO)(mf:pb<w):
 X4 X3 188 #[az pb] w λe w'=>∃v,e=YT v/\FM w' pb w' v/\Below w w w':=by
 obtain⟨i0,hi,cA,a_,bd⟩:=Y0 (show(Tryz.prog.info? 223).map (λi=>(i.zero,i.size,i.bytes))=XL (XL .nilFunc,1,8)by kernel_rfl);have HW:=aj λW s h=>en4 W pb s h;unfold az at HW;have Ds:=mf;simp only[az];go_enter func188,ntmps188;go_wp2_with fail
 refine(HW _ iJ mr).q λw1 caps1 Pe aC=>?_;have bp:=aj (aq (am w) aC);have hv2:=bp.size;have Bk:=aj Pe;go_wp2_with fail
 refine(HW _ iL mr).q λw2 caps2 lD au=>?_;have aX:=aj (aq (am w1) au);have hw2:=aX.size;have iH:=aj lD;go_wp2_with fail
 refine(HW _ iK mr).q λO caps3 Aj aM=>?_;have bE:=aj (aq (am w2) aM);have hw3:=bE.size;have Ek:=aj Aj;go_wp2_with fail
 refine(HW _ ll mr).q λw4 caps4 Fq aV=>?_;have iw:=ai (ai (ai (cR _ (Zq ([.func (.func 348) #[] caps1,.func (.func 313) #[az pb] #[],.func (.func 348) #[] caps2,.func (.func 313) #[az pb] #[],.func (.func 348) #[] caps3,.func (.func 313) #[az pb] #[]]:List XP).toArray 223)) (ak (am _) _)) (ak (am _) _)) aV;have up:=aj (show w4.heap[O.heap.size]?=XL (Zq ([.func (.func 348) #[] caps1,.func (.func 313) #[az pb] #[],.func (.func 348) #[] caps2,.func (.func 313) #[az pb] #[],.func (.func 348) #[] caps3,.func (.func 313) #[az pb] #[]]:List XP).toArray 223 (0,0))from iw);have lB:=ai (ai (cR _ (Zq ([.func (.func 314) #[az pb] #[]]:List XP).toArray 223)) (ak (am _) _)) aV;simp only[YY]at lB;have tj:=aj (show w4.heap[(O.heap.size+1)]?=XL (Zq ([.func (.func 314) #[az pb] #[]]:List XP).toArray 223 (0,0))from lB);have gD:=ai (cR _ (Zq ([.func (.func 314) #[az pb] #[]]:List XP).toArray 223)) aV;simp only[YY]at gD;have ik:=aj (show w4.heap[(O.heap.size+2)]?=XL (Zq ([.func (.func 314) #[az pb] #[]]:List XP).toArray 223 (0,0))from gD);have bW:=aj (aq (ak (ak (ak (am O) _) _) _) aV);have hw4:=bW.size;have rX:=aj Fq;go_wp2_with fail
 refine Mv ?_;rintro e w5 ⟨caps5,rfl,VY,bx⟩;have cT:=aj (aq (am w4) bx);have hw5:=cT.size;have np:=aj VY;go_wp2_with fail
 refine(HW _ ll mr).q λw6 caps6 cv0 cL=>?_;have pG:=ai (cR _ (Zq ([.func (.func 314) #[az pb] #[],.func (.func 348) #[] caps4,.func (.func 315) #[az pb] #[],.func (.func 348) #[] caps5,.func (.func 315) #[az pb] #[]]:List XP).toArray 223)) cL;have po:=aj (show w6.heap[w5.heap.size]?=XL (Zq ([.func (.func 314) #[az pb] #[],.func (.func 348) #[] caps4,.func (.func 315) #[az pb] #[],.func (.func 348) #[] caps5,.func (.func 315) #[az pb] #[]]:List XP).toArray 223 (0,0))from pG);have dP:=aj (aq (ak (am w5) _) cL);have hw6:=dP.size;have Td:=aj cv0;go_wp2_with fail
 refine(HW _ qN mr).q λw7 caps7 cv1 jj=>?_;have iG:=aj (aq (am w6) jj);have hw7:=iG.size;have J7:=aj cv1;go_wp2_with fail
 refine Mv ?_;rintro e w8 ⟨caps8,rfl,cv2,gm⟩;have Fj:=ai (ai (cR _ (Zq ([.func (.func 314) #[az pb] #[],.func (.func 348) #[] caps6,.func (.func 315) #[az pb] #[],.func (.func 348) #[] caps7,.func (.func 313) #[az pb] #[]]:List XP).toArray 223)) (ak (am _) _)) gm;have il:=aj (show w8.heap[w7.heap.size]?=XL (Zq ([.func (.func 314) #[az pb] #[],.func (.func 348) #[] caps6,.func (.func 315) #[az pb] #[],.func (.func 348) #[] caps7,.func (.func 313) #[az pb] #[]]:List XP).toArray 223 (0,0))from Fj);have ow:=ai (cR _ (Zq ([.func (.func 315) #[az pb] #[],.func (.func 315) #[az pb] #[],.func (.func 313) #[az pb] #[]]:List XP).toArray 223)) gm;simp only[YY]at ow;have gK:=aj (show w8.heap[(w7.heap.size+1)]?=XL (Zq ([.func (.func 315) #[az pb] #[],.func (.func 315) #[az pb] #[],.func (.func 313) #[az pb] #[]]:List XP).toArray 223 (0,0))from ow);have iu:=aj (aq (ak (ak (am w7) _) _) gm);have hw8:=iu.size;have dj3:=aj cv2;rename_i K hK;try simp only[Yk,YA,List.append_eq]at hK
 go_wp2_with(at_builtin;refine YV _ rfl (Zt 63) (Zt 64) _ rfl w8.heap.size 223 i0 _ 1 8 underlying216 hi cA a_ bd rfl aD _ _ _ rfl (Jd (us:=[.func (.func 314) #[az pb] #[],.func (.func 348) #[] caps8,.func (.func 316) #[az pb] #[]]) rfl Zy Zy) (O 0 XM) 6 6 [.func (.func 348) #[] caps1,.func (.func 313) #[az pb] #[],.func (.func 348) #[] caps2,.func (.func 313) #[az pb] #[],.func (.func 348) #[] caps3,.func (.func 313) #[az pb] #[]] rfl rfl (λj u hu=>World.news_of_block (ai (ai (ai (ai (ai up cT) dP) iG) iu) (ak (am _) _)) j u hu) TA fH Zv Zy ?_;intro v9 w9 cu2 hgrow9 _;have pP:=aj (AI (Jd (us:=[.func (.func 314) #[az pb] #[],.func (.func 348) #[] caps8,.func (.func 316) #[az pb] #[]]) rfl Zy Zy) (ak (am w8) _) (ar _) hgrow9);have hw9:=pP.size;obtain⟨g9,cap9,cur9,rfl,hq6,cr4,cp7,Lp,cx0⟩:=Qe cu2 aD;have JV:=aj (XU cr4 (XU cp7 (XU Lp cx0))))
 go_wp2_with fail
 refine Mv ?_;rintro e Cw ⟨caps10,rfl,cu3,pZ⟩;have vD:=aj (aq (am w9) pZ);have hv3:=vD.size;have di6:=aj cu3;rename_i K hK;try simp only[Yk,YA,List.append_eq]at hK
 go_wp2_with(at_builtin;refine YV _ rfl (Zt 75) (Zt 76) _ rfl Cw.heap.size 223 i0 _ 1 8 underlying216 hi cA a_ bd rfl aD _ _ _ rfl (Jd (us:=[.func (.func 314) #[az pb] #[],.func (.func 313) #[az pb] #[],.func (.func 348) #[] caps10,.func (.func 316) #[az pb] #[]]) rfl Zy Zy) (O 0 XM) 6 6 [.func (.func 348) #[] caps1,.func (.func 313) #[az pb] #[],.func (.func 348) #[] caps2,.func (.func 313) #[az pb] #[],.func (.func 348) #[] caps3,.func (.func 313) #[az pb] #[]] rfl rfl (λj u hu=>World.news_of_block (ai (ai (ai (ai (ai (ai (ai up cT) dP) iG) iu) pP) vD) (ak (am _) _)) j u hu) TA fH Zv Zy ?_;intro rR pN hown11 hgrow11 _;have D5:=aj (AI (Jd (us:=[.func (.func 314) #[az pb] #[],.func (.func 313) #[az pb] #[],.func (.func 348) #[] caps10,.func (.func 316) #[az pb] #[]]) rfl Zy Zy) (ak (am Cw) _) (ar _) hgrow11);have hv4:=D5.size;obtain⟨Hu,cap11,cur11,rfl,hq4,cr2,cp4,VG,cw8⟩:=Qe hown11 aD;have JS:=aj (XU cr2 (XU cp4 (XU VG cw8))))
 go_wp2_with fail
 refine Mv ?_;rintro e Rl ⟨caps12,rfl,cu4,Id⟩;have D6:=aj (aq (am pN) Id);have hv5:=D6.size;have di7:=aj cu4;rename_i K hK;try simp only[Yk,YA,List.append_eq]at hK
 go_wp2_with(at_builtin;refine YV _ rfl (Zt 85) (Zt 86) _ rfl Rl.heap.size 223 i0 _ 1 8 underlying216 hi cA a_ bd rfl aD _ _ _ rfl (Jd (us:=[.func (.func 314) #[az pb] #[],.func (.func 348) #[] caps12,.func (.func 315) #[az pb] #[]]) rfl Zy Zy) (O 0 XM) 6 6 [.func (.func 348) #[] caps1,.func (.func 313) #[az pb] #[],.func (.func 348) #[] caps2,.func (.func 313) #[az pb] #[],.func (.func 348) #[] caps3,.func (.func 313) #[az pb] #[]] rfl rfl (λj u hu=>World.news_of_block (ai (ai (ai (ai (ai (ai (ai (ai (ai up cT) dP) iG) iu) pP) vD) D5) D6) (ak (am _) _)) j u hu) TA fH Zv Zy ?_;intro rS WE hown13 hgrow13 _;have GC:=aj (AI (Jd (us:=[.func (.func 314) #[az pb] #[],.func (.func 348) #[] caps12,.func (.func 315) #[az pb] #[]]) rfl Zy Zy) (ak (am Rl) _) (ar _) hgrow13);have hv6:=GC.size;obtain⟨EO,cap13,cur13,rfl,hq5,cr3,cp5,cs9,cw9⟩:=Qe hown13 aD;have JT:=aj (XU cr3 (XU cp5 (XU cs9 cw9))))
 go_wp2_with fail
 refine(HW _ qP mr).q λWF caps14 cu5 OO=>?_;have GD:=aj (aq (am WE) OO);have hv7:=GD.size;have di8:=aj cu5;go_wp2_with fail
 refine(HW _ qO mr).q λI caps15 cu6 cp0=>?_;have GE:=aj (aq (am WF) cp0);have hv8:=GE.size;have di9:=aj cu6;go_wp2_with fail
 refine(HW _ qK mr).q λX caps16 cu7 Ie=>?_;have wY:=ai (ai (ai (ai (cR _ (Zq ([.func (.func 315) #[az pb] #[],.func (.func 348) #[] caps14,.func (.func 313) #[az pb] #[],.func (.func 348) #[] caps15,.func (.func 313) #[az pb] #[]]:List XP).toArray 223)) (ak (am _) _)) (ak (am _) _)) (ak (am _) _)) Ie;have GU:=aj (show X.heap[I.heap.size]?=XL (Zq ([.func (.func 315) #[az pb] #[],.func (.func 348) #[] caps14,.func (.func 313) #[az pb] #[],.func (.func 348) #[] caps15,.func (.func 313) #[az pb] #[]]:List XP).toArray 223 (0,0))from wY);have Fi:=ai (ai (ai (cR _ (Zq ([.func (.func 317) #[az pb] #[]]:List XP).toArray 223)) (ak (am _) _)) (ak (am _) _)) Ie;simp only[YY]at Fi;have GS:=aj (show X.heap[(I.heap.size+1)]?=XL (Zq ([.func (.func 317) #[az pb] #[]]:List XP).toArray 223 (0,0))from Fi);have Vr:=ai (ai (cR _ (Zq ([.func (.func 315) #[az pb] #[]]:List XP).toArray 223)) (ak (am _) _)) Ie;simp only[YY]at Vr;have GT:=aj (show X.heap[(I.heap.size+2)]?=XL (Zq ([.func (.func 315) #[az pb] #[]]:List XP).toArray 223 (0,0))from Vr);have Vs:=ai (cR _ (Zq ([.func (.func 315) #[az pb] #[],.func (.func 313) #[az pb] #[],.func (.func 318) #[az pb] #[]]:List XP).toArray 223)) Ie;simp only[YY]at Vs;have JZ:=aj (show X.heap[(I.heap.size+3)]?=XL (Zq ([.func (.func 315) #[az pb] #[],.func (.func 313) #[az pb] #[],.func (.func 318) #[az pb] #[]]:List XP).toArray 223 (0,0))from Vs);have GF:=aj (aq (ak (ak (ak (ak (am I) _) _) _) _) Ie);have hv9:=GF.size;have dj0:=aj cu7;go_wp2_with fail
 refine Mv ?_;rintro e Ns ⟨caps17,rfl,cu8,UM⟩;have cs1:=ai (cR _ (Zq ([.func (.func 315) #[az pb] #[],.func (.func 348) #[] caps16,.func (.func 319) #[az pb] #[],.func (.func 313) #[az pb] #[]]:List XP).toArray 223)) UM;have br5:=aj (show Ns.heap[X.heap.size]?=XL (Zq ([.func (.func 315) #[az pb] #[],.func (.func 348) #[] caps16,.func (.func 319) #[az pb] #[],.func (.func 313) #[az pb] #[]]:List XP).toArray 223 (0,0))from cs1);have D7:=aj (aq (ak (am X) _) UM);have hw0:=D7.size;have dj1:=aj cu8;go_wp2_with fail
 refine(HW _ qJ mr).q λA caps18 cu9 UN=>?_;have cs2:=ai (cR _ (Zq ([.func (.func 315) #[az pb] #[],.func (.func 348) #[] caps17,.func (.func 316) #[az pb] #[]]:List XP).toArray 223)) UN;have br6:=aj (show A.heap[Ns.heap.size]?=XL (Zq ([.func (.func 315) #[az pb] #[],.func (.func 348) #[] caps17,.func (.func 316) #[az pb] #[]]:List XP).toArray 223 (0,0))from cs2);have Sr:=aj (aq (ak (am Ns) _) UN);have hw1:=Sr.size;have dj2:=aj cu9;go_wp2_with fail
 go_ret;have Y:=λF(h:Below A A F)=>h;have key:∀F:XO,Below A A F->F.heap[A.heap.size]?=XL (Zq ([.func (.func 315) #[az pb] #[],.func (.func 348) #[] caps18,.func (.func 315) #[az pb] #[]]:List XP).toArray 223 (0,0))->F.heap[(A.heap.size+1)]?=XL (Zq ([.func (.func 313) #[az pb] #[]]:List XP).toArray 223 (0,0))->F.heap[(A.heap.size+2)]?=XL (Zq ([.func (.func 315) #[az pb] #[],.func (.func 313) #[az pb] #[]]:List XP).toArray 223 (0,0))->F.heap[(A.heap.size+3)]?=XL (Zq ([X2 (bs kr),ah 0,Zk (XL ⟨(O.heap.size+1),0,XM⟩) 1 1,X2 (bs ga),ah 1,Zk (XL ⟨(O.heap.size+2),0,XM⟩) 1 1,X2 (bs fN),ah 2,Zk (XL (w5 0 XM)) 5 5,X2 (bs mR),ah 3,Zk (XL (w7 0 XM)) 5 5,X2 (bs PG),ah 4,Zk (XL ⟨(w7.heap.size+1),0,XM⟩) 3 3,X2 (bs P2),ah 5,Zk (XL (g9 0 XM)) 9 cap9,X2 (bs PJ),ah 6,Zk (XL (Hu 0 XM)) 10 cap11,X2 (bs PE),ah 7,Zk (XL (EO 0 XM)) 9 cap13,X2 (bs PZ),ah 8,Zk (XL (I 0 XM)) 5 5,X2 (bs P1),ah 9,Zk (XL ⟨(I.heap.size+1),0,XM⟩) 1 1,X2 (bs PK),ah 10,Zk (XL ⟨(I.heap.size+2),0,XM⟩) 1 1,X2 (bs PF),ah 11,Zk (XL ⟨(I.heap.size+3),0,XM⟩) 3 3,X2 (bs PM),ah 12,Zk (XL (X 0 XM)) 4 4,X2 (bs PH),ah 13,Zk (XL (Ns 0 XM)) 3 3,X2 (bs PI),ah 14,Zk (XL (A 0 XM)) 3 3,X2 (bs P0),ah 15,Zk (XL ⟨(A.heap.size+1),0,XM⟩) 1 1,X2 (bs PL),ah 16,Zk (XL ⟨(A.heap.size+2),0,XM⟩) 2 2]:List XP).toArray 218 (0,0))->FM F pb F (Zk (XL ⟨(A.heap.size+3),0,XM⟩) 17 17):=by
  intro F Y cs3 O2 Vt y;have Z:=aq Sr Y;have C:=aq D7 Z;have Nw:=aq GF C;have Nv:=aq GE Nw;have Sk:=aq GD Nv;have Nu:=aq GC Sk;have Sj:=aq D6 Nu;have Nt:=aq D5 Sj;have Sm:=aq vD Nt;have V:=aq pP Sm;have Ny:=aq iu V;have Gz:=aq iG Ny;have Nx:=aq dP Gz;have U:=aq cT Nx;have G:=aq bW U;have D:=aq bE G;have J:=aq aX D;have hg1:=rG (l:=[.name]) (n:=1) (c:=1) (ai tj U) vq ⟨FP F pb _,trivial⟩ rfl aD aD Zv (blk_lt (ai tj U));have hg2:=rG (l:=[.name]) (n:=1) (c:=1) (ai ik U) vq ⟨FP F pb _,trivial⟩ rfl aD aD Zv (blk_lt (ai ik U));have hh0:=rG (l:=[.name,.word ll,.ref,.word eK,.ref]) (n:=5) (c:=5) (ai po Gz) vq ⟨FP F pb _,rX.keep (aL.of_below U (ar _) U.size) U.size,vk F pb _,np.keep (aL.of_below Nx (ar _) Nx.size) Nx.size,vk F pb _,trivial⟩ rfl aD aD Zv (blk_lt (ai po Gz));have hh1:=rG (l:=[.name,.word ll,.ref,.word qN,.number]) (n:=5) (c:=5) (ai il V) vq ⟨FP F pb _,Td.keep (aL.of_below Gz (ar _) Gz.size) Gz.size,vk F pb _,J7.keep (aL.of_below Ny (ar _) Ny.size) Ny.size,qs F pb _,trivial⟩ rfl aD aD Zv (blk_lt (ai il V));have hh2:=rG (l:=[.ref,.ref,.number]) (n:=3) (c:=3) (ai gK V) vq ⟨vk F pb _,vk F pb _,qs F pb _,trivial⟩ rfl aD aD Zv (blk_lt (ai gK V));have hh3:=rG (l:=[.name,.word eK,.list,.word iJ,.number,.word iL,.number,.word iK,.number]) (n:=9) (c:=cap9) (ai JV.1 Sm) (Z3 JV.2.2.2) ⟨FP F pb _,dj3.keep (aL.of_below V (ar _) V.size) V.size,Z1 F pb _,Bk.keep (aL.of_below J (ar _) J.size) J.size,qs F pb _,iH.keep (aL.of_below D (ar _) D.size) D.size,qs F pb _,Ek.keep (aL.of_below G (ar _) G.size) G.size,qs F pb _,trivial⟩ rfl JV.2.1 JV.2.2.1 Zv (blk_lt (ai JV.1 Sm));have hh4:=rG (l:=[.name,.number,.word eK,.list,.word iJ,.number,.word iL,.number,.word iK,.number]) (n:=10) (c:=cap11) (ai JS.1 Sj) (Z3 JS.2.2.2) ⟨FP F pb _,qs F pb _,di6.keep (aL.of_below Nt (ar _) Nt.size) Nt.size,Z1 F pb _,Bk.keep (aL.of_below J (ar _) J.size) J.size,qs F pb _,iH.keep (aL.of_below D (ar _) D.size) D.size,qs F pb _,Ek.keep (aL.of_below G (ar _) G.size) G.size,qs F pb _,trivial⟩ rfl JS.2.1 JS.2.2.1 Zv (blk_lt (ai JS.1 Sj));have hh5:=rG (l:=[.name,.word eK,.ref,.word iJ,.number,.word iL,.number,.word iK,.number]) (n:=9) (c:=cap13) (ai JT.1 Sk) (Z3 JT.2.2.2) ⟨FP F pb _,di7.keep (aL.of_below Nu (ar _) Nu.size) Nu.size,vk F pb _,Bk.keep (aL.of_below J (ar _) J.size) J.size,qs F pb _,iH.keep (aL.of_below D (ar _) D.size) D.size,qs F pb _,Ek.keep (aL.of_below G (ar _) G.size) G.size,qs F pb _,trivial⟩ rfl JT.2.1 JT.2.2.1 Zv (blk_lt (ai JT.1 Sk));have hh6:=rG (l:=[.ref,.word qP,.number,.word qO,.number]) (n:=5) (c:=5) (ai GU C) vq ⟨vk F pb _,di8.keep (aL.of_below Nv (ar _) Nv.size) Nv.size,qs F pb _,di9.keep (aL.of_below Nw (ar _) Nw.size) Nw.size,qs F pb _,trivial⟩ rfl aD aD Zv (blk_lt (ai GU C));have hh7:=rG (l:=[.classes]) (n:=1) (c:=1) (ai GS C) vq ⟨en3 F pb _,trivial⟩ rfl aD aD Zv (blk_lt (ai GS C));have hg3:=rG (l:=[.ref]) (n:=1) (c:=1) (ai GT C) vq ⟨vk F pb _,trivial⟩ rfl aD aD Zv (blk_lt (ai GT C));have hg4:=rG (l:=[.ref,.number,.alw]) (n:=3) (c:=3) (ai JZ C) vq ⟨vk F pb _,qs F pb _,em3 F pb _,trivial⟩ rfl aD aD Zv (blk_lt (ai JZ C));have hg5:=rG (l:=[.ref,.word qK,.domain,.number]) (n:=4) (c:=4) (ai br5 Z) vq ⟨vk F pb _,dj0.keep (aL.of_below C (ar _) C.size) C.size,er0 F pb _,qs F pb _,trivial⟩ rfl aD aD Zv (blk_lt (ai br5 Z));have hg6:=rG (l:=[.ref,.word eK,.list]) (n:=3) (c:=3) (ai br6 Y) vq ⟨vk F pb _,dj1.keep (aL.of_below Z (ar _) Z.size) Z.size,Z1 F pb _,trivial⟩ rfl aD aD Zv (blk_lt (ai br6 Y));have hg7:=rG (l:=[.ref,.word qJ,.ref]) (n:=3) (c:=3) cs3 vq ⟨vk F pb _,dj2.keep (aL.of_below Y (ar _) Y.size) Y.size,vk F pb _,trivial⟩ rfl aD (by decide) Zv (blk_lt cs3);have hg8:=rG (l:=[.number]) (n:=1) (c:=1) O2 vq ⟨qs F pb _,trivial⟩ rfl (by decide) (by decide) Zv (blk_lt O2);have hg9:=rG (l:=[.ref,.number]) (n:=2) (c:=2) Vt vq ⟨vk F pb _,qs F pb _,trivial⟩ rfl (by decide) (by decide) Zv (blk_lt Vt);refine⟨(A.heap.size+3),rfl,by omega,blk_lt y,λi r z=>?_⟩
  match i,z with
  |0,z=>obtain rfl:=YG z;exact⟨_,ag y rfl,ag y rfl,ag y rfl,hg1⟩
  |1,z=>obtain rfl:=YG z;exact⟨_,ag y rfl,ag y rfl,ag y rfl,hg2⟩
  |2,z=>obtain rfl:=YG z;exact⟨_,ag y rfl,ag y rfl,ag y rfl,hh0⟩
  |3,z=>obtain rfl:=YG z;exact⟨_,ag y rfl,ag y rfl,ag y rfl,hh1⟩
  |4,z=>obtain rfl:=YG z;exact⟨_,ag y rfl,ag y rfl,ag y rfl,hh2⟩
  |5,z=>obtain rfl:=YG z;exact⟨_,ag y rfl,ag y rfl,ag y rfl,hh3⟩
  |6,z=>obtain rfl:=YG z;exact⟨_,ag y rfl,ag y rfl,ag y rfl,hh4⟩
  |7,z=>obtain rfl:=YG z;exact⟨_,ag y rfl,ag y rfl,ag y rfl,hh5⟩
  |8,z=>obtain rfl:=YG z;exact⟨_,ag y rfl,ag y rfl,ag y rfl,hh6⟩
  |9,z=>obtain rfl:=YG z;exact⟨_,ag y rfl,ag y rfl,ag y rfl,hh7⟩
  |10,z=>obtain rfl:=YG z;exact⟨_,ag y rfl,ag y rfl,ag y rfl,hg3⟩
  |11,z=>obtain rfl:=YG z;exact⟨_,ag y rfl,ag y rfl,ag y rfl,hg4⟩
  |12,z=>obtain rfl:=YG z;exact⟨_,ag y rfl,ag y rfl,ag y rfl,hg5⟩
  |13,z=>obtain rfl:=YG z;exact⟨_,ag y rfl,ag y rfl,ag y rfl,hg6⟩
  |14,z=>obtain rfl:=YG z;exact⟨_,ag y rfl,ag y rfl,ag y rfl,hg7⟩
  |15,z=>obtain rfl:=YG z;exact⟨_,ag y rfl,ag y rfl,ag y rfl,hg8⟩
  |16,z=>obtain rfl:=YG z;exact⟨_,ag y rfl,ag y rfl,ag y rfl,hg9⟩
  |i+17,z=>exact absurd (List.getElem?_eq_some_iff.1 z).1 (by simp[rules])
 refine⟨_,rfl,?_,ak (ak (ak (ak (aq (aq (aq (aq (aq (aq (aq (aq (aq (aq (aq (aq (aq (aq (aq (aq (aq bp aX) bE) bW) cT) dP) iG) iu) pP) vD) D5) D6) GC) GD) GE) GF) D7) Sr) _) _) _) _⟩;refine key _ (ak (ak (ak (ak (am A) _) _) _) _) ?_ ?_ ?_ ?_
 .exact(Qf A _ _ _ _).1
 .exact(Qf A _ _ _ _).2.1
 .exact(Qf A _ _ _ _).2.2.1
 .exact(Qf A _ _ _ _).2.2.2
def M8(t:gU)(r:ay×List mt):Bool:=XN (t.kind=2)&&XN (r.1=t.text)
def en6(t:gU)(r:ay):((((t.kind:Int)==2)&&((bs r).toList==(bs t.text).toList)))=(XN (t.kind=2)&&XN (r=t.text)):=by
 rw[je,je,ie,ie];congr 1
 .rw[Yf];simp;omega
 .rw[Yf];simp
def en7(r:ay×List mt)(y:List XP)(t:gU)(b B:Nat)(w:XO)(C:FN w B y r)(F:ae w b (ah t.kind))(G:aa w b 1 (X2 (bs t.text)))(I:b<w):
 aR 191 #[Zr y.toArray,az b] w (Zp (M8 t r)):=by
 obtain⟨k,Wv,n,c,rfl⟩:=C;have z:=en6 t r.1;unfold M8;rw[<-z];have D:¬b=w:=Zv;simp only[az];by_cases j:((t.kind:Int)==2)=XR
 .go_enter func191,ntmps191;go_wp2_with fail
  go_ret;exact⟨by simp[j],ak (am w) _⟩
 .have A:((t.kind:Int)==2)=false:=by simpa using j
  go_enter func191,ntmps191;go_wp2_with fail
  go_ret;exact⟨by simp[A],ak (am w) _⟩
def eW{w:XO}{base e:Nat}{size:Nat}{v:XP}{n:Nat}{xs:List XP}(h:w.ownsRow base e size v n xs):∃A m c,v=Zk A m c:=by
 rcases h.2 with⟨rfl,_⟩|⟨g,cap,j,rfl,_⟩
 .exact⟨XM,0,0,rfl⟩
 .exact⟨_,_,_,rfl⟩
def qu{w w':XO}{base e pb B:Nat}{size:Nat}{v:XP}{n:Nat}{xs:List XP}(h:w.ownsRow base e size v n xs)(F:aL B pb w w')(D:w.heap.size<=B)(I:pb<base):w'.ownsRow base e size v n xs:=by
 refine⟨h.1,?_⟩;rcases h.2 with G|⟨g,cap,j,z,A,y,C⟩
 .exact .inl G
 .exact .inr ⟨g,cap,j,z,A,F.blk y (bJ (blk_lt y) D) Zv,C⟩
def eo2(w:XO)(B:Nat)(v:XP)(d:aG):Prop:=
 ∃r n,v= .agg #[.int .i64 d.kind,.string (bs d.name),r,n,.int .i64 d.by_,.bool d.always]/\w.ownsRow B 9 1 r d.refs.length (d.refs.map λs=>Value.string (bs s))/\
  w.ownsRow B 3 1 n d.nums.length (d.nums.map fun(k:Nat)=>X1 .i64 k)/\d.kind<=1000000/\d.by_<=1000000
def Z4(w:XO)(pb B M:Nat)(r:PS×aG)(e:Zb)(w':XO):Prop:=
 ∃v B',e=YT v/\eo2 w' B' v r.2/\cK w' pb B' (M+1) r.1/\(r.1.e=0->r.1.Ok M)/\aL w pb w w'
def eo3(t:gU):rules.findIdx? (M8 t)=tZ t:=by
 unfold tZ M8;by_cases h:t.kind=2
 .rw[if_pos h];simp[h]
 .rw[if_neg h];simp[h]
def cK.reset{w:XO}{pb B B' M:Nat}{p:PS}{k:Nat}(h:cK w pb B M p)(c:pb<B')(y:B'<=w):cK ((((((w.setCell (pb 2 XM) (ah k)).setCell (pb 3 XM) (X2 ⟨#[]⟩)).setCell (pb 4 XM) (Zk XM 0 0)).setCell (pb 5 XM) (Zk XM 0 0)).setCell (pb 6 XM) (ah 0)).setCell (pb 7 XM) (Zp XQ)) pb B' M {p with d:={kind:=k}}:=by
 obtain⟨t,r,n,g1,g2,g3,g4,g5,g6,g7⟩:=h;have j:aL w pb w ((((((w.setCell (pb 2 XM) (ah k)).setCell (pb 3 XM) (X2 ⟨#[]⟩)).setCell (pb 4 XM) (Zk XM 0 0)).setCell (pb 5 XM) (Zk XM 0 0)).setCell (pb 6 XM) (ah 0)).setCell (pb 7 XM) (Zp XQ)):=
  ((((((aL.refl _ _ _).set (.inl rfl) _).set (.inl rfl) _).set (.inl rfl) _).set (.inl rfl) _).set (.inl rfl) _).set (.inl rfl) _
 refine⟨t,Zk XM 0 0,Zk XM 0 0,(bf (bf (bf (bf (bf (bf g1 2 _) 3 _) 4 _) 5 _) 6 _) 7 _).t rfl,g2.to oe.ab (j.below Zv) (ar _) (ar _),Yc _ _ _ _,Yc _ _ _ _,c,by simp[YS];omega,⟨g7.last,?_,?_,g7.e,?_,g7.n.1,by simp⟩⟩
 .have:=g7.toks;simp;omega
 .have:=g7.nums;simp;omega
 .have:=g7.toks;simp;omega
def cK.set6{w:XO}{pb B M b:Nat}{p:PS}{C:Array XP}{t:Ya}{z A D F G I:XP}(h:cK w pb B M p)(j:af w b C t)(y:¬t=9/\¬t=3)(c:pb<b):
 cK ((((((w.setCell b z).setCell (b 1 XM) A).setCell (b 2 XM) D).setCell (b 3 XM) F).setCell (b 4 XM) G).setCell (b 5 XM) I) pb B M p:=
 (((((h.setT j y c).setT (bf j _ _) y c).setT (bf (bf j _ _) _ _) y c).setT (bf (bf (bf j _ _) _ _) _ _) y c).setT (bf (bf (bf (bf j _ _) _ _) _ _) _ _) y c).setT (bf (bf (bf (bf (bf j _ _) _ _) _ _) _ _) _ _) y c
def as5{w:XO}{base e:Nat}{size:Nat}{v:XP}{n b:Nat}{xs:List XP}{z A C D F G:XP}(h:w.ownsRow base e size v n xs)(J:b<base):
 ((((((w.setCell b z).setCell (b 1 XM) A).setCell (b 2 XM) C).setCell (b 3 XM) D).setCell (b 4 XM) F).setCell (b 5 XM) G).ownsRow base e size v n xs:=by
 have c:∀k,v.ownBlock=XL k->¬k=b:=λk j I=>by
  rcases h.2 with⟨rfl,_⟩|⟨g,cap,y,rfl,O,_⟩
  .simp[YC]at j
  .have:g=k:=by simpa[Value.ownBlock]using j
   omega
 exact nE (nE (nE (nE (nE (nE h c _ _) c _ _) c _ _) c _ _) c _ _) c _ _
def as6{p:PS}(h:tZ p.head=XM):p.decl=(p.fail 3,{}):=by unfold PS.decl;rw[h]
def as7{p:PS}{i:Nat}(h:tZ p.head=XL i):p.decl=((((PS.parts {(p.take 2 []).1 with d:={kind:=i}} (rules.getD i ([],[])).2).take 4 [[59]]).1),(((PS.parts {(p.take 2 []).1 with d:={kind:=i}} (rules.getD i ([],[])).2).take 4 [[59]]).1).d):=by unfold PS.decl;rw[h]
end
end Go.Proofs.YtihhpjmclebfpaaGreatDoor
