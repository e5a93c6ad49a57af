/- A part of the proof. -/
import Derived.Test.YtihhpjmclebfpaaGreatDoorQbj
set_option linter.defProp false
set_option linter.unusedVariables false
set_option linter.unusedSimpArgs false
set_option maxRecDepth 100000
set_option maxHeartbeats 32000000
open Option renaming some->XL,none->XM
open Decidable renaming decide->XN
open Go renaming World->XO,Value->XP,Calls->X4,TypeId->Ya,maxLen->Yd,Oper->YO,undef->YQ,execOp->Y7,Ending->Zb,Addr->Zf,Program->Zh
open Bool renaming false->XQ,true->XR
open Go.Lib renaming itoa->XS,decDigits->Yb,countB->Y3
open List renaming range->Yz
open And renaming intro->XU
open Go.RowKit renaming Hid->XV
open Go.Proofs renaming intOf->X8
open Go.Proofs.Tryz renaming prog->X3,underlying22->Zo
open Go.Value renaming int->X1,string->X2,ownBlock->YC,oneCell'->YH,slice->Zk,bool->Zp,agg->Zr,pointer->Zs
open Nat renaming mul_le_mul_left->Zi
open Go.World renaming cell?->Zc
open Go.IntKind renaming i64->Yo
open Go.Instr renaming lookup->Yu
open Go.Region renaming ready->YR,Mode->Y4
open Go.Ending renaming returned->YT
open UInt8 renaming ofNat->Y2
open Go.Obj renaming cells->Zq
open Go.Operand renaming tmp->Zt,const->Zu
namespace Go.Proofs.YtihhpjmclebfpaaGreatDoor
open Go Go.RowKit Go.Proofs.Tryz
section
variable {P:Zh} {ops:Array YO} {Q:Exit->Act->XO->Prop} {md:Y4} {S:XO->Prop} {N:Nat}
def LR(md:Y4)(ops:Array YO):Nat->Nat->Nat->Bool
 |0,_,_=>XQ
 |n+1,j,i=>iU md ops j i||(Yz ops.size).any λk=>iU md ops j k&&LR md ops n k i
def Jg(md:Y4)(ops:Array YO)(listed:Array Bool):Bool:=
 (Yz ops.size).all λj=> !listed.getD j XR||(Yz ops.size).all λi=> !iU md ops j i||listed.getD i XR
def Jh(md:Y4)(ops:Array YO)(listed:Array Bool):Prop:=∀j i,j<ops.size->i<ops.size->listed.getD j XR=XR->iU md ops j i=XR->listed.getD i XR=XR
def ds2{listed:Array Bool}(h:Jg md ops listed=XR):Jh md ops listed:=by intro j i A z C D;have c:=List.all_eq_true.1 h j (List.mem_range.2 A);simp only[C,Bool.not_true,Bool.false_or]at c;have y:=List.all_eq_true.1 c i (List.mem_range.2 z);simpa[D]using y
def ah1{listed:Array Bool}(y:Jh md ops listed):∀(n j i:Nat),i<ops.size->(∀k,k<ops.size->iU md ops j k=XR->listed.getD k XR=XR)->LR md ops n j i=XR->listed.getD i XR=XR
 |0,_,_,_,_,h=>by cases h
 |n+1,j,i,hi,hj,h=>by
  rw[LR,YX]at h;rcases h with h|h
  .exact hj i hi h
  .obtain⟨k,hk,h⟩:=List.any_eq_true.1 h;rw[XW]at h;have c:=List.mem_range.1 hk;exact ah1 y n k i hi (λq z A=>y k q c z (hj k c h.1) A) h.2
def ah2{listed:Array Bool}{j:Nat}(A:j∈YR md ops listed)(F:listed.size=ops.size):∀k,k<ops.size->iU md ops j k=XR->listed.getD k XR=true:=by
 intro k D C;obtain⟨hl,o,ho,lz⟩:=mem_ready.1 A;obtain⟨o',c,e,he,hb,rfl⟩:=WJ C;rw[ho]at c;injection c with c;subst c;have y:=lz e he hb;have z:e.on<listed.size:=Zv;simp[z]at y⊢
 exact y
def Jh.set{listed:Array Bool}{j:Nat}(D:Jh md ops listed)(F:j∈YR md ops listed)(G:listed.size=ops.size):Jh md ops (listed.setIfInBounds j XR):=by
 intro a i C y z A;by_cases e:i=j
 .subst e;exact WI
 .rw[getD_set_ne true (λh=>e h.symm)];by_cases c:a=j
  .subst c;exact ah2 F G i y A
  .rw[getD_set_ne XR (λh=>c h.symm)]at z;exact D a i C y z A
def FF(md:Y4)(ops:Array YO)(N i:Nat):Bool:=(Yz ops.size).all λj=>XN (j<N)||LR md ops ops.size j i
def ds3{i j:Nat}(h:FF md ops N i=XR)(hj:j<ops.size)(c:N<=j):LR md ops ops.size j i=true:=by exact ag7
def ds4{i:Nat}{y:YO}{v:XP}(hi:ops[i]?=XL y)(Ld:i<N)(I:∀(j:Nat)(o:YO)A b,ops[j]?=XL o->o.op≠ .select A b)(Y:FF md ops N i=XR)
 (hQ:∀c a w,Q (.panic c) (a.put y.dst v) w->Q (.panic c) a w):
 ∀(fuel:Nat)(listed:Array Bool)(a:Act)(w:World),listed.size=ops.size->Jh md ops listed->
  (∀j z,ops[j]?=XL z->j≠i->listed.getD j XR=XQ->(∀e∈z.after,Region.binds md e=XR->e.on≠i)->y.apart ops z=XR)->
  i∈YR md ops listed->YieldsIf P ops S y v a->S w->
  f' P md ops Q S N fuel (listed.setIfInBounds i XR) (a.put y.dst v) w->f' P md ops Q S N (fuel+1) listed a w:=by
 intro fuel;induction fuel with
 |zero=>intro listed a w C F _ hr hy hS H;exact ag8
 |succ fuel ih=>
  intro listed a w C F J hr hy hS H;refine⟨λh=>(by rw[h]at hr;cases hr),λj hj=>?_⟩;by_cases rd:j=i
  .subst rd;exact hy.wpOp hi hS ⟨λ_=>hS,H⟩
  .have h1:=H.2 j (ready_mono hj rd);obtain⟨Li,z,Ah,dx⟩:=mem_ready.1 hj;have U:∀e∈z.after,Region.binds md e=true->e.on≠i:=λe he hb heq=>by exact ag9
   have V:j<N:=by
    rcases Yt j N with h|h
    .exact h
    .have:=ah1 F _ j i (Array.getElem?_eq_some_iff.1 hi).1 (ah2 hj C) (ds3 Y (Array.getElem?_eq_some_iff.1 Ah).1 h);rw[(mem_ready.1 hr).1]at this;cases this
   have h2:=wpOp_putIf Ah (J j z Ah rd Li U) (λA b=>I i y A b hi) (λA b=>I j z A b Ah) hQ hy h1;have hfree':∀k ok,ops[k]?=XL ok->k≠i->(listed.setIfInBounds j XR).getD k XR=XQ->
    (∀e∈ok.after,Region.binds md e=XR->e.on≠i)->y.apart ops ok=true:=λk ok hk X G sA=>by
    refine J k ok hk X ?_ sA;by_cases O:j=k
    .subst O;exact Li
    .rw[getD_set_ne XR O]at G;exact G
   refine wpOp_mono (λZ w' D=>⟨D.2.1,ih (listed.setIfInBounds j XR) Z w' (by simp[C]) (F.set hj C) hfree' (ready_mono hr (Ne.symm rd)) D.1 (D.2.1 V) ?_⟩) h2;rw[Array.setIfInBounds_comm _ _ rd];exact D.2.2
def ds5{i:Nat}{y:YO}{v:XP}{fuel:Nat}{listed:Array Bool}{a:Act}{w:XO}(d:Option Tmp)(z:ops[i]?=XL y)(F:y.dst=d)(A:XN (i<N)=XR)
 (J:Region.noSelect ops=XR)(G:Region.free md ops listed i=XR)(I:(YR md ops listed).contains i=XR)(j:(FF md ops N i&&Jg md ops listed&&XN (listed.size=ops.size))=XR)
 (C:∀c a w,Q (.panic c) (a.put d v) w->Q (.panic c) a w)(O:YieldsIf P ops S y v a)(D:S w)
 (h:f' P md ops Q S N fuel (listed.setIfInBounds i XR) (a.put d v) w):f' P md ops Q S N (fuel+1) listed a w:=by
 subst F;simp only[XW,decide_eq_true_eq]at j;exact ds4 z (of_decide_eq_true A) (Region.noSelect_spec J) j.1.1 C fuel listed a w j.2 (ds2 j.1.2) (Region.free_spec z G) (by simpa using I) O D h
def hj1(m s:Nat){j:YO}{v:XP}{fuel:Nat}{listed:Array Bool}{a:Act}{w:XO}(hi:ops[m - (fuel+1)]?=XL j)(hk:(nW md ops listed (m - (fuel+1)) (s+(m - (fuel+1)))&&(XN (m - (fuel+1)<N)&&(FF md ops N (m - (fuel+1))&&Jg md ops listed&&XN (listed.size=ops.size))))=XR)
 (hQ:∀c a w,Q (.panic c) (a.put (XL (s+(m - (fuel+1)))) v) w->Q (.panic c) a w)(hy:YieldsIf P ops S j v a)(hS:S w)
 (h:f' P md ops Q S N fuel (listed.setIfInBounds (m - (fuel+1)) XR) (a.put (XL (s+(m - (fuel+1)))) v) w):f' P md ops Q S N (fuel+1) listed a w:=by
 exact ah3
def ds6(i t:Nat){j:YO}{v:XP}{fuel:Nat}{listed:Array Bool}{a:Act}{w:XO}(hi:ops[i]?=XL j)(hk:(nW md ops listed i t&&(XN (i<N)&&(FF md ops N i&&Jg md ops listed&&XN (listed.size=ops.size))))=XR)
 (hQ:∀c a w,Q (.panic c) (a.put (XL t) v) w->Q (.panic c) a w)(hy:YieldsIf P ops S j v a)(hS:S w)
 (h:f' P md ops Q S N fuel (listed.setIfInBounds i XR) (a.put (XL t) v) w):f' P md ops Q S N (fuel+1) listed a w:=by
 exact ah3
def nz(m s:Nat){j:YO}{v:XP}{fuel:Nat}{listed:Array Bool}{a:Act}{w:XO}{p:Prop}(h:p)(hS:S w:=by exact hS)
 (z:ops[m - (fuel+1)]?=XL j:=by rfl)(A:(nW md ops listed (m - (fuel+1)) (s+(m - (fuel+1)))&&(XN ((m - (fuel+1))<N)&&(FF md ops N (m - (fuel+1))&&Jg md ops listed&&XN (listed.size=ops.size))))=true:=by kernel_rfl)
 (y:∀c a w,Q (.panic c) (a.put (XL (s+(m - (fuel+1)))) v) w->Q (.panic c) a w:=by exact λ_ _ _ h=>h)(D:YieldsIf P ops S j v a:=by(refine Or.inl ⟨by rfl,?_⟩;intro w jF;(try have jF:=cU w jF);(try dsimp only at jF);go_simp;try with_reducible rfl))
 (C:p->f' P md ops Q S N fuel (listed.setIfInBounds (m - (fuel+1)) XR) (a.put (XL (s+(m - (fuel+1)))) v) w:=by(intro hq;simp only[Act.put,ug,ui,uh,Nat.reduceSub,Nat.reduceAdd];exact hq)):f' P md ops Q S N (fuel+1) listed a w:=
 hj1 m s z A y D hS (C h)
def jC(i t:Nat){j:YO}{v:XP}{fuel:Nat}{listed:Array Bool}{a:Act}{w:XO}{p:Prop}(h:p)(hS:S w:=by exact hS)
 (z:ops[i]?=XL j:=by rfl)(A:(nW md ops listed i t&&(XN (i<N)&&(FF md ops N i&&Jg md ops listed&&XN (listed.size=ops.size))))=true:=by kernel_rfl)
 (y:∀c a w,Q (.panic c) (a.put (XL t) v) w->Q (.panic c) a w:=by exact λ_ _ _ h=>h)(D:YieldsIf P ops S j v a:=by(refine Or.inl ⟨by rfl,?_⟩;intro w jF;(try have jF:=cU w jF);(try dsimp only at jF);go_simp;try with_reducible rfl))
 (C:p->f' P md ops Q S N fuel (listed.setIfInBounds i XR) (a.put (XL t) v) w:=by(intro hq;simp only[Act.put,ug,ui,uh];exact hq)):f' P md ops Q S N (fuel+1) listed a w:=
 ds6 i t z A y D hS (C h)
end
section
open Go.MapKept
def bh2(fn:Fn)(caps:Array XP)(w:XO):(Instr.buildSlice 232 1 #[(0,.func fn #[] caps)]).run X3 w= .ok (Zk (XL (w 0 XM)) 1 1) (w.alloc (Zq #[.func fn #[] caps] 234 (0,0))):=jM
def bh3(fn c:Fn)(caps caps':Array XP)(w:XO):(Instr.buildSlice 232 2 #[(0,.func fn #[] caps),(1,.func c #[] caps')]).run X3 w= .ok (Zk (XL (w 0 XM)) 2 2) (w.alloc (Zq #[.func fn #[] caps,.func c #[] caps'] 234 (0,0))):=jM
def vv.form{w:XO}{u:XP}{o:Option Nat}(h:vv w u o):∃fn caps,u= .func fn #[] caps:=by
 cases o with
 |none=>exact⟨_,_,h⟩
 |some k=>obtain⟨b,rfl,_⟩:=h;exact⟨_,_,rfl⟩
def kS.made1{w:XO}{B:Nat}{u:XP}{o:Option Nat}(j:B<=w)(h:vv w u o):kS (w.alloc (Zq #[u] 234 (0,0))) B (Zk (XL (w 0 XM)) 1 1) [o]:=
 ⟨[u],⟨rfl,.inr ⟨w.heap.size,1,#[u],rfl,j,cR w _,ar _,by simp[maxLen],rfl,rfl⟩⟩,λi y o' c ho=>by
   match i with
   |0=>simp at c ho;subst c ho;exact h.keep (vw.of_below (ak (am w) _))
   |i+1=>simp at c⟩
def kS.made2{w:XO}{B:Nat}{u j:XP}{o o':Option Nat}(A:B<=w)(h:vv w u o)(z:vv w j o'):kS (w.alloc (Zq #[u,j] 234 (0,0))) B (Zk (XL (w 0 XM)) 2 2) [o,o']:=
 ⟨[u,j],⟨rfl,.inr ⟨w.heap.size,2,#[u,j],rfl,A,cR w _,ar _,by simp[maxLen],rfl,rfl⟩⟩,λi x y c ho=>by
   match i with
   |0=>simp at c ho;subst c ho;exact h.keep (vw.of_below (ak (am w) _))
   |1=>simp at c ho;subst c ho;exact z.keep (vw.of_below (ak (am w) _))
   |i+2=>simp at c⟩
def yQ{a:Act}{s:Nat}{v:XP}(h:a.tmps[s]?=XL v):a.eval (Zt s)=v:=by simp[Act.eval,Array.getD_eq_getD_getElem?,h]
section
variable {Q:Exit->Act->XO->Prop} {ops:Array YO} {W0:XO} {B xb kd:Nat} {t0 t1 t2:XP} {ds:List Deferred} {i:Nat} {o:YO}
def wk(ops:Array YO)(i s:Nat):Bool:=(Yz 33).all λj=>XN (j=i)||iU .any ops j i|| !(Rd (wd j)).contains s
def bh4(ops:Array YO)(i k:Nat):Bool:=(Yz 33).all λj=>XN (j=i)||iU .any ops j i||Re k (wd j)
def ZL{s j:Nat}(h:wk ops i s=XR)(A:ops.size=33)(c:j≠i)(z:j<ops.size)(y:iU .any ops j i=XQ):(Rd (wd j)).contains s=false:=by have:=List.all_eq_true.1 h j (List.mem_range.2 Zv);simp only[y,decide_eq_false c,Bool.false_or,YZ]at this;exact this
def fi0{k j:Nat}(h:bh4 ops i k=XR)(A:ops.size=33)(c:j≠i)(z:j<ops.size)(y:iU .any ops j i=XQ):Re k (wd j)=true:=by have:=List.all_eq_true.1 h j (List.mem_range.2 Zv);simp only[y,decide_eq_false c,Bool.false_or]at this;exact this
def vy(Q:Exit->Act->XO->Prop)(ops:Array YO)(W0:XO)(B xb kd:Nat)(t0 t1 t2:XP)(ds:List Deferred)(i:Nat)(o:YO):Prop:=
 ∀a w,DJ W0 B xb kd t0 t1 t2 ds a w->(∀j,iU .any ops i j=true->YD B xb kd (wd j) a w)->
  wpOp X3 ops Q i (λa' w'=>DJ W0 B xb kd t0 t1 t2 ds a' w'/\YD B xb kd (wd i) a' w'/\∀j,j≠i->j<ops.size->iU .any ops j i=XQ->YD B xb kd (wd j) a w->YD B xb kd (wd j) a' w') a w
def bh5{s:Nat}{v:XP}{a:Act}{w w':XO}(ho:ops[i]?=XL o)(D:o.guard=XM)(C:o.dst=XL s)(J:wk ops i s=XR)(I:ops.size=33)(O:¬s=0/\¬s=1/\¬s=2/\¬s=4)(z:DJ W0 B xb kd t0 t1 t2 ds a w)
 (y:(Y7 a.eval o).run X3 w= .ok (.value v) w')(h:Below w w w')(A:YD B xb kd (wd i) (a.put (XL s) v) w'):
 wpOp X3 ops Q i (λc w'=>DJ W0 B xb kd t0 t1 t2 ds c w'/\YD B xb kd (wd i) c w'/\∀j,j≠i->j<ops.size->iU .any ops j i=XQ->YD B xb kd (wd j) a w->YD B xb kd (wd j) c w') a w:=by
 refine ag5 ho D y ?_;rw[C];exact⟨z.put h v O,A,λj F G U V=>V.other h v (ZL J I F G U)⟩
def fi1(ho:ops[i]?=XL o)(F:o.guard=XM)(D:o.dst=XL 4)(dO:o.op= .makeMap 281 XM)(y:wd i= .mk)(O:wk ops i 4=XR)(J:ops.size=33):vy Q ops W0 B xb kd t0 t1 t2 ds i o:=by intro a w hF V;have C:(Y7 a.eval o).run X3 w= .ok (.value (.map (XL w.heap.size))) (w.alloc (.map #[] 0)):=cf6;refine ag5 ho F C ?_;have A:=ak (am w) (.map #[] 0);rw[D,y];have z:=yO (a:=a) (s:=4) (.map (XL w.heap.size)) Hp;refine⟨⟨by simp[Act.put,hF.size],(DI _ aD).t hF.s0,(DI _ aD).t hF.s1,(DI _ aD).t hF.s2,hF.defers,aq hF.below A,hF.big,λM c=>?_⟩,⟨_,z⟩,λj G I y U=>U.other A _ (ZL O J G I y)⟩;rw[z]at c;injection c with c;injection c with c;injection c with c;subst c;exact⟨hF.below.size,_,dN.made ju w,λ_ _=>rfl⟩
def F0{s k:Nat}(ho:ops[i]?=XL o)(D:o.guard=XM)(C:o.dst=XL s)(z:o.op= .call {callee:= .value (.func 320),args:= #[Zu (ah k)],argTypes:= #[3]})(c:wd i= .ex s k)(J:wk ops i s=XR)(I:ops.size=33)
 (hs:s<37/\¬s=0/\¬s=1/\¬s=2/\¬s=4):vy Q ops W0 B xb kd t0 t1 t2 ds i o:=by
 intro a w hF X;have A:(Y7 a.eval o).run X3 w= .ok (.enter 320 #[k]) w:=by simp only[Y7,z];go_simp
 refine dv0 ho D A ?_;refine(ay5 k w).m ?_;rintro e w' ⟨b,rfl,V,U,y⟩;refine⟨_,rfl,?_⟩;rw[C,c];exact⟨hF.put y _ hs.2,⟨_,yO _ Kx,b,rfl,U⟩,λj F G c O=>O.other y _ (ZL J I F G c)⟩
def ZM{s k0 s0 j0:Nat}(ho:ops[i]?=XL o)(hg:o.guard=XM)(hd:o.dst=XL s)(y:o.op= .buildSlice 232 1 #[(0,Zt s0)])(A:wd i= .sl s [XL k0])(hp:wk ops i s=XR)(hn:ops.size=33)
 (hs:s<37/\¬s=0/\¬s=1/\¬s=2/\¬s=4)(z:iU .any ops i j0=XR)(D:wd j0= .ex s0 k0):vy Q ops W0 B xb kd t0 t1 t2 ds i o:=by
 intro a w hF C;have j:=C j0 z;rw[D]at j;obtain⟨u,hu,hv⟩:=j;obtain⟨fn,caps,rfl⟩:=hv.form;have fB:(Y7 a.eval o).run X3 w= .ok (.value (Zk (XL (w 0 XM)) 1 1)) (w.alloc (Zq #[.func fn #[] caps] 234 (0,0))):=by simp only[Y7,y,List.map_toArray,Yg,List.map_nil,yQ hu,Sem.run_bind,bh2,Result.andThen_ok,Sem.run_pure]
 refine Rf ?_;rw[A];exact⟨_,yO _ Kx,kS.made1 (bC hF.big hF.below.size) hv⟩
def bh6{s k0 k1 s0 s1 j0 j1:Nat}(ho:ops[i]?=XL o)(hg:o.guard=XM)(hd:o.dst=XL s)(A:o.op= .buildSlice 232 2 #[(0,Zt s0),(1,Zt s1)])(F:wd i= .sl s [XL k0,XL k1])(hp:wk ops i s=XR)(hn:ops.size=33)
 (hs:s<37/\¬s=0/\¬s=1/\¬s=2/\¬s=4)(C:iU .any ops i j0=XR)(G:wd j0= .ex s0 k0)(D:iU .any ops i j1=XR)(I:wd j1= .ex s1 k1):vy Q ops W0 B xb kd t0 t1 t2 ds i o:=by
 intro a w hF y;have j:=y j0 C;rw[G]at j;obtain⟨u,hu,hv⟩:=j;obtain⟨fn,caps,rfl⟩:=hv.form;have z:=y j1 D;rw[I]at z;obtain⟨u',Fy,oD⟩:=z;obtain⟨fn',caps',rfl⟩:=oD.form;have fB:(Y7 a.eval o).run X3 w= .ok (.value (Zk (XL (w 0 XM)) 2 2)) (w.alloc (Zq #[.func fn #[] caps,.func fn' #[] caps'] 234 (0,0))):=by simp only[Y7,A,List.map_toArray,Yg,List.map_nil,yQ hu,yQ Fy,Sem.run_bind,bh3,Result.andThen_ok,Sem.run_pure]
 refine Rf ?_;rw[F];exact⟨_,yO _ Kx,kS.made2 (bC hF.big hF.below.size) hv oD⟩
def Rg{s:Nat}(ho:ops[i]?=XL o)(hg:o.guard=XM)(hd:o.dst=XL s)(j:o.op= .buildSlice 232 1 #[(0,.func 321)])(y:wd i= .sl s [XM])(hp:wk ops i s=XR)(hn:ops.size=33)
 (hs:s<37/\¬s=0/\¬s=1/\¬s=2/\¬s=4):vy Q ops W0 B xb kd t0 t1 t2 ds i o:=by
 intro a w hF z;have fB:(Y7 a.eval o).run X3 w= .ok (.value (Zk (XL (w 0 XM)) 1 1)) (w.alloc (Zq #[.func (.func 321) #[] #[]] 234 (0,0))):=by simp only[Y7,j,List.map_toArray,Yg,List.map_nil,Act.eval,Sem.run_bind,bh2,Result.andThen_ok,Sem.run_pure]
 refine Rf ?_;rw[y];exact⟨_,yO _ Kx,kS.made1 (o:=XM) (bC hF.big hF.below.size) rfl⟩
def fi2{s:Nat}(ho:ops[i]?=XL o)(hg:o.guard=XM)(hd:o.dst=XL s)(j:o.op= .buildSlice 232 2 #[(0,.func 321),(1,.func 321)])(y:wd i= .sl s [XM,XM])(hp:wk ops i s=XR)(hn:ops.size=33)
 (hs:s<37/\¬s=0/\¬s=1/\¬s=2/\¬s=4):vy Q ops W0 B xb kd t0 t1 t2 ds i o:=by
 intro a w hF z;have fB:(Y7 a.eval o).run X3 w= .ok (.value (Zk (XL (w 0 XM)) 2 2)) (w.alloc (Zq #[.func (.func 321) #[] #[],.func (.func 321) #[] #[]] 234 (0,0))):=by simp only[Y7,j,List.map_toArray,Yg,List.map_nil,Act.eval,Sem.run_bind,bh3,Result.andThen_ok,Sem.run_pure]
 refine Rf ?_;rw[y];exact⟨_,yO _ Kx,kS.made2 (o:=XM) (o':=XM) (bC hF.big hF.below.size) rfl rfl⟩
def AZ{k s j0:Nat}{fs:List (Option Nat)}(ho:ops[i]?=XL o)(Y:o.guard=XM)(X:o.dst=XM)(J:o.op= .insert 281 (Zt 4) (Zu (ah k)) (Zt s))(A:wd i= .ins k s fs)(hp:bh4 ops i k=XR)(hn:ops.size=33)
 (hk:k∈FZ)(hm:iU .any ops i 0=XR)(U:iU .any ops i j0=XR)(pi:wd j0= .sl s fs):vy Q ops W0 B xb kd t0 t1 t2 ds i o:=by
 intro a w c G;have I:YD B xb kd .mk a w:=G 0 hm;obtain⟨M,hM⟩:=I;obtain⟨EX,f,hf,lX⟩:=c.map M hM;have C:=G j0 U;rw[pi]at C;obtain⟨v,hv,hW⟩:=C;obtain⟨ob,hr,bS⟩:=Qk (P:=X3) underlying281 XZ cJ hf (k:Int) v;have y:=IS w M ob;have O:(Y7 a.eval o).run X3 w= .ok .skip (ChangeMaps.setBlock w M ob):=by have ja:(Instr.mapUpdate 281 (.map (XL M)) (ah k) v).run X3 w= .ok () (ChangeMaps.setBlock w M ob):=hr;have V:a.eval (Zu (ah k))=ah k:=rfl;simp only[Y7,J,V,yQ hM,yQ hv,Sem.run_bind,ja,Result.andThen_ok,Sem.run_pure]
 refine du9 ho Y O ?_;rw[X,A];generalize ChangeMaps.setBlock w M ob=w' at bS y;have z:a.put XM YQ=a:=rfl;rw[z];refine⟨⟨c.size,c.s0,c.s1,c.s2,c.defers,y.1 _ _ c.below EX,c.big,λM' h=>?_⟩,⟨M,_,v,hM,bS,ew1 _ _ _,hW.keep (vw.of_turns hf y)⟩,λj Z hl A hy=>hy.stored hM hf bS y (fi0 hp hn Z hl A)⟩;rw[hM]at h;injection h with h;injection h with h;injection h with h;subst h;refine⟨EX,_,bS,λF D=>?_⟩
 rw[bc3 _ _ (λe=>by have:F=k:=by omega
                    exact D (this▸hk))]
 exact lX F D
def MK:List (Nat×Nat×Nat):=[(2,4,7),(3,7,9),(4,11,12),(8,14,14),(10,17,16),(11,19,17),(12,21,18),(16,23,19),(13,25,20),(14,27,21)]
def fi3:∀p∈MK,wd p.2.1= .ins p.1 p.2.2 (gE p.1):=by intro p c;simp only[MK,Ys,Yq,or_false]at c;rcases c with rfl|rfl|rfl|rfl|rfl|rfl|rfl|rfl|rfl|rfl<;>rfl
def fi4{k:Nat}(h:k∈FZ):∃p∈MK,p.1=k:=by simp only[FZ,Ys,Yq,or_false]at h;rcases h with rfl|rfl|rfl|rfl|rfl|rfl|rfl|rfl|rfl|rfl<;>simp[MK]
def fi5{k:Nat}(h:k∉FZ):gE k=[]:=by simp only[FZ,Ys,Yq,or_false,not_or]at h;unfold gE;repeat rw[if_neg Zv]
def fi6(ho:ops[i]?=XL o)(hg:o.guard=XM)(hd:o.dst=XL 22)(D:o.op= .move (Zt 4))(F:wd i= .mv)(hp:wk ops i 22=XR)(hn:ops.size=33)
 (j:((MK.all λp=>iU .any ops i p.2.1)&&iU .any ops i 0)=XR):vy Q ops W0 B xb kd t0 t1 t2 ds i o:=by
 intro a w hF A;simp only[XW,Yn]at j;have C:YD B xb kd .mk a w:=A 0 j.2;obtain⟨M,hM⟩:=C;obtain⟨EX,f,hf,lX⟩:=hF.map M hM;have fB:(Y7 a.eval o).run X3 w= .ok (.value (.map (XL M))) w:=by simp only[Y7,D,yQ hM,Sem.run_pure]
 refine ML ?_;rw[F];refine⟨M,f,yO _ Hp,hf,?_⟩;by_cases y:kd∈FZ
 .obtain⟨p,cv4,rfl⟩:=fi4 y;have z:=A p.2.1 (j.1 p cv4);rw[fi3 p cv4]at z;obtain⟨M',g,v,c,h2,h3,h4⟩:=z;rw[hM]at c;injection c with c;injection c with c;injection c with c;subst c;rw[hf.uniq h2,h3];exact h4
 .rw[lX kd y,fi5 y];exact kS.nil_ _ _
def fi7(ho:ops[i]?=XL o)(hg:o.guard=XM)(hd:o.dst=XL 23)(y:o.op= .fieldAddr 100 (Zt 1) 0)(z:wd i= .fa)(hp:wk ops i 23=XR)(hn:ops.size=33)(c:t1=Zs (XL xb)):vy Q ops W0 B xb kd t0 t1 t2 ds i o:=by
 intro a w hF A;have j:=hF.s1;rw[c]at j;have fB:(Y7 a.eval o).run X3 w= .ok (.value (Zs (XL xb))) w:=by simp only[Y7,y,yQ j];go_simp
 refine ML ?_;rw[z];exact yO _ Hp
def fi8(ho:ops[i]?=XL o)(hg:o.guard=XM)(hd:o.dst=XL 24)(c:o.op= .load 3 (Zt 23))(z:wd i= .ld)(hp:wk ops i 24=XR)(hn:ops.size=33)(j:iU .any ops i 29=XR)
 (F:xb<W0)(C:ae W0 xb (ah kd)):vy Q ops W0 B xb kd t0 t1 t2 ds i o:=by
 intro a w hF A;have y:a.tmps[23]?=XL (Zs (XL xb)):=A 29 j;have D:=kc hF.below C;have fB:(Y7 a.eval o).run X3 w= .ok (.value (ah kd)) w:=by simp only[Y7,c,yQ y];go_simp
 refine ML ?_;rw[z];exact yO _ Hp
def fd7(ho:ops[i]?=XL o)(hg:o.guard=XM)(hd:o.dst=XL 25)(y:o.op= .lookup 281 (Zt 22) (Zt 24) XQ)(D:wd i= .lk)(hp:wk ops i 25=XR)(hn:ops.size=33)
 (z:iU .any ops i 28=XR)(A:iU .any ops i 30=XR):vy Q ops W0 B xb kd t0 t1 t2 ds i o:=by
 intro a w hF j;obtain⟨M,f,hM,hf,hW⟩:YD B xb kd .mv a w:=j 28 z;have C:a.tmps[24]?=XL (ah kd):=j 30 A;have c:=sU (P:=X3) underlying281 XZ cJ hf (kd:Int) XQ (zeroValue232 _);simp only[Yh,if_false]at c;have fB:(Y7 a.eval o).run X3 w= .ok (.value ((f (kd:Int)).getD (Zk XM 0 0))) w:=by have F:(Yu 281 (.map (XL M)) (ah kd) XQ).run X3 w= .ok ((f (kd:Int)).getD (Zk XM 0 0)) w:=c;simp only[Y7,y,yQ hM,yQ C,Sem.run_bind,F,Result.andThen_ok,Sem.run_pure]
 refine ML ?_;rw[D];exact⟨_,yO _ Hp,hW⟩
def fd8(ho:ops[i]?=XL o)(hg:o.guard=XM)(hd:o.dst=XL 3)(c:o.op= .assign (Zt 25))(y:wd i= .as_)(hp:wk ops i 3=XR)(hn:ops.size=33)(j:iU .any ops i 31=XR):vy Q ops W0 B xb kd t0 t1 t2 ds i o:=by
 intro a w hF z;obtain⟨v,hv,hW⟩:YD B xb kd .lk a w:=z 31 j;have fB:(Y7 a.eval o).run X3 w= .ok (.value v) w:=by simp only[Y7,c,yQ hv,Sem.run_pure]
 refine ML ?_;rw[y];exact⟨_,yO _ Hp,hW⟩
end
def ZN(S:Nat->YO->Prop):Nat->List YO->Prop
 |_,[]=>True
 |i,o::r=>S i o/\ZN S (i+1) r
def bh7{S:Nat->YO->Prop}:∀(l:List YO)(n:Nat),ZN S n l->∀(j:Nat)o,l[j]?=XL o->S (n+j) o
 |[],_,_,j,o,h=>by simp at h
 |x::r,n,h,0,o,ho=>by simp at ho;subst ho;exact h.1
 |x::r,n,h,j+1,o,ho=>by have:=bh7 r (n+1) h.2 j o (by simpa using ho);rw[show n+(j+1)=n+1+j by omega];exact this
def fd9{xs:Array XP}(h:xs.size=37):∃u0 u1 u2 u3 u4 u5 u6 u7 u8 u9 u10 u11 u12 u13 u14 u15 u16 u17 u18 u19 u20 u21 u22 u23 u24 u25 u26 u27 u28 u29 u30 u31 u32 u33 u34 u35 u36,xs=List.toArray (u0::u1::u2::u3::u4::u5::u6::u7::u8::u9::u10::u11::u12::u13::u14::u15::u16::u17::u18::u19::u20::u21::u22::u23::u24::u25::u26::u27::u28::u29::u30::u31::u32::u33::u34::u35::u36::[]):=by
 obtain⟨l⟩:=xs
 match l,h with
 |u0::u1::u2::u3::u4::u5::u6::u7::u8::u9::u10::u11::u12::u13::u14::u15::u16::u17::u18::u19::u20::u21::u22::u23::u24::u25::u26::u27::u28::u29::u30::u31::u32::u33::u34::u35::u36::[],_=>exact⟨u0,u1,u2,u3,u4,u5,u6,u7,u8,u9,u10,u11,u12,u13,u14,u15,u16,u17,u18,u19,u20,u21,u22,u23,u24,u25,u26,u27,u28,u29,u30,u31,u32,u33,u34,u35,u36,rfl⟩
def fe0{Q:Exit->Act->XO->Prop}{W0:XO}{B xb kd:Nat}{t0 t1 t2:XP}{ds:List Deferred}(ops:Array YO)(h:ZN (vy Q ops W0 B xb kd t0 t1 t2 ds) 0 ops.toList):∀i o,ops[i]?=XL o->vy Q ops W0 B xb kd t0 t1 t2 ds i o:=λi o ho=>by
 have:=bh7 _ 0 h i o (by rw[Array.getElem?_toList];exact ho)
 rwa [Y9]at this
def ZO(v:XP):Nat:=match v with|Zk _ n _=>n|_=>0
def kS.form{w:XO}{B:Nat}{v:XP}{fs:List (Option Nat)}(h:kS w B v fs):∃A c,v=Zk A fs.length c:=by
 obtain⟨us,z,_⟩:=h;rcases z.2 with⟨rfl,y⟩|⟨g,cap,j,rfl,_⟩
 .exact⟨XM,0,by rw[y]⟩
 .exact⟨_,_,rfl⟩
def kS.grown{W w':XO}{B n:Nat}{v v' C:XP}{us:List XP}{fs:List (Option Nat)}{o:Option Nat}(F:W.ownsRow B 234 1 v n us)(J:fs.length=n)(U:∀(i:Nat)u o,us[i]?=XL u->fs[i]?=XL o->vv W u o)
 (Y:w'.ownsRow B 234 1 v' (n+1) (us++[C]))(X:W.grownBy w' v.ownBlock)(V:vv W C o):kS w' B v' (fs++[o]):=by
 have z:∀u o,vv W u o->vv w' u o:=by
  intro u o h;cases o with
  |none=>exact h
  |some k=>
   obtain⟨b,rfl,c⟩:=h;refine⟨b,rfl,jD c X (λj I e=>?_)⟩;subst e;rcases F.2 with⟨rfl,_⟩|⟨g,cap,O,rfl,_,Z,_⟩
   .simp[YC]at I
   .have:g=b:=by simpa[Value.ownBlock]using I
    subst this;rw[Z]at c;injection c with c;injection c with _ c _;revert c;decide
 have D:us.length=fs.length:=by rw[F.1,J,Nat.mul_one]
 refine⟨us++[C],by rw[X0,J];exact Y,λi u o' y ho=>?_⟩;rcases Yt i us.length with A|A
 .rw[YN A]at y;rw[YN (by rw[<-D];exact A)]at ho;exact z _ _ (U i u o' y ho)
 .rw[List.getElem?_append_right A]at y;rw[List.getElem?_append_right (by rw[<-D];exact A)]at ho;have G:i - us.length=0:=by have:=(List.getElem?_eq_some_iff.1 y).1;simp at this;omega
  rw[G]at y;rw[<-D,G]at ho;simp at y ho;subst y ho;exact z _ _ V
def fe1{w:XO}{B:Nat}{e:Ya}{size:Nat}{v:XP}{n:Nat}{xs:List XP}(h:w.ownsRow B e size v n xs):ZO v=n:=by
 rcases h.2 with⟨rfl,j⟩|⟨g,cap,c,rfl,_⟩
 .exact j.symm
 .rfl
def fe2(w:XO):X4 X3 320 #[ah 3] w λe w'=>∃b,e=YT (.func (.func 352) #[] #[az b])/\w.heap.size<=b/\af w' b #[ah 3] 3/\Below w w w':=ay5 3 w
def fe3(d:aG)(rv nv:XP)(w:XO)(fR:bg w w rv d.refs)(hl:d.refs.length<=100000)(BO:(gE d.kind).length<=d.refs.length):
 X4 X3 208 #[Zr #[d.kind,bs d.name,rv,nv,d.by_,Zp d.always]] w λe w'=>∃v,e=YT v/\kS w' w v (Rc d)/\Below w w w':=by
 obtain⟨RA,rn,rc,rfl,dz,_,_⟩:=fR.sk.form;obtain⟨i0,hi,cA,a_,bd⟩:=Y0 (show(Tryz.prog.info? 234).map (λi=>(i.zero,i.size,i.bytes))=XL (XL .nilFunc,1,8)by kernel_rfl);go_enter func208,ntmps208;go_upto_region 1 with(fail)
 refine df ?_;intro j ⟨V,I⟩;have ij:=blk_lt I;have pj:=ag (o:=0) I rfl;have ev:=ag (o:=2) I rfl;have X:w.heap.size<=j:=V.size;have ba:=aj V;have nq:=aj ev;have J:=aj dz;have Z:=aj BO;clear V I fR dz BO;refine du8 (DJ j j w d.kind (Zr #[d.kind,bs d.name,Zk RA rn rc,nv,d.by_,Zp d.always]) (Zs (XL w)) (Zk XM 0 0) []) (λi a w'=>YD j w d.kind (wd i) a w') aI aI ?_ (fe0 _ ?_) ?_
 .exact⟨rfl,rfl,rfl,rfl,rfl,aW (am j),ar _,λM hM=>by cases hM⟩
 .refine XU (fi1 aI rfl rfl rfl rfl aI rfl) ?_;refine XU (F0 (s:=5) (k:=0) aI rfl rfl rfl rfl aI rfl aD) ?_;refine XU (F0 (s:=6) (k:=1) aI rfl rfl rfl rfl aI rfl aD) ?_;refine XU (bh6 (s:=7) (k0:=0) (k1:=1) (s0:=5) (s1:=6) (j0:=1) (j1:=2) aI rfl rfl rfl rfl aI rfl aD aI rfl aI rfl) ?_;refine XU (AZ (k:=2) (s:=7) (fs:=[XL 0,XL 1]) (j0:=3) aI rfl rfl rfl rfl aI rfl aD aI g_ rfl) ?_;refine XU (F0 (s:=8) (k:=2) g_ rfl rfl rfl rfl g_ rfl aD) ?_;refine XU (ZM (s:=9) (k0:=2) (s0:=8) (j0:=5) g_ rfl rfl rfl rfl g_ rfl aD g_ rfl) ?_;refine XU (AZ (k:=3) (s:=9) (fs:=[XL 2]) (j0:=6) g_ rfl rfl rfl rfl g_ rfl aD g_ g_ rfl) ?_;refine XU (F0 (s:=10) (k:=0) g_ rfl rfl rfl rfl g_ rfl aD) ?_;refine XU (F0 (s:=11) (k:=0) g_ rfl rfl rfl rfl g_ rfl aD) ?_;refine XU (bh6 (s:=12) (k0:=0) (k1:=0) (s0:=10) (s1:=11) (j0:=8) (j1:=9) g_ rfl rfl rfl rfl g_ rfl aD g_ rfl g_ rfl) ?_;refine XU (AZ (k:=4) (s:=12) (fs:=[XL 0,XL 0]) (j0:=10) g_ rfl rfl rfl rfl g_ rfl aD g_ g_ rfl) ?_;refine XU (F0 (s:=13) (k:=0) g_ rfl rfl rfl rfl g_ rfl aD) ?_;refine XU (ZM (s:=14) (k0:=0) (s0:=13) (j0:=12) g_ rfl rfl rfl rfl g_ rfl aD g_ rfl) ?_;refine XU (AZ (k:=8) (s:=14) (fs:=[XL 0]) (j0:=13) g_ rfl rfl rfl rfl g_ rfl aD g_ g_ rfl) ?_;refine XU (F0 (s:=15) (k:=5) g_ rfl rfl rfl rfl g_ rfl aD) ?_;refine XU (ZM (s:=16) (k0:=5) (s0:=15) (j0:=15) g_ rfl rfl rfl rfl g_ rfl aD g_ rfl) ?_;refine XU (AZ (k:=10) (s:=16) (fs:=[XL 5]) (j0:=16) g_ rfl rfl rfl rfl g_ rfl aD g_ g_ rfl) ?_;refine XU (Rg (s:=17) hZ rfl rfl rfl rfl hZ rfl aD) ?_;refine XU (AZ (k:=11) (s:=17) (fs:=[XM]) (j0:=18) hZ rfl rfl rfl rfl hZ rfl aD hZ hZ rfl) ?_;refine XU (Rg (s:=18) hZ rfl rfl rfl rfl hZ rfl aD) ?_;refine XU (AZ (k:=12) (s:=18) (fs:=[XM]) (j0:=20) hZ rfl rfl rfl rfl hZ rfl aD hZ hZ rfl) ?_;refine XU (Rg (s:=19) hZ rfl rfl rfl rfl hZ rfl aD) ?_;refine XU (AZ (k:=16) (s:=19) (fs:=[XM]) (j0:=22) hZ rfl rfl rfl rfl hZ rfl aD hZ hZ rfl) ?_;refine XU (Rg (s:=20) hZ rfl rfl rfl rfl hZ rfl aD) ?_;refine XU (AZ (k:=13) (s:=20) (fs:=[XM]) (j0:=24) hZ rfl rfl rfl rfl hZ rfl aD hZ hZ rfl) ?_;refine XU (fi2 (s:=21) hZ rfl rfl rfl rfl hZ rfl aD) ?_;refine XU (AZ (k:=14) (s:=21) (fs:=[XM,XM]) (j0:=26) hZ rfl rfl rfl rfl hZ rfl aD hZ hZ rfl) ?_;refine XU (fi6 hZ rfl rfl rfl rfl hZ rfl hZ) ?_;refine XU (fi7 hZ rfl rfl rfl rfl hZ rfl rfl) ?_;refine XU (fi8 hZ rfl rfl rfl rfl hZ rfl hZ ij pj) ?_;refine XU (fd7 hZ rfl rfl rfl rfl hZ rfl (by kernel_rfl) (by kernel_rfl)) ?_;refine XU (fd8 (by kernel_rfl) rfl rfl rfl rfl (by kernel_rfl) rfl (by kernel_rfl)) ?_;exact trivial
 intro a W2 hF hY;obtain⟨v,hv,hW⟩:YD j w d.kind .as_ a W2:=hY 32 aD;obtain⟨s1,s2,s3,s4,s5,aZ,_,_⟩:=hF;obtain⟨tm,dl⟩:=a;obtain⟨u0,u1,u2,u3,u4,u5,u6,u7,u8,u9,u10,u11,u12,u13,u14,u15,u16,u17,u18,u19,u20,u21,u22,u23,u24,u25,u26,u27,u28,u29,u30,u31,u32,u33,u34,u35,u36,rfl⟩:=fd9 s1;simp only[List.getElem?_toArray,List.getElem?_cons_zero,List.getElem?_cons_succ,Option.some.injEq]at s2 s3 s4 hv;dsimp only at s5;subst s2 s3 s4 s5 hv;have aX:=aj aZ;have HW:=aj hW;clear hY aZ hW;obtain⟨F,Uu⟩:∃F,(gE d.kind).length=F:=⟨_,rfl⟩;have C:=aj Uu;have de1:Hid (F<=rn):=by show F<=rn;rw[<-Uu,<-J.o];exact Z
 rw[J.o]at hl;clear Uu;go_wp2_with fail
 go_loopw [3] (λv wr=>∃k:Nat,F+k<=rn/\kS wr j v (gE d.kind++List.replicate k (XL 3))/\Below j j wr) (λv _=>rn - ZO v)
 case atStart=>exact⟨0,by have:=de1.o;omega,by simpa using HW.o,aX⟩
 case round=>
  obtain⟨k,hk,co4,lU⟩:=hrel;obtain⟨A,c,rfl⟩:=co4.form;have U:(gE d.kind++List.replicate k (XL 3)).length=F+k:=by rw[X0,C.o,List.length_replicate]
  have hy7:aa wr w 2 (Zk RA rn rc):=(lU.cell (p:=w 2 XM) ij).t nq.o;obtain⟨us,bD,dx⟩:=co4;rw[U]at bD⊢
  have G:=aj bD;have z:=aj dx;have uq:=aj U;have iA:=aj lU;have hf1:=lU.size;clear bD dx U lU;by_cases ap:F+k<rn
  .have hI:((F+k:Nat):Int)<rn:=by omega
   go_wp2_with first
    |(go_at_call 320;refine(fe2 _).m ?_;rintro e w3 ⟨b,rfl,fL,jG,aM⟩;have Y:=aj jG;have y:=aj aM;clear jG aM;simp only[az])
    |(at_builtin;go_loud (refine wpList_append_own _ rfl (.tmp 32) (.tmp 34) _ rfl j.heap.size 234 i0 _ 1 8 underlying232 hi cA a_ bd rfl (by decide) _ (F+k) us rfl ((eI G y).alloc _) ⟨w3,0,none⟩ 1 1 [.func (.func 352) #[] #[.pointer (some ⟨b,0,none⟩)]] rfl rfl (pA rfl) (by simp[Value.oneCell']) (by simp[maxLen];omega) (by omega) (by have:=y.size;simp;omega) ?_)
      intro v' w4 ii O _;have D:=aj ii;have HG:=aj O;have bW:=aj (AI ((eI G y).alloc (Zq #[.func (.func 352) #[] #[Zs (XL b)]] 234)) (ak (aq iA y) _) (ar _) O);clear ii O)
   refine⟨⟨k+1,by omega,?_,bW⟩,by have:=fe1 D.o;show rn - ZO v'<rn - (F+k);omega⟩;have h:=kS.grown (fs:=gE d.kind++List.replicate k (XL 3)) (o:=XL 3) ((eI G y).alloc _) uq (λi u o hu ho=>(z i u o hu ho).keep (vw.of_below (ak y _))) D HG ⟨b,rfl,ai Y (ak (am w3) _)⟩;rw[Yi,<-List.replicate_succ']at h;exact h
  .have hI:¬((F+k:Nat):Int)<rn:=by omega
   go_wp2_with fail
   go_ret;refine⟨_,rfl,?_,aq ba iA⟩;have gz4:k=rn - F:=Zv;have h:kS wr w (Zk A (F+k) c) (gE d.kind++List.replicate k (XL 3)):=⟨us,by rw[uq.o];exact⟨G.1,G.2.imp id λ⟨g,cap,cur,e1,hb,yJ⟩=>⟨g,cap,cur,e1,bC X hb,yJ⟩⟩,z⟩;rw[ZK,J.o,C.o,<-gz4];exact h
def ji(m:aU)(l:List Int):List ay:=l.map (fw (m.machs.map (·.name)))
def be7{m:aU}{l:List Int}{k:Nat}{n:Int}{y:rq}(h:l[k]?=XL n)(c:m.machs[(n - 1).toNat]?=XL y):ji m (l.take (k+1))=ji m (l.take k)++[y.name]:=by
 unfold ji;rw[YE,h,Yp];have e:fw (m.machs.map (·.name)) n=y.name:=by unfold fw;rw[X9,X5,c];rfl
 rw[<-e];rfl
def yR{w:XO}{base e:Nat}{size:Nat}{v:XP}{n:Nat}{xs:List XP}(h:w.ownsRow base e size v n xs){b:Nat}{C:Array XP}{t:Ya}{f:Nat×Nat}(hb:w.heap[b]?=XL (Zq C t f))(ht:¬t=e):∀k,v.ownBlock=XL k->¬b=k:=λk hk e'=>by exact bb2
def Js{w w':XO}{base:Nat}{v:XP}{n:Nat}{xs:List XP}{B e:Nat}{u:XP}{m:Nat}{ys:List XP}(ho:w.ownsRow base 100 6 v n xs)(D:w.grownBy w' v.ownBlock)(j:w.ownsRow B e 1 u m ys)(C:¬e=100):w'.ownsRow B e 1 u m ys:=by refine⟨j.1,j.2.imp id ?_⟩;rintro⟨g,cap,c,y,z,h,A⟩;exact⟨g,cap,c,y,z,jD h D (yR ho h C),A⟩
def be8{w:XO}{base e:Nat}{size:Nat}{v:XP}{n:Nat}{xs:List XP}{ob o:Nat}{u:XP}(h:w.ownsRow base e size v n xs)(c:∀k,v.ownBlock=XL k->¬ob=k):(w.setCell (ob o XM) u).ownsRow base e size v n xs:=
 ⟨h.1,h.2.imp id λ⟨g,cap,cur,e1,hb,hg,hr⟩=>⟨g,cap,cur,e1,hb,mT hg (λj=>c g (by rw[e1];rfl) j.symm),hr⟩⟩
def ZR:(Tryz.prog.info? 100).map (λi=>(i.zero,i.size,i.bytes))=XL (XL (Zr #[ah 0,X2 ⟨#[]⟩,Zk XM 0 0,Zk XM 0 0,ah 0,Zp XQ]),6,88):=aI
def tT{w:XO}{B B':Nat}{e:Ya}{size:Nat}{v:XP}{n:Nat}{xs:List XP}(h:w.ownsRow B e size v n xs)(j:B'<=B):w.ownsRow B' e size v n xs:=
 ⟨h.1,h.2.imp id λ⟨g,cap,cur,e1,hb,yJ⟩=>⟨g,cap,cur,e1,bC j hb,yJ⟩⟩
def rK(m:aU)(l:List Int):List ay:=(l.filter λn=>XN (0<n)).map (nU m)
def fn1(m:aU){l:List Int}{k:Nat}{n:Int}(h:l[k]?=XL n):rK m (l.take (k+1))=rK m (l.take k)++(if 0<n then[nU m n]else[]):=by rw[YE,h];unfold rK;rw[List.filter_append,Yp];by_cases c:0<n<;>simp[c]
def be9(m:aU)(x:cF):(ch m x).refs=rK m [x.item,x.other]++ji m x.ms:=by unfold ch rK ji nU;by_cases c:0<x.item<;>by_cases h:0<x.other<;>simp[c,h]
def Rh(k:Int):Bool:=XN (k∈([1,2,5,6]:List Int))
def ZS(m:aU)(x:cF):(ch m x).nums=if Rh x.kind then[x.n.toNat]else[]:=by
 unfold ch Rh;by_cases h:x.kind=1\/x.kind=2\/x.kind=5\/x.kind=6
 .have:x.kind∈([1,2,5,6]:List Int):=by simpa using h
  simp only[h,this,if_true,decide_true]
 .have:¬x.kind∈([1,2,5,6]:List Int):=by simpa using h
  simp only[h,this,if_false,decide_false,Yh]
def ZT{m:aU}{x:cF}(h:qr m x):(0<=x.kind/\x.kind<=6)/\(0<=x.item/\x.item<=m.items.length)/\(0<=x.other/\x.other<=m.items.length)/\(0<=x.n/\x.n<=200)/\(0<=x.by_/\x.by_<=4)/\(∀n∈x.ms,1<=n/\n<=m.machs.length)/\(x.ms.length<=m.machs.length):=by
 have ge {i:Int} (h:aF i m.items.length=XR):0<=i/\i<=m.items.length:=by have:=jh.1 h;omega
 cases h with
 |quorum i c j=>exact⟨by simp,ge c,by simp,by simp,by simp,by simp,by simp⟩
 |keep i n a c j h3=>exact⟨by simp,ge c,by simp,⟨j,(by show n<=200;omega)⟩,by simp,by simp,by simp⟩
 |spread i n b c j h3 h4 h5=>exact⟨by simp,ge c,by simp,⟨j,(by show n<=200;omega)⟩,⟨(by show(0:Int)<=b;omega),h5⟩,by simp,by simp⟩
 |only i l c j=>exact⟨by simp,ge c,by simp,by simp,by simp,λn y=>jh.1 ((Cj j).2.2.1 n y),Mg j⟩
 |order i o c j h3=>exact⟨by simp,ge c,ge j,by simp,by simp,by simp,by simp⟩
 |disturb n c j=>exact⟨by simp,by simp,by simp,⟨c,j⟩,by simp,by simp,by simp⟩
 |silence i n c j h3=>exact⟨by simp,ge c,by simp,⟨j,(by show n<=200;omega)⟩,by simp,by simp,by simp⟩
def bf0(w:XO)(A B C:Array XP)(a b c:Ya):Below w w (((w.alloc (Zq A a)).alloc (Zq B b)).alloc (Zq C c))/\(((w.alloc (Zq A a)).alloc (Zq B b)).alloc (Zq C c)).heap[w.heap.size]?=XL (Zq A a (0,0))/\(((w.alloc (Zq A a)).alloc (Zq B b)).alloc (Zq C c)).heap[w.heap.size+1]?=XL (Zq B b (0,0))/\(((w.alloc (Zq A a)).alloc (Zq B b)).alloc (Zq C c)).heap[w.heap.size+2]?=XL (Zq C c (0,0)):=by refine⟨ak (ak (ak (am w) _) _) _,ai (tR w A B a b).1 (ak (am _) _),ai (tR w A B a b).2 (ak (am _) _),?_⟩;have h:=cR ((w.alloc (Zq A a)).alloc (Zq B b)) (Zq C c);simpa using h
def ZU(w:XO)(d:aG)(e:Zb)(w':XO):Prop:=
 ∃rv nv,e=YT (Zr #[d.kind,bs d.name,rv,nv,d.by_,Zp d.always])/\w'.ownsRow w 9 1 rv d.refs.length (d.refs.map λs=>X2 (bs s))/\w'.ownsRow w 3 1 nv d.nums.length (d.nums.map fun(k:Nat)=>X1 .i64 k)/\Below w w w'
def Ri{w:XO}{B:Nat}{v:XP}{a b:List ay}(h:bR w B v (a.map bs++b.map bs)):w.ownsRow B 9 1 v (a++b).length ((a++b).map λs=>X2 (bs s)):=by unfold bR at h;rw[<-Yp,XY,YM]at h;exact h
def fn2{w:XO}{b:Nat}{t:Ya}{I O n:Int}{k:Nat}(h:af w b #[I,O] t)(c:[I,O][k]?=XL n):aa w b k (ah n):=by
 match k,c with
 |0,c=>injection c with c;subst c;exact ag h rfl
 |1,c=>injection c with c;subst c;exact ag h rfl
 |k+2,c=>simp at c
def vz{α:Type}{f:α->aG}{l:List α}{k:Nat}{x:α}(pre:List aG)(h:l[k]?=XL x):pre++(l.take (k+1)).map f=pre++(l.take k).map f++[f x]:=by rw[YE,h,Yp,<-Yi];rfl
def vB{α:Type}{f:α->aG}{l:List α}{k:Nat}(pre:List aG)(h:l.length<=k):pre++(l.take k).map f=pre++l.map f:=by rw[Ye h]
def mA(w:XO)(c:Array XP)(n g base:Nat)(t:Ya)(j:g=w)(h:base<=g)(hm:n<=Yd)(y:c.size=n*1):(w.alloc (Zq c t)).ownsRow base t 1 (Zk (XL (g 0 XM)) n n) n c.toList:=by subst j;exact World.ownsRow_lit w c n h hm y
def bf1{w:XO}{b:Nat}{C:Array XP}{t:Ya}(h:af w b C t):∀(j:Nat)u,C.toList[j]?=XL u->w.cell? (((b 0 XM):Zf).add j)=XL u:=λj u c=>by
 have y:∀(j:Nat)u,C.toList[j]?=XL u->w.cell? ⟨b,0+j,XM⟩=XL u:=λj u c=>ag h (by rw[Y9];simpa using c);unfold Addr.add;split
 .rename_i e;have:j=0:=by simpa using e
  subst this;exact y 0 u c
 .exact y j u c
def ZV{w:XO}{B:Nat}{v:XP}{a:List ay}(h:bR w B v (a.map bs)):w.ownsRow B 9 1 v a.length (a.map λs=>X2 (bs s)):=by unfold bR at h;rw[XY,YM]at h;exact h
def fn3{m:aU}{x:cF}(h:qr m x):(ch m x).kind<=1000000/\(ch m x).by_<=1000000/\∀k∈(ch m x).nums,k<=2000000:=by
 obtain⟨⟨k0,k6⟩,_,_,⟨n0,n8⟩,⟨y0,y4⟩,_,_⟩:=ZT h;refine⟨by unfold ch;simp only;omega,by unfold ch;simp only;omega,λk c=>?_⟩;rw[ZS]at c;split at c
 .rw[List.mem_singleton.1 c];omega
 .cases c
def bf2{l:List nC}{j:Nat}{x:nC}(h:l[j]?=XL x):(l.map (·.name))[j]?=XL x.name:=by rw[X5,h];rfl
def ZW{m:aU}{x:fq}(h:dV m x=XR):0<=x.count/\x.count<=8:=by
 unfold dV at h;simp only[XW]at h;have c:=h.1.1.1.1;split at c
 .simp only[XW,YX,decide_eq_true_eq]at c;omega
 .split at c
  .have:=xF.1 c;omega
  .split at c
   .simp only[XW,decide_eq_true_eq]at c;omega
   .cases c
def xK{l:List ay}{j:Nat}{x:ay}(h:l[j]?=XL x):fw l ((j:Int)+1)=x:=by unfold fw;rw[show((j:Int)+1 - 1).toNat=j by omega,X9,h];rfl
def bf3{s:ay}(h:bI s=XR):s.length<=31:=by unfold bI at h;simp only[XW,decide_eq_true_eq]at h;exact h.1.1.1.2
def F3{d:aG}(h:bK d=XR):(∀x∈d.refs,x.length<=31)/\(∀x∈d.nums,x<=1048576)/\d.name.length<=31/\kf d=true:=by
 have y:=(mX h).1;unfold bK at h;simp only[XW,Yn,decide_eq_true_eq]at h;refine⟨λx hx=>bf3 (h.1.2 x hx),h.2,?_,h.1.1⟩;have j:=h.1.1;rw[Qi d d.kind Zv rfl]at j;simp only[XW]at j;have c:=j.2.2.2.2.2;split at c
 .exact bf3 c
 .rw[of_decide_eq_true c];exact bU _
def ZX{l:List aG}{k:Nat}{d:aG}(h:l[k]?=XL d):aJ ((l.map cH).take (k+1))=aJ ((l.map cH).take k)++(cH d++[10]):=by rw[YE,X5,h];simp[aJ]
def bf4{l:List ay}{k:Nat}:(aJ (l.take k)).length<=(aJ l).length:=by have h:aJ l=aJ (l.take k)++aJ (l.drop k):=cg6;rw[h,X0];omega
def bf5{d:aG}(j:bK d=XR){k:Nat}(c:d.kind=k)(y:k<=16):(pL k).least<=d.refs.length/\d.refs.length<=(pL k).most/\d.nums.length=(pL k).nums/\DG k d.by_=true:=by have h:=(F3 j).2.2.2;rw[Qi d k y c]at h;simp only[XW,decide_eq_true_eq]at h;exact⟨h.1,h.2.1,h.2.2.1,h.2.2.2.1⟩
def qh{d:aG}{i:Nat}{a:ay}(h:d.refs[i]?=XL a):im d i=a:=by unfold im;rw[X9,h];rfl
def kz{d:aG}{i n:Nat}(h:d.nums[i]?=XL n):nw d i=XS (n:Nat):=by unfold nw;rw[X9,h];rfl
def bf6(m:aU)(mv:MV)(v:XP)(l:List Int)(w:XO)(hm:m.In w w mv)(F:aS w w v l)(Z:l.length<=100)(C:∀n∈l,1<=n/\n<=m.machs.length):
 X4 X3 49 #[Zr (m.cells mv),v] w (fY w ((ji m l).map bs)):=by
 refine DK λSa sc hs bZ bL Fa fc bS bM cj Ra rc hr cd cZ Ma mc gF cr co La lc ee cW dh Ia ic hi dg d' Ua uc hu dm dr=>?_;obtain⟨A,n,c,rfl,hn,ph,_⟩:=F.sk.form;obtain⟨i0,Dh,cA,a_,bd⟩:=Y0 FH;have O:=aj (nD m hs bS hr gF ee hi hu);have D:=hm.ms;rw[gF]at D;have jY:=aj D;have V:=aj F;have HN:=aj hn;have lg:=aj C;have gR:n<=100:=Zv;clear D F C hn Z;rw[O.o];clear hm hs bS hr gF ee hi hu;go_enter func49,ntmps49;go_upto_region 2 with(fail)
 refine df ?_;intro z ⟨G,hx⟩;have ba:=aj G;have X:=aj hx;clear G hx;go_wp2_with fail
 go_loopw [5,10] (λs i wr=>∃k:Nat,k<=n/\i=ah k/\bR wr z s ((ji m (l.take k)).map bs)/\Below z z wr) (λ_ i _=>n - (X8 i).toNat)
 case atStart=>exact⟨0,bU _,rfl,bR.nil_ _ _,am _⟩
 case round=>
  obtain⟨k,hk,rfl,bD,hb⟩:=hrel;have HO:=aj bD;have bB:=aj hb;have I:=ai X hb;have x3:=ag (o:=3) I rfl;clear bD hb I;by_cases ap:k<n
  .obtain⟨kh,hI⟩:=dt ap;obtain⟨x,hx⟩:=iT HN ap;obtain⟨xb,xo,rfl,fe,i'⟩:=aS.cell V hx;have C:=lg x (eE hx);obtain⟨j,hj⟩:∃j:Nat,x=(j:Int)+1:=⟨(x - 1).toNat,by omega⟩;subst hj;have yA:j<m.machs.length:=by omega
   obtain⟨y,hy⟩:=jd yA;obtain⟨mb,mo,mcs,rfl,gw,_,⟨rfl,_⟩,eG⟩:=jY.at_ hy;refine bf7 λjA ck ce=>?_;have U:=aj (be7 hx (by rw[show((j:Int)+1 - 1).toNat=j by omega];exact hy));have nf:(j:Int)+1 - 1=j:=Zv;have lA:(j:Int)<m.machs.length:=Zv;have jK:(0:Int)<=j:=Zv;have J:=aj (show(ji m (l.take k)).length<=100 by unfold ji;rw[XY,YK];omega);clear hx i' C hy eG;go_wp2_with(at_builtin;refine YV _ rfl (Zt 14) (Zt 22) _ rfl z.heap.size 9 i0 _ 1 16 Zo Dh cA a_ bd rfl aD _ _ _ rfl (HO.alloc _) (wr 0 XM) 1 1 [X2 (bs y.name)] rfl rfl (cell_one_new _ _ _) (PT _) (by have:=J.o;simp[Yd]at this⊢;omega) (by have:=J.o;simp at this⊢;omega) (bC bB.size Zy) ?_;intro v' w4 ii Y _)
   refine⟨⟨k+1,by omega,by go_num,?_,(HO.below (ak (am _) _)).grown (ak bB _) Y⟩,by simp[X8];omega⟩;rw[U.o,Yp];exact bR.snoc ii
  .exact ZZ
def fl0(rb mb ab G qb z:Nat)(d:aG)(RA:Option Zf)(rn rc U nc n c:Nat)(k0 k1 k2:Int)(C:Array XP)(T:Ya)(u7 u8 u9:XP)(w:XO)(hr:af w rb C T)(h7:C[7]?=XL u7)(h8:C[8]?=XL u8)(h9:C[9]?=XL u9)
 (hm:af w mb #[Zs (XL (rb 1 XM))] 230)(fG:¬mb=rb)(X:¬ab=rb)(F:¬qb=rb)
 (ha:aa w ab G (ah k0))(tL:aa w qb z (ah k1))(lE:aa w qb (z+1) (ah k2)):
 X4 X3 206 #[Zr #[d.kind,bs d.name,Zk RA rn rc,Zk (XL (qb z XM)) (U+2) nc,d.by_,Zp d.always],Zk (XL (ab G XM)) (n+1) c,az mb] w λe w'=>(∃v,e=YT v)/\af w' rb (((C.setIfInBounds 7 (ah k0)).setIfInBounds 8 (ah k1)).setIfInBounds 9 (ah k2)) T/\aL w rb w w':=by
 have Ln:=blk_lt hr;have oy:=blk_lt hm;have Vy:=bY _ _ ha;have Fl:=bY _ _ tL;simp only[az];go_enter func206,ntmps206;go_upto_region 1 with(fail)
 refine df ?_;intro j ⟨bc,cX⟩;have V:=ag (o:=3) cX rfl;refine Jv λgS c0=>?_;have I:=kc bc ha;have J:=kc bc tL;have O:=kc bc lE;have r7:aa j rb 7 u7:=ag gS h7;have r8:aa j rb 8 u8:=ag gS h8;have r9:aa j rb 9 u9:=ag gS h9;have z7:=cO gS 7;have z8:=cO gS 8;have z9:=cO gS 9;have uX:mb<j:=bJ oy bc.size;have Y:ab<j:=bJ Vy bc.size;have D:qb<j:=bJ Fl bc.size;have ij:=blk_lt cX;have yE:¬w.heap.size=rb:=Zv;have tG:(0:Int)<(U:Int)+2:=Zv;have aC:(1:Int)<(U:Int)+2:=Zv;have Z:=aj bc;have qD:=aj gS;clear bc cX gS hr hm ha tL lE h7 h8 h9;go_wp2_with fail
 refine tz (S:=λw'=>ae w' mb (Zs (XL (rb 1 XM)))/\aa w' w 3 (Zk (XL (qb z XM)) (U+2) nc)/\aa w' ab G (ah k0)/\aa w' qb z (ah k1)/\aa w' qb (z+1) (ah k2)) 23 (by exact⟨c0,V,I,J,O⟩) λhS=>?_;iterate 16 refine oO 23 5 ?_
 refine fg 16 λK A=>?_;go_simp;refine A _ _ (by refine(fun(y:aL j rb j _)=>⟨(y.cell 0 uX fG).t c0,(y.cell 3 ij yE).t V,(y.cell G Y X).t I,(y.cell z D F).t J,(y.cell (z+1) D F).t O⟩) (aL.set (aL.refl _ _ j).drew (.inl rfl) _)) λhS=>?_;clear A;refine aH ?_;iterate 2 refine oO 23 4 ?_
 refine fg 19 λK A=>?_;go_simp;refine A _ _ (by refine(fun(y:aL j rb j _)=>⟨(y.cell 0 uX fG).t c0,(y.cell 3 ij yE).t V,(y.cell G Y X).t I,(y.cell z D F).t J,(y.cell (z+1) D F).t O⟩) (aL.set (aL.set (aL.refl _ _ j).drew (.inl rfl) _) (.inl rfl) _)) λhS=>?_;clear A;refine aH ?_;iterate 2 refine oO 23 3 ?_
 refine fg 22 λK A=>?_;go_simp;refine A _ _ (by refine(fun(y:aL j rb j _)=>⟨(y.cell 0 uX fG).t c0,(y.cell 3 ij yE).t V,(y.cell G Y X).t I,(y.cell z D F).t J,(y.cell (z+1) D F).t O⟩) (aL.set (aL.set (aL.set (aL.refl _ _ j).drew (.inl rfl) _) (.inl rfl) _) (.inl rfl) _)) λhS=>?_;clear A;refine aH ?_;refine rY ?_;go_wp2_with fail
 go_end0
 refine⟨⟨_,rfl⟩,bf (bf (bf qD 7 _) 8 _) 9 _,?_⟩;exact(aL.of_below Z (ar _) Z.size).t ((aL.set (aL.set (aL.set (aL.refl _ _ j).drew (.inl rfl) _) (.inl rfl) _) (.inl rfl) _:aL j rb j _).mono Z.size)
def fl1(rb mb B ab X qb qo:Nat)(d:aG)(RA NA A:Option Zf)(rn rc nn nc nl n c:Nat)(k0 k1 k2:Int)(C:Array XP)(T:Ya)(v:XP)(xs:List XP)(w:XO)(hr:af w rb C T)(F:C[1]?=XL v)
 (hm:af w mb #[Zs (XL (rb 1 XM))] 230)(U:rb<B)(V:mb<B)(iD:B<=w)(z:w.ownsRow B 9 1 v n xs)(hn:n<=1000000):
 X4 X3 197 #[Zr #[d.kind,bs d.name,Zk RA rn rc,Zk NA nn nc,d.by_,Zp d.always],Zk A nl c,az mb] w λe w'=>(∃u,e=YT u)/\oS w rb B T C 1 9 1 v n xs [X2 (bs d.name)] w':=by
 refine Qb λi0 hi cA a_ bd=>?_;have y:=X6 z;have jy:v.ownBlock≠XL rb:=λe=>by have:=(y rb e).1;omega
 have vW:v.ownBlock≠XL mb:=λe=>by have:=(y mb e).1;omega
 have gH:v.ownBlock≠XL w.heap.size:=λe=>by have:=(y _ e).2;omega
 simp only[az];go_enter func197,ntmps197;go_upto_region 1 with(fail)
 refine ae2 ?_;intro W1 ⟨bc,D⟩;have sJ:=bc.size;have O:=ag (o:=1) D rfl;refine Jv λgS c0=>?_;have I:aa W1 rb 1 v:=ag gS F;have G:=aj (eI z bc);have ko:Hid (W1.drew.ownsRow B 9 1 v n xs):=G.o;have ba:=aj bc;have qD:=aj gS;clear G bc D gS hr hm F z y;go_wp2_with fail
 refine eT (S:=λw'=>ae w' mb (Zs (XL (rb 1 XM)))/\aa w' rb 1 (v)/\aa w' w 1 (X2 (bs d.name))) 9 12 (by exact⟨c0,I,O⟩) λhS=>?_;iterate 7 refine da 12 5 ?_
 refine bt 7 λK hK=>?_;go_simp;refine hK _ _ (by exact⟨((ak (am _) _).cell (p:=mb) (bY _ _ (hS.1))).t (hS.1),((ak (am _) _).cell (p:=rb 1 XM) (bY _ _ (hS.2.1))).t (hS.2.1),((ak (am _) _).cell (p:=w 1 XM) (bY _ _ (hS.2.2))).t (hS.2.2)⟩) λhS=>?_;clear hK;refine aH ?_;refine bt 8 λK hK=>?_;refine be3 ?_;intro Z cap J jX bF iZ y;refine be4 λhS=>?_;clear hK;refine aH ?_;refine eA 9 λK hK=>?_;go_simp;refine fD ?_;clear hK;refine aH ?_;refine eA 10 λK hK=>?_;go_simp;refine fD ?_;clear hK;refine aH ?_;have Y:J.frozen? (rb 1 XM)=false:=cO (jD (ai qD (ak (aW (am _)) _)) bF λj hj e=>jy CW) 1;refine eA 11 λK hK=>?_;exact MT
def fl2(rb mb B ab X qb qo:Nat)(d:aG)(RA NA A:Option Zf)(rn rc nn nc nl n c:Nat)(k0 k1 k2:Int)(C:Array XP)(T:Ya)(v:XP)(xs:List XP)(w:XO)(hr:af w rb C T)(F:C[2]?=XL v)
 (hm:af w mb #[Zs (XL (rb 1 XM))] 230)(U:rb<B)(V:mb<B)(iD:B<=w)(z:w.ownsRow B 9 1 v n xs)(hn:n<=1000000):
 X4 X3 198 #[Zr #[d.kind,bs d.name,Zk RA rn rc,Zk NA nn nc,d.by_,Zp d.always],Zk A nl c,az mb] w λe w'=>(∃u,e=YT u)/\oS w rb B T C 2 9 1 v n xs [X2 (bs d.name)] w':=by
 refine Qb λi0 hi cA a_ bd=>?_;have y:=X6 z;have jy:v.ownBlock≠XL rb:=λe=>by have:=(y rb e).1;omega
 have vW:v.ownBlock≠XL mb:=λe=>by have:=(y mb e).1;omega
 have gH:v.ownBlock≠XL w.heap.size:=λe=>by have:=(y _ e).2;omega
 simp only[az];go_enter func198,ntmps198;go_upto_region 1 with(fail)
 refine ae2 ?_;intro W1 ⟨bc,D⟩;have sJ:=bc.size;have O:=ag (o:=1) D rfl;refine Jv λgS c0=>?_;have I:aa W1 rb 2 v:=ag gS F;have G:=aj (eI z bc);have ko:Hid (W1.drew.ownsRow B 9 1 v n xs):=G.o;have ba:=aj bc;have qD:=aj gS;clear G bc D gS hr hm F z y;go_wp2_with fail
 refine eT (S:=λw'=>ae w' mb (Zs (XL (rb 1 XM)))/\aa w' rb 2 (v)/\aa w' w 1 (X2 (bs d.name))) 9 12 (by exact⟨c0,I,O⟩) λhS=>?_;iterate 7 refine da 12 5 ?_
 refine bt 7 λK hK=>?_;go_simp;refine hK _ _ (by exact⟨((ak (am _) _).cell (p:=mb) (bY _ _ (hS.1))).t (hS.1),((ak (am _) _).cell (p:=rb 2 XM) (bY _ _ (hS.2.1))).t (hS.2.1),((ak (am _) _).cell (p:=w 1 XM) (bY _ _ (hS.2.2))).t (hS.2.2)⟩) λhS=>?_;clear hK;refine aH ?_;refine bt 8 λK hK=>?_;refine be3 ?_;intro Z cap J jX bF iZ y;refine be4 λhS=>?_;clear hK;refine aH ?_;refine eA 9 λK hK=>?_;go_simp;refine fD ?_;clear hK;refine aH ?_;refine eA 10 λK hK=>?_;go_simp;refine fD ?_;clear hK;refine aH ?_;have Y:J.frozen? (rb 2 XM)=false:=cO (jD (ai qD (ak (aW (am _)) _)) bF λj hj e=>jy CW) 2;refine eA 11 λK hK=>?_;exact MT
def fl3(rb mb B ab y qb qo:Nat)(d:aG)(RA NA A:Option Zf)(rn rc nn nc nl n c:Nat)(k0 k1 k2:Int)(C:Array XP)(T:Ya)(v:XP)(xs:List XP)(w:XO)(hr:af w rb C T)(G:C[3]?=XL v)
 (hm:af w mb #[Zs (XL (rb 1 XM))] 230)(Al:rb<B)(Fo:mb<B)(iD:B<=w)(D:w.ownsRow B 82 3 v n xs)(hn:n<=1000000)(J:v.ownBlock≠XL ab)(Y:aa w ab y (ah k0))(V:aa w ab (y+1) (ah k1)):
 X4 X3 199 #[Zr #[d.kind,bs d.name,Zk RA rn rc,Zk NA nn nc,d.by_,Zp d.always],Zk (XL (ab y XM)) (nl+2) c,az mb] w λe w'=>(∃u,e=YT u)/\oS w rb B T C 3 82 3 v n xs [X2 (bs d.name),ah k0,ah k1] w':=by
 obtain⟨i0,hi,cA,a_,bd⟩:=Y0 (show(Tryz.prog.info? 82).map (λi=>(i.zero,i.size,i.bytes))=XL (XL (Zr #[X2 ⟨#[]⟩,ah 0,ah 0]),3,32)by kernel_rfl);have z:=X6 D;have jy:v.ownBlock≠XL rb:=λe=>by have:=(z rb e).1;omega
 have vW:v.ownBlock≠XL mb:=λe=>by have:=(z mb e).1;omega
 have U:v.ownBlock≠XL w.heap.size:=λe=>by have:=(z _ e).2;omega
 simp only[az];go_enter func199,ntmps199;go_upto_region 1 with(fail)
 refine ae2 ?_;intro W1 ⟨bc,F⟩;have sJ:=bc.size;have x1:=ag (o:=1) F rfl;refine Jv λgS c0=>?_;have O:aa W1 rb 3 v:=ag gS G;have Z:=kc bc Y;have n1:=kc bc V;have I:=aj (eI D bc);have X:Hid (W1.drew.ownsRow B 82 3 v n xs):=I.o;have ba:=aj bc;have qD:=aj gS;have tG:(0:Int)<(nl:Int)+2:=Zv;have aC:(1:Int)<(nl:Int)+2:=Zv;clear I bc F gS hr hm G D z;go_wp2_with fail
 refine eT (S:=λw'=>ae w' mb (Zs (XL (rb 1 XM)))/\aa w' rb 3 (v)/\aa w' w 1 (X2 (bs d.name))/\aa w' ab y (ah k0)/\aa w' ab (y+1) (ah k1)) 16 19 (by exact⟨c0,O,x1,Z,n1⟩) λhS=>?_;iterate 14 refine da 19 5 ?_
 refine bt 14 λK hK=>?_;go_simp;refine hK _ _ (by exact⟨((ak (am _) _).cell (p:=mb) (bY _ _ (hS.1))).t (hS.1),((ak (am _) _).cell (p:=rb 3 XM) (bY _ _ (hS.2.1))).t (hS.2.1),((ak (am _) _).cell (p:=w 1 XM) (bY _ _ (hS.2.2.1))).t (hS.2.2.1),((ak (am _) _).cell (p:=ab y XM) (bY _ _ (hS.2.2.2.1))).t (hS.2.2.2.1),((ak (am _) _).cell (p:=ab (y+1) XM) (bY _ _ (hS.2.2.2.2))).t (hS.2.2.2.2)⟩) λhS=>?_;clear hK;refine aH ?_;refine bt 15 λK hK=>?_;refine step_append_lies _ de _ _ _ de B 82 i0 _ 3 32 underlying23 hi cA a_ bd rfl Zv _ _ _ de ((X).alloc _) ⟨_,0,XM⟩ 1 1 [X2 (bs d.name),ah k0,ah k1] de de (pA rfl) uF Zv uE mr mr _ rfl ?_;intro gg cap w3 jX bF iZ z;refine hK _ _ (by exact⟨(fZ bF (bY _ _ (hS.1)) vW).t (hS.1),(fZ bF (bY _ _ (hS.2.1)) jy).t (hS.2.1),(fZ bF (bY _ _ (hS.2.2.1)) U).t (hS.2.2.1),(fZ bF (bY _ _ (hS.2.2.2.1)) J).t (hS.2.2.2.1),(fZ bF (bY _ _ (hS.2.2.2.2)) J).t (hS.2.2.2.2)⟩) λhS=>?_;clear hK;refine aH ?_;refine eA 16 λK hK=>?_;go_simp;refine fD ?_;clear hK;refine aH ?_;refine eA 17 λK hK=>?_;go_simp;refine fD ?_;clear hK;refine aH ?_;have f1:w3.frozen? (rb 3 XM)=false:=cO (jD (ai qD (ak (aW (am _)) _)) bF λj hj e=>jy CW) 3;refine eA 18 λK hK=>?_;exact MT
def fl4(rb mb B ab z qb qo:Nat)(d:aG)(RA NA A:Option Zf)(rn rc nn nc nl n c:Nat)(k0 k1 D:Int)(C:Array XP)(T:Ya)(v:XP)(xs:List XP)(w:XO)(hr:af w rb C T)(J:C[4]?=XL v)
 (hm:af w mb #[Zs (XL (rb 1 XM))] 230)(Al:rb<B)(Fo:mb<B)(iD:B<=w)(F:w.ownsRow B 84 3 v n xs)(hn:n<=1000000)(xk:v.ownBlock≠XL ab)(Y:aa w ab z (ah k0))(Lz:qb<B)(hq:aa w qb qo (ah D)):
 X4 X3 200 #[Zr #[d.kind,bs d.name,Zk RA rn rc,Zk (XL (qb qo XM)) (nn+1) nc,d.by_,Zp d.always],Zk (XL (ab z XM)) (nl+1) c,az mb] w λe w'=>(∃u,e=YT u)/\oS w rb B T C 4 84 3 v n xs [X2 (bs d.name),ah k0,ah D] w':=by
 obtain⟨i0,hi,cA,a_,bd⟩:=Y0 (show(Tryz.prog.info? 84).map (λi=>(i.zero,i.size,i.bytes))=XL (XL (Zr #[X2 ⟨#[]⟩,ah 0,ah 0]),3,32)by kernel_rfl);have y:=X6 F;have jy:v.ownBlock≠XL rb:=λe=>by have:=(y rb e).1;omega
 have vW:v.ownBlock≠XL mb:=λe=>by have:=(y mb e).1;omega
 have I:v.ownBlock≠XL w.heap.size:=λe=>by have:=(y _ e).2;omega
 have U:v.ownBlock≠XL qb:=λe=>by have:=(y qb e).1;omega
 simp only[az];go_enter func200,ntmps200;go_upto_region 1 with(fail)
 refine be5 ?_;intro W1 ⟨bc,G⟩;have sJ:=bc.size;have x1:=ag (o:=1) G rfl;have x3:=ag (o:=3) G rfl;have q0:=kc bc hq;refine Jv λgS c0=>?_;have V:aa W1 rb 4 v:=ag gS J;have Z:=kc bc Y;have O:=aj (eI F bc);have X:Hid (W1.drew.ownsRow B 84 3 v n xs):=O.o;have ba:=aj bc;have qD:=aj gS;have tG:(0:Int)<(nl:Int)+1:=Zv;have au:(0:Int)<(nn:Int)+1:=Zv;clear O bc G gS hr hm J F y;go_wp2_with fail
 refine eT (S:=λw'=>ae w' mb (Zs (XL (rb 1 XM)))/\aa w' rb 4 (v)/\aa w' w 1 (X2 (bs d.name))/\aa w' w 3 (Zk (XL (qb qo XM)) (nn+1) nc)/\aa w' qb qo (ah D)/\aa w' ab z (ah k0)) 17 20 (by exact⟨c0,V,x1,x3,q0,Z⟩) λhS=>?_;iterate 15 refine da 20 5 ?_
 refine bt 15 λK hK=>?_;go_simp;refine hK _ _ (by exact⟨((ak (am _) _).cell (p:=mb) (bY _ _ (hS.1))).t (hS.1),((ak (am _) _).cell (p:=rb 4 XM) (bY _ _ (hS.2.1))).t (hS.2.1),((ak (am _) _).cell (p:=w 1 XM) (bY _ _ (hS.2.2.1))).t (hS.2.2.1),((ak (am _) _).cell (p:=w 3 XM) (bY _ _ (hS.2.2.2.1))).t (hS.2.2.2.1),((ak (am _) _).cell (p:=qb qo XM) (bY _ _ (hS.2.2.2.2.1))).t (hS.2.2.2.2.1),((ak (am _) _).cell (p:=ab z XM) (bY _ _ (hS.2.2.2.2.2))).t (hS.2.2.2.2.2)⟩) λhS=>?_;clear hK;refine aH ?_;refine bt 16 λK hK=>?_;refine step_append_lies _ de _ _ _ de B 84 i0 _ 3 32 underlying24 hi cA a_ bd rfl Zv _ _ _ de ((X).alloc _) ⟨_,0,XM⟩ 1 1 [X2 (bs d.name),ah k0,ah D] de de (pA rfl) uF Zv uE mr mr _ rfl ?_;intro gg cap w3 jX bF iZ y;refine hK _ _ (by exact⟨(fZ bF (bY _ _ (hS.1)) vW).t (hS.1),(fZ bF (bY _ _ (hS.2.1)) jy).t (hS.2.1),(fZ bF (bY _ _ (hS.2.2.1)) I).t (hS.2.2.1),(fZ bF (bY _ _ (hS.2.2.2.1)) I).t (hS.2.2.2.1),(fZ bF (bY _ _ (hS.2.2.2.2.1)) U).t (hS.2.2.2.2.1),(fZ bF (bY _ _ (hS.2.2.2.2.2)) xk).t (hS.2.2.2.2.2)⟩) λhS=>?_;clear hK;refine aH ?_;refine eA 17 λK hK=>?_;go_simp;refine fD ?_;clear hK;refine aH ?_;refine eA 18 λK hK=>?_;go_simp;refine fD ?_;clear hK;refine aH ?_;have f1:w3.frozen? (rb 4 XM)=false:=cO (jD (ai qD (ak (aW (am _)) _)) bF λj hj e=>jy CW) 4;refine eA 19 λK hK=>?_;exact MT
def fl5(rb mb B ab y qb qo:Nat)(d:aG)(RA NA A:Option Zf)(rn rc nn nc nl n c:Nat)(k0 k1 D:Int)(C:Array XP)(T:Ya)(v:XP)(xs:List XP)(w:XO)(hr:af w rb C T)(J:C[5]?=XL v)
 (hm:af w mb #[Zs (XL (rb 1 XM))] 230)(Al:rb<B)(Fo:mb<B)(iD:B<=w)(F:w.ownsRow B 104 3 v n xs)(hn:n<=1000000)(U:v.ownBlock≠XL ab)(mD:aa w ab y (ah k0))(Y:aa w ab (y+1) (ah k1))(Lz:qb<B)(hq:aa w qb qo (ah D)):
 X4 X3 201 #[Zr #[d.kind,bs d.name,Zk RA rn rc,Zk (XL (qb qo XM)) (nn+1) nc,d.by_,Zp d.always],Zk (XL (ab y XM)) (nl+2) c,az mb] w λe w'=>(∃u,e=YT u)/\oS w rb B T C 5 104 3 v n xs [ah (min k0 k1),ah (max k0 k1),ah D] w':=by
 obtain⟨i0,hi,cA,a_,bd⟩:=Y0 (show(Tryz.prog.info? 104).map (λi=>(i.zero,i.size,i.bytes))=XL (XL (Zr #[ah 0,ah 0,ah 0]),3,24)by kernel_rfl);have z:=X6 F;have jy:v.ownBlock≠XL rb:=λe=>by have:=(z rb e).1;omega
 have vW:v.ownBlock≠XL mb:=λe=>by have:=(z mb e).1;omega
 have I:v.ownBlock≠XL w.heap.size:=λe=>by have:=(z _ e).2;omega
 have V:v.ownBlock≠XL qb:=λe=>by have:=(z qb e).1;omega
 simp only[az];go_enter func201,ntmps201;go_upto_region 1 with(fail)
 refine be5 ?_;intro W1 ⟨bc,G⟩;have sJ:=bc.size;have x1:=ag (o:=1) G rfl;have x3:=ag (o:=3) G rfl;have q0:=kc bc hq;refine Jv λgS c0=>?_;have X:aa W1 rb 5 v:=ag gS J;have n0:=kc bc mD;have n1:=kc bc Y;have O:=aj (eI F bc);have Z:Hid (W1.drew.ownsRow B 104 3 v n xs):=O.o;have ba:=aj bc;have qD:=aj gS;have tG:(0:Int)<(nl:Int)+2:=Zv;have aC:(1:Int)<(nl:Int)+2:=Zv;have au:(0:Int)<(nn:Int)+1:=Zv;clear O bc G gS hr hm J F z;go_wp2_with fail
 refine eT (S:=λw'=>ae w' mb (Zs (XL (rb 1 XM)))/\aa w' rb 5 (v)/\aa w' w 1 (X2 (bs d.name))/\aa w' w 3 (Zk (XL (qb qo XM)) (nn+1) nc)/\aa w' qb qo (ah D)/\aa w' ab y (ah k0)/\aa w' ab (y+1) (ah k1)) 26 29 (by exact⟨c0,X,x1,x3,q0,n0,n1⟩) λhS=>?_;iterate 24 refine da 29 5 ?_
 refine bt 24 λK hK=>?_;go_simp;refine hK _ _ (by exact⟨((ak (am _) _).cell (p:=mb) (bY _ _ (hS.1))).t (hS.1),((ak (am _) _).cell (p:=rb 5 XM) (bY _ _ (hS.2.1))).t (hS.2.1),((ak (am _) _).cell (p:=w 1 XM) (bY _ _ (hS.2.2.1))).t (hS.2.2.1),((ak (am _) _).cell (p:=w 3 XM) (bY _ _ (hS.2.2.2.1))).t (hS.2.2.2.1),((ak (am _) _).cell (p:=qb qo XM) (bY _ _ (hS.2.2.2.2.1))).t (hS.2.2.2.2.1),((ak (am _) _).cell (p:=ab y XM) (bY _ _ (hS.2.2.2.2.2.1))).t (hS.2.2.2.2.2.1),((ak (am _) _).cell (p:=ab (y+1) XM) (bY _ _ (hS.2.2.2.2.2.2))).t (hS.2.2.2.2.2.2)⟩) λhS=>?_;clear hK;refine aH ?_;refine bt 25 λK hK=>?_;refine step_append_lies _ de _ _ _ de B 104 i0 _ 3 24 underlying25 hi cA a_ bd rfl Zv _ _ _ de ((Z).alloc _) ⟨_,0,XM⟩ 1 1 [ah (min k0 k1),ah (max k0 k1),ah D] de de (pA rfl) uF Zv uE mr mr _ rfl ?_;intro gg cap w3 jX bF iZ z;refine hK _ _ (by exact⟨(fZ bF (bY _ _ (hS.1)) vW).t (hS.1),(fZ bF (bY _ _ (hS.2.1)) jy).t (hS.2.1),(fZ bF (bY _ _ (hS.2.2.1)) I).t (hS.2.2.1),(fZ bF (bY _ _ (hS.2.2.2.1)) I).t (hS.2.2.2.1),(fZ bF (bY _ _ (hS.2.2.2.2.1)) V).t (hS.2.2.2.2.1),(fZ bF (bY _ _ (hS.2.2.2.2.2.1)) U).t (hS.2.2.2.2.2.1),(fZ bF (bY _ _ (hS.2.2.2.2.2.2)) U).t (hS.2.2.2.2.2.2)⟩) λhS=>?_;clear hK;refine aH ?_;refine eA 26 λK hK=>?_;go_simp;refine fD ?_;clear hK;refine aH ?_;refine eA 27 λK hK=>?_;go_simp;refine fD ?_;clear hK;refine aH ?_;have f1:w3.frozen? (rb 5 XM)=false:=cO (jD (ai qD (ak (aW (am _)) _)) bF λj hj e=>jy CW) 5;refine eA 28 λK hK=>?_;exact MT
def jk(b:List aG)(s:Nat):Nat:=(b.filter λx=>XN (cB x.kind=s)).length
def Cq(b:List aG)(k:Int):Option Value:=if 0<=k/\jk b k.toNat≠0 then XL (ah (jk b k.toNat))else XM
def kY(b:List aG)(k:Nat):Bool:=b.any λx=>XN (x.kind=k)
def Cr(b:List aG)(k:Int):Option Value:=if 0<=k/\kY b k.toNat=XR then XL (Zp XR)else XM
def bm4(b:List aG)(s:Nat):(Cq b s).getD (ah 0)=ah (jk b s):=by
 unfold Cq;simp only[Int.toNat_natCast];by_cases h:jk b s=0
 .rw[if_neg Zv,h];rfl
 .rw[if_pos ⟨by omega,h⟩];rfl
def fl6(b:List aG)(s:Nat):(Cr b s).getD (Zp XQ)=Zp (kY b s):=by
 unfold Cr;simp only[Int.toNat_natCast];by_cases h:kY b s=XR
 .rw[if_pos ⟨by omega,h⟩,h];rfl
 .rw[if_neg (λe=>h e.2)];simp only[Bool.not_eq_true]at h;rw[h];rfl
def ae4(b:List aG)(d:aG)(s:Nat):jk (b++[d]) s=if cB d.kind=s then jk b s+1 else jk b s:=by
 unfold jk;rw[List.filter_append,X0];by_cases h:cB d.kind=s
 .simp[h]
 .simp[h]
def bm5(b:List aG)(d:aG)(s:Nat):kY (b++[d]) s=(kY b s||XN (d.kind=s)):=by unfold kY;simp
def fl7(b:List aG)(d:aG)(x:Int):aY (Cq b) ((cB d.kind:Nat):Int) (ah ((jk b (cB d.kind):Int)+1)) x=Cq (b++[d]) x:=by
 rw[AV];unfold Cq;by_cases h:x=(cB d.kind:Nat)
 .subst h;simp only[Int.toNat_natCast,ae4,if_true];rw[if_pos ⟨by omega,by omega⟩];simp
 .rw[if_neg h];by_cases c:0<=x
  .have:¬cB d.kind=x.toNat:=by omega
   rw[ae4,if_neg this]
  .rw[if_neg Zv,if_neg Zv]
def fl8(b:List aG)(d:aG)(x:Int):aY (Cr b) (d.kind:Int) (Zp XR) x=Cr (b++[d]) x:=by
 rw[AV];unfold Cr;by_cases h:x=(d.kind:Int)
 .subst h;simp only[Int.toNat_natCast,bm5,if_true];rw[if_pos ⟨by omega,by simp⟩]
 .rw[if_neg h,bm5];by_cases c:0<=x
  .have:decide (d.kind=x.toNat)=false:=by simp;omega
   rw[this,Bool.or_false]
  .rw[if_neg Zv,if_neg Zv]
def fl9{t:dK}{s:ay}(x:Nat×Nat)(h:el t s=XM)(y:ay):el (t++[(s,x.1,x.2)]) y=if y=s then XL x else el t y:=by
 unfold el at h⊢
 rw[List.find?_append];by_cases c:y=s
 .subst c;rw[if_pos rfl];have:t.find? (λz=>decide (z.1=y))=none:=by
   cases hq:t.find? (λz=>XN (z.1=y))with
   |none=>rfl
   |some q=>rw[hq]at h;cases h
  rw[this];simp
 .rw[if_neg c];cases hq:t.find? (λz=>decide (z.1=y))with
  |some q=>rfl
  |none=>have:¬s=y:=λe=>c e.symm;simp[this]
def fm0{t:dK}{s:ay}(x:Nat×Nat)(h:el t s=XM)(y:ay):aY (mz t) s (Rb x) y=mz (t++[(s,x.1,x.2)]) y:=by
 rw[AV];unfold mz;rw[fl9 x h y];by_cases c:y=s
 .rw[if_pos c,if_pos c];rfl
 .rw[if_neg c,if_neg c]
def F6(t:dK)(b:List aG)(d:aG):Bool:=(!XN (d.name=[])&&(el t d.name).isSome)||((XN (d.kind=8)||XN (d.kind=9))&&kY b d.kind)
def bm6{b r:List aG}{t:dK}{d:aG}(h:bK d=XQ):ks b t (d::r)= .error (b.length,1):=by rw[ks,h];rfl
def bm7{b r:List aG}{t:dK}{d:aG}(h:bK d=XR)(c:F6 t b d=XR):ks b t (d::r)= .error (b.length,5):=by unfold F6 kY at c;rw[ks,h,c];rfl
def bm8{b r:List aG}{t:dK}{d:aG}(h:bK d=XR)(c:F6 t b d=XQ):
 ks b t (d::r)=ks (b++[d]) (if d.name=[]then t else t++[(d.name,d.kind,jk (b++[d]) (cB d.kind))]) r:=by
 unfold F6 kY at c;rw[ks,h,c];rfl
def bm9{b:List aG}{t:dK}:ks b t []= .ok t:=rfl
def mS.kp{w w':XO}{B B' M:Nat}{c:List XP}{d:aG}(h:mS w B c d)(z:aL B' M w w')(j:B<=B')(y:∀o,w.cell? (M o XM)=XM):mS w' B c d:=by obtain⟨r,n,h1,h2,h3,h4⟩:=h;exact⟨r,n,h1,Sl.kp h2 z j y,⟨Sl.kp h3.1 z j y,h3.2⟩,h4⟩
def DeclS.kp{w w':XO}{B B' M:Nat}{v:XP}{l:List aG}(h:ci 6 mS w B v l)(D:aL B' M w w')(z:B<=B')(C:∀o,w.cell? (M o XM)=XM):ci 6 mS w' B v l:=by
 obtain⟨A,c,rfl,h1,h2,h3⟩:=h;refine⟨A,c,rfl,h1,h2,λF=>?_⟩;obtain⟨b,o,rfl,hb,hc⟩:=h3 F;have G:¬b=M:=λe=>by subst e;obtain⟨x,hx⟩:∃x,l[0]?=XL x:=⟨_,XT (List.length_pos_iff.2 F)⟩;obtain⟨cs,hl,_,bo⟩:=hc 0 x hx;obtain⟨u,y⟩:∃u,cs[0]?=XL u:=⟨_,XT Zv⟩;have:=bo 0 u y;rw[C]at this;cases this
 refine⟨b,o,rfl,hb,λj x hx=>?_⟩;obtain⟨cs,hl,hR,bo⟩:=hc j x hx;exact⟨cs,hl,hR.kp D z C,λi u y=>(D.cell _ (bJ hb z) G).t (bo i u y)⟩
def fm1{κ:Type}[DecidableEq κ]{enc:κ->XP}{w:XO}{b:Nat}{f:κ->Option XP}(h:dN enc w b f)(o:Nat):w.cell? (b o XM)=none:=by obtain⟨l,hl,_⟩:=h;have c:w.heap[b]?=XL (.map (bV 0 (dq enc l)).toArray (dq enc l).length):=hl;simp[Zc,c]
def nV(Mb:Nat)(m:aU)(v:MV):Array Value:= #[.map (XL Mb),v.s,v.f,v.r,v.m,v.l,v.i,ah m.dark,ah m.slots,ah m.reserve,ah m.failures,v.u]
def lP(w:XO)(rb B M Mb:Nat)(m:aU):Prop:=rb<B/\B<=w/\∃v,af w rb (nV Mb m v) 145/\gz w B M m v
section
variable {w w':XO} {rb B M Mb:Nat} {m:aU} {v:MV}
def lP.addS{s:ay}(j:rb<B)(y:B<=w)(z:gz w B M m v)(C:oS w rb B 145 (nV Mb m v) 1 9 1 v.s m.sites.length (m.sites.map oT) [oT s] w'):lP w' rb B (M+1) Mb {m with sites:=m.sites++[s]}/\aL B rb w w':=by obtain⟨v',h1,h2,h3,h4⟩:=C;exact⟨⟨j,bC y h4.size,{v with s:=v'},h1,z.addS j h4 h3 s h2⟩,h4.kp y (λk A=>(X6 z.s_ k A).1)⟩
def lP.addF{s:ay}(j:rb<B)(y:B<=w)(z:gz w B M m v)(C:oS w rb B 145 (nV Mb m v) 2 9 1 v.f m.feeds.length (m.feeds.map oT) [oT s] w'):lP w' rb B (M+1) Mb {m with feeds:=m.feeds++[s]}/\aL B rb w w':=by obtain⟨v',h1,h2,h3,h4⟩:=C;exact⟨⟨j,bC y h4.size,{v with f:=v'},h1,z.addF j h4 h3 s h2⟩,h4.kp y (λk A=>(X6 z.f_ k A).1)⟩
def lP.addR{x:nC}(j:rb<B)(y:B<=w)(z:gz w B M m v)(A:aN x.site/\aN x.feed)(D:oS w rb B 145 (nV Mb m v) 3 82 3 v.r m.racks.length (m.racks.map MU).flatten (MU x) w'):lP w' rb B (M+1) Mb {m with racks:=m.racks++[x]}/\aL B rb w w':=by obtain⟨v',h1,h2,h3,h4⟩:=D;exact⟨⟨j,bC y h4.size,{v with r:=v'},h1,z.addR j h4 h3 x h2 A⟩,h4.kp y (λk C=>(X6 z.r_ k C).1)⟩
def lP.addM{x:rq}(j:rb<B)(y:B<=w)(z:gz w B M m v)(A:aN x.rack/\aN x.cap)(D:oS w rb B 145 (nV Mb m v) 4 84 3 v.m m.machs.length (m.machs.map MW).flatten (MW x) w'):lP w' rb B (M+1) Mb {m with machs:=m.machs++[x]}/\aL B rb w w':=by obtain⟨v',h1,h2,h3,h4⟩:=D;exact⟨⟨j,bC y h4.size,{v with m:=v'},h1,z.addM j h4 h3 x h2 A⟩,h4.kp y (λk C=>(X6 z.m_ k C).1)⟩
def lP.addL{x:t5}(j:rb<B)(y:B<=w)(z:gz w B M m v)(A:aN x.a/\aN x.b/\aN x.cap)(D:oS w rb B 145 (nV Mb m v) 5 104 3 v.l m.links.length (m.links.map MX).flatten (MX x) w'):lP w' rb B (M+1) Mb {m with links:=m.links++[x]}/\aL B rb w w':=by obtain⟨v',h1,h2,h3,h4⟩:=D;exact⟨⟨j,bC y h4.size,{v with l:=v'},h1,z.addL j h4 h3 x h2 A⟩,h4.kp y (λk C=>(X6 z.l_ k C).1)⟩
def lP.addI{x:fq}{o:XP}{rows:List (List XP)}(j:rb<B)(z:B<=w)(G:gz w B M m v)(A:w.ownsRow B 86 7 v.i m.items.length rows.flatten)(I:wl yT fq.on Jw w B rows m.items)
 (O:oS w rb B 145 (nV Mb m v) 6 86 7 v.i m.items.length rows.flatten (yT x o) w')(C:w'.ownsRow B 3 1 o x.on.length (x.on.map (X1 .i64)))(F:∀y∈x.on,aN y)(D:Jw x):lP w' rb B (M+1) Mb {m with items:=m.items++[x]}/\aL B rb w w':=by
 obtain⟨v',h1,h2,h3,h4⟩:=O;exact⟨⟨j,bC z h4.size,{v with i:=v'},h1,G.addI j h4 h3 x o rows A I h2 C F D⟩,h4.kp z (λk J=>(X6 A k J).1)⟩
def lP.addU{x:cF}{o:XP}{rows:List (List XP)}(j:rb<B)(z:B<=w)(G:gz w B M m v)(A:w.ownsRow B 88 7 v.u m.rules.length rows.flatten)(I:wl Cp cF.ms Jy w B rows m.rules)
 (O:oS w rb B 145 (nV Mb m v) 11 88 7 v.u m.rules.length rows.flatten (Cp x o) w')(C:w'.ownsRow B 3 1 o x.ms.length (x.ms.map (X1 .i64)))(F:∀y∈x.ms,aN y)(D:Jy x):lP w' rb B (M+1) Mb {m with rules:=m.rules++[x]}/\aL B rb w w':=by
 obtain⟨v',h1,h2,h3,h4⟩:=O;exact⟨⟨j,bC z h4.size,{v with u:=v'},h1,G.addU j h4 h3 x o rows A I h2 C F D⟩,h4.kp z (λk J=>(X6 A k J).1)⟩
def gz.renum(h:gz w B M m v)(a b c e:Int)(j:aN a/\aN b/\aN c/\aN e):gz w B M {m with dark:=a,slots:=b,reserve:=c,failures:=e} v:=
 ⟨h.s_,h.f_,h.r_,h.m_,h.l_,h.i_,h.u_,h.sf,h.len,h.rI,h.mI,h.lI,j⟩
end
structure pM(w:XO)(rb B M Mb qb mb Bu:Nat)(t:dK)(d:aG)(m:aU)(rv nv u:XP):Prop where
 at_:lP w rb B M Mb m
 q:af w qb #[az rb] 142
 mm:af w mb #[Zs (XL (rb 1 XM))] 230
 qB:qb<B
 mB:mb<B
 qne:¬mb=rb
 fm:dN mW w Mb (mz t)
 rvs:bg w rb rv d.refs
 nvs:aS w rb nv (d.nums.map λx:Nat=>(x:Int))
 us:w.ownsRow Bu 3 1 u d.refs.length ((d.refs.map (bT t)).map (X1 .i64))
 val:bK d=XR
 Mle:M<=100000
 I:∀s,aN (bT t s)
 byI:aN d.by_
def rM{n:Nat}(h:n<=1048576):aN (n:Int):=by constructor<;>omega
def fs3{d:aG}(h:bK d=XR):∀k∈d.nums,k<=1048576:=by unfold bK at h;rw[XW,Yn]at h;exact λk c=>by simpa using h.2 k c
def F7{d:aG}(h:bK d=XR)(i:Nat):aN (gj d.nums i):=by
 unfold gj;rw[X9];cases hg:d.nums[i]? with
 |none=>exact rM aD
 |some k=>exact rM (fs3 h k (eE hg))
section
variable {w:XO} {rb B M Mb qb mb Bu:Nat} {t:dK} {d:aG} {m:aU} {rv nv u:XP}
def pM.u_at(h:pM w rb B M Mb qb mb Bu t d m rv nv u){i:Nat}(hi:i<d.refs.length):∃ab y c,u=Zk (XL ⟨ab,y,XM⟩) d.refs.length c/\(∀j,j<d.refs.length->w.cell? ⟨ab,y+j,XM⟩=XL (ah (gV (d.refs.map (bT t)) j))):=by
 obtain⟨A,c,he,_,_,h3⟩:=Sl.of_own h.us;obtain⟨ab,y,rfl,_,hc⟩:=h3 cg2;refine⟨ab,y,c,by rw[he];simp,λj z=>hc j _ ?_⟩;have:(d.refs.map (bT t))[j]?=XL (gV (d.refs.map (bT t)) j):=by unfold gV;rw[X9,XT (by rw[XY];exact z)];rfl
 rw[X5,this];rfl
def pM.n_at(h:pM w rb B M Mb qb mb Bu t d m rv nv u)(hi:0<d.nums.length):∃b o c,nv=Zk (XL ⟨b,o,XM⟩) d.nums.length c/\b<rb/\(∀j,j<d.nums.length->w.cell? ⟨b,o+j,XM⟩=XL (ah (gj d.nums j))):=by
 obtain⟨NA,nn,nc,rfl,cS,_,_⟩:=h.nvs.sk.form;obtain⟨A,c,he,_,_,h3⟩:=h.nvs.1;obtain⟨b,o,rfl,hb,hc⟩:=h3 cg2;refine⟨b,o,c,by rw[he];simp,hb,λj y=>hc j _ ?_⟩;have:(d.nums.map λx:Nat=>(x:Int))[j]?=XL (gj d.nums j):=by unfold gj;rw[X5,X9,XT y];rfl
 rw[X5,this];rfl
def pM.ntI64(h:pM w rb B M Mb qb mb Bu t d m rv nv u)(i:Nat):aN (gV (d.refs.map (bT t)) i):=by
 unfold gV;rw[X9,X5];cases d.refs[i]? with
 |none=>exact rM (n:=0) aD
 |some s=>exact h.I s
def yV(w:XO)(rb B M Mb:Nat)(m':aU)(e:Zb)(w':XO):Prop:=(∃x,e=YT x)/\lP w' rb B (M+1) Mb m'/\aL B rb w w'
def fs4(h:pM w rb B M Mb qb mb Bu t d m rv nv u)(hk:d.kind=0):X4 X3 197 #[Zr #[d.kind,bs d.name,rv,nv,d.by_,Zp d.always],u,az mb] w (yV w rb B M Mb (fv t m d)):=by obtain⟨bk,hB,v,hr,hO⟩:=h.at_;obtain⟨RA,rn,rc,rfl,_,_,_⟩:=h.rvs.sk.form;obtain⟨NA,nn,nc,rfl,_,_,_⟩:=h.nvs.sk.form;obtain⟨UA,um,uc,rfl⟩:=eW h.us;have e:fv t m d={m with sites:=m.sites++[d.name]}:=Bv;rw[e];refine(fl1 rb mb B 0 0 0 0 d RA NA UA rn rc nn nc um m.sites.length uc 0 0 0 (nV Mb m v) _ v.s _ w hr rfl h.mm bk h.mB hB hO.s_ CU).m ?_;rintro e w' ⟨c,j⟩;exact⟨c,lP.addS bk hB hO j⟩
def fs5(h:pM w rb B M Mb qb mb Bu t d m rv nv u)(hk:d.kind=1):X4 X3 198 #[Zr #[d.kind,bs d.name,rv,nv,d.by_,Zp d.always],u,az mb] w (yV w rb B M Mb (fv t m d)):=by obtain⟨bk,hB,v,hr,hO⟩:=h.at_;obtain⟨RA,rn,rc,rfl,_,_,_⟩:=h.rvs.sk.form;obtain⟨NA,nn,nc,rfl,_,_,_⟩:=h.nvs.sk.form;obtain⟨UA,um,uc,rfl⟩:=eW h.us;have e:fv t m d={m with feeds:=m.feeds++[d.name]}:=Bv;rw[e];refine(fl2 rb mb B 0 0 0 0 d RA NA UA rn rc nn nc um m.feeds.length uc 0 0 0 (nV Mb m v) _ v.f _ w hr rfl h.mm bk h.mB hB hO.f_ CU).m ?_;rintro e w' ⟨c,j⟩;exact⟨c,lP.addF bk hB hO j⟩
def fs6(h:pM w rb B M Mb qb mb Bu t d m rv nv u)(hk:d.kind=2):X4 X3 199 #[Zr #[d.kind,bs d.name,rv,nv,d.by_,Zp d.always],u,az mb] w (yV w rb B M Mb (fv t m d)):=by obtain⟨bk,hB,v,hr,hO⟩:=h.at_;have z:=(mX h.val).2.2.2.2.1 hk;obtain⟨RA,rn,rc,rfl,_,_,_⟩:=h.rvs.sk.form;obtain⟨NA,nn,nc,rfl,_,_,_⟩:=h.nvs.sk.form;obtain⟨ab,ao,c,rfl,hc⟩:=h.u_at (i:=0) Zv;have e:fv t m d={m with racks:=m.racks++[⟨d.name,gV (d.refs.map (bT t)) 0,gV (d.refs.map (bT t)) 1⟩]}:=Bv;rw[e,z];refine(fl3 rb mb B ab ao 0 0 d RA NA XM rn rc nn nc 0 m.racks.length c _ _ 0 (nV Mb m v) _ v.r _ w hr rfl h.mm bk h.mB hB hO.r_ CU (λe=>eX hO.r_ h.us aD ab e rfl) (hc 0 Zv) (hc 1 Zv)).m ?_;rintro e w' ⟨j,y⟩;exact⟨j,lP.addR bk hB hO ⟨h.ntI64 0,h.ntI64 1⟩ y⟩
def fs7(h:pM w rb B M Mb qb mb Bu t d m rv nv u)(hk:d.kind=3):X4 X3 200 #[Zr #[d.kind,bs d.name,rv,nv,d.by_,Zp d.always],u,az mb] w (yV w rb B M Mb (fv t m d)):=by obtain⟨bk,hB,v,hr,hO⟩:=h.at_;have j:=(mX h.val).2.2.2.2.2.1 hk;obtain⟨RA,rn,rc,rfl,_,_,_⟩:=h.rvs.sk.form;obtain⟨nb,no,nc,rfl,mH,hn⟩:=h.n_at Zv;obtain⟨ab,ao,c,rfl,hc⟩:=h.u_at (i:=0) Zv;have e:fv t m d={m with machs:=m.machs++[⟨d.name,gV (d.refs.map (bT t)) 0,gj d.nums 0⟩]}:=Bv;rw[e,j.1,j.2];refine(fl4 rb mb B ab ao nb no d RA XM XM rn rc 0 nc 0 m.machs.length c _ 0 _ (nV Mb m v) _ v.m _ w hr rfl h.mm bk h.mB hB hO.m_ CU (λe=>eX hO.m_ h.us aD ab e rfl) (hc 0 Zv) (Nat.lt_trans mH bk) (hn 0 Zv)).m ?_;rintro e w' ⟨y,z⟩;exact⟨y,lP.addM bk hB hO ⟨h.ntI64 0,F7 h.val 0⟩ z⟩
def fs8{a b:Int}(c:aN a)(h:aN b):aN (min a b)/\aN (max a b):=by obtain⟨a1,a2⟩:=c;obtain⟨b1,b2⟩:=h;constructor<;>constructor<;>omega
def fs9(h:pM w rb B M Mb qb mb Bu t d m rv nv u)(hk:d.kind=4):X4 X3 201 #[Zr #[d.kind,bs d.name,rv,nv,d.by_,Zp d.always],u,az mb] w (yV w rb B M Mb (fv t m d)):=by obtain⟨bk,hB,v,hr,hO⟩:=h.at_;have j:=(mX h.val).2.2.2.2.2.2.1 hk;obtain⟨RA,rn,rc,rfl,_,_,_⟩:=h.rvs.sk.form;obtain⟨nb,no,nc,rfl,mH,hn⟩:=h.n_at Zv;obtain⟨ab,ao,c,rfl,hc⟩:=h.u_at (i:=0) Zv;have e:fv t m d={m with links:=m.links++[⟨min (gV (d.refs.map (bT t)) 0) (gV (d.refs.map (bT t)) 1),max (gV (d.refs.map (bT t)) 0) (gV (d.refs.map (bT t)) 1),gj d.nums 0⟩]}:=Bv;rw[e,j.1,j.2];have y:=fs8 (h.ntI64 0) (h.ntI64 1);refine(fl5 rb mb B ab ao nb no d RA XM XM rn rc 0 nc 0 m.links.length c _ _ _ (nV Mb m v) _ v.l _ w hr rfl h.mm bk h.mB hB hO.l_ CU (λe=>eX hO.l_ h.us aD ab e rfl) (hc 0 Zv) (hc 1 Zv) (Nat.lt_trans mH bk) (hn 0 Zv)).m ?_;rintro e w' ⟨z,A⟩;exact⟨z,lP.addL bk hB hO ⟨y.1,y.2,F7 h.val 0⟩ A⟩
def ab5(h:pM w rb B M Mb qb mb Bu t d m rv nv u){kind count:Int}(z:aN kind)(A:aN count):Jw (mu t d kind count)/\(∀y∈(mu t d kind count).on,aN y)/\(mu t d kind count).on=ql (d.refs.map (bT t)):=by
 have c:∀i,aN (gj (d.nums.drop (d.nums.length - 3)) i):=λi=>by
  have:=F7 h.val (d.nums.length - 3+i);unfold gj at this⊢
  rw[X9]at this⊢
  rw[List.getElem?_drop];exact this
 refine⟨⟨z,A,c 0,c 1,c 2⟩,λy C=>?_,rfl⟩;have j:y∈d.refs.map (bT t):=(Jp _).mem_iff.1 C;obtain⟨s,_,rfl⟩:=List.mem_map.1 j;exact h.I s
def ft0{B:Nat}{l:List Int}{o:XP}{n:Nat}(h:w.ownsRow B 3 1 o n (l.map (X1 .i64)))(c:l.length=n):w.ownsRow B 3 1 o l.length (l.map (X1 .i64)):=by rw[c];exact h
def ft1(h:pM w rb B M Mb qb mb Bu t d m rv nv u)(j:d.kind=5):X4 X3 202 #[Zr #[d.kind,bs d.name,rv,nv,d.by_,Zp d.always],u,az mb,az qb] w (yV w rb B M Mb (fv t m d)):=by
 obtain⟨bk,hB,v,hr,hO⟩:=h.at_;have hV:=mX h.val;have y:=hV.2.2.2.2.2.2.2.1 j;obtain⟨rows,qf,hX⟩:=hO.i_;obtain⟨A,c,he,_⟩:=Sl.of_own h.us;rw[XY,XY]at he;have e:fv t m d={m with items:=m.items++[mu t d 0 d.refs.length]}:=by simp only[fv,j,XY]
 rw[e,he];obtain⟨g1,g2,g3⟩:=ab5 h (kind:=0) (count:=d.refs.length) (rM (n:=0) aD) (rM Od);refine(fr8 rb mb qb Mb B t d A d.refs.length c 0 0 rv nv (nV Mb m v) _ v.i m.items.length _ w hr rfl rfl h.fm (h.rvs.more (fK bk)) (h.nvs.more (fK bk)) Od Zv h.mm h.q bk h.mB h.qB hB qf CU).mono ?_;exact ab6
def ft2(h:pM w rb B M Mb qb mb Bu t d m rv nv u)(hk:d.kind=6):X4 X3 204 #[Zr #[d.kind,bs d.name,rv,nv,d.by_,Zp d.always],u,az mb,az qb] w (yV w rb B M Mb (fv t m d)):=by obtain⟨bk,hB,v,hr,hO⟩:=h.at_;have hV:=mX h.val;have j:=hV.2.2.2.2.2.2.2.2.1 hk;obtain⟨rows,qf,hX⟩:=hO.i_;obtain⟨A,c,he,_⟩:=Sl.of_own h.us;rw[XY,XY]at he;have e:fv t m d={m with items:=m.items++[mu t d 1 (gj d.nums 0)]}:=Bv;rw[e,he];obtain⟨g1,g2,g3⟩:=ab5 h (kind:=1) (count:=gj d.nums 0) (rM (n:=1) aD) (F7 h.val 0);refine(fr9 rb mb qb Mb B t d A d.refs.length c 1 (gj d.nums 0) rv nv (nV Mb m v) _ v.i m.items.length _ w hr rfl rfl h.fm (h.rvs.more (fK bk)) (h.nvs.more (fK bk)) Od Zv (by unfold gj;rw[X5,X9,XT Zv];rfl) h.mm h.q bk h.mB h.qB hB qf CU).mono ?_;exact ab6
def ft3(h:pM w rb B M Mb qb mb Bu t d m rv nv u)(hk:d.kind=7):X4 X3 205 #[Zr #[d.kind,bs d.name,rv,nv,d.by_,Zp d.always],u,az mb,az qb] w (yV w rb B M Mb (fv t m d)):=by obtain⟨bk,hB,v,hr,hO⟩:=h.at_;have hV:=mX h.val;have j:=hV.2.2.2.2.2.2.2.2.2.1 hk;obtain⟨rows,qf,hX⟩:=hO.i_;obtain⟨A,c,he,_⟩:=Sl.of_own h.us;rw[XY,XY]at he;have e:fv t m d={m with items:=m.items++[mu t d 2 1]}:=Bv;rw[e,he];obtain⟨g1,g2,g3⟩:=ab5 h (kind:=2) (count:=1) (rM (n:=2) aD) (rM (n:=1) aD);refine(fs0 rb mb qb Mb B t d A d.refs.length c 0 0 rv nv (nV Mb m v) _ v.i m.items.length _ w hr rfl rfl h.fm (h.rvs.more (fK bk)) (h.nvs.more (fK bk)) Od Zv h.mm h.q bk h.mB h.qB hB qf CU).mono ?_;exact ab6
def ft4(h:pM w rb B M Mb qb mb Bu t d m rv nv u)(hk:d.kind=8)(C:B<=Bu):X4 X3 206 #[Zr #[d.kind,bs d.name,rv,nv,d.by_,Zp d.always],u,az mb] w (yV w rb B M Mb (fv t m d)):=by obtain⟨bk,hB,v,hr,hO⟩:=h.at_;have y:=(mX h.val).2.2.2.2.2.2.2.2.2.2.1 hk;obtain⟨RA,rn,rc,rfl,_,_,_⟩:=h.rvs.sk.form;obtain⟨nb,no,nc,rfl,mH,hn⟩:=h.n_at Zv;obtain⟨ab,ao,c,rfl,hc⟩:=h.u_at (i:=0) Zv;have D:=(X6 h.us ab rfl).1;have e:fv t m d={m with dark:=gV (d.refs.map (bT t)) 0,slots:=gj d.nums 0,reserve:=gj d.nums 1}:=Bv;rw[e,y.1,y.2];refine(fl0 rb mb ab ao nb no d RA rn rc 0 nc 0 c _ _ _ (nV Mb m v) _ _ _ _ w hr rfl rfl rfl h.mm h.qne (λe=>by omega) (λe=>by omega) (hc 0 Zv) (hn 0 Zv) (hn 1 Zv)).m ?_;rintro e w' ⟨z,A,j⟩;exact⟨z,⟨bk,bC hB j.size,v,A,((hO.gp (gZ.of_kp j) bk).more (Y5 _)).renum _ _ _ _ ⟨h.ntI64 0,F7 h.val 0,F7 h.val 1,hO.nums.2.2.2⟩⟩,j.mono hB⟩
def ft5(h:pM w rb B M Mb qb mb Bu t d m rv nv u)(hk:d.kind=9):X4 X3 207 #[Zr #[d.kind,bs d.name,rv,nv,d.by_,Zp d.always],u,az mb] w (yV w rb B M Mb (fv t m d)):=by obtain⟨bk,hB,v,hr,hO⟩:=h.at_;obtain⟨RA,rn,rc,rfl,_,_,_⟩:=h.rvs.sk.form;obtain⟨NA,nn,nc,rfl,_,_,_⟩:=h.nvs.sk.form;obtain⟨UA,um,uc,rfl⟩:=eW h.us;have e:fv t m d={m with failures:=d.by_}:=Bv;rw[e];refine(fk9 rb mb d RA NA UA rn rc nn nc um uc (nV Mb m v) _ _ w hr rfl h.mm).m ?_;rintro e w' ⟨y,z,j⟩;exact⟨y,⟨bk,bC hB j.size,v,z,((hO.gp (gZ.of_kp j) bk).more (Y5 _)).renum _ _ _ _ ⟨hO.nums.1,hO.nums.2.1,hO.nums.2.2.1,h.byI⟩⟩,j.mono hB⟩
end
end
section
open Go.MapKept Go.ChangeMaps
def LO{u:Nat}(h:u<10):Yb u=[Y2 (48+u)]:=Lib.decDigits_one h
def ab9{u:Nat}(h:¬u<10):Yb u=Yb (u / 10)++[Y2 (48+u%10)]:=by
 conv=>lhs;rw[Yb]
 rw[dif_neg h]
def fr0:XS 0=[48]:=Oq
def fr1:XS 1=[49]:=Oq
def ac0:XS 2=[50]:=Oq
def fr2:XS 5=[53]:=Oq
def fr3:XS (-1)=[45,49]:=by rw[XS,if_pos aD];exact congrArg (45:: ·) (LO aD)
def fo6:XS 128=[49,50,56]:=by rw[XS,if_neg aD];show Yb 128=_;rw[ab9 aD,show 128 / 10=12 from rfl,ab9 (u:=12) aD,show 12 / 10=1 from rfl,LO aD];rfl
def JB:aQ:={cG 5 with a:=2,ss:=[128,0]}
def wm:aQ:={cG 10 with a:=1,b:=2,ok:=2,key:=bs [107],val:=5,old:= -1}
def bl0:List UInt8:=[99,114,97,115,104,32,50,32,49,50,56,32,48]
def bl1:List UInt8:=[114,101,113,117,101,115,116,32,49,32,50,32,99,97,115,32,107,32,45,49,32,53]
def JC:List UInt8:=[116,105,99,107,32,48,50]
def fo7:ea JB=true:=aD
def fo8:ea wm=true:=aD
def fo9:dW JB=bl0:=by have c:dH JB=[XS 2,XS 128,XS 0]:=rfl;rw[dW,c,ac0,fo6,fr0];rfl
def fp0:dW wm=bl1:=by have c:dH wm=[XS 1,XS 2,[99,97,115],[107],XS (-1),XS 5]:=rfl;rw[dW,c,fr1,ac0,fr2,fr3];rfl
def fp1:wm.Num:=⟨⟨by decide,by decide⟩,⟨by decide,by decide⟩,aN.zero,⟨by decide,by decide⟩,⟨by decide,by decide⟩,by simp[wm,cG],by simp[wm,cG]⟩
def fp2:qq (eP (bs bl1))=XL wm:=by rw[<-fp0];exact ar6 wm fp1 fo8
def fw9:∃s0 r,eP (bs JC)=s0::r/\sN s0=XL 3/\iR 3 r=none:=by
 have y:eP (bs JC)=[cb 3,[48,50]].map bs:=by
  have:=aq6 (cb 3) [[48,50]] (by
   intro x hx;simp only[Ys,Yq,or_false]at hx;rcases hx with rfl|rfl
   .exact ar3 3 aD
   .intro c j;simp only[Ys,Yq,or_false]at j;rcases j with rfl|rfl<;>decide)
  exact this
 have z:bX (bs [48,50])=none:=by have e:Lib.atoiAll (bs [48,50]).data.toList= .ok 2:=aD;unfold bX;rw[e];simp only;rw[ac0,if_neg aD]
 have A:iR 3 [bs [48,50]]=none:=by
  unfold iR;repeat rw[if_neg aD]
  unfold nF iB;rw[if_pos Zy];simp[eU,z]
 exact⟨_,_,y,XK 3 aD,A⟩
def fx0(s:ByteArray)(w:XO)(c:dd w)(j:s.size<=100000){y:aQ}(h:qq (eP s)=XL y):X4 X3 13 #[s] w (ab0 w (eP s)):=by
 cases hk:sN (aK (eP s) 0)with
 |none=>rw[ex8 hk]at h;cases h
 |some k=>
  cases hr:iR k ((eP s).drop 1)with
  |none=>rw[Nf hk,hr]at h;cases h
  |some z=>
   cases hv:ea z with
   |false=>rw[Nf hk,hr]at h;simp[hv]at h
   |true=>exact ey3 s w c j k hk z hr hv
def bl2{s:ByteArray}{y:aQ}(h:qq (eP s)=XL y)(I:s.size<=100000)(w:XO)(F:dd w):
 X4 X3 13 #[s] w λe w'=>∃c nm z j C A,e=YT (.tuple #[Zr (y.cells (Zk c nm z) (Zk j C A)),ah 0])/\y.In w' w' (Zk c nm z) (Zk j C A)/\Below w w w'/\kO w (Zk c nm z)/\kO w (Zk j C A):=
 (fx0 s w F I h).mono λe w'⟨G,D⟩=>by rw[h]at D;obtain⟨m,t,he,hI,bM,cj⟩:=D;obtain⟨c,nm,z,rfl,_,_,_⟩:=hI.ms.form;obtain⟨j,C,A,rfl,_,_,_⟩:=hI.ss.form;exact⟨_,_,_,_,_,_,he,hI,G,bM,cj⟩
def fx1{s:ByteArray}{y:aQ}(h:qq (eP s)=XL y)(J:s.size<=100000)(w:XO)(D:dd w):
 X4 X3 13 #[s] w λe w'=>∃c nm z j C A,e=YT (.tuple #[Zr (y.cells (Zk c nm z) (Zk j C A)),ah 0])/\y.In w' w' (Zk c nm z) (Zk j C A)/\Below w w w':=
 (bl2 h J w D).mono λe w'⟨c,nm,z,j,C,A,I,F,G,_⟩=>⟨c,nm,z,j,C,A,I,F,G⟩
def fx2(w:XO)(z:dd w):
 aR 13 #[bs JC] w (.tuple #[Zr #[ah 0,ah 0,ah 0,ah 0,ah 0,X2 ⟨#[]⟩,ah 0,ah 0,Zk XM 0 0,Zk XM 0 0],ah 3]):=by
 obtain⟨s0,r,h1,hk,hr⟩:=fw9;have c:sN (aK (eP (bs JC)) 0)=XL 3:=by rw[h1];exact hk
 have y:iR 3 ((eP (bs JC)).drop 1)=none:=by rw[h1];exact hr
 refine(ey2 (bs JC) w z aD 3 c y).mono λe w'⟨A,j⟩=>?_;rw[Nf c,y]at j;exact⟨j,A⟩
def fx3{W:XO}{h:Nat}(c:ae W h (ah 128))(j:aa W h 1 (ah 0))(y:h<W):JB.In W W (Zk XM 0 0) (Zk (XL (h 0 XM)) 2 2):=
 ⟨⟨by decide,by decide⟩,⟨by decide,by decide⟩,aN.zero,aN.zero,aN.zero,bU _,aN.zero,aN.zero,aS.nil_ _ _,aS.of2 c j y ⟨by decide,by decide⟩ aN.zero⟩
def fx4(W:XO):wm.In W W (Zk XM 0 0) (Zk XM 0 0):=
 ⟨⟨by decide,by decide⟩,⟨by decide,by decide⟩,⟨by decide,by decide⟩,aN.zero,⟨by decide,by decide⟩,by decide,⟨by decide,by decide⟩,⟨by decide,by decide⟩,aS.nil_ _ _,aS.nil_ _ _⟩
def fx5(h:Nat)(W:XO)(z:dd W)(j:ae W h (ah 128))(y:aa W h 1 (ah 0))(A:h<W):
 aR 14 #[Zr #[ah 5,ah 2,ah 0,ah 0,ah 0,X2 ⟨#[]⟩,ah 0,ah 0,Zk XM 0 0,Zk (XL (h 0 XM)) 2 2]] W (X2 ⟨#[99,114,97,115,104,32,50,32,49,50,56,32,48]⟩):=by
 have c:=az2 JB (Zk XM 0 0) (Zk (XL (h 0 XM)) 2 2) W z (fx3 j y A) aD aD;have e:AB JB=bl0:=by unfold AB;rw[if_pos fo7,fo9]
 rw[e]at c;exact c
def fx6(h j:Option Zf)(nm y A z:Nat)(W:XO)(C:wm.In W W (Zk h nm y) (Zk j A z)):
 aR 15 #[Zr #[ah 10,ah 1,ah 2,ah 0,ah 2,X2 ⟨#[107]⟩,ah 5,ah (-1),Zk h nm y,Zk j A z],Zr #[ah 10,ah 1,ah 2,ah 0,ah 2,X2 ⟨#[107]⟩,ah 5,ah (-1),Zk XM 0 0,Zk XM 0 0]] W (Zp XR):=by
 have c:=WR wm wm (Zk h nm y) (Zk j A z) (Zk XM 0 0) (Zk XM 0 0) W C (fx4 W);rw[aq8]at c;exact c
def fx7(w:XO)(Z:dd w):aR 5 #[] w (Zp XR):=by
 have J:=aj Z;have O:Hid (∀W,dd W->X4 X3 13 #[X2 ⟨#[114,101,113,117,101,115,116,32,49,32,50,32,99,97,115,32,107,32,45,49,32,53]⟩] W λe w'=>∃A nm F C I G,e=YT (.tuple #[Zr #[ah 10,ah 1,ah 2,ah 0,ah 2,X2 ⟨#[107]⟩,ah 5,ah (-1),Zk A nm F,Zk C I G],ah 0])/\wm.In w' w' (Zk A nm F) (Zk C I G)/\Below W.heap.size W w'):=λW h=>fx1 fp2 aD W h;have U:=aj λW(h:dd W)=>fx2 W h;clear Z;go_enter func5,ntmps5;go_wp2_with fail
 refine(O _ (J.step (ak (ak (am w) _) _))).m ?_;rintro e y ⟨A,nm,F,C,I,G,rfl,Y,D⟩;have X:=aj (aq (ak (ak (am w) _) _) D);have a_:w.heap.size+1<y:=by have h:=D.size;simp at h;omega
 have cA:w.heap.size<y:=Zv;have jb:=aj Y;obtain⟨br,bM⟩:=dE D;clear Y D;go_wp2_with fail
 refine(U _ (J.step (ak X _))).r λz j=>?_;have V:=aj (aq (ak X _) j);have pk:y.heap.size<z:=by have h:=j.size;simp at h;omega
 have bd:w.heap.size+1<z:=Zv;have gJ:w.heap.size<z:=Zv;have GP:=aj ((jb.below (aq (ak (am y) _) j) (ar _)).more (aq (ak (am y) _) j).size);obtain⟨cM,cj⟩:=dE j;clear j;go_wp2_with fail
 refine(fx5 _ _ (J.step (ak V _)) jM jM bN).r λw3 c=>?_;have bE:=aj (aq (ak V _) c);have nj:y.heap.size<w3:=by have h:=c.size;simp at h;omega
 have SX:=aj ((GP.below (aq (ak (am z) _) c) (ar _)).more (aq (ak (am z) _) c).size);obtain⟨kE,pF⟩:=dE c;clear c;go_wp2_with fail
 refine(fx6 A C nm F I G w3 SX).r λw4 aV=>?_;go_wp2_with fail
 go_ret;exact⟨rfl,aq bE aV⟩
end
section
open Go.MapKept
def ac1(l:List ay):Int:=match l.findIdx? rL with|some i=>(i:Int)|none=> -1
def ac2(j:ay):∀(l:List ay)(a:ay),l≠[]->c_ j (l++[a])=c_ j l++j++a
 |[],a,h=>absurd rfl h
 |[b],a,h=>rfl
 |b::c::l,a,h=>by have y:=ac2 j (c::l) a Zy;show b++j++c_ j (c::l++[a])=_;rw[y];show _=b++j++c_ j (c::l)++j++a;simp
def vC(l:List Int):ay:=sP++c_ [44,32] (l.map XS)
def fx8{l:List Int}(h:∀x∈l,aN x)(j:l.length<=10):(vC l).length<=1000:=by have c:=F5 20 (l.map XS) (λx hx=>by obtain⟨y,hy,rfl⟩:=List.mem_map.1 hx;exact ae1 (h y hy));rw[XY]at c;unfold vC;rw[X0];have:sP.length=8:=rfl;omega
end
def fx9(y C F:Nat)(l:List ByteArray)(offs:List Nat)(bu Y b:Nat)(t:Ya)(cs:Array XP)(w:XO)(G:dd w)
 (h:∀j,j<l.length->w.cell? ⟨y,C+j,XM⟩=XL (X2 (aK l j)))(J:y≠b)(X:y<w)(Z:l.length<=F)(D:∀s∈l,s.size<=1000000)(z:l.length=offs.length)(hn:l.length<=100000)
 (I:∀j,j<offs.length->w.cell? (bu j XM)=XL (Zs (XL ⟨b,t8 offs j,XM⟩)))(O:bu≠b)(oq:bu<w)(gm:8<=b)
 (jm:af w b cs t)(U:∀j,j<offs.length->t8 offs j<cs.size):
 X4 X3 95 #[Zk (XL (y C XM)) l.length F,Zk (XL (bu 0 XM)) offs.length Y] w (am6 w b t cs offs l):=by
 obtain⟨n,hl⟩:∃n,l.length=n:=⟨_,rfl⟩;have cp3:b<w:=by exact PW
 rw[hl]at h Z;rw[<-z,hl];have li:=aj hl;have GX:=aj (z.symm.t hl);have H:=aj h;have HG:=aj G;have uw:=aj D;have HU:=aj I;have V:=aj jm;have HI:=aj U;have iE:n<=100000:=Zv;have bp1:=aj O;have A:=aj J;clear hl z h G D I jm U hn O J;go_enter func95,ntmps95;go_wp2_with fail
 go_loopw [16] (λi wr=>∃(k:Nat)(vs:List Int),k<=n/\i=ah k/\eU (l.take k)=XL vs/\w.grownBy wr (XL b)/\af wr b (sM cs (offs.take k) vs) t) (λi _=>n - (X8 i).toNat)
 case atStart=>exact⟨0,[],bU _,rfl,rfl,PV _ _,V⟩
 case round=>
  obtain⟨k,vs,hk,rfl,Do,hg,jm⟩:=hrel;have HV:=aj Do;have ti:=aj hg;have iA:=aj jm;clear Do hg jm;by_cases ap:k<n
  .have h1:wr.cell? ⟨y,C+k,none⟩=some (.string (aK l k)):=by
    rw[Y1 (ti.block y X (by intro e;injection e with e;exact A e))];exact H k ap
   have h2:aa wr bu k (Zs (XL ⟨b,t8 offs k,XM⟩)):=by exact am8
   exact am9
  .exact ai2
def fy0(s:ByteArray)(y o c F D b:Nat)(t:Ya)(z:Array XP)(w:XO)(O:dd w)
 (h:ae w y (X2 s))(Y:y≠b)(G:y<w)(C:1<=D)(I:s.size<=1000000)
 (U:ae w c (Zs (XL (b o XM))))(Z:c≠b)(X:c<w)(J:8<=b)
 (V:af w b z t)(yy:o<z.size):
 X4 X3 95 #[Zk (XL (y 0 XM)) 1 D,Zk (XL (c 0 XM)) 1 F] w λe w'=>e=YT (Zp (bX s).isSome)/\w.grownBy w' (XL b)/\∃cs',af w' b cs' t/\cs'.size=z.size/\∀u,bX s=XL u->cs'=z.setIfInBounds o (ah u):=by
 refine(fx9 y 0 D [s] [o] c F b t z w O (λj A=>?_) Y G C (by simpa using I) rfl Zy (λj A=>?_) Z X J V λj A=>?_).mono λe w'⟨hg,hp⟩=>?_
 .have:j=0:=by simpa using A
  subst this;exact h
 .have:j=0:=by simpa using A
  subst this;exact U
 .have:j=0:=by simpa using A
  subst this;exact yy
 .exact ai3
def bl3(s c:ByteArray)(w:XO)(z:dd w)(A:s.size<4294967281)(y:1<=c.size):
 X4 X3 34 #[s,c] w λe w'=>∃v,e=YT v/\cP w' w' v (Lib.splitB c 0 (Y3 s c) s)/\(Lib.splitB c 0 (Y3 s c) s).length=Y3 s c+1/\Below w w w':=by
 obtain⟨m,hm⟩:=z.most;refine(strings_Split s c m w A hm y).mono λe w'⟨he,hw⟩=>?_;have bG:(Lib.splitB c 0 (Y3 s c) s).length=Y3 s c+1:=Lib.splitB_all c y 0 _ s rfl;have C:=Lib.countB_le c y s.size s (ar _);exact ak9
def fy1(s c:ByteArray)(w:XO)(h:dd w)(y:s.size<4294967281):
 aR 93 #[s,c] w (.tuple #[X2 (bs (Lib.cut s.data.toList c.data.toList).1),X2 (bs (Lib.cut s.data.toList c.data.toList).2.1),Zp (Lib.cut s.data.toList c.data.toList).2.2]):=by
 obtain⟨m,hm⟩:=h.most;refine(strings_Cut s c m w y hm).mono λe w'⟨j,n,z⟩=>⟨j,?_⟩;subst z;exact qj (YI _ _) n
def fy2(s p:ByteArray)(w:XO):
 X4 X3 94 #[s,p] w λe w'=>e=YT (X2 (bs (Lib.trimPrefix s.data.toList p.data.toList)))/\w'=w:=strings_TrimPrefix s p w
section
open Go.MapKept
def fv2(out:List ay)(c:ay):aJ (out++[c])=aJ out++(c++[10]):=EH
def bj5{s:ByteArray}{k:Nat}{x:UInt8}(h:s.data.toList[k]?=XL x)(c:k<s.size):s[k]=x:=by show s.data[k]=x;rw[Array.getElem?_toList]at h;exact(Array.getElem?_eq_some_iff.1 h).2
def yX(k:Nat):ay:=(rules.getD k ([],[])).1
def cd1:Array Value:=((Yz 17).map λk=>X2 (bs (yX k))).toArray
def fz5:∀k,k<=16->((Yz 17).map λk=>X2 (bs (yX k)))[k]?=XL (X2 (bs (yX k))):=λk h=>by rw[X5,List.getElem?_range Zv];rfl
def fz6(k:Nat)(h:k<=16)(w:XO):aR 180 #[k] w (X2 (bs (yX k))):=by
 have C:(0:Int)<=k:=Zv;have D:(k:Int)<17:=Zv;have F:¬(k:Int)<0:=Zv;have G:¬(17:Int)<=k:=Zv;have z:=aj (fz5 k h);clear h;go_enter func180,ntmps180;go_upto_region 2 with(fail)
 refine ez (λW=>Below w w W/\af W w.heap.size cd1 9) ⟨ak (am w) _,cR w _⟩ ?_;intro A ⟨j,hx⟩;have c:aa A w k (X2 (bs (yX k))):=ag hx (by unfold cd1;rw[List.getElem?_toArray];exact z);have y:=aj j;clear j hx;go_wp2_with fail
 go_ret;exact⟨rfl,y⟩
def fz7{n:Nat}(h:n<=1048576):(Yb n).length<=7:=QP 7 n Zv Zv
def ws(n:Nat)(z:n<=1048576)(w:XO):aR 299 #[n] w (X2 (bs (XS (n:Nat)))):=by
 rw[X_];have D:=aj (fz7 z);have O:=ah4;have c:∀x,(bs [x]).size<=1:=λx=>by rw[eM];exact ar _
 have G:=aj z;clear z;go_enter func299,ntmps299
 go_wp2
 go_loopw [0,3] (λm s wr=>∃(l:List UInt8)(k:Nat),s=X2 (bs l)/\m=ah k/\k<=n/\Yb n=Yb k++l/\Below w w wr) (λm _ _=>(X8 m).toNat)
 case atStart=>exact⟨[],n,rfl,rfl,ar _,by rw[Zd],YI _ _⟩
 case round=>
  obtain⟨l,k,rfl,rfl,hk,he,hb⟩:=hrel;have U:(bs l).size<=7:=by rw[eM];have:=D.o;rw[he,X0]at this;omega
  have C:=aj he;have A:=aj hb;have V:k<=1048576:=by have:=G.o;omega
  clear he hb;by_cases y:10<=k
  .have J:(10:Int)<=k:=by omega
   have X:(0:Int)<=(k:Int)%10:=Zv;have Y:(k:Int)%10<=9:=Zv;have I:=c (48+Y2 (k%10));have j:=aj (show Yb n=Yb (k / 10)++((48+Y2 (k%10))::l)by rw[C.o,ab9 (u:=k) Zv,Yi,UInt8.ofNat_add];rfl);have F:=aj y;clear c y
   go_wp2
   exact⟨⟨_::l,k / 10,congrArg X2 (fU [_] l).symm,congrArg (X1 .i64) Zv,by omega,j,ak A _⟩,by have:=F.o;simp[X8];omega⟩
  .have J:¬(10:Int)<=k:=by omega
   have I:=c (48+Y2 k);have j:=aj (show bs (Yb n)=bs [48+Y2 k]++bs l by rw[C.o,LO (u:=k) Zv,fU,UInt8.ofNat_add];rfl);clear c y
   go_wp2
   go_ret;exact⟨mQ j.symm,ak A _⟩
def fz8{l:List ay}{k:Nat}{x:ay}(hx:l[k]?=XL x)(h:k≠0):eQ (l.take (k+1))=eQ (l.take k)++[44,32]++x:=by rw[YE,hx];unfold eQ;exact ac2 _ _ _ (by intro e;have c:=congrArg List.length e;rw[YK,Zn]at c;have j:=(List.getElem?_eq_some_iff.1 hx).1;omega)
def Rw(v:XP)(l:List ay)(w:XO)(z:bg w w v l)(I:l.length<=1000)(y:∀x∈l,x.length<=100):
 aR 300 #[v] w (X2 (bs (eQ l))):=by
 obtain⟨A,n,c,rfl,hn,hc,fQ⟩:=z.sk.form;have G:=aj z;have C:=aj hn;have D:=aj y;have F:=aj (λk=>show(eQ (l.take k)).length<=102000 from by
  have V:(eQ (l.take k)).length<=(100+2)*(l.take k).length:=F5 100 _ λx hx=>y x (List.mem_of_mem_take hx);have:(l.take k).length<=1000:=by rw[YK];omega
  omega)
 rw[hn]at I;clear z hn y;go_enter func300,ntmps300;go_wp2_with fail
 go_loopw [3,4] (λs i wr=>∃k:Nat,k<=n/\i=ah k/\s=X2 (bs (eQ (l.take k)))/\Below w w wr) (λ_ i _=>n - (X8 i).toNat)
 case atStart=>exact⟨0,bU _,rfl,rfl,am w⟩
 case round=>
  obtain⟨k,hk,rfl,rfl,hb⟩:=hrel;have iA:=aj hb;have Y:(bs (eQ (l.take k))).size<=102000:=by rw[eM];exact F k
  by_cases j:k<n
  .obtain⟨eC,bh⟩:=dt j;obtain⟨x,hx⟩:=iT C j;obtain⟨b,o,rfl,fL,bo⟩:=bg.cell G hx;have U:=kc hb bo;have O:(bs x).size<=100:=by rw[eM];exact D x (eE hx)
   by_cases h0:k=0
   .have HT:=aj (show bs (eQ (l.take (k+1)))=bs (eQ (l.take k))++bs x by
     subst h0;rw[YE,hx];rfl)
    have J:¬(0:Int)<k:=Zv;exact cd2
   .have Z:(bs (eQ (l.take k))++⟨#[44,32]⟩:ByteArray).size<=102002:=by
     rw[ByteArray.size_append];have:(⟨#[44,32]⟩:ByteArray).size=2:=rfl;omega
    have HT:=aj (show bs (eQ (l.take (k+1)))=bs (eQ (l.take k))++⟨#[44,32]⟩++bs x by show _=bs (eQ (l.take k))++bs [44,32]++bs x;rw[fz8 hx h0,fU,fU]);have J:(0:Int)<k:=Zv;exact cd2
  .have X:=eS j;have HT:=aj (show l.take k=l from List.take_of_length_le (by rw[C.o];omega));go_wp2_with fail
   go_ret;exact⟨mQ (by rw[HT.o]),iA⟩
def fz9(n:Nat)(h:2<=n/\n<=4)(w:XO):aR 303 #[n] w (X2 (bs (ua n))):=by
 have c:n=2\/n=3\/n=4:=Zv;clear h;rcases c with rfl|rfl|rfl;all_goals
  go_enter func303,ntmps303;go_wp2_with fail
  go_ret;exact⟨rfl,am w⟩
def ga0(K:XP)(c:ay)(Y:Nat)(z:Bool)(O I:Option Zf)(rn U C J:Nat)(name:Bool)(least most nums:Int)(by_ always:Bool)(w:XO)(A:(!XN (c=[]))=name)(V:least<=(rn:Int))(X:(rn:Int)<=most)(F:(C:Int)=nums)(j:by_=XR\/Y=0)(y:always=XR\/z=XQ):
 aR 295 #[Zr #[K,bs c,Zk O rn U,Zk I C J,Y,Zp z],Zp name,least,most,nums,Zp by_,Zp always] w (Zp XR):=by
 have G:((bs c).toList==[])= !name:=by rw[<-A,Bool.not_not,je,ie,Yf,beq_iff_eq,decide_eq_true_eq]
 have D:by_=XQ->((Y:Int)==0)=true:=λh=>by rcases j with j|j<;>simp_all
 have Z:always=XQ->z=false:=λh=>by rcases y with y|y<;>simp_all
 generalize (Y:Int)=Y at D⊢
 generalize bs c=nm at G⊢
 subst F;clear A j y;cases by_<;>cases always<;>cases name
 all_goals
  go_enter func295,ntmps295;go_wp2_with fail
  go_ret;exact⟨cD (by simp_all),ak (am w) _⟩
def ga1(k:Nat)(V:k<=16)(c:ay)(Y:Nat)(z:Bool)(rA X:Option Zf)(rn rc J Z:Nat)(w:XO)(j:(!XN (c=[]))=(pL k).name)(D:(pL k).least<=rn)(F:rn<=(pL k).most)(I:J=(pL k).nums)(y:DG k Y=XR)(G:(pL k).alw=XR\/z=XQ):
 aR 178 #[Zr #[k,bs c,Zk rA rn rc,Zk X J Z,Y,Zp z]] w (Zp XR):=by
 have A:=aj λK name least most nums by_ always W q1 q2 q3 q6 q4 q5=>ga0 K c Y z rA X rn rc J Z name least most nums by_ always W q1 q2 q3 q6 q4 q5;generalize bs c=nm at A⊢
 generalize XN (c=[])=e0 at j A;rcases oJ V with rfl|rfl|rfl|rfl|rfl|rfl|rfl|rfl|rfl|rfl|rfl|rfl|rfl|rfl|rfl|rfl|rfl;all_goals
  simp only[pL,DG]at j D F y G I;simp at y;have H1:=aj j;have H2:=aj D;have H3:=aj F;have H4:=aj y;have O:=aj G;have H6:=aj I;try have y1:(1:Int)<=Y:=Zv
  try have y2:(Y:Int)<=7:=Zv
  try have y3:(2:Int)<=Y:=Zv
  try have y4:(Y:Int)<=4:=Zv
  clear j D F y G I V;go_enter func178,ntmps178;go_wp2_with(go_at_call 295;refine(A _ _ _ _ _ _ _ _ H1 (by have:=H2.o;omega) (by have:=H3.o;omega) (by have:=H6.o;omega) (by first|exact .inl rfl|exact .inr (by have:=H4.o;omega)) (by first|exact .inl rfl|exact O.o|(have:=O.o;simpa using this))).r λw1 C=>?_;have U:=aq (ak (am w) _) C;have a_:w.heap.size<w1:=dQ C Zy;obtain⟨br,bM⟩:=dE C)
  go_ret;first|exact⟨rfl,U⟩|exact⟨cD bN,U⟩
def sZ(n:Nat)(h:n<=1048576):(bs (XS (n:Nat))).size<=21:=by rw[eM];exact Lib.itoa_length_le _ Zv Zv
def rZ(n0 n1 n2:Nat):ay:=[32]++iJ++[32]++XS (n0:Nat)++[32]++iL++[32]++XS (n1:Nat)++[32]++iK++[32]++XS (n2:Nat)
def cd3(v:XP)(j y z:Nat)(l:List Int)(w:XO)(D:aS w w v l)(X:l[0]?=XL (j:Int))(Y:l[1]?=XL (y:Int))(F:l[2]?=XL (z:Int))(C:j<=1048576/\y<=1048576/\z<=1048576):
 aR 301 #[v] w (X2 (bs (rZ j y z))):=by
 obtain⟨A,n,c,rfl,hn,hc,fQ⟩:=D.form;have bG:=(List.getElem?_eq_some_iff.1 F).1;have g0:(0:Int)<n:=Zv;have g1:(1:Int)<n:=Zv;have g2:(2:Int)<n:=Zv;have g3:0<n:=Zv;have g4:1<n:=Zv;have g5:2<n:=Zv;obtain⟨b,o,rfl,fL,c0⟩:=aS.cell D X;obtain⟨b',o',e1,_,c1⟩:=aS.cell D Y;obtain⟨b',o',e2,_,c2⟩:=aS.cell D F;cases e1;cases e2
 rw[X7]at c0;obtain⟨s0,oC⟩:∃q,bs (XS (j:Nat))=q:=⟨_,rfl⟩;obtain⟨s1,bZ⟩:∃q,bs (XS (y:Nat))=q:=⟨_,rfl⟩;obtain⟨s2,bL⟩:∃q,bs (XS (z:Nat))=q:=⟨_,rfl⟩;have z0:=sZ j C.1;have z1:=sZ y C.2.1;have z2:=sZ z C.2.2;have G:=aj λW=>ws j C.1 W;have jp:=aj λW=>ws y C.2.1 W;have Z:=aj λW=>ws z C.2.2 W;rw[oC]at z0 G;rw[bZ]at z1 jp;rw[bL]at z2 Z;have HU:=aj (show bs (rZ j y z)=⟨#[32,108,111,97,100,32]⟩++s0++⟨#[32,115,105,122,101,32]⟩++s1++⟨#[32,115,104,97,114,101,32]⟩++s2 from by rw[<-oC,<-bZ,<-bL];show _=bs [32,108,111,97,100,32]++bs (XS (j:Nat))++bs [32,115,105,122,101,32]++bs (XS (y:Nat))++bs [32,115,104,97,114,101,32]++bs (XS (z:Nat));rw[fU,fU,fU,fU,fU];exact congrArg bs (by unfold rZ;simp[iJ,iL,iK]));clear D X Y F C bG hn oC bZ bL;have cd:¬9223372036854775807<6+s0.size:=Zv;have cZ:¬9223372036854775807<6+s0.size+6:=Zv;have V2:¬9223372036854775807<6+s0.size+6+s1.size:=Zv;have sE:¬9223372036854775807<6+s0.size+6+s1.size+7:=Zv;have mh:¬9223372036854775807<6+s0.size+6+s1.size+7+s2.size:=Zv;go_enter func301,ntmps301;go_upto_region 1 with(fail)
 go_region_held3 (λw'=>aa w' b o (ah j)/\aa w' b (o+1) (ah y)/\aa w' b (o+2) (ah z)) (go_simp)
  (first
    |(go_at_call_of 299 (ah (j:Nat));refine(G _).r λw1 I=>?_;have V:Below w w w1:=aq (aW (am w)) I;have pk:b<w1:=bJ fL V.size;obtain⟨br,bM⟩:=oQ I)
    |(go_at_call_of 299 (ah (y:Nat));refine(jp _).r λw2 U=>?_;have O:=aq V U;have tO:b<w2:=bJ fL O.size;obtain⟨cM,cj⟩:=dE U)
    |(go_at_call_of 299 (ah (z:Nat));refine(Z _).r λw3 J=>?_;have du:=aq O J;obtain⟨kE,pF⟩:=dE J))
 go_wp2_with fail
 go_ret;exact⟨mQ HU.symm,du⟩
def AK(n:Nat):List ay:=(if n%2=1 then[mR]else[])++(if n / 2%2=1 then[fN]else[])++(if n / 4%2=1 then[ga]else[])
def cd5(n:Nat):xC n=eQ (AK n):=rfl
def cd6(n:Nat):(AK n).length<=3:=by unfold AK;split<;>split<;>split<;>simp
def cd7(n:Nat):∀x∈AK n,x.length<=7:=by unfold AK;split<;>split<;>split<;>simp[mR,fN,ga]
def Sf{l:List ay}(h:l.length<=16/\∀x∈l,x.length<=31):(bs (eQ l)).size<=528:=by rw[eM];have c:(eQ l).length<=(31+2)*l.length:=F5 31 _ h.2;have:(31+2)*l.length<=(31+2)*16:=Zi _ h.1;omega
def ga2(n:Nat):(bs (xC n)).size<=27:=by rw[eM,cd5];have c:(eQ (AK n)).length<=(7+2)*(AK n).length:=F5 7 _ (cd7 n);have:(7+2)*(AK n).length<=(7+2)*3:=Zi _ (cd6 n);omega
def gi5(n:Nat):(bs (ua n)).size<=4:=by
 rw[eM];unfold ua;split
 .decide
 .split
  .decide
  .split<;>decide
def cd8(a b c:Nat)(h:a<=1048576/\b<=1048576/\c<=1048576):(bs (rZ a b c)).size<=90:=by rw[eM];unfold rZ;have j:=sZ a h.1;have y:=sZ b h.2.1;have z:=sZ c h.2.2;rw[eM]at j y z;simp only[X0,Yl,iJ,iL,iK,YF,Zn];omega
def cd9{w:XO}{B b o n c:Nat}{x:XP}{xs:List XP}(h:Sl w B (Zk (XL (b o XM)) n c) (x::xs)):Sl w B (Zk (XL (b (o+1) XM)) (n - 1) (c - 1)) xs:=by
 obtain⟨A,c',e,h1,h2,h3⟩:=h;injection e with y z C;subst y z C;obtain⟨b',o',y,hb,hc⟩:=h3 Zy;injection y with y;injection y with y z _;subst y z;simp only[YF]at h1;refine⟨_,c - 1,by simp,by omega,by omega,λ_=>⟨b,o+1,rfl,hb,λj u D=>?_⟩⟩;have:=hc (j+1) u (by simpa using D)
 rwa [show o+(j+1)=o+1+j by omega]at this
def gi6{w:XO}{B b o n c:Nat}{x:ay}{xs:List ay}(h:bg w B (Zk (XL (b o XM)) n c) (x::xs)):bg w B (Zk (XL (b (o+1) XM)) (n - 1) (c - 1)) xs:=cd9 (xs:=(xs.map bs).map X2) h
def gi7{w:XO}{B b o n c:Nat}{x:Int}{xs:List Int}(h:aS w B (Zk (XL (b o XM)) n c) (x::xs)):aS w B (Zk (XL (b (o+1) XM)) (n - 1) (c - 1)) xs:=
 ⟨cd9 (xs:=xs.map (X1 .i64)) h.1,λy j=>h.2 y (List.mem_cons_of_mem _ j)⟩
end
end Go.Proofs.YtihhpjmclebfpaaGreatDoor
