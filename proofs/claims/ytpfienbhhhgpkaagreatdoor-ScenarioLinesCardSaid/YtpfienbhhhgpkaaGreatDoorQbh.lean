/- A part of the proof. -/
import Derived.Test.YtpfienbhhhgpkaaGreatDoorQbg
set_option linter.defProp false
set_option linter.unusedVariables false
set_option linter.unusedSimpArgs false
set_option maxRecDepth 100000
set_option maxHeartbeats 32000000
open Option renaming some->WX,none->WY
open Decidable renaming decide->WZ
open Go renaming World->Xa,Value->Xb,Calls->Xq,TypeId->Xv,maxLen->XF,Oper->Yf,undef->Yg,Ending->Ys,Addr->Yy,Program->YA
open Bool renaming false->Xc,true->Xe
open List renaming range->XS
open Go.RowKit renaming Hid->Xf
open Go.Lib renaming itoa->Xg,split->XL
open And renaming intro->Xi
open Go.Proofs.Tryz renaming prog->Xn
open Go.Proofs renaming intOf->Xw
open Go.Value renaming int->Xo,string->Xp,ownBlock->X2,oneCell'->X4,slice->YG,bool->YH,agg->YJ,pointer->YK
open Go.Instr renaming lookup->XB
open Go.World renaming setCell->Ye,cell?->Yx
open Go.IntKind renaming i64->XO
open Go.Region renaming wanted->XW,ready->Yc,Mode->Yq
open Go.Ending renaming returned->Ya
open ByteArray renaming size_append->Yo
open Go.Oper renaming wp->YE
open Go.Obj renaming cells->YI
open Go.Operand renaming tmp->YL,const->YM
theorem Go.Shut.o{p:Prop}(h:Shut p):p:=h
namespace Go.Proofs.YtpfienbhhhgpkaaGreatDoor
section
open Go Go.RowKit Go.Proofs.Tryz
def eI(l:List ar)(n:Int):ar:=l.getD (n - 1).toNat []
def im(m:aT)(x:ci):aH:=
 {kind:=(10+x.kind).toNat,by_:=x.by_.toNat,always:=x.always,
  refs:=(if 0<x.item then[eI (m.items.map (·.name)) x.item]else[])++(if 0<x.other then[eI (m.items.map (·.name)) x.other]else[])++x.ms.map (eI (m.machs.map (·.name))),
  nums:=if x.kind=1\/x.kind=2\/x.kind=5\/x.kind=6 then[x.n.toNat]else[]}
def qu(m:aT)(x:em):aH:=
 {kind:=(5+x.kind).toNat,name:=x.name,refs:=x.on.map (eI (m.machs.map (·.name))),
  nums:=(if x.kind=1 then[x.count.toNat]else[])++[x.load.toNat,x.size.toNat,x.share.toNat]}
def kD(m:aT):List aH:=
 m.sites.map (λs=>{kind:=0,name:=s})++m.feeds.map (λs=>{kind:=1,name:=s})++
 m.racks.map (λx=>{kind:=2,name:=x.name,refs:=[eI m.sites x.site,eI m.feeds x.feed]})++
 m.machs.map (λx=>{kind:=3,name:=x.name,refs:=[eI (m.racks.map (·.name)) x.rack],nums:=[x.cap.toNat]})++
 m.links.map (λx=>{kind:=4,refs:=[eI m.sites x.a,eI m.sites x.b],nums:=[x.cap.toNat]})++
 m.items.map (qu m)++
 [{kind:=8,refs:=[eI m.sites m.dark],nums:=[m.slots.toNat,m.reserve.toNat]}]++
 (if 0<m.failures then[{kind:=9,by_:=m.failures.toNat}]else[])++
 m.rules.map (im m)
def iG(sep:ar):List ar->ar
 |[]=>[]
 |[a]=>a
 |a::b::l=>a++sep++iG sep (b::l)
def rH(d:aH)(i:Nat):ar:=Xg (d.nums.getD i 0:Nat)
def iL(l:List ar):ar:=iG [44,32] l
def yW(d:aH)(i:Nat):List ar:=[lN,rH d i,lP,rH d (i+1),lO,rH d (i+2)]
def OO(n:Nat):ar:=iL ((if n%2=1 then[ox]else[])++(if n / 2%2=1 then[fH]else[])++(if n / 4%2=1 then[fU]else[]))
def vY(n:Nat):ar:=if n=2 then fH else if n=3 then fU else if n=4 then j7 else[]
def t5(d:aH):List ar:=d.refs++d.nums.map λn=>Xg (n:Nat)
def iH(d:aH)(i:Nat):ar:=d.refs.getD i []
def sS(d:aH):List ar:=
 match d.kind with
 |0=>[d.name]
 |1=>[d.name]
 |2=>[d.name,nB,iH d 0,gT,iH d 1]
 |3=>[d.name,nB,iH d 0,vE,rH d 0]
 |5=>[d.name,gT,iL d.refs]++yW d 0
 |6=>[d.name,rH d 0,gT,iL d.refs]++yW d 1
 |7=>[d.name,gT,iH d 0]++yW d 0
 |8=>[iH d 0,vG,rH d 0,vF,rH d 1]
 |9=>[OO d.by_]
 |11=>if d.always then t5 d++[eD]else t5 d
 |12=>[iH d 0,vD,vY d.by_,rH d 0]
 |13=>[iH d 0,gT,iL (d.refs.drop 1)]
 |14=>[iH d 0,vC,iH d 1]
 |_=>t5 d
def jL(d:aH):ar:=(rules.getD d.kind ([],[])).1++[32]++iG [32] (sS d)++[59]
def aE(l:List ar):ar:=(l.map λs=>s++[10]).flatten
structure fz where
 m:aT
 control:List Int
 clients:Int
 acts:List aS
def oM(m:aT)(k:Int):Int:=
 ((m.racks[(((m.machs[(k - 1).toNat]?).map (·.rack)).getD 0 - 1).toNat]?).map (·.site)).getD 0
def jq(s:fz):Bool:=
 dZ (λk b=>aG k s.m.machs.length&&(match b.getLast? with|none=>Xe|some p=>WZ (p<k))&& !WZ (oM s.m k=s.m.dark)) [] s.control&&
 (WZ (s.control.length=1)||WZ (s.control.length=3)||WZ (s.control.length=5))
def dV(s:fz):Bool:=ev s.m&&jq s&&aD s.clients 0 8&&WZ (s.acts.length<=1024)&&s.acts.all dx
def pT:ar:=[99,111,110,116,114,111,108,32]
def gy:ar:=[32,99,108,105,101,110,116,115,32]
def eC(s:fz):ar:=pT++iG [44,32] (s.control.map Xg)++gy++Xg s.clients
def kK(s:fz):ar:=if dV s then aE ((kD s.m).map jL)++aE (eC s::s.acts.map dy)else[]
def lV(p:PS)(out:List aH):Except (Nat×Nat) (List aH):=
 if p.head.kind=0 then .ok out
 else
  let q:PS×List aH:=if out.length=1024 then(p.fail p.beyond,out)else(p.decl.1,out++[p.decl.2])
  if q.1.e≠0 then .error (q.1.head.pos,q.1.e)
  else if az:q.1.ts.length<p.ts.length then lV q.1 q.2 else .ok q.2
termination_by p.ts.length
def lW(s:ar):Except (Nat×Nat) (List aH):=
 match nF s with
 | .error e=> .error e
 | .ok ts=>lV ⟨ts,0,{}⟩ []
def E8(s:ar)(k:Nat):Nat:=1+(s.take k).count 10
def xS(line:ar):Option (List Int×Int):=
 let c:=Lib.cut (line.drop 8) gy
 if c.2.2 then(bM (bs c.2.1)).bind λn=>(dX ((XL c.1 [44,32]).map bs)).map λl=>(l,n)else WY
def jc:Nat->List aS->List ar->Except (Nat×Nat) (List aS)
 |_,acc,[]=> .ok acc
 |k,acc,s::r=>
  if s=[]\/s.head?=WX 35 then jc (k+1) acc r
  else match iX (cP (bs s))with
   |none=> .error (k,3)
   |some a=>if acc.length=1024 then .error (k,8)else jc (k+1) (acc++[a]) r
def bL(t:ar):List ar:=let l:=XL t [10];if l.getLast?=WX []then l.dropLast else l
def oN(t:ar):Except (Nat×Nat) fz:=
 if 65536<t.length then .error (0,8)
 else match (bL t).findIdx? (λs=>pT.isPrefixOf s)with
  |none=> .error ((bL t).length+1,3)
  |some i=>match lW (aE ((bL t).take i))with
   | .error x=> .error (E8 (aE ((bL t).take i)) x.1,x.2)
   | .ok ds=>match nG ds with
     | .error x=> .error (0,x.2)
     | .ok m=>match xS ((bL t).getD i [])with
       |none=> .error (i+1,3)
       |some c=>match jc (i+2) [] ((bL t).drop (i+1))with
        | .error x=> .error x
        | .ok acts=>if dV ⟨m,c.1,c.2,acts⟩then .ok ⟨m,c.1,c.2,acts⟩else .error (i+1,1)
end
section
open Go Go.Proofs.Tryz
section
variable {P:YA} {ops:Array Yf} {Q:Exit->Act->Xa->Prop} {md:Yq} {S:Xa->Prop} {N:Nat}
def fj(P:YA)(md:Yq)(ops:Array Yf)(Q:Exit->Act->Xa->Prop)(S:Xa->Prop)(N:Nat):Nat->Array Bool->Act->Xa->Prop
 |0,listed,a,w=>Yc md ops listed=[]/\Q .normal a w
 |fuel+1,listed,a,w=>
  (Yc md ops listed=[]->Q .normal a w)/\
  ∀i∈Yc md ops listed,wpOp P ops Q i (λa' w'=>(i<N->S w')/\fj P md ops Q S N fuel (listed.setIfInBounds i Xe) a' w') a w
def aq7:∀(fuel:Nat)(listed:Array Bool)(a:Act)(w:Xa),fj P md ops Q S N fuel listed a w->wpAny P md ops Q fuel listed a w
 |0,_,_,_,h=>h
 |fuel+1,_,_,_,h=>⟨h.1,λi y=>wpOp_mono (λc w' j=>aq7 fuel _ c w' j.2) (h.2 i y)⟩
def C9(md:Yq)(ops:Array Yf)(N i:Nat):Bool:=(XS ops.size).all λj=>WZ (j<N)||gZ md ops j i
def ds4{i j:Nat}(h:C9 md ops N i=Xe)(hj:j<ops.size)(c:N<=j):gZ md ops j i=true:=by exact aq8
def ds5{i:Nat}{y:Yf}{v:Xb}(hi:ops[i]?=WX y)(Ks:i<N)(F:∀(j:Nat)(o:Yf)A b,ops[j]?=WX o->o.op≠ .select A b)(U:C9 md ops N i=Xe)
 (Z:∀c a w,Q (.panic c) (a.put y.dst v) w->Q (.panic c) a w):
 ∀(fuel:Nat)(listed:Array Bool)(a:Act)(w:World),
  (∀j z,ops[j]?=WX z->j≠i->listed.getD j Xe=Xc->(∀e∈z.after,Region.binds md e=Xe->e.on≠i)->y.apart ops z=Xe)->
  i∈Yc md ops listed->YieldsIf P ops S y v a->S w->
  fj P md ops Q S N fuel (listed.setIfInBounds i Xe) (a.put y.dst v) w->fj P md ops Q S N (fuel+1) listed a w:=by
 intro fuel;induction fuel with
 |zero=>intro listed a w _ hr hy hS H;exact aq9
 |succ fuel ih=>
  intro listed a w G hr hy hS H;refine⟨λh=>(by rw[h]at hr;cases hr),λj hj=>?_⟩;by_cases sY:j=i
  .subst sY;exact hy.wpOp hi hS ⟨λ_=>hS,H⟩
  .have h1:=H.2 j (ready_mono hj sY);obtain⟨Kv,z,zf,dE⟩:=mem_ready.1 hj;have I:∀e∈z.after,Region.binds md e=true->e.on≠i:=λe he hb heq=>by exact ar0
   have V:j<N:=by
    rcases XN j N with h|h
    .exact h
    .obtain⟨o,ho,e,he,hb,gh8⟩:=Wr (ds4 U (Array.getElem?_eq_some_iff.1 zf).1 h);rw[zf]at ho;injection ho with ho;subst ho;exact absurd gh8 (I e he hb)
   have Y:=wpOp_putIf zf (G j z zf sY Kv I) (λA b=>F i y A b hi) (λA b=>F j z A b zf) Z hy h1;have hfree':∀k ok,ops[k]?=WX ok->k≠i->(listed.setIfInBounds j Xe).getD k Xe=Xc->
    (∀e∈ok.after,Region.binds md e=Xe->e.on≠i)->y.apart ops ok=true:=λk ok hk O D me=>by
    refine G k ok hk O ?_ me;by_cases J:j=k
    .subst J;exact Kv
    .rw[getD_set_ne Xe J]at D;exact D
   refine wpOp_mono (λX w' C=>⟨C.2.1,ih (listed.setIfInBounds j Xe) X w' hfree' (ready_mono hr (Ne.symm sY)) C.1 (C.2.1 V) ?_⟩) Y;rw[Array.setIfInBounds_comm _ _ sY];exact C.2.2
def Ig{i:Nat}{j:Yf}{v:Xb}{fuel:Nat}{listed:Array Bool}{a:Act}{w:Xa}(d:Option Tmp)(y:ops[i]?=WX j)(D:j.dst=d)(z:WZ (i<N)=Xe)
 (J:Region.noSelect ops=Xe)(F:Region.free md ops listed i=Xe)(I:(Yc md ops listed).contains i=Xe)(G:C9 md ops N i=Xe)
 (A:∀c a w,Q (.panic c) (a.put d v) w->Q (.panic c) a w)(O:YieldsIf P ops S j v a)(C:S w)
 (h:fj P md ops Q S N fuel (listed.setIfInBounds i Xe) (a.put d v) w):fj P md ops Q S N (fuel+1) listed a w:=by
 subst D;exact ds5 y (of_decide_eq_true z) (Region.noSelect_spec J) G A fuel listed a w (Region.free_spec y F) (by simpa using I) O C h
def cq7(m s:Nat){j:Yf}{v:Xb}{fuel:Nat}{listed:Array Bool}{a:Act}{w:Xa}(hi:ops[m - (fuel+1)]?=WX j)(hk:(mz md ops listed (m - (fuel+1)) (s+(m - (fuel+1)))&&(WZ (m - (fuel+1)<N)&&C9 md ops N (m - (fuel+1))))=Xe)
 (hQ:∀c a w,Q (.panic c) (a.put (WX (s+(m - (fuel+1)))) v) w->Q (.panic c) a w)(hy:YieldsIf P ops S j v a)(hS:S w)
 (h:fj P md ops Q S N fuel (listed.setIfInBounds (m - (fuel+1)) Xe) (a.put (WX (s+(m - (fuel+1)))) v) w):fj P md ops Q S N (fuel+1) listed a w:=by
 exact ar1
def ds6(i t:Nat){j:Yf}{v:Xb}{fuel:Nat}{listed:Array Bool}{a:Act}{w:Xa}(hi:ops[i]?=WX j)(hk:(mz md ops listed i t&&(WZ (i<N)&&C9 md ops N i))=Xe)
 (hQ:∀c a w,Q (.panic c) (a.put (WX t) v) w->Q (.panic c) a w)(hy:YieldsIf P ops S j v a)(hS:S w)
 (h:fj P md ops Q S N fuel (listed.setIfInBounds i Xe) (a.put (WX t) v) w):fj P md ops Q S N (fuel+1) listed a w:=by
 exact ar1
def dT(P:YA)(md:Yq)(ops:Array Yf)(Q:Exit->Act->Xa->Prop)(S:Xa->Prop)(N:Nat)(fuel:Nat)(listed:Array Bool)(a:Act)(w:Xa)(rs:List Nat):Prop:=
 ∀i∈rs,wpOp P ops Q i (λa' w'=>(i<N->S w')/\fj P md ops Q S N fuel (listed.setIfInBounds i Xe) a' w') a w
def dT.nil{fuel:Nat}{listed:Array Bool}{a:Act}{w:Xa}:dT P md ops Q S N fuel listed a w []:=λ_ h=>by cases h
def dT.cons1{fuel:Nat}{listed:Array Bool}{a:Act}{w:Xa}{i:Nat}{o:Yf}{rs:List Nat}(ho:ops[i]?=WX o)
 (h:∀c:Act->Xa->Prop,Shut (∀a w,S w->(S w->fj P md ops Q S N fuel (listed.setIfInBounds i Xe) a w)->c a w)->if XW o (yielded ops a.tmps)=Xe then YE P o a w c Q else c (a.put o.dst Yg) w)
 (D:dT P md ops Q S N fuel listed a w rs):dT P md ops Q S N fuel listed a w (i::rs):=λj y=>by
 rcases List.mem_cons.1 y with rfl|y
 .exact wpOp_step ho (λc A=>h c (λa w z C=>A a w ⟨λ_=>z,C z⟩))
 .exact D j y
def dT.cons2{fuel:Nat}{listed:Array Bool}{a:Act}{w:Xa}{i:Nat}{o:Yf}{rs:List Nat}(ho:ops[i]?=WX o)(A:WZ (N<=i)=Xe)
 (h:∀c:Act->Xa->Prop,Shut (∀a w,fj P md ops Q S N fuel (listed.setIfInBounds i Xe) a w->c a w)->if XW o (yielded ops a.tmps)=Xe then YE P o a w c Q else c (a.put o.dst Yg) w)
 (D:dT P md ops Q S N fuel listed a w rs):dT P md ops Q S N fuel listed a w (i::rs):=λj y=>by
 rcases List.mem_cons.1 y with rfl|y
 .exact wpOp_step ho (λc z=>h c (λa w C=>z a w ⟨λh=>by have:=of_decide_eq_true A;omega,C⟩))
 .exact D j y
def qw{rs:List Nat}{fuel:Nat}{listed:Array Bool}{a:Act}{w:Xa}(c:Yc md ops listed=rs)(j:rs≠[])
 (h:dT P md ops Q S N fuel listed a w rs):fj P md ops Q S N (fuel+1) listed a w:=⟨λy=>absurd (c▸y) j,c▸h⟩
def ds7{listed:Array Bool}{a:Act}{w:Xa}(c:Yc md ops listed=[])(h:Q .normal a w):
 ∀fuel,fj P md ops Q S N fuel listed a w
 |0=>⟨c,h⟩
 |_+1=>⟨λ_=>h,by rw[c];simp⟩
def ds8{id:Nat}{a:Act}{w:Xa}(N:Nat)(hm:P.follows .mixedOrders=Xe)(c:S w.drew)
 (h:S w.drew->fj P .any ops Q S N ops.size (Array.replicate ops.size Xc) a w.drew):(Code.region id ops Xe).wp P Q a w:=
 wp_region_any hm (aq7 _ _ _ _ (h c))
def cL(m s:Nat){j:Yf}{v:Xb}{fuel:Nat}{listed:Array Bool}{a:Act}{w:Xa}{p:Prop}(h:p)(hS:S w:=by exact hS)
 (z:ops[m - (fuel+1)]?=WX j:=by rfl)(A:(mz md ops listed (m - (fuel+1)) (s+(m - (fuel+1)))&&(WZ ((m - (fuel+1))<N)&&C9 md ops N (m - (fuel+1))))=true:=by kernel_rfl)
 (y:∀c a w,Q (.panic c) (a.put (WX (s+(m - (fuel+1)))) v) w->Q (.panic c) a w:=by exact λ_ _ _ h=>h)(D:YieldsIf P ops S j v a:=by(refine Or.inl ⟨by rfl,?_⟩;intro w hZ;(try have hZ:=fP.o w hZ);(try dsimp only at hZ);go_simp;try with_reducible rfl))
 (C:p->fj P md ops Q S N fuel (listed.setIfInBounds (m - (fuel+1)) Xe) (a.put (WX (s+(m - (fuel+1)))) v) w:=by(intro hq;simp only[Act.put,wu,ww,wv,Nat.reduceSub,Nat.reduceAdd];exact hq)):fj P md ops Q S N (fuel+1) listed a w:=
 cq7 m s z A y D hS (C h)
def qY(m s:Nat){j:Yf}{fuel:Nat}{listed:Array Bool}{a:Act}{w:Xa}{p:Prop}(h:p)(hS:S w:=by exact hS)
 (z:ops[m - (fuel+1)]?=WX j:=by rfl)(A:(mz md ops listed (m - (fuel+1)) (s+(m - (fuel+1)))&&(WZ ((m - (fuel+1))<N)&&C9 md ops N (m - (fuel+1))))=true:=by kernel_rfl)
 (y:∀c a w,Q (.panic c) (a.put (WX (s+(m - (fuel+1)))) Yg) w->Q (.panic c) a w:=by exact λ_ _ _ h=>h)(D:YieldsIf P ops S j Yg a:=by exact Or.inr ⟨by rfl,rfl⟩)
 (C:p->fj P md ops Q S N fuel (listed.setIfInBounds (m - (fuel+1)) Xe) (a.put (WX (s+(m - (fuel+1)))) Yg) w:=by(intro hq;simp only[Act.put,wu,ww,wv,Nat.reduceSub,Nat.reduceAdd];exact hq)):fj P md ops Q S N (fuel+1) listed a w:=
 cq7 m s z A y D hS (C h)
def iw(i t:Nat){j:Yf}{v:Xb}{fuel:Nat}{listed:Array Bool}{a:Act}{w:Xa}{p:Prop}(h:p)(hS:S w:=by exact hS)
 (z:ops[i]?=WX j:=by rfl)(A:(mz md ops listed i t&&(WZ (i<N)&&C9 md ops N i))=true:=by kernel_rfl)
 (y:∀c a w,Q (.panic c) (a.put (WX t) v) w->Q (.panic c) a w:=by exact λ_ _ _ h=>h)(D:YieldsIf P ops S j v a:=by(refine Or.inl ⟨by rfl,?_⟩;intro w hZ;(try have hZ:=fP.o w hZ);(try dsimp only at hZ);go_simp;try with_reducible rfl))
 (C:p->fj P md ops Q S N fuel (listed.setIfInBounds i Xe) (a.put (WX t) v) w:=by(intro hq;simp only[Act.put,wu,ww,wv];exact hq)):fj P md ops Q S N (fuel+1) listed a w:=
 ds6 i t z A y D hS (C h)
def bC(i:Nat){o:Yf}{fuel:Nat}{listed:Array Bool}{a:Act}{w:Xa}(h:∀c:Act->Xa->Prop,Shut (∀a w,S w->(S w->fj P md ops Q S N fuel (listed.setIfInBounds i Xe) a w)->c a w)->if XW o (yielded ops a.tmps)=Xe then YE P o a w c Q else c (a.put o.dst Yg) w)
 (j:Yc md ops listed=[i]:=by kernel_rfl)(ho:ops[i]?=WX o:=by rfl):fj P md ops Q S N (fuel+1) listed a w:=qw j YQ (dT.cons1 ho h dT.nil)
def eQ(i:Nat){o:Yf}{fuel:Nat}{listed:Array Bool}{a:Act}{w:Xa}(h:∀c:Act->Xa->Prop,Shut (∀a w,fj P md ops Q S N fuel (listed.setIfInBounds i Xe) a w->c a w)->if XW o (yielded ops a.tmps)=Xe then YE P o a w c Q else c (a.put o.dst Yg) w)
 (y:Yc md ops listed=[i]:=by kernel_rfl)(ho:ops[i]?=WX o:=by rfl)(j:WZ (N<=i)=true:=by rfl):fj P md ops Q S N (fuel+1) listed a w:=qw y YQ (dT.cons2 ho j h dT.nil)
def gx{S:Xa->Prop}(N n:Nat){id:Nat}{a:Act}{w:Xa}(c:S (World.drew w))(h:S (World.drew w)->fj P .any ops Q S N n (Array.replicate n Xc) a (World.drew w))(hm:P.follows .mixedOrders=true:=by kernel_rfl)(j:ops.size=n:=by rfl):(Code.region id ops Xe).wp P Q a w:=by subst j;exact ds8 N hm c h
def gA{listed:Array Bool}{a:Act}{w:Xa}{fuel:Nat}(h:Q .normal a w)(c:Yc md ops listed=[]:=by kernel_rfl):fj P md ops Q S N fuel listed a w:=ds7 c h fuel
end
end
section
open Go Go.RowKit Go.Proofs.Tryz
def dy3(x:ci)(A:Option Yy)(n c:Nat)(w:Xa):
 aR 332 #[YJ (x.vals (YG A n c))] w (YJ ((jd 0 x).vals (YG WY 0 0))):=by
 unfold ci.vals;go_enter func332,ntmps332;go_wp2_with fail
 refine bodyPost_ret (v:=YJ ((jd 0 x).vals (YG WY 0 0))) (by simp[results,results332,go_sem,ci.vals,jd,qO]) rfl ?_;exact Fd
def dy4(x:ci)(A:Option Yy)(n c:Nat)(w:Xa):
 aR 334 #[YJ (x.vals (YG A n c))] w (YJ ((jd 1 x).vals (YG WY 0 0))):=by
 unfold ci.vals;go_enter func334,ntmps334;go_wp2_with fail
 refine bodyPost_ret (v:=YJ ((jd 1 x).vals (YG WY 0 0))) (by simp[results,results334,go_sem,ci.vals,jd,qO]) rfl ?_;exact Fd
def dy5(x:ci)(A:Option Yy)(n c:Nat)(w:Xa):
 aR 336 #[YJ (x.vals (YG A n c))] w (YJ ((jd 2 x).vals (YG WY 0 0))):=by
 unfold ci.vals;go_enter func336,ntmps336;go_wp2_with fail
 refine bodyPost_ret (v:=YJ ((jd 2 x).vals (YG WY 0 0))) (by simp[results,results336,go_sem,ci.vals,jd,qO]) rfl ?_;exact Fd
def dy6(x:ci)(A:Option Yy)(n c:Nat)(w:Xa):
 aR 338 #[YJ (x.vals (YG A n c))] w (YJ ((jd 3 x).vals (YG A n c))):=by
 unfold ci.vals;go_enter func338,ntmps338;go_wp2_with fail
 refine bodyPost_ret (v:=YJ ((jd 3 x).vals (YG A n c))) (by simp[results,results338,go_sem,ci.vals,jd,qO]) rfl ?_;exact Fd
def dy7(x:ci)(A:Option Yy)(n c:Nat)(w:Xa):
 aR 340 #[YJ (x.vals (YG A n c))] w (YJ ((jd 4 x).vals (YG WY 0 0))):=by
 unfold ci.vals;go_enter func340,ntmps340;go_wp2_with fail
 refine bodyPost_ret (v:=YJ ((jd 4 x).vals (YG WY 0 0))) (by simp[results,results340,go_sem,ci.vals,jd,qO]) rfl ?_;exact Fd
def dy8(x:ci)(A:Option Yy)(n c:Nat)(w:Xa):
 aR 342 #[YJ (x.vals (YG A n c))] w (YJ ((jd 5 x).vals (YG WY 0 0))):=by
 unfold ci.vals;go_enter func342,ntmps342;go_wp2_with fail
 refine bodyPost_ret (v:=YJ ((jd 5 x).vals (YG WY 0 0))) (by simp[results,results342,go_sem,ci.vals,jd,qO]) rfl ?_;exact Fd
def dy9(x:ci)(A:Option Yy)(n c:Nat)(w:Xa):
 aR 344 #[YJ (x.vals (YG A n c))] w (YJ ((jd 6 x).vals (YG WY 0 0))):=by
 unfold ci.vals;go_enter func344,ntmps344;go_wp2_with fail
 refine bodyPost_ret (v:=YJ ((jd 6 x).vals (YG WY 0 0))) (by simp[results,results344,go_sem,ci.vals,jd,qO]) rfl ?_;exact Fd
def dz0(m:aT)(v:MV)(x:ci)(o:Xb)(w:Xa)(hv:m.In w w v)(ho:aW w w o x.ms)(j:aP x.item)(y:aP x.n)(z:aP x.by_)(C:aP x.other):
 aR 333 #[YJ (m.cells v),YJ (x.vals o)] w (YH (By 1 m x)):=by
 refine Ii λSa sc hs cz bD Fa fc hf bT cG Ra rc hr ca cQ Ma mc hm cJ cD La lc hl cS du Ia ic hi dG ew Ua uc hu dH dC HS ik=>?_;obtain⟨A,n,c,rfl,_,_,_⟩:=ho.sk.form;have HW:=ah (λW=>tz x.n 0 16 W);show Xq _ _ _ _ λe w'=>e=Ya (YH (aG x.item m.items.length&&aD x.n 0 16))/\_;generalize aG x.item m.items.length=r1 at ik;generalize aD x.n 0 16=r2 at HW;rw[HS.o]at ik⊢
 unfold ci.vals;clear hv hs hf hr hm hl hi hu ho;cases r1 with
 |false=>go_enter func333,ntmps333;exact PZ
 |true=>go_enter func333,ntmps333;exact PZ
def dz1(m:aT)(v:MV)(x:ci)(o:Xb)(w:Xa)(hv:m.In w w v)(ho:aW w w o x.ms)(j:aP x.item)(y:aP x.n)(z:aP x.by_)(C:aP x.other):
 aR 343 #[YJ (m.cells v),YJ (x.vals o)] w (YH (By 6 m x)):=by
 refine Ii λSa sc hs cz bD Fa fc hf bT cG Ra rc hr ca cQ Ma mc hm cJ cD La lc hl cS du Ia ic hi dG ew Ua uc hu dH dC HS ik=>?_;obtain⟨A,n,c,rfl,_,_,_⟩:=ho.sk.form;have HW:=ah (λW=>tz x.n 0 16 W);show Xq _ _ _ _ λe w'=>e=Ya (YH (aG x.item m.items.length&&aD x.n 0 16))/\_;generalize aG x.item m.items.length=r1 at ik;generalize aD x.n 0 16=r2 at HW;rw[HS.o]at ik⊢
 unfold ci.vals;clear hv hs hf hr hm hl hi hu ho;cases r1 with
 |false=>go_enter func343,ntmps343;exact PZ
 |true=>go_enter func343,ntmps343;exact PZ
def dz2(m:aT)(v:MV)(x:ci)(o:Xb)(w:Xa)(hv:m.In w w v)(ho:aW w w o x.ms)(y:aP x.item)(z:aP x.n)(C:aP x.by_)(D:aP x.other):
 aR 335 #[YJ (m.cells v),YJ (x.vals o)] w (YH (By 2 m x)):=by
 refine Ii λSa sc hs cz bD Fa fc hf bT cG Ra rc hr ca cQ Ma mc hm cJ cD La lc hl cS du Ia ic hi dG ew Ua uc hu dH dC HS ik=>?_;obtain⟨A,n,c,rfl,_,_,_⟩:=ho.sk.form;have HW:=ah (λW=>tz x.n 0 16 W);have HC:=ah (λW B u(h:aW W B u [2,3,4])=>WC u [2,3,4] x.by_ W B h);have j:WZ (x.by_∈[2,3,4])=aD x.by_ 2 4:=by rw[Xz];simp[aD];omega
 rw[j]at HC;show Xq _ _ _ _ λe w'=>e=Ya (YH (aG x.item m.items.length&&(aD x.n 0 16&&aD x.by_ 2 4)))/\_;generalize aG x.item m.items.length=r1 at ik;generalize aD x.n 0 16=r2 at HW;generalize aD x.by_ 2 4=r3 at HC;rw[HS.o]at ik⊢
 unfold ci.vals;clear hv hs hf hr hm hl hi hu ho j;cases r1 with
 |false=>exact as3
 |true=>
  cases r2 with
  |false=>exact as3
  |true=>
   go_enter func335,ntmps335
   go_wp2_with(first
    |(go_at_call 331;refine(ik.o _ (ai (ai (aj w) _) _)).m ?_;rintro e w1 ⟨rfl,ay⟩;have bk:=ah (ak (ai (ai (aj w) _) _) ay);obtain⟨bA,bT⟩:=dr ay;have aZ:w.heap.size+1<w1:=dB ay YQ;clear ay)
    |(go_at_call 162;refine(HW.o _).m ?_;rintro e w2 ⟨rfl,rfl⟩)
    |(go_at_call 175;refine(HC.o _ _ _ (aW.lits _ [2,3,4] (by simp[aP]) YQ _)).m ?_;rintro e w3 ⟨rfl,rfl⟩)
    |fail)
   go_ret;exact⟨by simp,ai bk.o _⟩
def dz3(m:aT)(v:MV)(x:ci)(o:Xb)(w:Xa)(hv:m.In w w v)(ho:aW w w o x.ms)(J:aP x.item)(O:aP x.n)(U:aP x.by_)(V:aP x.other):
 aR 337 #[YJ (m.cells v),YJ (x.vals o)] w (YH (By 3 m x)):=by
 refine Ii λSa sc hs cz bD Fa fc hf bT cG Ra rc hr ca cQ Ma mc hm cJ cD La lc hl cS du Ia ic hi dG ew Ua uc hu dH dC HS ik=>?_;have C:=ah (λW(hW:Below w w W)=>as2 m v o x.ms W (hv.to hW (am _) hW.size) ((ho.below hW (am _)).more hW.size));obtain⟨A,n,c,rfl,_,_,_⟩:=ho.sk.form;show Xq _ _ _ _ λe w'=>e=Ya (YH (aG x.item m.items.length&&fw m x.ms))/\_;generalize aG x.item m.items.length=r1 at ik;generalize fw m x.ms=r2 at C;rw[HS.o]at ik C⊢
 unfold ci.vals;clear hv hs hf hr hm hl hi hu ho;cases r1 with
 |false=>
  go_enter func337,ntmps337
  go_wp2_with(first
   |(go_at_call 331;refine(ik.o _ (ai (ai (aj w) _) _)).m ?_;rintro e D ⟨rfl,j⟩;have y:=ah (ak (ai (ai (aj w) _) _) j);obtain⟨bA,bT⟩:=dr j;have G:w.heap.size+1<D:=dB j YQ;clear j)
   |(go_at_call 258;refine(C.o _ y.o).m ?_;rintro e I ⟨rfl,z⟩;have F:=ah (ak y.o z);clear z)
   |fail)
  go_ret;exact⟨by simp,y.o⟩
 |true=>
  go_enter func337,ntmps337
  go_wp2_with(first
   |(go_at_call 331;refine(ik.o _ (ai (ai (aj w) _) _)).m ?_;rintro e D ⟨rfl,j⟩;have y:=ah (ak (ai (ai (aj w) _) _) j);obtain⟨bA,bT⟩:=dr j;have G:w.heap.size+1<D:=dB j YQ;clear j)
   |(go_at_call 258;refine(C.o _ y.o).m ?_;rintro e I ⟨rfl,z⟩;have F:=ah (ak y.o z);clear z)
   |fail)
  go_ret;exact⟨by simp,F.o⟩
def dz4(m:aT)(v:MV)(x:ci)(o:Xb)(w:Xa)(hv:m.In w w v)(ho:aW w w o x.ms)(V:aP x.item)(X:aP x.n)(Y:aP x.by_)(Z:aP x.other):
 aR 339 #[YJ (m.cells v),YJ (x.vals o)] w (YH (By 4 m x)):=by
 refine Ii λSa sc hs cz bD Fa fc hf bT cG Ra rc hr ca cQ Ma mc hm cJ cD La lc hl cS du Ia ic hi dG ew Ua uc hu dH dC HS ik=>?_;have y:=ah (λW(hW:Below w w W)=>as0 m v x.other W (hv.to hW (am _) hW.size));obtain⟨A,n,c,rfl,_,_,_⟩:=ho.sk.form;have C:(x.item !=x.other)= !WZ (x.item=x.other):=by simp[bne,xU]
 have G:=ah C;show Xq _ _ _ _ λe w'=>e=Ya (YH (aG x.item m.items.length&&(aG x.other m.items.length&& !WZ (x.item=x.other))))/\_;generalize aG x.item m.items.length=r1 at ik;generalize aG x.other m.items.length=r2 at y;rw[HS.o]at ik y⊢
 unfold ci.vals;clear hv hs hf hr hm hl hi hu ho C;have ga:=ah (λO=>aC (cN w (YI #[YG Sa m.sites.length sc,YG Fa m.feeds.length fc,YG Ra m.racks.length rc,YG Ma m.machs.length mc,YG La m.links.length lc,YG Ia m.items.length ic,m.dark,m.slots,m.reserve,m.failures,YG Ua m.rules.length uc] 29)) (ai (aj _) O));have Nc:=ah (λD=>(show((w.alloc D).alloc (YI #[x.kind,x.item,x.other,x.n,x.by_,YH x.always,YG A n c] 95)).heap[w.heap.size+1]?=WX (YI #[x.kind,x.item,x.other,x.n,x.by_,YH x.always,YG A n c] 95 (0,0))from by have h:=cN (w.alloc D) (YI #[x.kind,x.item,x.other,x.n,x.by_,YH x.always,YG A n c] 95);rwa [Yh]at h));cases r1 with
 |false=>
  go_enter func339,ntmps339;go_wp2_with fail
  refine(ik.o _ (ai (ai (aj w) _) _)).m ?_;rintro e F ⟨rfl,ay⟩;refine WD λbk c2 c3 HZ e0 e1 e2 e3 e4 e5 e6 e7 e8 e9 dL d1 d2=>?_;clear ay c2 c3;go_wp2_with fail
  go_ret;exact⟨by simp,bk.o⟩
 |true=>
  cases r2 with
  |false=>
   go_enter func339,ntmps339;go_wp2_with fail
   refine(ik.o _ (ai (ai (aj w) _) _)).m ?_;rintro e F ⟨rfl,ay⟩;refine WD λbk c2 c3 HZ e0 e1 e2 e3 e4 e5 e6 e7 e8 e9 dL d1 d2=>?_;clear ay c2 c3;go_wp2_with fail
   refine(y.o _ bk.o).m ?_;rintro e U ⟨rfl,j⟩;have z:=ah (ak bk.o j);have I:=(j.cell (p:=⟨w+1,1,WY⟩) HZ.o).trans d1;have J:=(j.cell (p:=⟨w+1,2,WY⟩) HZ.o).trans d2;clear j d1 d2 e0 e1 e2 e3 e4 e5 e6 e7 e8 e9 dL;go_wp2_with fail
   go_ret;exact⟨by simp,z.o⟩
  |true=>
   go_enter func339,ntmps339;go_wp2_with fail
   refine(ik.o _ (ai (ai (aj w) _) _)).m ?_;rintro e F ⟨rfl,ay⟩;refine WD λbk c2 c3 HZ e0 e1 e2 e3 e4 e5 e6 e7 e8 e9 dL d1 d2=>?_;clear ay c2 c3;go_wp2_with fail
   refine(y.o _ bk.o).m ?_;rintro e U ⟨rfl,j⟩;have z:=ah (ak bk.o j);have I:=(j.cell (p:=⟨w+1,1,WY⟩) HZ.o).trans d1;have J:=(j.cell (p:=⟨w+1,2,WY⟩) HZ.o).trans d2;clear j d1 d2 e0 e1 e2 e3 e4 e5 e6 e7 e8 e9 dL;go_wp2_with fail
   go_ret;exact⟨by rw[G.o];simp,z.o⟩
def dz5(m:aT)(v:MV)(x:ci)(o:Xb)(w:Xa)(y:m.In w w v)(ho:aW w w o x.ms)(C:aP x.item)(D:aP x.n)(F:aP x.by_)(G:aP x.other):
 aR 341 #[YJ (m.cells v),YJ (x.vals o)] w (YH (By 5 m x)):=by
 obtain⟨⟨Sa,sc,hs,cz,bD⟩,⟨Fa,fc,hf,bT,cG⟩,⟨Ra,rc,hr,ca,cQ⟩,⟨Ma,mc,hm,cJ,cD⟩,⟨La,lc,hl,cS,du⟩,⟨Ia,ic,hi,dG,ew⟩,⟨Ua,uc,hu,dH,dC⟩⟩:=y.cells;have z:=ah (oy m hs hf hr hm hl hi hu);obtain⟨A,n,c,rfl,_,_,_⟩:=ho.sk.form;have j:=ah (λW=>tz x.n 0 200 W);show Xq _ _ _ _ λe w'=>e=Ya (YH (aD x.n 0 200))/\_;generalize aD x.n 0 200=r2 at j;rw[z.o];unfold ci.vals;clear y hs hf hr hm hl hi hu ho;go_enter func341,ntmps341
 go_wp2_with(first
  |(go_at_call 162;refine(j.o _).m ?_;rintro e I ⟨rfl,rfl⟩)
  |fail)
 go_ret;exact⟨rfl,ai (ai (aj w) _) _⟩
def dz6(m:aT)(v:MV)(x:ci)(o:Xb)(w:Xa)(hv:m.In w w v)(ho:aW w w o x.ms)(O:aP x.item)(U:aP x.n)(V:aP x.by_)(X:aP x.other):
 aR 330 #[YJ (m.cells v),YJ (x.vals o)] w (YH (By 0 m x)):=by
 refine Ii λSa sc hs cz bD Fa fc hf bT cG Ra rc hr ca cQ Ma mc hm cJ cD La lc hl cS du Ia ic hi dG ew Ua uc hu dH dC HS ik=>?_;obtain⟨A,n,c,rfl,_,_,_⟩:=ho.sk.form;have D:=ah hv.is;obtain⟨kind,item,other,xn,by_,always,ms⟩:=x;dsimp only at ik O U V X⊢
 show Xq _ _ _ _ λe w'=>e=Ya (YH (aG item m.items.length&&WZ (p8 m item=0)))/\_;rw[hi]at D;cases ca:aG item m.items.length with
 |false=>
  rw[ca]at ik;rw[HS.o]at ik⊢
  unfold ci.vals;clear hv hs hf hr hm hl hi hu ho ca;go_enter func330,ntmps330
  go_wp2_with(first
   |(go_at_call 331;refine(ik.o _ (ai (ai (aj w) _) _)).m ?_;rintro e F ⟨rfl,z⟩;have C:=ah (ak (ai (ai (aj w) _) _) z);obtain⟨bA,bT⟩:=dr z;have J:w.heap.size+1<F:=dB z YQ;clear z)
   |fail)
  go_ret;exact⟨by simp,C.o⟩
 |true=>
  rw[ca]at ik;obtain⟨j,rfl⟩:∃j:Nat,item=(j:Int)+1:=⟨(item - 1).toNat,by simp[aG,aD]at ca;omega⟩;have Y:j<m.items.length:=by simp[aG,aD]at ca;omega
  have oH:(0:Int)<=(j:Int):=YN;have AT:(j:Int)<(m.items.length:Nat):=YN;obtain⟨y,hy⟩:∃y,m.items[j]?=WX y:=⟨_,Xd Y⟩;obtain⟨b,off,cs,rfl,fQ,_,hR,bb⟩:=D.o.at_ hy;obtain⟨yo,rfl,_⟩:=hR;have Z:=bb 1 _ rfl;have G:=ah (show p8 m ((j:Int)+1)=y.kind from by unfold p8;rw[show((j:Int)+1 - 1).toNat=j from by omega,hy];rfl);rw[G.o];have I:=ah (show(y.kind==0)=WZ (y.kind=0)from xU _ _);rw[HS.o]at ik⊢
  unfold ci.vals;clear hv hs hf hr hm hl hi hu ho ca bb hy G D;go_enter func330,ntmps330
  go_wp2_with(first
   |(go_at_call 331;refine(ik.o _ (ai (ai (aj w) _) _)).m ?_;rintro e F ⟨rfl,z⟩;have C:=ah (ak (ai (ai (aj w) _) _) z);obtain⟨bA,bT⟩:=dr z;have J:w.heap.size+1<F:=dB z YQ;have gE:=(C.o.cell (p:=⟨b,off+j*7+1,WY⟩) fQ).trans Z;clear z)
   |fail)
  go_ret;exact⟨by rw[I.o];simp,C.o⟩
structure aK(B pb:Nat)(w w':Xa):Prop where
 os:w'.os=w.os
 tape:w'.tape=w.tape
 output:w'.output=w.output
 size:w.heap.size<=w'
 block:∀i,i<B->¬i=pb->w'.heap[i]?=w.heap[i]?
def aK.refl(B pb:Nat)(w:Xa):aK B pb w w:=⟨rfl,rfl,rfl,am _,λ_ _ _=>rfl⟩
def aK.trans{B pb:Nat}{a b c:Xa}(h:aK B pb a b)(k:aK B pb b c):aK B pb a c:=
 ⟨k.os.trans h.os,k.tape.trans h.tape,k.output.trans h.output,bQ h.size k.size,λi j y=>(k.block i j y).trans (h.block i j y)⟩
def aK.of_below{B B' pb:Nat}{w w':Xa}(h:Below B' w w')(j:B<=B')(z:w.heap.size<=w'):aK B pb w w':=⟨h.os,h.tape,h.output,z,λi y _=>h.block i (bt y j)⟩
def aK.below{B pb:Nat}{w w':Xa}(h:aK B pb w w')(y:pb<=B):Below pb w w':=⟨h.os,h.tape,h.output,h.size,λi j=>h.block i (bt j y) YN⟩
def aK.mono{B B' pb:Nat}{w w':Xa}(h:aK B pb w w')(j:B'<=B):aK B' pb w w':=⟨h.os,h.tape,h.output,h.size,λi y z=>h.block i (bt y j) z⟩
def aK.alloc{B pb:Nat}{w w':Xa}(h:aK B pb w w')(j:B<=w)(o:Obj):aK B pb w (w'.alloc o):=
 h.trans (aK.of_below (ai (aj w') o) (bQ j h.size) YQ)
def aK.drew{B pb:Nat}{w w':Xa}(h:aK B pb w w'):aK B pb w w'.drew:=⟨h.os,h.tape,h.output,h.size,h.block⟩
def aK.drewN{B pb:Nat}{w w':Xa}(h:aK B pb w w')(n:Nat):aK B pb w (w'.drewN n):=⟨h.os,h.tape,h.output,h.size,h.block⟩
def aK.set{B pb:Nat}{w w':Xa}(h:aK B pb w w'){b o:Nat}(c:b=pb\/B<=b)(u:Xb):aK B pb w (w'.setCell (b o WY) u):=
 ⟨h.os,h.tape,h.output,by simpa[World.setCell]using h.size,λi j y=>(Below.heap_setCell w' ⟨b,o,none⟩ u i (by
  intro e;rcases c with c|c
  .exact y (by rw[e];exact c)
  .exact absurd j (by rw[e];simp;omega))).trans (h.block i j y)⟩
def aK.blk{B pb b:Nat}{w w':Xa}{o:Obj}(h:aK B pb w w')(y:w.heap[b]?=WX o)(j:b<B)(c:¬b=pb):w'.heap[b]?=WX o:=(h.block b j c).trans y
def aK.grown{B pb:Nat}{w w' y:Xa}(h:aK B pb w w'){e:Xv}{size:Nat}{v:Xb}{n:Nat}{xs:List Xb}(ho:w'.ownsRow B e size v n xs)(j:w'.grownBy y v.ownBlock)(z:B<=w):aK B pb w y:=
 h.trans ⟨j.os,j.tape,j.output,j.size,λi A C=>j.block i (bt A (bQ z h.size)) (λe=>by have:=(Xs ho i e.symm).1;omega)⟩
def YX(p:PS)(t r n:Xb):Array Value:= #[t,Xo XO p.e,Xo XO p.d.kind,Xp (bs p.d.name),r,n,Xo XO p.d.by_,YH p.d.always]
structure PS.Ok(p:PS)(M:Nat):Prop where
 last:∃l e,p.ts=l++[e]/\e.kind=0
 toks:p.ts.length+p.d.refs.length<=M
 nums:p.ts.length+p.d.nums.length<=M
 e:p.e<=8
 by_:p.d.by_+4*p.ts.length<=4*M
 n:(∀t∈p.ts,t.n<=2000000)/\∀k∈p.d.nums,k<=2000000
def bV(w:Xa)(pb B M:Nat)(p:PS):Prop:=
 ∃t r n,w.heap[pb]?=some (.cells (YX p t r n) 107 (0,0))/\bU 4 mA w pb t p.ts/\w.ownsRow B 9 1 r p.d.refs.length (p.d.refs.map λs=>Value.string (bs s))/\
  w.ownsRow B 3 1 n p.d.nums.length (p.d.nums.map fun(k:Nat)=>Xo .i64 k)/\pb<B/\B<=w/\p.Ok M
def bV.later{w w':Xa}{pb B M:Nat}{p:PS}(h:bV w pb B M p)(j:Below w w w'):bV w' pb B M p:=by obtain⟨t,r,n,h1,h2,h3,h4,h5,h6,h7⟩:=h;exact⟨t,r,n,aC h1 j,h2.to mA.ab j YN (am _),eH h3 j,eH h4 j,h5,bQ h6 j.size,h7⟩
def bV.more{w:Xa}{pb B M j:Nat}{p:PS}(h:bV w pb B M p)(y:M<=j):bV w pb B j p:=by obtain⟨t,r,n,h1,h2,h3,h4,h5,h6,h7⟩:=h;exact⟨t,r,n,h1,h2,h3,h4,h5,h6,⟨h7.last,bQ h7.toks y,bQ h7.nums y,h7.e,by have:=h7.by_;omega,h7.n⟩⟩
def PS.Ok.cons{p:PS}{M:Nat}(h:p.Ok M):∃t l,p.ts=t::l/\p.head=t/\(¬t.kind=0->l≠[]):=by
 obtain⟨l,e,h1,h2⟩:=h.last;cases l with
 |nil=>exact⟨e,[],h1,by simp[PS.head,h1],λc=>absurd h2 c⟩
 |cons a l=>exact⟨a,l++[e],h1,by simp[PS.head,h1],λ_=>by simp⟩
def BA(t:fI):Value:=YJ #[t.kind,bs t.text,t.n,t.pos]
def nM(t:fI):BA t=YJ #[t.kind,bs t.text,t.n,t.pos]:=rfl
def ay2{w:Xa}{B:Nat}{A:Option Yy}{n c:Nat}{ts:List fI}{t:fI}{l:List fI}(h:bU 4 mA w B (YG A n c) ts)(y:ts=t::l):
 ∃b o,A=WX ⟨b,o,WY⟩/\b<B/\w.cell? ⟨b,o,WY⟩=WX (Xo XO t.kind)/\w.cell? ⟨b,o+1,WY⟩=WX (Xp (bs t.text))/\w.cell? ⟨b,o+2,WY⟩=WX (Xo XO t.n)/\w.cell? ⟨b,o+3,WY⟩=WX (Xo XO t.pos):=by
 subst y;obtain⟨b,o,cs,hA,hb,_,hR,hc⟩:=h.at_ (j:=0) (x:=t) rfl;unfold mA at hR;subst hR;refine⟨b,o,hA,hb,?_,?_,?_,?_⟩
 .have:=hc 0 _ rfl;simpa using this
 .have:=hc 1 _ rfl;simpa using this
 .have:=hc 2 _ rfl;simpa using this
 .have:=hc 3 _ rfl;simpa using this
def FE(pb B M:Nat)(p:PS)(w:Xa)(h:bV w pb B M p):
 aR 49 #[aq pb] w (BA p.head):=by
 obtain⟨tv,r,n,h1,h2,h3,h4,h5,h6,h7⟩:=h;obtain⟨t,l,ht,hh,_⟩:=h7.cons;rw[hh];obtain⟨A,k,c,rfl,hk,_,_⟩:=h2.form;have j:(0:Int)<k:=by rw[ht]at hk;simp at hk;omega
 obtain⟨b,o,rfl,hb,c0,c1,c2,c3⟩:=ay2 h2 ht;have z:=blk_lt h1;have C:b<w:=YN;have p0:w.cell? pb=WX (YG (WX (b o WY)) k c):=ap h1 rfl;have y:¬b=w:=YN;clear h1 h2 h3 h4 h7 ht hh hk;rw[nM];simp only[aq];go_enter func49,ntmps49;go_wp2_with fail
 refine bodyPost_ret (v:=BA t) (by simp[results,results49,go_sem,BA,c0,c1,c2,c3]) rfl ?_;exact⟨rfl,by repeat' first|with_reducible exact aj w|with_reducible refine cF ?_ Az _|with_reducible refine ai ?_ _⟩
def j9(pb:Nat)(w w':Xa):Prop:=∀o,2<=o->w'.cell? (pb o WY)=w.cell? (pb o WY)
def j9.refl(pb:Nat)(w:Xa):j9 pb w w:=λ_ _=>rfl
def j9.trans{pb:Nat}{a b c:Xa}(h:j9 pb a b)(k:j9 pb b c):j9 pb a c:=λo ho=>(k o ho).trans (h o ho)
def j9.of_below{pb B:Nat}{w w':Xa}(h:Below B w w')(c:pb<B):j9 pb w w':=λo _=>h.cell (p:=pb o WY) c
def j9.set{pb b o:Nat}{w w':Xa}(h:j9 pb w w')(c:¬pb=b\/o<2)(u:Xb):j9 pb w (w'.setCell (b o WY) u):=λj A=>by
 rw[<-h j A];by_cases y:pb=b
 .subst y;have ho:o<2:=by rcases c with c|c<;>omega
  simp only[Yx,Ye,Array.getElem?_modify];cases hq:w'.heap[pb]? with
  |none=>simp
  |some ob=>have z:¬o=j:=YN;cases ob<;>simp[Array.getElem?_setIfInBounds,z]
 .exact ah6 y
def LR(pb B M:Nat)(p:PS)(w:Xa)(k:Nat)(h:bV w pb B M p)(J:k<=8):
 Xq Xn 50 #[aq pb,k] w λe w'=>e=Ya (.tuple #[])/\bV w' pb B M (p.fail k)/\aK w pb w w'/\j9 pb w w':=by
 obtain⟨tv,r,n,h1,h2,h3,h4,h5,h6,h7⟩:=h;have V:=blk_lt h1;have X:w.cell? (pb 1 WY)=WX (Xo XO p.e):=ap h1 rfl;have U:=cK h1 1;have F:=ah h1;have G:=ah h2;have z:=ah h3;have A:=ah h4;have c:=ah h7;clear h1 h2 h3 h4 h7;by_cases y:p.e=0
 .have C:Hid (p.fail k={p with e:=k}):=by show _=_;unfold PS.fail;rw[if_pos y]
  have I:((p.e:Int)==0)=true:=bP;clear y;simp only[aq];go_enter func50,ntmps50;go_wp2_with fail
  go_end0
  refine⟨rfl,?_,(aK.refl _ _ _).set (.inl rfl) _,(j9.refl _ _).set (.inr YN) _⟩;rw[C.o];have O:aK w pb w (w.setCell (pb 1 WY) (Xo XO k)):=(aK.refl _ _ _).set (.inl rfl) _;refine⟨tv,r,n,?_,G.o.to mA.ab (O.below YN) (am _) (am _),lT z.o (λj D=>by have:=(Xs z.o j D).1;omega) _ _,lT A.o (λj D=>by have:=(Xs A.o j D).1;omega) _ _,h5,by simp[Ye];omega,⟨c.o.last,c.o.toks,c.o.nums,J,c.o.by_,c.o.n⟩⟩;exact bc F.o 1 _
 .have C:Hid (p.fail k=p):=by show _=_;unfold PS.fail;rw[if_neg y]
  have I:((p.e:Int)==0)=false:=bP;clear y;simp only[aq];go_enter func50,ntmps50;go_wp2_with fail
  go_end0
  refine⟨rfl,?_,aK.refl _ _ _,j9.refl _ _⟩;rw[C.o];exact⟨tv,r,n,F.o,G.o,z.o,A.o,h5,h6,c.o⟩
def bV.setT{w:Xa}{pb B M b o:Nat}{p:PS}{C:Array Xb}{t:Xv}{u:Xb}(h:bV w pb B M p)(c:w.heap[b]?=WX (YI C t (0,0)))(z:¬t=9/\¬t=3)(J:pb<b):bV (w.setCell (b o WY) u) pb B M p:=by
 obtain⟨tv,r,n,h1,h2,h3,h4,h5,h6,h7⟩:=h;have own {e:Xv} {v:Xb} {k:Nat} {xs:List Xb} (ho:w.ownsRow B e 1 v k xs) (F:¬t=e):(w.setCell (b o WY) u).ownsRow B e 1 v k xs:=lT ho (λj y D=>by
  subst D;rcases ho.2 with⟨rfl,_⟩|⟨g,cap,A,rfl,_,G,_⟩
  .simp[X2]at y
  .have:g=j:=by simpa[Value.ownBlock]using y
   subst this;rw[G]at c;injection c with c;injection c with _ c _;exact F c.symm) o u
 refine⟨tv,r,n,uz h1 YN,?_,own h3 z.1,own h4 z.2,h5,by simp[Ye];omega,h7⟩;have I:aK pb pb w (w.setCell (b o WY) u):=(aK.refl _ _ _).set (.inr YN) _;exact h2.to mA.ab (I.below (am _)) (am _) (am _)
def bV.set4{w:Xa}{pb B M b:Nat}{p:PS}{C:Array Xb}{t:Xv}{z A D F:Xb}(h:bV w pb B M p)(j:w.heap[b]?=WX (YI C t (0,0)))(y:¬t=9/\¬t=3)(c:pb<b):
 bV ((((w.setCell b z).setCell (b 1 WY) A).setCell (b 2 WY) D).setCell (b 3 WY) F) pb B M p:=
 (((h.setT j y c).setT (bc j _ _) y c).setT (bc (bc j _ _) _ _) y c).setT (bc (bc (bc j _ _) _ _) _ _) y c
def qT(w:Xa)(pb B M:Nat)(q:PS×fI)(e:Ys)(w':Xa):Prop:=e=Ya (BA q.2)/\bV w' pb B M q.1/\aK w pb w w'/\j9 pb w w'
def FF{p:PS}{k:Nat}{l:List ar}(h:p.e≠0\/p.head.kind≠k\/(l≠[]/\p.head.text∉l)):p.take k l=(p.fail 3,⟨0,[],0,0⟩):=by unfold PS.take;rw[if_pos h]
def Il{p:PS}{k:Nat}{l:List ar}(h:¬(p.e≠0\/p.head.kind≠k\/(l≠[]/\p.head.text∉l))):p.take k l=({p with ts:=p.ts.tail},p.head):=by unfold PS.take;rw[if_neg h]
def ej0{a b:Nat}(h:a≠b):((a:Int)!=(b:Int))=true:=bP
def ej1{a b:Nat}(h:a=b):((a:Int)!=(b:Int))=false:=bP
def bU.drop1{α:Type}{k:Nat}{R:Xa->Nat->List Xb->α->Prop}{w:Xa}{B b o n c:Nat}{x:α}{xs:List α}(h:bU k R w B (YG (WX (b o WY)) n c) (x::xs)):bU k R w B (YG (WX ⟨b,o+k,WY⟩) (n - 1) (c - 1)) xs:=by obtain⟨A,c',he,h1,h2,h3⟩:=h;injection he with G F I;subst G I;simp at F;subst F;obtain⟨b',o',z,hb,hc⟩:=h3 YQ;injection z with z;injection z with C D;subst C D;simp at h1;refine⟨_,c - 1,by simp,by omega,by omega,λ_=>⟨b,o+k,rfl,hb,λj y O=>?_⟩⟩;obtain⟨cs,h4,h5,h6⟩:=hc (j+1) y (by simpa using O);refine⟨cs,h4,h5,λi u J=>?_⟩;have:=h6 i u J;rw[Nat.add_mul]at this;rw[show o+k+j*k+i=o+(j*k+1*k)+i from by omega];exact this
def bV.setTs{w:Xa}{pb B M:Nat}{p:PS}{v:Xb}{ts:List fI}(h:bV w pb B M p)(A:bU 4 mA w pb v ts)(y:PS.Ok {p with ts:=ts} M):bV (w.setCell pb v) pb B M {p with ts:=ts}:=by obtain⟨tv,r,n,h1,h2,h3,h4,h5,h6,h7⟩:=h;have z:aK w pb w (w.setCell pb v):=(aK.refl _ _ _).set (.inl rfl) _;exact⟨v,r,n,bc h1 0 _,A.to mA.ab (z.below YN) (am _) (am _),lT h3 (λj c=>by have:=(Xs h3 j c).1;omega) _ _,lT h4 (λj c=>by have:=(Xs h4 j c).1;omega) _ _,h5,by simp[Ye];omega,y⟩
def PS.Ok.tail{p:PS}{M:Nat}(h:p.Ok M)(c:2<=p.ts.length):PS.Ok {p with ts:=p.ts.tail} M:=by
 obtain⟨⟨l,e,h1,h2⟩,h3,h4,h5,h6,h7⟩:=h;refine⟨?_,by have:=h3;simp;omega,by have:=h4;simp;omega,h5,by have:=h6;simp;omega,λt j=>h7.1 t (List.mem_of_mem_tail j),h7.2⟩;cases l with
 |nil=>rw[h1]at c;simp at c
 |cons a l=>exact⟨l,e,by show p.ts.tail=_;rw[h1];rfl,h2⟩
def ej2(pb B M:Nat)(p:PS)(w:Xa)(k:Nat)(l:List ar)(v:Xb)(h:bV w pb B M p)(J:k≠0)(C:bp w w v l):
 Xq Xn 138 #[aq pb,k,v] w (qT w pb B M (p.take k l)):=by
 obtain⟨Av,nv,cv,rfl,ta,ch2,hf5⟩:=cB.form C;rw[Xl]at ta;have D:=ta;refine Py λHP HN=>?_;obtain⟨tv,r,n,h1,h2,h3,h4,h5,h6,h7⟩:=id h;obtain⟨t,ts,ui,hh,vU⟩:=h7.cons;obtain⟨tA,tn,tc,rfl,gn4,hj7,hj8⟩:=h2.form;have Oz:t.kind=k->∃t2 A,ts=t2::A:=λe=>by
  cases ts with
  |nil=>exact absurd rfl (vU (by rw[e];exact J))
  |cons a b=>exact⟨a,b,rfl⟩
 obtain⟨tb,tf,rfl,hj6,_⟩:=ay2 h2 ui;rw[hh]at HN;unfold aq at HN;rw[nM]at HN;have ks:=blk_lt h1;have HL:=ah C;have H1:=ah h1;have HH:=ah hh;have RM:=ah ui;have X:=ah vU;have H2:=ah h2;have U:=ah h3;have V:=ah h4;have H7:=ah h7;have Y:(0:Int)<=nv:=YN;clear h C h1 h2 h3 h4 h7 hh ui vU ta;by_cases j:p.e=0
 .have G:((p.e:Int)!=0)=false:=by simp;omega
  by_cases c:t.kind=k
  .obtain⟨t2,A,Oz⟩:=Oz c;have z:(2:Int)<=tn/\(1:Int)<=tn/\(0:Int)<=tn/\¬(tn:Int)<1/\¬(tc:Int)<tn:=by
    have:=congrArg List.length RM.o;rw[gn4,Oz]at this;simp at this;omega
   obtain⟨hk0,z,hk1,hk2,hk3⟩:=z;have cE:¬w.heap.size=pb:=YN;have I:((t.kind:Int)!=(k:Int))=false:=ej1 c;by_cases y:l=[]
   .have F:nv=0:=by
     rw[y]at D;exact D.symm
    subst F;have HY:Hid (p.take k l=({p with ts:=p.ts.tail},p.head)):=Il (by rw[HH.o];simp[j,c,y]);clear c j y;exact ay3
   .have F:(0:Int)<nv:=by
     have:=List.length_pos_iff.2 y;omega
    by_cases hm:t.text∈l
    .have O:decide (t.text∈l)=true:=by simp[hm]
     have HY:Hid (p.take k l=({p with ts:=p.ts.tail},p.head)):=Il (by rw[HH.o];simp[j,c,hm]);clear c j y hm;exact ay3
    .have O:decide (t.text∈l)=false:=by simp[hm]
     have HT:Hid (p.take k l=(p.fail 3,⟨0,[],0,0⟩)):=FF (.inr (.inr ⟨y,by rw[HH.o];exact hm⟩));clear c j y hm;simp only[aq];go_enter func138,ntmps138;go_wp2_with first
      |(go_at_call 49;refine(HN.o _ (HP.o.later (ai (aj w) _))).m ?_;rintro e w1 ⟨rfl,ay⟩;have nR:=aC (aC H1.o (ai (aj w) _)) ay;have p0:w1.cell? ⟨pb,0,none⟩=some (.slice (some ⟨tb,tf,none⟩) tn tc):=ap nR rfl;refine FG λp1 xD=>?_;have Dp:=ah (aC (cN w _) ay);have bk:=ah (ak (ai (aj w) _) ay);have f0:=cK nR 0;have eA:=Dp.o;obtain⟨r0,r1,r2,r3⟩:=VU eA;obtain⟨q0,q1,q2,q3⟩:=zU eA;have aZ:=blk_lt eA;have bh:¬w.heap.size=w1.heap.size:=by omega
        clear nR ay eA)
      |(go_at_call 225;refine(P0 _ l t.text _ _ ((HL.o.below bk.o (am _)).below (ai (aj w1) _) (by have:=bk.o.size;omega))).m ?_;rintro e w2 ⟨rfl,rfl⟩)
     exact ay4
  .have I:((t.kind:Int)!=(k:Int))=true:=ej0 c;have HT:Hid (p.take k l=(p.fail 3,⟨0,[],0,0⟩)):=FF (.inr (.inl (by rw[HH.o];exact c)));clear c;exact ay5
 .have G:((p.e:Int)!=0)=true:=by simp;omega
  have HT:Hid (p.take k l=(p.fail 3,⟨0,[],0,0⟩)):=FF (.inl j);clear j;exact ay5
def zz(pb B M:Nat)(p:PS)(w:Xa)(k:Nat)(c:Int)(l:List ar)(v:Xb)(j:c=k)(h:bV w pb B M p)(y:k≠0)(z:bp w w v l):
 Xq Xn 138 #[aq pb,c,v] w (qT w pb B M (p.take k l)):=by
 subst j;exact ej2 pb B M p w k l v h y z
def Im(w:Xa)(pb B M:Nat)(q:PS×Bool)(e:Ys)(w':Xa):Prop:=e=Ya (YH q.2)/\bV w' pb B M q.1/\aK w pb w w'/\j9 pb w w'
def LS{p:PS}(h:p.e≠0\/p.head.kind≠4\/p.head.text≠[44]):p.comma=(p,Xc):=by unfold PS.comma;rw[if_pos h]
def ay6{p:PS}(h:¬(p.e≠0\/p.head.kind≠4\/p.head.text≠[44])):p.comma=((p.take 4 []).1,Xe):=by unfold PS.comma;rw[if_neg h]
def ay7{l k:ar}(h:l=k):((bs l).toList==k)=true:=by subst h;rw[gK,eS];exact beq_self_eq_true l
def ay8{l k:ar}(h:l≠k):((bs l).toList==k)=false:=by
 cases hc:((bs l).toList==k)with
 |false=>rfl
 |true=>have:=eq_of_beq hc;exact absurd (by rwa [gK,eS]at this) h
def YY(pb B M:Nat)(p:PS)(w:Xa)(h:bV w pb B M p):
 Xq Xn 284 #[aq pb] w (Im w pb B M p.comma):=by
 refine Py λHP HN=>?_;have HT:=ah (λW(hW:bV W pb B M p)=>zz pb B M p W 4 4 [] (YG WY 0 0) rfl hW aF (bp.nil_ _ _));obtain⟨tv,r,n,h1,h2,h3,h4,h5,h6,h7⟩:=id h;obtain⟨t,ts,ui,hh,vU⟩:=h7.cons;rw[hh]at HN;unfold aq at HN HT;rw[nM]at HN;have ks:=blk_lt h1;have H1:=ah h1;have j:=ah hh;clear h h1 h2 h3 h4 h7 hh ui vU;by_cases he:p.e=0
 .have y:((p.e:Int)!=0)=false:=by simp;omega
  by_cases hk:t.kind=4
  .have A:((t.kind:Int)!=4)=false:=by simp;omega
   by_cases c:t.text=[44]
   .have z:((bs t.text).toList==[44])=true:=ay7 c;have HC:Hid (p.comma=((p.take 4 []).1,true)):=ay6 (by rw[j.o];simp[he,hk,c])
    clear he hk c;simp only[aq];go_enter func284,ntmps284;go_wp2_with first
     |(go_at_call 49;refine(HN.o _ HP.o).m ?_;rintro e w1 ⟨rfl,ay⟩;have nR:=aC H1.o ay;refine FG λp1 xD=>?_;have bk:=ah ay;clear nR ay)
     |(go_at_call 138;refine(HT.o _ ((HP.o.later bk.o).later (ai (aj w1) _))).mono ?_;unfold qT;rintro e w2 ⟨rfl,d',d_,iM⟩;have gR:=ah d';have jo:=ah d_;have iQ:=ah iM;clear d' d_ iM)
    go_ret;rw[HC.o];exact⟨rfl,gR.o,((aK.of_below bk.o (am _) bk.o.size).alloc (am _) _).trans (jo.o.mono (by have:=bk.o.size;simp;omega)),((j9.of_below bk.o ks).trans (j9.of_below (ai (aj w1) _) xD)).trans iQ.o⟩
   .have z:((bs t.text).toList==[44])=false:=ay8 c;have HC:Hid (p.comma=(p,Xc)):=LS (.inr (.inr (by rw[j.o];exact c)));exact YZ
  .have A:((t.kind:Int)!=4)=true:=by simp;omega
   have HC:Hid (p.comma=(p,Xc)):=LS (.inr (.inl (by rw[j.o];exact hk)));exact YZ
 .have y:((p.e:Int)!=0)=true:=by simp;omega
  have HC:Hid (p.comma=(p,Xc)):=LS (.inl he);exact YZ
def ay9(a b c d:Xb)(w:Xa):Sem.run Xn (Instr.field 109 (YJ #[a,b,c,d]) 0) w= .ok a w:=aI
def Pz(a b c d:Xb)(w:Xa):Sem.run Xn (Instr.field 109 (YJ #[a,b,c,d]) 1) w= .ok b w:=aI
def ej3(a b c d:Xb)(w:Xa):Sem.run Xn (Instr.field 109 (YJ #[a,b,c,d]) 2) w= .ok c w:=aI
def sD(w:Xa)(pb B M:Nat)(q:PS)(e:Ys)(w':Xa):Prop:=e=Ya (.tuple #[])/\bV w' pb B (M+1) q/\(q.e=0->q.Ok M)/\aK B pb w w'
def bV.okM{w:Xa}{pb B M c:Nat}{p:PS}(h:bV w pb B M p)(j:p.Ok c):bV w pb B c p:=by obtain⟨t,r,n,h1,h2,h3,h4,h5,h6,h7⟩:=h;exact⟨t,r,n,h1,h2,h3,h4,h5,h6,j⟩
def bV.ok{w:Xa}{pb B M:Nat}{p:PS}(h:bV w pb B M p):p.Ok M:=by obtain⟨t,r,n,h1,h2,h3,h4,h5,h6,h7⟩:=h;exact h7
def bV.size{w:Xa}{pb B M:Nat}{p:PS}(h:bV w pb B M p):pb<B/\B<=w:=by obtain⟨t,r,n,h1,h2,h3,h4,h5,h6,h7⟩:=h;exact⟨h5,h6⟩
def PS.Ok.more{p:PS}{M j:Nat}(h:p.Ok M)(y:M<=j):p.Ok j:=⟨h.last,bQ h.toks y,bQ h.nums y,h.e,by have:=h.by_;omega,h.n⟩
def bV.setD{w:Xa}{pb B M:Nat}{p q:PS}(h:bV w pb B M p){o:Nat}{u:Xb}(F:q.ts=p.ts)(D:q.d.refs=p.d.refs)(C:q.d.nums=p.d.nums)(z:∀t r n,(YX p t r n).setIfInBounds o u=YX q t r n)(y:q.Ok M):bV (w.setCell (pb o WY) u) pb B M q:=by
 obtain⟨t,r,n,h1,h2,h3,h4,h5,h6,h7⟩:=h;have A:aK w pb w (w.setCell (pb o WY) u):=(aK.refl _ _ _).set (.inl rfl) _;refine⟨t,r,n,?_,?_,?_,?_,h5,by simp[Ye];omega,y⟩
 .rw[<-z];exact bc h1 o _
 .rw[F];exact h2.to mA.ab (A.below YN) (am _) (am _)
 .rw[D];exact lT h3 (λj c=>by have:=(Xs h3 j c).1;omega) _ _
 .rw[C];exact lT h4 (λj c=>by have:=(Xs h4 j c).1;omega) _ _
def bV.cells{w:Xa}{pb B M:Nat}{p:PS}(h:bV w pb B M p):pb<w/\(∀o,w.frozen? (pb o WY)=Xc)/\w.cell? (pb 1 WY)=WX (Xo XO p.e)/\w.cell? (pb 2 WY)=WX (Xo XO p.d.kind)/\w.cell? (pb 3 WY)=WX (Xp (bs p.d.name))/\w.cell? (pb 6 WY)=WX (Xo XO p.d.by_)/\w.cell? (pb 7 WY)=WX (YH p.d.always):=by obtain⟨t,r,n,h1,h2,h3,h4,h5,h6,h7⟩:=h;exact⟨blk_lt h1,cK h1,ap h1 rfl,ap h1 rfl,ap h1 rfl,ap h1 rfl,ap h1 rfl⟩
def bp.of_new{w:Xa}(l:List ar){t:Xv}{C:Array Xb}{n c:Nat}{W:Xa}(y:W=w.alloc (YI C t))(h:C=(l.map λs=>Xp (bs s)).toArray)(D:n=l.length)(z:c=l.length)(hm:l.length<=1000):bp W W (YG (WX (w 0 WY)) n c) l:=by subst y D z h;refine⟨_,l.length,by simp,by simp,by simp[XF];omega,λ_=>⟨w.heap.size,0,rfl,by simp,λj u A=>?_⟩⟩;rw[Nat.zero_add];refine ap (cN w _) ?_;simpa using A
def PS.Ok.dname{p:PS}{M:Nat}(h:p.Ok M)(s:ar):PS.Ok {p with d:={p.d with name:=s}} M:=⟨h.last,h.toks,h.nums,h.e,h.by_,h.n⟩
def er4(pb B M:Nat)(p:PS)(w:Xa)(h:bV w pb B M p):
 Xq Xn 219 #[aq pb] w (sD w pb B M p.name):=by
 have y:=ah (zz pb B M p w 1 1 [] (YG WY 0 0) rfl h aF (bp.nil_ _ _));have F:=h.size;have j:Hid (p.name={(p.take 1 []).1 with d:={(p.take 1 []).1.d with name:=(p.take 1 []).2.text}}):=rfl;clear h;generalize p.take 1 []=q at y j;generalize p.name=p' at j;obtain⟨q,t⟩:=q;have V:=λa b c d w=>Pz a b c d w;unfold aq at y;simp only[aq];go_enter func219,ntmps219;go_wp2_with(go_at_call 138;refine(y.o).mono ?_;unfold qT;rintro e U ⟨rfl,z,C,D⟩;obtain⟨kr,cG,c1,c2,c3,c6,c7⟩:=z.cells;have f3:=cG 3;have G:=ah z;have O:=ah C;have X:=ah D;clear z C D cG;simp only[nM])
 go_end0
 have A:=G.o;have J:p'={q with d:={q.d with name:=t.text}}:=j.o;subst J;have I:bV (U.setCell (pb 3 WY) (Xp (bs t.text))) pb B M {q with d:={q.d with name:=t.text}}:=A.setD rfl rfl rfl (λ_ _ _=>rfl) (A.ok.dname _);exact⟨rfl,I.more (Yi M),λ_=>A.ok.dname _,(O.o.mono F.2).set (.inl rfl) _⟩
def er5(pb:Nat)(s:ar)(w:Xa):
 Xq Xn 217 #[aq pb,bs s] w λe w'=>e=Ya (bq 283 #[aq w,aq (w+1)])/\w'=(w.alloc (YI #[aq pb] 105)).alloc (YI #[bs s] 9):=by
 simp only[bq,aq];go_enter func217,ntmps217;go_wp2_with fail
 go_ret;simp
def er6(pb B M:Nat)(p:PS)(s:ar)(y z:Nat)(w:Xa)(h:bV w pb B M p)(O:w.cell? y=WX (aq pb))(Z:w.cell? z=WX (Xp (bs s))):
 Xq Xn 283 #[aq y,aq z] w (sD w pb B M (p.part (.word s))):=by
 have I:=h.size;have c:Hid (p.part (.word s)=(p.take 2 [s]).1):=rfl;have G:=ah h;have j:=ah (λW v(U:bV W pb B M p)(X:bp W W v [s])=>zz pb B M p W 2 2 [s] v rfl U aF X);clear h;generalize p.take 2 [s]=q at j c;generalize p.part (.word s)=p' at c;obtain⟨q,t⟩:=q;unfold aq at j O;simp only[aq];go_enter func283,ntmps283;go_wp2_with(go_at_call 138;refine(j.o _ _ (G.o.later (ai (aj w) _)) (bp.of_new [s] rfl rfl rfl rfl YQ)).mono ?_;unfold qT;rintro e w2 ⟨rfl,A,C,F⟩;have J:=ah A;have Y:=ah C;have iQ:=ah F;clear A C F)
 go_end0
 have D:=J.o;have V:p'=q:=c.o;subst V;exact⟨rfl,D.more (Yi M),λ_=>D.ok,(aK.of_below (ai (aj w) _) I.2 YQ).trans (Y.o.mono bP)⟩
end
section
open Go Go.RowKit Go.MapKept Go.Proofs.Tryz
def zA{s:ByteArray}:IsKey .string (.string s):=trivial
def wm(l:List (ar×Int)):List (Xb×Xb):=l.map λx=>(Xp (bs x.1),Xo .i64 x.2)
def FH{l:List (ar×Int)}{k:ar}(h:k∉l.map (·.1)):∀p∈wm l,IsKey .string p.1/\p.1≠ .string (bs k):=λp c=>by obtain⟨x,hx,rfl⟩:=List.mem_map.1 c;refine⟨zA,λe=>h ?_⟩;injection e with e;exact List.mem_map.2 ⟨x,hx,LE e⟩
def au1:∀{l:List (ar×Int)},(l.map (·.1)).Nodup->∀{x y:ar×Int},x∈l->y∈l->x.1=y.1->x=y
 |[],_,_,_,h,_,_=>by simp at h
 |a::l,hn,x,y,hx,z,e=>by
  rw[XA,List.nodup_cons]at hn;rcases List.mem_cons.1 hx with rfl|c<;>rcases List.mem_cons.1 z with rfl|j
  .rfl
  .exact absurd (List.mem_map.2 ⟨y,j,e.symm⟩) hn.1
  .exact absurd (List.mem_map.2 ⟨x,c,e⟩) hn.1
  .exact au1 hn.2 c j e
def au2{w:Xa}{b:Nat}{l:List (ar×Int)}(j:(l.map (·.1)).Nodup)(h:fJ w b (wm l))(s:ar):
 (XB 216 (.map (WX b)) (Xp (bs s)) Xc).run Xn w= .ok (Xo XO ((l.lookup s).getD 0)) w:=by
 by_cases c:s∈l.map (·.1)
 .obtain⟨x,hx,rfl⟩:=List.mem_map.1 c;have A:l.lookup x.1=some x.2:=by
   clear h c;induction l with
   |nil=>simp at hx
   |cons a l ih=>
    simp at j;rcases List.mem_cons.1 hx with rfl|hx
    .simp[List.lookup]
    .have:(x.1==a.1)=false:=by
      rw[beq_eq_false_iff_ne];intro e;exact j.1 x.2 (by rw[<-e];exact hx)
     simp[List.lookup,this];exact ih j.2 hx
  have:=K7 underlying216 X0 h (key:=Xp (bs x.1)) (v:=Xo XO x.2) Xc zA (λp C=>by
   obtain⟨y,hy,rfl⟩:=List.mem_map.1 C;exact zA) (λp C e=>by
   obtain⟨y,hy,rfl⟩:=List.mem_map.1 C;injection e with e;have e:=LE e;have:=au1 j hx hy e.symm;rw[this]) ⟨_,List.mem_map.2 ⟨x,hx,rfl⟩,rfl⟩
  rw[this,A];rfl
 .have A:l.lookup s=none:=by
   clear h j;induction l with
   |nil=>rfl
   |cons a l ih=>simp only[XA,XR,not_or]at c;have:(s==a.1)=false:=beq_eq_false_iff_ne.2 c.1;simp only[List.lookup,this];exact ih c.2
  have:=K8 underlying216 X0 h (key:=Xp (bs s)) (z:=Xo XO 0) Xc zA (FH c) aI;rw[this,A];rfl
def er7(s:ar):((([(fH,2),(fU,3),(j7,4)]:List (ar×Int)).lookup s).getD 0)=(jk s:Nat):=by
 unfold jk;by_cases c:s=fH
 .subst c;rfl
 by_cases h:s=fU
 .subst h;rfl
 by_cases j:s=j7
 .subst j;rfl
 have y:=beq_eq_false_iff_ne.2 c;have z:=beq_eq_false_iff_ne.2 h;have A:=beq_eq_false_iff_ne.2 j;simp[List.lookup,y,z,A,c,h,j]
def er8(s:ar):jk s<=4:=by unfold jk;split<;>(try split)<;>(try split)<;>omega
def er9{p:PS}{M:Nat}(y:p.Ok M)(c:(p.take 2 [fH,fU,j7]).1.Ok M):PS.Ok {(p.take 2 [fH,fU,j7]).1 with d:={(p.take 2 [fH,fU,j7]).1.d with by_:=jk (p.take 2 [fH,fU,j7]).2.text}} M:=by
 refine⟨c.last,c.toks,c.nums,c.e,?_,c.n⟩;have z:=c.toks;have h:=y.toks;by_cases j:p.e≠0\/p.head.kind≠2\/(([fH,fU,j7]:List ar)≠[]/\p.head.text∉[fH,fU,j7])
 .rw[FF j]at z⊢
  have:jk ([]:ar)=0:=rfl;simp only[this];dsimp only at z⊢
  omega
 .rw[Il j];have:=er8 p.head.text;obtain⟨a,l,h1,h2,h3⟩:=y.cons;simp only[h1,List.tail_cons];rw[h1]at h;simp at h;omega
def es0(pb B M:Nat)(p:PS)(w:Xa)(h:bV w pb B M p):
 Xq Xn 224 #[aq pb] w (sD w pb B M p.domain):=by
 have J:=h.size;have Ut:=h.ok;have HP:=ah h;have z:=ah (λW v(hW:bV W pb B M p)(F:bp W W v [fH,fU,j7])=>zz pb B M p W 2 2 [fH,fU,j7] v rfl hW aF F);have y:Hid (p.domain={(p.take 2 [fH,fU,j7]).1 with d:={(p.take 2 [fH,fU,j7]).1.d with by_:=jk (p.take 2 [fH,fU,j7]).2.text}}):=rfl;clear h;have I:=ah (λD=>er9 (p:=p) (M:=M) Ut D);generalize p.take 2 [fH,fU,j7]=q at z y I;generalize p.domain=p' at y;obtain⟨q,t⟩:=q;have Er:=λa b c d w=>Pz a b c d w;unfold aq at z;simp only[aq];go_enter func224,ntmps224;refine uC λlZ=>?_
 go_wp2_with first
             |(refine CM _ rfl (YL 3) (YM (Xp ⟨#[114,97,99,107]⟩)) (YM (Xo XO 2)) 216 (.inr rfl) 9 3 .string underlying216 X0 w (wm []) rfl (fJ.made w) (Xp (bs fH)) (Xo XO 2) rfl rfl zA (FH aF) ?_;intro w1 jw U)
             |(refine CM _ rfl (YL 3) (YM (Xp ⟨#[102,101,101,100]⟩)) (YM (Xo XO 3)) 216 (.inr rfl) 9 3 .string underlying216 X0 w (wm [(fH,2)]) rfl jw (Xp (bs fU)) (Xo XO 3) rfl rfl zA (FH aF) ?_;intro w2 jx V)
             |(refine CM _ rfl (YL 3) (YM (Xp ⟨#[115,105,116,101]⟩)) (YM (Xo XO 4)) 216 (.inr rfl) 9 3 .string underlying216 X0 w (wm [(fH,2),(fU,3)]) rfl jx (Xp (bs j7)) (Xo XO 4) rfl rfl zA (FH aF) ?_;intro w3 jy X;have j:=ah (X.1 _ _ (V.1 _ _ (U.1 _ _ (ai (aj w) _) (am _)) (am _)) (am _));have rd:=ah jy;clear jw U jx V jy X)
             |(go_at_call 138;refine(z.o _ _ (HP.o.later (ai j.o _)) (bp.of_new [fH,fU,j7] rfl rfl rfl rfl YQ)).mono ?_;unfold qT;rintro e w4 ⟨rfl,A,C,Z⟩;obtain⟨A_,li,c1,c2,c3,c6,c7⟩:=A.cells;have f6:=li 6;have G:=C.blk (rd.o.later (ai (aj w3) _)) (by have:=rd.o.lt;simp;omega) YN;have fE:=au2 (w:=w4) (l:=[(fH,2),(fU,3),(j7,4)]) aF G t.text;have gR:=ah A;have jo:=ah C;have iQ:=ah Z;clear A C Z li G;simp only[nM])
 go_end0
 have Y:=gR.o;have D:p'={q with d:={q.d with by_:=jk t.text}}:=y.o;subst D;have F:((([(fH,2),(fU,3),(j7,4)]:List (ar×Int)).lookup t.text).getD 0)=(jk t.text:Nat):=er7 t.text;rw[F];have O:PS.Ok {q with d:={q.d with by_:=jk t.text}} M:=I.o Y.ok;have hQ:bV (w4.setCell (pb 6 WY) (Xo XO (jk t.text:Nat))) pb B M {q with d:={q.d with by_:=jk t.text}}:=Y.setD rfl rfl rfl (λ_ _ _=>rfl) O;exact⟨rfl,hQ.more (Yi M),λ_=>O,(((aK.of_below j.o J.2 j.o.size).alloc J.2 _).trans (jo.o.mono (by have:=j.o.size;simp;omega))).set (.inl rfl) _⟩
end
section
open Go Go.RowKit Go.Proofs.Tryz
def PS.Ok.fail{p:PS}{M k:Nat}(h:p.Ok M)(c:k<=8):(p.fail k).Ok M:=by
 unfold PS.fail;split
 .exact⟨h.last,h.toks,h.nums,c,h.by_,h.n⟩
 .exact h
def PS.fail_e(p:PS){k:Nat}(c:k≠0):(p.fail k).e≠0:=by
 unfold PS.fail;split
 .exact c
 .assumption
def Y0{p:PS}{M k:Nat}{l:List ar}(h:p.Ok M)(z:k≠0):(p.take k l).1.Ok M/\(p.take k l).2.n<=2000000/\((p.take k l).1.e=0->(p.take k l).1.ts.length+1=p.ts.length/\(p.take k l).1.d=p.d)/\(p.take k l).1.d=p.d:=by
 by_cases c:p.e≠0\/p.head.kind≠k\/(l≠[]/\p.head.text∉l)
 .rw[FF c];refine⟨h.fail YN,by simp,λy=>absurd y (p.fail_e YN),?_⟩;dsimp only;unfold PS.fail;split<;>rfl
 .rw[Il c];obtain⟨t,r,h1,h2,h3⟩:=h.cons;have D:p.head.kind=k:=by apply Classical.byContradiction;intro A;exact c (.inr (.inl A))
  have C:r≠[]:=h3 (by rw[<-h2,D];exact z);have j:2<=p.ts.length:=by
   rw[h1];cases r with
   |nil=>exact absurd rfl C
   |cons a b=>simp
  exact⟨h.tail j,h.n.1 _ (by rw[h2,h1];simp),λ_=>⟨by simp;omega,rfl⟩,rfl⟩
def au3{w w':Xa}{base e z:Nat}{v G:Xb}{n F:Nat}{xs c:List Xb}(h:w.ownsRow base e 1 v n xs)(A:w.ownsRow base z 1 G F c)(Y:¬z=e)(Z:w.grownBy w' v.ownBlock):w'.ownsRow base z 1 G F c:=by
 refine⟨A.1,?_⟩;rcases A.2 with hn|⟨g,cap,y,O,U,C,V⟩
 .exact .inl hn
 .refine .inr ⟨g,cap,y,O,U,nf C Z (λk D I=>?_),V⟩;subst I;rcases h.2 with⟨rfl,_⟩|⟨J,cap',cur',rfl,_,j,_⟩
  .simp[X2]at D
  .have:J=g:=by simpa[Value.ownBlock]using D
   subst this;rw[C]at j;injection j with j;injection j with _ X _;exact Y X
def es1{p:PS}{M:Nat}(h:p.Ok M):p.ref.Ok (M+1)/\(p.ref.e=0->p.ref.Ok M):=by
 obtain⟨h1,h2,h3,h4⟩:=Y0 (k:=1) (l:=[]) h aF;refine⟨⟨h1.last,?_,Nat.le_succ_of_le h1.nums,h1.e,bQ h1.by_ YN,h1.n⟩,λz=>⟨h1.last,?_,h1.nums,h1.e,h1.by_,h1.n⟩⟩
 .have:=h1.toks;simp[PS.ref];omega
 .have j:=h3 z;have:=h.toks;have y:=j.2;simp[PS.ref,y];omega
def es2{p:PS}{M:Nat}(h:p.Ok M):p.number.Ok (M+1)/\(p.number.e=0->p.number.Ok M):=by
 obtain⟨h1,h2,h3,h4⟩:=Y0 (k:=3) (l:=[]) h aF;have y:∀k∈p.number.d.nums,k<=2000000:=λk j=>by
  simp only[PS.number,X9,List.mem_singleton]at j;rcases j with j|rfl
  .exact h1.n.2 k j
  .exact h2
 refine⟨⟨h1.last,Nat.le_succ_of_le h1.toks,?_,h1.e,bQ h1.by_ YN,h1.n.1,y⟩,λC=>⟨h1.last,h1.toks,?_,h1.e,h1.by_,h1.n.1,y⟩⟩
 .have:=h1.nums;simp[PS.number];omega
 .have z:=h3 C;have:=h.nums;have A:=z.2;simp[PS.number,A];omega
def au4(pb B M:Nat)(p:PS)(w:Xa)(Z:M<=1000000)(h:bV w pb B M p):
 Xq Xn 220 #[aq pb] w (sD w pb B M p.ref):=by
 refine LT λi0 hi cE aZ bh=>?_;have J:=ah h;have D:=ah (λW(V:bV W pb B M p)=>zz pb B M p W 1 1 [] (YG WY 0 0) rfl V aF (bp.nil_ _ _));have bd:=h.size;have cj:=es1 h.ok;have HQ:Hid (p.ref={(p.take 1 []).1 with d:={(p.take 1 []).1.d with refs:=(p.take 1 []).1.d.refs++[(p.take 1 []).2.text]}}):=rfl;obtain⟨tv,r,n,z,h2,h3,h4,h5,h6,h7⟩:=id h;have ks:=blk_lt z;have O:=ap (o:=4) z rfl;have Y:=λa b c d w=>Pz a b c d w;clear h z h2 h3 h4 h5 h6 h7;generalize p.take 1 []=q at D HQ;generalize p.ref=p' at HQ cj;obtain⟨q,t⟩:=q;have uU:=ah cj;clear cj;unfold aq at D;simp only[aq];go_enter func220,ntmps220;go_wp2_with fail
 refine po 15 ?_;iterate 5 refine iT 15 2 ?_
 refine lw 6 8 ?_;refine wpAny_ready (rs:=[5,7]) aI YQ ?_;refine AllReady.cons rfl (λK hK=>?_) (AllReady.cons rfl (λK hK=>?_) AllReady.nil)
 .go_simp;refine hK _ _ ?_;clear hK K;refine aO ?_;refine fi 7 λK hK=>?_;go_simp;refine(D.o _ (J.o.later (a_ (aj w)))).mono ?_;unfold qT;rintro e w2 ⟨rfl,A,d_,C⟩;have hq:=A.ok;obtain⟨MI,r2,n2,g1,g2,g3,g4,g5,g6,g7⟩:=A;have F:w2.cell? ⟨pb,4,none⟩=some r:=(C 4 (by decide)).trans O;have I:r2=r:=by have y:=ap (o:=4) g1 rfl;rw[F]at y;injection y with y;exact y.symm
  subst I;have X:=blk_lt g1;have bN:=g3;have aV:r2.ownBlock≠WX pb:=λe=>by have:=(Xs bN pb e).1;omega
  refine PA λG=>?_;have U:q.d.refs.length<=M:=by have z:=hq.toks;dsimp only at z;omega
  clear hq C d_ g1 g2 g3 g4 g7;simp only[nM];try go_simp
  refine hK _ _ ?_;clear hK K;refine aO ?_;refine lw 8 10 ?_;refine fi 9 λK hK=>?_;exact Y1
 .go_simp;refine(D.o _ (J.o.later (a_ (aj w)))).mono ?_;unfold qT;rintro e w2 ⟨rfl,A,d_,C⟩;have hq:=A.ok;obtain⟨MI,r2,n2,g1,g2,g3,g4,g5,g6,g7⟩:=A;have F:w2.cell? ⟨pb,4,none⟩=some r:=(C 4 (by decide)).trans O;have I:r2=r:=by have y:=ap (o:=4) g1 rfl;rw[F]at y;injection y with y;exact y.symm
  subst I;have X:=blk_lt g1;have bN:=g3;have aV:r2.ownBlock≠WX pb:=λe=>by have:=(Xs bN pb e).1;omega
  refine PA λG=>?_;have U:q.d.refs.length<=M:=by have z:=hq.toks;dsimp only at z;omega
  clear hq C d_ g1 g2 g3 g4 g7;simp only[nM];try go_simp
  refine hK _ _ ?_;clear hK K;refine aO ?_;refine lw 8 10 ?_;refine wpAny_ready (rs:=[5,9]) aI YQ ?_;refine AllReady.cons rfl (λK hK=>?_) (AllReady.cons rfl (λK hK=>?_) AllReady.nil)
  .go_simp;refine hK _ _ ?_;clear hK K;refine aO ?_;refine fi 9 λK hK=>?_;exact Y1
  .go_simp;refine hK _ _ ?_;clear hK K;refine aO ?_;refine fi 5 λK hK=>?_;exact Y1
def es3(pb B M:Nat)(p:PS)(w:Xa)(Z:M<=1000000)(h:bV w pb B M p):
 Xq Xn 218 #[aq pb] w (sD w pb B M p.number):=by
 refine KY λi0 hi cE aZ bh=>?_;have J:=ah h;have D:=ah (λW(V:bV W pb B M p)=>zz pb B M p W 3 3 [] (YG WY 0 0) rfl V aF (bp.nil_ _ _));have bd:=h.size;have cj:=es2 h.ok;have HQ:Hid (p.number={(p.take 3 []).1 with d:={(p.take 3 []).1.d with nums:=(p.take 3 []).1.d.nums++[(p.take 3 []).2.n]}}):=rfl;obtain⟨tv,r,n,z,h2,h3,h4,h5,h6,h7⟩:=id h;have ks:=blk_lt z;have O:=ap (o:=5) z rfl;have Y:=λa b c d w=>ej3 a b c d w;clear h z h2 h3 h4 h5 h6 h7;generalize p.take 3 []=q at D HQ;generalize p.number=p' at HQ cj;obtain⟨q,t⟩:=q;have uU:=ah cj;clear cj;unfold aq at D;simp only[aq];go_enter func218,ntmps218;go_wp2_with fail
 refine po 15 ?_;iterate 5 refine iT 15 2 ?_
 refine lw 6 8 ?_;refine wpAny_ready (rs:=[5,7]) aI YQ ?_;refine AllReady.cons rfl (λK hK=>?_) (AllReady.cons rfl (λK hK=>?_) AllReady.nil)
 .go_simp;refine hK _ _ ?_;clear hK K;refine aO ?_;refine fi 7 λK hK=>?_;go_simp;refine(D.o _ (J.o.later (a_ (aj w)))).mono ?_;unfold qT;rintro e w2 ⟨rfl,A,d_,C⟩;have hq:=A.ok;obtain⟨MI,r2,n2,g1,g2,g3,g4,g5,g6,g7⟩:=A;have F:w2.cell? ⟨pb,5,none⟩=some n:=(C 5 (by decide)).trans O;have I:n2=n:=by have y:=ap (o:=5) g1 rfl;rw[F]at y;injection y with y;exact y.symm
  subst I;have X:=blk_lt g1;have bN:=g4;have aV:n2.ownBlock≠WX pb:=λe=>by have:=(Xs bN pb e).1;omega
  refine PA λG=>?_;have U:q.d.nums.length<=M:=by have z:=hq.nums;dsimp only at z;omega
  clear hq C d_ g1 g2 g3 g4 g7;simp only[nM];try go_simp
  refine hK _ _ ?_;clear hK K;refine aO ?_;refine lw 8 10 ?_;refine fi 9 λK hK=>?_;exact Y2
 .go_simp;refine(D.o _ (J.o.later (a_ (aj w)))).mono ?_;unfold qT;rintro e w2 ⟨rfl,A,d_,C⟩;have hq:=A.ok;obtain⟨MI,r2,n2,g1,g2,g3,g4,g5,g6,g7⟩:=A;have F:w2.cell? ⟨pb,5,none⟩=some n:=(C 5 (by decide)).trans O;have I:n2=n:=by have y:=ap (o:=5) g1 rfl;rw[F]at y;injection y with y;exact y.symm
  subst I;have X:=blk_lt g1;have bN:=g4;have aV:n2.ownBlock≠WX pb:=λe=>by have:=(Xs bN pb e).1;omega
  refine PA λG=>?_;have U:q.d.nums.length<=M:=by have z:=hq.nums;dsimp only at z;omega
  clear hq C d_ g1 g2 g3 g4 g7;simp only[nM];try go_simp
  refine hK _ _ ?_;clear hK K;refine aO ?_;refine lw 8 10 ?_;refine wpAny_ready (rs:=[5,9]) aI YQ ?_;refine AllReady.cons rfl (λK hK=>?_) (AllReady.cons rfl (λK hK=>?_) AllReady.nil)
  .go_simp;refine hK _ _ ?_;clear hK K;refine aO ?_;refine fi 9 λK hK=>?_;exact Y2
  .go_simp;refine hK _ _ ?_;clear hK K;refine aO ?_;refine fi 5 λK hK=>?_;exact Y2
end
section
open Go Go.RowKit Go.Shelf Go.Proofs.Tryz
attribute [local go_sem] Oper.semAt_some
def ew1(F:Fence)(n:Nat)(Z:F.fn 311)(J:F.fn 234)(A:F.round=WY)(hn:3<=n)(j:Nat)(C:Xb)(y:List ByteArray)(V:y.length<=1000000)(w:Xa)(jW:j<w)
 (X:w.cell? j=WX C)(hI:Sl w w C (y.map (Xp))):
 CallsIn F n Xn 311 #[YG WY 0 0,.func (.func 234) #[] #[YK (WX j)]] w λe G=>∃v,e=Ya v/\G.ownsRow w 9 1 v y.length (y.map (Xp))/\Below w w G:=by
 have Y:1<=n:=YN;refine LT λi0 hi cE aZ bh=>?_;refine callsIn_of_wp_marks func311 rfl Z ?_ A;simp only[ntmps311,List.size_toArray,XV,YF,Nat.reduceAdd,Nat.reduceSub,Array.replicate_succ,Array.replicate_zero,List.push_toArray,List.append_toArray,XZ,XI]
 gi_wp2
 have U:=Boxed.new w 22 (YG WY 0 0);have z:Below w w (w.alloc (YI #[YG WY 0 0] 22)):=(X6 _ w).alloc (am _) _;refine wpIn_rangeFunc_ownG A Y (gf:=234) (lb:= #[YK (WX j)]) rfl J (Xk func234 aI rfl)
  (ev7 F (n - 1) J A YN j w C y V (w.alloc (YI #[YG WY 0 0] 22)) bP YQ ((z.cell (p:=j) jW).trans X) (hI.below z)) belowK_t (belowK_b YQ) (X6 _ _) (λ_=>rfl)
  (λpre W=>(∃v,Boxed W w 22 v/\W.ownsRow w 9 1 v pre.length (pre.map (Xp))/\True)/\Below w w W)
  (λ_ _ _=>False)
  (OwnFrom.and (Own.from (holdsRow_own w w 22 9 1 (λpre:List ByteArray=>pre.length) (λpre=>pre.map (Xp)) (λ_ _=>True)) _) (ownFrom_below (am _) YQ))
  (λ_ _ _ _ _ hs _ _=>hs)
  ⟨⟨_,U,XD _ _ _ _,trivial⟩,z⟩
  (λx=>{tmps:= #[YG WY 0 0,.func (.func 234) #[] #[YK (WX j)],YK (WX w),Yg,YG WY 0 0,Xp x,.func (.func 234) #[] #[YK (WX j)],Xp x,Yg,Yg,Yg,Yg,Yg],defers:=[]}) ?assign ?body ?done ?stop
 case assign=>
  intro l x W K hK
  gi_wp2
  exact hK
 case body=>
  rintro l pre x W ⟨⟨v,hv,dO,_⟩,hB⟩ az;have hc:=hv.cell
  gi_wp2_with (gi_at_builtin;refine wpListIn_append_own _ rfl _ _ 22 rfl w.heap.size 9 i0 (Xp ⟨#[]⟩) 1 16 underlying22 hi cE aZ bh rfl aF _ _ _ rfl (dO.alloc _) (W 0 WY) 1 1 [Xp x] rfl rfl (cell_one_new _ _ _) yF tV YN (by have:=hB.size;simp;omega) ?_;intro v' w1 I O _;obtain⟨g',cap',rfl⟩:=ownsRow_succ I;obtain⟨fg,lG,cQ,gE,au⟩:=hv.appended aF dO hB.size (am _) I O;have bA:=fg.cell;have bT:=fg.frozen)
  exact⟨gE.from _,au,⟨_,lG,by simpa using cQ,trivial⟩,hB.trans au⟩
 case done=>exact be1
 case stop=>rintro D c pre W _ _ h _;exact h.elim
def ew2(F:Fence)(n:Nat)(Z:F.fn 314)(J:F.fn 237)(A:F.round=WY)(hn:3<=n)(j:Nat)(C:Xb)(y:List Int)(V:y.length<=1000000)(w:Xa)(jW:j<w)
 (X:w.cell? j=WX C)(hI:Sl w w C (y.map (Xo .i64))):
 CallsIn F n Xn 314 #[YG WY 0 0,.func (.func 237) #[] #[YK (WX j)]] w λe G=>∃v,e=Ya v/\G.ownsRow w 3 1 v y.length (y.map (Xo .i64))/\Below w w G:=by
 have Y:1<=n:=YN;refine KY λi0 hi cE aZ bh=>?_;refine callsIn_of_wp_marks func314 rfl Z ?_ A;simp only[ntmps314,List.size_toArray,XV,YF,Nat.reduceAdd,Nat.reduceSub,Array.replicate_succ,Array.replicate_zero,List.push_toArray,List.append_toArray,XZ,XI]
 gi_wp2
 have U:=Boxed.new w 30 (YG WY 0 0);have z:Below w w (w.alloc (YI #[YG WY 0 0] 30)):=(X6 _ w).alloc (am _) _;refine wpIn_rangeFunc_ownG A Y (gf:=237) (lb:= #[YK (WX j)]) rfl J (Xk func237 aI rfl)
  (ew0 F (n - 1) J A YN j w C y V (w.alloc (YI #[YG WY 0 0] 30)) bP YQ ((z.cell (p:=j) jW).trans X) (hI.below z)) belowK_t (belowK_b YQ) (X6 _ _) (λ_=>rfl)
  (λpre W=>(∃v,Boxed W w 30 v/\W.ownsRow w 3 1 v pre.length (pre.map (Xo .i64))/\True)/\Below w w W)
  (λ_ _ _=>False)
  (OwnFrom.and (Own.from (holdsRow_own w w 30 3 1 (λpre:List Int=>pre.length) (λpre=>pre.map (Xo .i64)) (λ_ _=>True)) _) (ownFrom_below (am _) YQ))
  (λ_ _ _ _ _ hs _ _=>hs)
  ⟨⟨_,U,XD _ _ _ _,trivial⟩,z⟩
  (λx=>{tmps:= #[YG WY 0 0,.func (.func 237) #[] #[YK (WX j)],YK (WX w),Yg,YG WY 0 0,Xo .i64 x,.func (.func 237) #[] #[YK (WX j)],Xo .i64 x,Yg,Yg,Yg,Yg,Yg],defers:=[]}) ?assign ?body ?done ?stop
 case assign=>
  intro l x W K hK
  gi_wp2
  exact hK
 case body=>
  rintro l pre x W ⟨⟨v,hv,dO,_⟩,hB⟩ az;have hc:=hv.cell
  gi_wp2_with (gi_at_builtin;refine wpListIn_append_own _ rfl _ _ 30 rfl w.heap.size 3 i0 (Xo XO 0) 1 8 underlying30 hi cE aZ bh rfl aF _ _ _ rfl (dO.alloc _) (W 0 WY) 1 1 [Xo .i64 x] rfl rfl (cell_one_new _ _ _) yF tV YN (by have:=hB.size;simp;omega) ?_;intro v' w1 I O _;obtain⟨g',cap',rfl⟩:=ownsRow_succ I;obtain⟨fg,lG,cQ,gE,au⟩:=hv.appended aF dO hB.size (am _) I O;have bA:=fg.cell;have bT:=fg.frozen)
  exact⟨gE.from _,au,⟨_,lG,by simpa using cQ,trivial⟩,hB.trans au⟩
 case done=>exact be1
 case stop=>rintro D c pre W _ _ h _;exact h.elim
end
section
open Go Go.RowKit Go.Proofs.Tryz
def yT(n:Int):∀l,(Bl n l).Perm (n::l)
 |[]=>List.Perm.refl _
 |a::l=>by
  unfold Bl;split
  .exact List.Perm.refl _
  .exact((yT n l).cons a).trans (List.Perm.swap _ _ _)
def Iv:∀l:List Int,(ou l).Perm l
 |[]=>List.Perm.refl _
 |a::l=>(yT a (ou l)).trans ((Iv l).cons a)
def az8(n:Int):∀l:List Int,l.Pairwise (·<=·)->(Bl n l).Pairwise (·<=·)
 |[],_=>by simp[Bl]
 |a::l,h=>by
  unfold Bl;rw[List.pairwise_cons]at h;split
  .rename_i j;refine List.pairwise_cons.2 ⟨λb c=>?_,List.pairwise_cons.2 h⟩;rcases List.mem_cons.1 c with rfl|c
   .exact j
   .have:=h.1 b c;omega
  .rename_i j;refine List.pairwise_cons.2 ⟨λb c=>?_,az8 n l h.2⟩;rcases List.mem_cons.1 ((yT n l).mem_iff.1 c)with rfl|c
   .omega
   .exact h.1 b c
def az9:∀l:List Int,(ou l).Pairwise (·<=·)
 |[]=>List.Pairwise.nil
 |a::l=>az8 a _ (az9 l)
def ba0(l:List Int):(l.mergeSort λx y=>WZ (x<=y))=ou l:=by refine List.Perm.eq_of_pairwise (le:=λx y:Int=>x<=y) (λa b _ _ j z=>Int.le_antisymm j z) ?_ (az9 l) ((List.mergeSort_perm _ _).trans (Iv l).symm);have h:=List.pairwise_mergeSort (le:=λx y:Int=>WZ (x<=y)) (λa b c j z=>by simp at*;omega) (λa b=>by simp;omega) l;exact h.imp (λh=>by simpa using h)
def ew8(l:List (List UInt8)):(l.mergeSort λx y=>WZ (x<=y)).Pairwise (·<=·):=by
 have h:=List.pairwise_mergeSort (le:=λx y:List UInt8=>WZ (x<=y)) (λa b c j z=>by
  simp only[decide_eq_true_eq]at*
  exact List.le_trans j z) (λa b=>by
  have:=List.le_total a b;simpa using this) l
 exact h.imp (λh=>by simpa using h)
def ew9{s:List (List UInt8)}(c:s.Pairwise (·<=·))(F:∀j(h:j+1<s.length),s[j]≠s[j+1]):s.Nodup:=by
 rw[List.pairwise_iff_getElem]at c;refine List.pairwise_iff_getElem.2 λi j I J z G=>?_;have A:s[i]<=s[j - 1]:=by
  by_cases e:i=j - 1
  .subst e;exact List.le_refl _
  .exact c i (j - 1) I YN YN
 have C:s[j - 1]<=s[j]:=c (j - 1) j YN J YN;have D:s[j - 1]=s[j]:=List.le_antisymm C (G▸A);have y:j - 1+1=j:=YN;refine F (j - 1) YN ?_;rw[D];simp only[y]
def ex0(l:List (List UInt8)):(Go.Lib.compact (l.mergeSort λx y=>WZ (x<=y))).length<l.length↔¬l.Nodup:=by
 have z:=List.mergeSort_perm l (λx y=>WZ (x<=y));have A:=ew8 l;rw[<-z.nodup_iff,<-z.length_eq];generalize (l.mergeSort λx y=>WZ (x<=y))=s at z A;constructor
 .intro h I;rw[Go.Lib.compact_all s (λj c=>?_)]at h
  .omega
  .by_cases F:j=0
   .subst F;simp[Go.Lib.keeps]
   .refine Go.Lib.keeps_pos λe=>?_;have J:=List.pairwise_iff_getElem.1 I (j - 1) j (by omega) c (by omega);apply J;have C:s.toArray[j]! =s[j]:=by simp[getElem!_pos,c]
    have D:s.toArray[j - 1]! =s[j - 1]:=by simp[getElem!_pos,show j - 1<s.length by omega]
    rw[C,D]at e;exact e.symm
 .intro h;have:∃j,∃h:j+1<s.length,s[j]=s[j+1]:=by
   apply Classical.byContradiction;intro O;exact h (ew9 A λj c e=>O ⟨j,c,e⟩)
  obtain⟨j,c,e⟩:=this;unfold Go.Lib.compact Go.Lib.compactUpTo;rw[Xl];have G:=(List.length_filter_lt_length_iff_exists (l:=XS s.length) (p:=Go.Lib.keeps s.toArray)).2 ⟨j+1,List.mem_range.2 c,by rw[Go.Lib.keeps_neg YN (by simp[getElem!_pos,c,show j<s.length by omega,e])];simp⟩
  rwa [List.length_range]at G
def bu3:Array Value:=((XS 18).map λk=>Xp (bs (bH k))).toArray
def fs5{n k:Nat}{f:Nat->Xb}(h:k<n):((XS n).map f)[k]?=WX (f k):=by rw[Xr,List.getElem?_range h];rfl
def yd(k:Nat)(h:k<18)(w:Xa):aR 41 #[k] w (Xp (bs (bH k))):=by
 have C:(0:Int)<=k:=YN;have D:(k:Int)<18:=YN;have z:=ah (fs5 (f:=λk=>Xp (bs (bH k))) h);clear h;go_enter func41,ntmps41;go_upto_region 2 with(fail)
 refine fe (λW=>Below w w W/\W.heap[w.heap.size]?=WX (YI bu3 9 (0,0))) ⟨ai (aj w) _,cN w _⟩ ?_;intro A ⟨j,hx⟩;have c:A.cell? (w k WY)=WX (Xp (bs (bH k))):=ap hx (by unfold bu3;rw[List.getElem?_toArray];exact z.o);have y:=ah j;clear j hx;go_wp2_with fail
 go_ret;exact⟨rfl,y.o⟩
def Fz(v:Xb)(l:List Int)(w:Xa)(h:aW w w v l)(C:l.length<=100000):
 aR 42 #[v] w (Xp (bs (eY l))):=by
 obtain⟨A,n,c,rfl,hn,hc,hm⟩:=h.form;have HL:=ah hn;have H:=ah h;have I:n<=100000:=YN;clear h hn C;go_enter func42,ntmps42;go_wp2_with fail
 go_loopw [3,4] (λs i wr=>∃k:Nat,k<=n/\i=Xo XO k/\s=Xp (bs (eY (l.take k)))/\Below w w wr) (λ_ i _=>n - (Xw i).toNat)
 case atStart=>exact⟨0,cb _,rfl,rfl,aj w⟩
 case round=>
  obtain⟨k,hk,rfl,rfl,hb⟩:=hrel;have G:(bs (eY (l.take k))).size<=2200000:=by rw[dd];have:=Z6 (l.take k) (λx hx=>H.o.2 x (List.mem_of_mem_take hx));rw[XQ]at this;omega
  by_cases az:k<n
  .obtain⟨b,o,rfl,AO,bb⟩:=(H.o.below hb (am _)).at_ k az;have F:=bb k az;clear bb;have j:aP (cM l k):=H.o.2 _ (Z8 (by rw[HL.o];exact az));have D:(bs (Lib.itoa (cM l k))).size<=21:=by rw[dd];exact Lib.itoa_length_le _ j.1 j.2
   have J:(bs (eY (l.take k))++⟨#[32]⟩:ByteArray).size<=2200001:=by rw[Yo];have:(⟨#[32]⟩:ByteArray).size=1:=rfl;omega
   have y:Hid (bs (eY (l.take (k+1)))=bs (eY (l.take k))++⟨#[32]⟩++bs (Xg (cM l k))):=by rw[Z7 l k tU,dm1];show bs (eY (l.take k)++(32::Xg (cM l k)++[]))=bs (eY (l.take k))++bs [32]++bs (Xg (cM l k));rw[eP,eP];simp
   go_wp2_with(go_at_call 40;refine(ZN _ j _).m ?_;rintro e O ⟨rfl,z⟩)
   exact⟨⟨k+1,by omega,by go_num,by rw[y.o],ak hb z⟩,by simp[Xw];omega⟩
  .go_wp2_with fail
   go_ret;refine⟨lQ (by rw[Xu (by rw[HL.o];omega)]),hb⟩
end
end Go.Proofs.YtpfienbhhhgpkaaGreatDoor
