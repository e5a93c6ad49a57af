/- A part of the proof. -/
import Derived.Test.YtihhpjmclebfpaaGreatDoorQa
set_option linter.defProp false
set_option linter.unusedVariables false
set_option linter.unusedSimpArgs false
set_option maxRecDepth 100000
set_option maxHeartbeats 32000000
open Option renaming some->XL,none->XM
open Decidable renaming decide->XN
open Go renaming World->XO,Value->XP,Calls->X4,TypeId->Ya,maxLen->Yd,Oper->YO,undef->YQ,Ending->Zb,Addr->Zf,Program->Zh
open Bool renaming false->XQ,true->XR
open Go.Lib renaming itoa->XS,decDigits->Yb,countB->Y3
open List renaming range->Yz
open Go.RowKit renaming Hid->XV
open Go.Proofs renaming intOf->X8
open Go.Proofs.Tryz renaming prog->X3,underlying22->Zo
open Go.Value renaming int->X1,string->X2,ownBlock->YC,oneCell'->YH,slice->Zk,bool->Zp,agg->Zr,pointer->Zs
open Go.World renaming setCell->YS,cell?->Zc
open Go.IntKind renaming i64->Yo
open Go.Region renaming wanted->YB,ready->YR,Mode->Y4
open Go.Ending renaming returned->YT
open UInt8 renaming ofNat->Y2
open Go.Oper renaming wp->Zm
open Go.Obj renaming cells->Zq
namespace Go.Proofs.YtihhpjmclebfpaaGreatDoor
section
open Go Go.RowKit Go.Proofs.Tryz
def Sl(w:XO)(B:Nat)(v:XP)(xs:List XP):Prop:=
 ∃A c,v=Zk A xs.length c/\xs.length<=c/\c<=Yd/\(xs≠[]->∃b o,A=XL ⟨b,o,XM⟩/\b<B/\∀(j:Nat)u,xs[j]?=XL u->w.cell? ⟨b,o+j,XM⟩=XL u)
section
variable {w w':XO} {B B':Nat} {v:XP} {xs:List XP}
def Sl.keep(h:Sl w B v xs)(y:∀b o,b<B->w'.cell? ⟨b,o,XM⟩=w.cell? ⟨b,o,XM⟩):Sl w' B v xs:=by obtain⟨A,c,rfl,h1,h2,h3⟩:=h;refine⟨A,c,rfl,h1,h2,λz=>?_⟩;obtain⟨b,o,rfl,hb,hc⟩:=h3 z;exact⟨b,o,rfl,hb,λj u C=>(y _ _ hb).t (hc j u C)⟩
def Sl.more(h:Sl w B v xs)(y:B<=B'):Sl w B' v xs:=by obtain⟨A,c,rfl,h1,h2,h3⟩:=h;refine⟨A,c,rfl,h1,h2,λj=>?_⟩;obtain⟨b,o,rfl,hb,hc⟩:=h3 j;exact⟨b,o,rfl,by omega,hc⟩
def Sl.below(h:Sl w B v xs)(c:Below B w w'):Sl w' B v xs:=h.keep λb o j=>c.cell (p:=b o XM) j
def Sl.belowM{B₂:Nat}(h:Sl w B v xs)(y:Below B₂ w w')(j:B<=B₂):Sl w' B v xs:=h.keep λb o z=>y.cell (p:=b o XM) (bJ z j)
def Sl.nil_(w:XO)(B:Nat):Sl w B (Zk XM 0 0) []:=⟨XM,0,rfl,by simp,by simp,λh=>absurd rfl h⟩
def Sl.cases_(h:Sl w B v xs):(xs=[]/\∃A c,v=Zk A 0 c/\c<=Yd)\/
 (0<xs.length/\∃b o c,v=Zk (XL ⟨b,o,XM⟩) xs.length c/\xs.length<=c/\c<=Yd/\b<B/\∀(j:Nat)u,xs[j]?=XL u->w.cell? ⟨b,o+j,XM⟩=XL u):=by
 obtain⟨A,c,rfl,h1,h2,h3⟩:=h;by_cases y:xs=[]
 .subst y;exact .inl ⟨rfl,A,c,rfl,h2⟩
 .obtain⟨b,o,rfl,hb,hc⟩:=h3 y;exact .inr ⟨List.length_pos_iff.2 y,b,o,c,rfl,h1,h2,hb,hc⟩
def Sl.of_own{base:Nat}{e:Ya}{n:Nat}(h:w.ownsRow base e 1 v n xs):Sl w w v xs:=by
 have y:xs.length=n:=by simpa using h.1
 by_cases C:0<n
 .obtain⟨g,cap,hv,_,ap⟩:=h.form C;have A:n<=cap/\cap<=maxLen:=by
   exact ag2
  subst hv;refine⟨_,cap,by rw[y],by omega,A.2,λ_=>⟨g,0,rfl,ap,λj u D=>?_⟩⟩;have:=h.cells (g:=g) rfl j u D;by_cases c:j=0
  .subst c;simpa[Addr.add]using this
  .simpa[Addr.add,c]using this
 .have z:n=0:=by omega
  subst z;have hx:xs=[]:=List.eq_nil_of_length_eq_zero y;subst hx;rcases h.2 with⟨rfl,_⟩|⟨g,cap,_,rfl,_,_,h1,h2,_⟩
  .exact Sl.nil_ _ _
  .exact⟨_,cap,rfl,by simp,h2,λh=>absurd rfl h⟩
end
def dE{W c:XO}(j:Below W W c):(∀b o,b<W.heap.size->c.cell? ⟨b,o,XM⟩=W.cell? ⟨b,o,XM⟩)/\(∀b o,b<W.heap.size->c.frozen? ⟨b,o,XM⟩=W.frozen? ⟨b,o,XM⟩):=
 ⟨λb o h=>j.cell (p:=⟨b,o,XM⟩) h,λb o h=>j.frozen (p:=⟨b,o,XM⟩) h⟩
def qj{B:Nat}{a w:XO}(h:Below B a w)(n:Nat):Below B a (w.drewN n):=⟨h.os,h.tape,h.output,h.size,h.block⟩
def FE{B:Nat}{a w:XO}(h:Below B a w):Below B a w.drew:=⟨h.os,h.tape,h.output,h.size,h.block⟩
def am(w:XO):Below w w w:=YI _ _
def ak{a w:XO}(h:Below a a w)(o:Obj):Below a a (w.alloc o):=h.alloc h.size o
def cV{a w:XO}(h:Below a a w){p:Zf}(c:a.heap.size<=p.block)(u:XP):Below a a (w.setCell p u):=h.setCell c u
def aW{a w:XO}(h:Below a a w):Below a a w.drew:=⟨h.os,h.tape,h.output,h.size,h.block⟩
def zX{a w:XO}(h:Below a a w)(n:Nat):Below a a (w.drewN n):=qj h n
def aq{a w w':XO}(h:Below a a w)(k:Below w w w'):Below a a w':=h.t (k.mono h.size)
def jd{α:Type}{l:List α}{k:Nat}(h:k<l.length):∃x,l[k]?=XL x:=⟨_,XT h⟩
def iT{α:Type}{l:List α}{k n:Nat}(e:l.length=n)(h:k<n):∃x,l[k]?=XL x:=jd (by rw[e];exact h)
def dt{k n:Nat}(h:k<n):(0:Int)<=k/\(k:Int)<n:=Zv
def WG{k n:Nat}(h:k<n):(k:Int)<n:=Zv
def eS{k n:Nat}(h:¬k<n):¬(k:Int)<n:=Zv
def kc{w W:XO}{p:Zf}{v:XP}(h:Below w w W)(e:ae w p v):ae W p v:=(h.cell (bY _ _ e)).t e
def dQ{W j:XO}{n:Nat}(y:Below W W j)(h:n<W):n<j:=bJ h y.size
def aN(n:Int):Prop:= -9223372036854775808<=n/\n<=9223372036854775807
def aS(w:XO)(B:Nat)(v:XP)(l:List Int):Prop:=Sl w B v (l.map (X1 .i64))/\∀x∈l,aN x
def cP(w:XO)(B:Nat)(v:XP)(l:List ByteArray):Prop:=Sl w B v (l.map X2)
def aS.below{w w':XO}{B B₂:Nat}{v:XP}{l:List Int}(h:aS w B v l)(j:Below B₂ w w')(c:B<=B₂):aS w' B v l:=⟨h.1.belowM j c,h.2⟩
def aS.more{w:XO}{B B':Nat}{v:XP}{l:List Int}(h:aS w B v l)(c:B<=B'):aS w B' v l:=⟨h.1.more c,h.2⟩
def cP.below{w w':XO}{B B₂:Nat}{v:XP}{l:List ByteArray}(h:cP w B v l)(j:Below B₂ w w')(c:B<=B₂):cP w' B v l:=Sl.belowM h j c
def cP.more{w:XO}{B B':Nat}{v:XP}{l:List ByteArray}(h:cP w B v l)(c:B<=B'):cP w B' v l:=Sl.more h c
def LP{P:Zh}{f:FuncId}{args:Array XP}{w:XO}{a n:Nat}{v:XP}
 (h:X4 P f args (w.drewN (a+n)) λe w'=>e=YT v/\w'=w.drewN (a+n)):
 X4 P f args (w.drewN (a+n)) λe c=>e=YT v/\∃m,c=w.drewN (a+m):=
 h.mono λ_ _⟨j,hm⟩=>⟨j,n,hm⟩
end
section
open Go Go.Proofs.Tryz
def ui{α:Type}(x:α)(xs:List α)(a:α):(x::xs).set 0 a=a::xs:=rfl
def uh{α:Type}(x:α)(xs:List α)(n:Nat)(a:α):(x::xs).set (n+1) a=x::xs.set n a:=rfl
def ug{α:Type}(xs:List α)(i:Nat)(a:α):xs.toArray.setIfInBounds i a=(xs.set i a).toArray:=List.setIfInBounds_toArray ..
section
variable {P:Zh} {ops:Array YO} {Q:Exit->Act->XO->Prop} {md:Y4} {S:XO->Prop}
def nW(md:Y4)(ops:Array YO)(listed:Array Bool)(i t:Nat):Bool:=
 Region.noSelect ops&&Region.free md ops listed i&&(YR md ops listed).contains i&&match ops[i]? with|some o=>o.dst==XL t|none=>XQ
def Jf{listed:Array Bool}{i t:Nat}{c:YO}(h:nW md ops listed i t=XR)(j:ops[i]?=XL c):Region.noSelect ops=XR/\Region.free md ops listed i=XR/\(YR md ops listed).contains i=XR/\c.dst=XL t:=by unfold nW at h;rw[j]at h;simp only[XW,beq_iff_eq]at h;exact⟨h.1.1.1,h.1.1.2,h.1.2,h.2⟩
def tA(m s:Nat){z:YO}{v:XP}{fuel:Nat}{listed:Array Bool}{a:Act}{w:XO}(y:ops[m - (fuel+1)]?=XL z)(A:nW md ops listed (m - (fuel+1)) (s+(m - (fuel+1)))=XR)
 (j:∀c a w,Q (.panic c) (a.put (XL (s+(m - (fuel+1)))) v) w->Q (.panic c) a w)(C:Yields P ops z v a)
 (h:wpAny P md ops Q fuel (listed.setIfInBounds (m - (fuel+1)) XR) (a.put (XL (s+(m - (fuel+1)))) v) w):wpAny P md ops Q (fuel+1) listed a w:=by
 obtain⟨h1,h2,h3,hd⟩:=Jf A y;rw[<-hd]at h j;exact wpAny_take y h1 h2 h3 j C h
def cz9(m s:Nat){z:YO}{v:XP}{fuel:Nat}{listed:Array Bool}{a:Act}{w:XO}(y:ops[m - (fuel+1)]?=XL z)(C:nW md ops listed (m - (fuel+1)) (s+(m - (fuel+1)))=XR)
 (j:∀c a w,Q (.panic c) (a.put (XL (s+(m - (fuel+1)))) v) w->Q (.panic c) a w)(D:YieldsIf P ops S z v a)(A:S w)
 (h:wpAnyH P md ops Q S fuel (listed.setIfInBounds (m - (fuel+1)) XR) (a.put (XL (s+(m - (fuel+1)))) v) w):wpAnyH P md ops Q S (fuel+1) listed a w:=by
 obtain⟨h1,h2,h3,hd⟩:=Jf C y;rw[<-hd]at h j;exact wpAnyH_take y h1 h2 h3 j D A h
def dv1(i t:Nat){z:YO}{v:XP}{fuel:Nat}{listed:Array Bool}{a:Act}{w:XO}(y:ops[i]?=XL z)(A:nW md ops listed i t=XR)
 (j:∀c a w,Q (.panic c) (a.put (XL t) v) w->Q (.panic c) a w)(C:Yields P ops z v a)
 (h:wpAny P md ops Q fuel (listed.setIfInBounds i XR) (a.put (XL t) v) w):wpAny P md ops Q (fuel+1) listed a w:=by
 obtain⟨h1,h2,h3,hd⟩:=Jf A y;rw[<-hd]at h j;exact wpAny_take y h1 h2 h3 j C h
def dv2(i t:Nat){z:YO}{v:XP}{fuel:Nat}{listed:Array Bool}{a:Act}{w:XO}(y:ops[i]?=XL z)(C:nW md ops listed i t=XR)
 (j:∀c a w,Q (.panic c) (a.put (XL t) v) w->Q (.panic c) a w)(D:YieldsIf P ops S z v a)(A:S w)
 (h:wpAnyH P md ops Q S fuel (listed.setIfInBounds i XR) (a.put (XL t) v) w):wpAnyH P md ops Q S (fuel+1) listed a w:=by
 obtain⟨h1,h2,h3,hd⟩:=Jf C y;rw[<-hd]at h j;exact wpAnyH_take y h1 h2 h3 j D A h
def kB(m s:Nat){j:YO}{v:XP}{fuel:Nat}{listed:Array Bool}{a:Act}{w:XO}{p:Prop}(h:p)
 (z:ops[m - (fuel+1)]?=XL j:=by rfl)(A:nW md ops listed (m - (fuel+1)) (s+(m - (fuel+1)))=true:=by kernel_rfl)
 (y:∀c a w,Q (.panic c) (a.put (XL (s+(m - (fuel+1)))) v) w->Q (.panic c) a w:=by exact λ_ _ _ h=>h)(D:Yields P ops j v a:=by(refine Or.inl ⟨by rfl,?_⟩;intro w;go_simp;try with_reducible rfl))
 (C:p->wpAny P md ops Q fuel (listed.setIfInBounds (m - (fuel+1)) XR) (a.put (XL (s+(m - (fuel+1)))) v) w:=by(intro hq;simp only[Act.put,ug,ui,uh,Nat.reduceSub,Nat.reduceAdd];exact hq)):wpAny P md ops Q (fuel+1) listed a w:=
 tA m s z A y D (C h)
def FC(m s:Nat){j:YO}{fuel:Nat}{listed:Array Bool}{a:Act}{w:XO}{p:Prop}(h:p)
 (z:ops[m - (fuel+1)]?=XL j:=by rfl)(A:nW md ops listed (m - (fuel+1)) (s+(m - (fuel+1)))=true:=by kernel_rfl)
 (y:∀c a w,Q (.panic c) (a.put (XL (s+(m - (fuel+1)))) YQ) w->Q (.panic c) a w:=by exact λ_ _ _ h=>h)(D:Yields P ops j YQ a:=by exact Or.inr ⟨by rfl,rfl⟩)
 (C:p->wpAny P md ops Q fuel (listed.setIfInBounds (m - (fuel+1)) XR) (a.put (XL (s+(m - (fuel+1)))) YQ) w:=by(intro hq;simp only[Act.put,ug,ui,uh,Nat.reduceSub,Nat.reduceAdd];exact hq)):wpAny P md ops Q (fuel+1) listed a w:=
 tA m s z A y D (C h)
def nX(i t:Nat){j:YO}{v:XP}{fuel:Nat}{listed:Array Bool}{a:Act}{w:XO}{p:Prop}(h:p)
 (z:ops[i]?=XL j:=by rfl)(A:nW md ops listed i t=true:=by kernel_rfl)
 (y:∀c a w,Q (.panic c) (a.put (XL t) v) w->Q (.panic c) a w:=by exact λ_ _ _ h=>h)(D:Yields P ops j v a:=by(refine Or.inl ⟨by rfl,?_⟩;intro w;go_simp;try with_reducible rfl))
 (C:p->wpAny P md ops Q fuel (listed.setIfInBounds i XR) (a.put (XL t) v) w:=by(intro hq;simp only[Act.put,ug,ui,uh];exact hq)):wpAny P md ops Q (fuel+1) listed a w:=
 dv1 i t z A y D (C h)
def oO(m s:Nat){j:YO}{v:XP}{fuel:Nat}{listed:Array Bool}{a:Act}{w:XO}{p:Prop}(h:p)(hS:S w:=by exact hS)
 (z:ops[m - (fuel+1)]?=XL j:=by rfl)(A:nW md ops listed (m - (fuel+1)) (s+(m - (fuel+1)))=true:=by kernel_rfl)
 (y:∀c a w,Q (.panic c) (a.put (XL (s+(m - (fuel+1)))) v) w->Q (.panic c) a w:=by exact λ_ _ _ h=>h)(D:YieldsIf P ops S j v a:=by(refine Or.inl ⟨by rfl,?_⟩;intro w jF;(try have jF:=cU w jF);(try dsimp only at jF);go_simp;try with_reducible rfl))
 (C:p->wpAnyH P md ops Q S fuel (listed.setIfInBounds (m - (fuel+1)) XR) (a.put (XL (s+(m - (fuel+1)))) v) w:=by(intro hq;simp only[Act.put,ug,ui,uh,Nat.reduceSub,Nat.reduceAdd];exact hq)):wpAnyH P md ops Q S (fuel+1) listed a w:=
 cz9 m s z A y D hS (C h)
def hf7(m s:Nat){j:YO}{fuel:Nat}{listed:Array Bool}{a:Act}{w:XO}{p:Prop}(h:p)(hS:S w:=by exact hS)
 (z:ops[m - (fuel+1)]?=XL j:=by rfl)(A:nW md ops listed (m - (fuel+1)) (s+(m - (fuel+1)))=true:=by kernel_rfl)
 (y:∀c a w,Q (.panic c) (a.put (XL (s+(m - (fuel+1)))) YQ) w->Q (.panic c) a w:=by exact λ_ _ _ h=>h)(D:YieldsIf P ops S j YQ a:=by exact Or.inr ⟨by rfl,rfl⟩)
 (C:p->wpAnyH P md ops Q S fuel (listed.setIfInBounds (m - (fuel+1)) XR) (a.put (XL (s+(m - (fuel+1)))) YQ) w:=by(intro hq;simp only[Act.put,ug,ui,uh,Nat.reduceSub,Nat.reduceAdd];exact hq)):wpAnyH P md ops Q S (fuel+1) listed a w:=
 cz9 m s z A y D hS (C h)
def cQ(i t:Nat){j:YO}{v:XP}{fuel:Nat}{listed:Array Bool}{a:Act}{w:XO}{p:Prop}(h:p)(hS:S w:=by exact hS)
 (z:ops[i]?=XL j:=by rfl)(A:nW md ops listed i t=true:=by kernel_rfl)
 (y:∀c a w,Q (.panic c) (a.put (XL t) v) w->Q (.panic c) a w:=by exact λ_ _ _ h=>h)(D:YieldsIf P ops S j v a:=by(refine Or.inl ⟨by rfl,?_⟩;intro w jF;(try have jF:=cU w jF);(try dsimp only at jF);go_simp;try with_reducible rfl))
 (C:p->wpAnyH P md ops Q S fuel (listed.setIfInBounds i XR) (a.put (XL t) v) w:=by(intro hq;simp only[Act.put,ug,ui,uh];exact hq)):wpAnyH P md ops Q S (fuel+1) listed a w:=
 dv2 i t z A y D hS (C h)
def h_(i:Nat){o:YO}{fuel:Nat}{listed:Array Bool}{a:Act}{w:XO}(h:∀c:Act->XO->Prop,(∀a w,wpAny P md ops Q fuel (listed.setIfInBounds i XR) a w->c a w)->if YB o (yielded ops a.tmps)=XR then Zm P o a w c Q else c (a.put o.dst YQ) w)
 (j:YR md ops listed=[i]:=by kernel_rfl)(ho:ops[i]?=XL o:=by rfl):wpAny P md ops Q (fuel+1) listed a w:=wpAny_ready j Zy (AllReady.cons ho h AllReady.nil)
def fg(i:Nat){o:YO}{fuel:Nat}{listed:Array Bool}{a:Act}{w:XO}(h:∀c:Act->XO->Prop,Shut (∀a w,S w->(S w->wpAnyH P md ops Q S fuel (listed.setIfInBounds i XR) a w)->c a w)->if YB o (yielded ops a.tmps)=XR then Zm P o a w c Q else c (a.put o.dst YQ) w)
 (j:YR md ops listed=[i]:=by kernel_rfl)(ho:ops[i]?=XL o:=by rfl):wpAnyH P md ops Q S (fuel+1) listed a w:=wpAnyH_ready j Zy (AllReadyH.cons ho h AllReadyH.nil)
def ty(n:Nat){id:Nat}{a:Act}{w:XO}(h:wpAny P .any ops Q n (Array.replicate n XQ) a (World.drew w))(hm:P.follows .mixedOrders=true:=by kernel_rfl)(c:ops.size=n:=by rfl):(Code.region id ops XR).wp P Q a w:=by subst c;exact wp_region_any hm h
def tz{S:XO->Prop}(n:Nat){id:Nat}{a:Act}{w:XO}(c:S (World.drew w))(h:S (World.drew w)->wpAnyH P .any ops Q S n (Array.replicate n XQ) a (World.drew w))(hm:P.follows .mixedOrders=true:=by kernel_rfl)(j:ops.size=n:=by rfl):(Code.region id ops XR).wp P Q a w:=by subst j;exact wp_region_held_drew hm c h
def yg{listed:Array Bool}{a:Act}{w:XO}{fuel:Nat}(h:Q .normal a w)(c:YR md ops listed=[]:=by kernel_rfl):wpAny P md ops Q fuel listed a w:=wpAny_done c h fuel
def rY{listed:Array Bool}{a:Act}{w:XO}{fuel:Nat}(h:Q .normal a w)(c:YR md ops listed=[]:=by kernel_rfl):wpAnyH P md ops Q S fuel listed a w:=wpAnyH_done c h fuel
end
end
section
open Go Go.RowKit Go.Proofs.Tryz
def bs(l:List UInt8):ByteArray:=⟨l.toArray⟩
def ie(l:List UInt8):(bs l).data.toList=l:=by simp[bs]
def eM(l:List UInt8):(bs l).size=l.length:=by simp[bs,ByteArray.size]
def nY(s:ByteArray):bs s.data.toList=s:=by cases s;simp[bs]
def je(s:ByteArray):s.toList=s.data.toList:=by exact ByteArray.toList_eq s
def fU(a b:List UInt8):bs a++bs b=bs (a++b):=by exact ByteArray.ext rfl
def mQ{a b:ByteArray}(h:a=b):YT (X2 a)=YT (X2 b):=by rw[h]
def cD{a b:Bool}(h:a=b):YT (Zp a)=YT (Zp b):=by rw[h]
def Ax(n:Int)(l:List UInt8)(k:Int):Prop:=
 (l=[]/\k=n)\/(l≠[]/\Yb n.natAbs=(if k=0 then[]else Yb k.natAbs)++l)
def Ax.len{n k:Int}{l:List UInt8}(j:aN n)(h:Ax n l k):l.length<=20:=by
 have c:(Yb n.natAbs).length<=20:=by rw[Lib.decDigits_length];exact Lib.nDigits_le20 _ (by obtain⟨h1,h2⟩:=j;omega)
 rcases h with⟨rfl,_⟩|⟨_,h⟩
 .simp
 .rw[h]at c;simp at c;omega
def Ax.step{n k:Int}{l:List UInt8}(h:Ax n l k)(y:l=[]\/k≠0):
 Ax n (Y2 (48+k.natAbs%10)::l) (k.tdiv 10):=by
 have key:Yb k.natAbs=(if k.tdiv 10=0 then[]else Yb (k.tdiv 10).natAbs)++[Y2 (48+k.natAbs%10)]:=by
  have e:(k.tdiv 10).natAbs=k.natAbs / 10:=by rw[Int.natAbs_tdiv];rfl
  have j:k.tdiv 10=0↔k.natAbs<10:=by rw[<-Int.natAbs_eq_zero,e];omega
  rw[e,Yb];by_cases c:k.natAbs<10
  .rw[dif_pos c,if_pos (j.2 c),Nat.mod_eq_of_lt c];rfl
  .rw[dif_neg c,if_neg (λh=>c (j.1 h))]
 refine .inr ⟨by simp,?_⟩;rcases h with⟨rfl,rfl⟩|⟨z,h⟩
 .exact key
 .have A:k≠0:=y.resolve_left z;rw[h,if_neg A,key];simp
def Ax.done{n k:Int}{l:List UInt8}(h:Ax n l k)(j:l≠[])(c:k=0):Yb n.natAbs=l:=by
 rcases h with⟨rfl,_⟩|⟨_,h⟩
 .exact absurd rfl j
 .rw[h,if_pos c];rfl
def ah4(x:Int)(W:XO):(convert 51 9 (Zk (XL (W 0 XM)) 1 1)).run X3 (W.alloc (Zq #[.int .u8 x] 5))= .ok (X2 (bs [Y2 x.toNat])) (W.alloc (Zq #[.int .u8 x] 5)):=by
 rw[run_convert_bytes_string _ 51 9 5 _ _ _ underlying51 underlying5 YP];have h:=run_loadCells_list (P:=X3) (w:=W.alloc (Zq #[.int .u8 x] 5)) (W 0 XM) [X1 .u8 x] (by
  intro j v c
  match j,c with
  |0,c=>injection c with c;subst c;simp[Addr.add])
 exact run_bytesToString _ _ 1 1 [x] h
def ds7(l:List UInt8)(h:l≠[]):((bs l).toList==[])=false:=by rw[je,ie];simpa using h
def PY(s m:XP):Nat:=(X8 m).natAbs+match s with|X2 s=>if s.size=0 then 1 else 0|_=>0
def WL{n k d q:Int}{l:List UInt8}{w W:XO}(D:aN k)(A:Ax n l k)(c:l=[]\/k≠0)(F:d=k.natAbs%10)(j:q=k.tdiv 10)(C:Below w w W):
 (∃(y:List UInt8)(k1:Int),Value.string (bs [UInt8.ofNat (48+d).toNat]++bs l)= .string (bs y)/\Value.int .i64 q= .int .i64 k1/\aN k1/\Ax n y k1/\Below w w W)/\
   PY (X2 (bs [Y2 (48+d).toNat]++bs l)) (ah q)<PY (X2 (bs l)) (ah k):=by
 have e:q.natAbs=k.natAbs / 10:=by rw[j,Int.natAbs_tdiv];rfl
 have z:(48+d).toNat=48+k.natAbs%10:=Zv;rw[z,fU];refine⟨⟨_,q,rfl,rfl,?_,j▸A.step c,C⟩,?_⟩
 .obtain⟨h1,h2⟩:=D;have:q<=q.natAbs:=Int.le_natAbs;have: -(q.natAbs:Int)<=q:=by omega
  constructor<;>omega
 .simp only[PY,eM,intOf,e];rcases c with rfl|c
  .simp;omega
  .simp;split<;>omega
def WM(n a b:Int)(w:XO):
 X4 X3 69 #[n,a,b] w λe w'=>e=YT (Zp (XN (a<=n)&&XN (n<=b)))/\w=w':=by
 by_cases h:a<=n
 .go_enter func69,ntmps69
  go_wp2
  go_ret;exact⟨by simp[h],rfl⟩
 .go_enter func69,ntmps69
  go_wp2
  go_ret;exact⟨by simp;omega,rfl⟩
def az(b:Nat):Value:=Zs (XL b)
def bH(g:Nat)(caps:Array XP):Value:= .func (.func g) #[] caps
def d_(g:Nat):Prop:=∀args w,(callFunc g args).run X3 w= .ok (.enter g args) w
abbrev ay:=List UInt8
def iQ(c:UInt8):Bool:=c==32||c==9||c==10||c==13
def lQ(c:UInt8):Bool:=XN (97<=c.toNat)&&XN (c.toNat<=122)
def cy(c:UInt8):Bool:=XN (48<=c.toNat)&&XN (c.toNat<=57)
def di(c:UInt8):Bool:=lQ c||cy c||c==95
def gW(c:UInt8):Bool:=lQ c||c==95
def gI(c:UInt8):Bool:= !(c==10)
def LS(p:UInt8->Bool)(s:ay):(s.dropWhile p).length<=s.length:=by
 induction s with
 |nil=>simp
 |cons c r ih=>rw[List.dropWhile_cons];split<;>simp<;>omega
def cE(s:ay):ay:=
 match h:s.dropWhile iQ with
 |[]=>[]
 |c::r=>if c=35 then cE (r.dropWhile gI)else c::r
termination_by s.length
decreasing_by
 have h1:=LS iQ s;have h2:=LS gI r;rw[h]at h1;simp at h1⊢
 omega
def eL:List ay:=[
 [97,108,119,97,121,115],
 [98,101,102,111,114,101],
 [98,121],
 [99,97,112,97,99,105,116,121],
 [100,97,114,107],
 [100,105,115,116,117,114,98],
 [102,97,105,108,117,114,101,115],
 [102,101,101,100],
 [103,114,111,117,112],
 [105,110],
 [106,111,98],
 [107,101,101,112],
 [108,105,110,107],
 [108,111,97,100],
 [109,97,99,104,105,110,101],
 [111,110],
 [111,110,108,121],
 [111,114,100,101,114],
 [112,111,111,108],
 [113,117,111,114,117,109],
 [114,97,99,107],
 [114,101,115,101,114,118,101],
 [115,104,97,114,101],
 [115,105,108,101,110,99,101],
 [115,105,116,101],
 [115,105,122,101],
 [115,108,111,116,115],
 [115,112,114,101,97,100]]
structure gU where
 kind:Nat
 text:ay
 n:Nat
 pos:Nat
def nB:Nat->ay->Option Nat
 |a,[]=>XL a
 |a,c::r=>let b:=10*a+(c.toNat - 48);if 1048576<b then XM else nB b r
def B8(s:ay):Except Nat (Nat×ay×Nat):=
 let t:=s.takeWhile di
 if 31<t.length then .error 8 else if t∈eL then .ok (2,t,0)else .ok (1,t,0)
def Ay(s:ay):Except Nat (Nat×ay×Nat):=
 let t:=s.takeWhile cy
 if(1<t.length/\s.head?=XL 48)\/((s.drop t.length).takeWhile gW)≠[]then .error 3
 else match nB 0 t with
  |none=> .error 2
  |some n=> .ok (3,t,n)
def tok(s:ay):Except Nat (Nat×ay×Nat):=
 match s with
 |[]=> .error 3
 |c::r=>if lQ c then B8 (c::r)else if cy c then Ay (c::r)else if c=59\/c=44 then .ok (4,[c],0)else .error 3
def LT(s:ay):(cE s).length<=s.length:=by
 fun_induction cE s with
 |case1 s h=>simp
 |case2 s r h ih=>have j:=LS iQ s;have y:=LS gI r;rw[h]at j;simp at j;omega
 |case3 s c r h hc=>have j:=LS iQ s;rw[h]at j;exact j
def jP(len:Nat)(s:ay):Except (Nat×Nat) (List gU):=
 match s with
 |[]=> .ok [⟨0,[],0,len⟩]
 |c::r=>match tok (c::r)with
  | .error e=> .error (len - (r.length+1),e)
  | .ok (k,t,n)=>(jP len (cE (r.drop (t.length - 1)))).map (⟨k,t,n,len - (r.length+1)⟩:: ·)
termination_by s.length
decreasing_by
 have h1:=LT (r.drop (t.length - 1));simp at h1⊢
 omega
def tY(s:ay):Except (Nat×Nat) (List gU):=if 16384<s.length then .error (0,8)else jP s.length (cE s)
structure aG where
 kind:Nat:=0
 name:ay:=[]
 refs:List ay:=[]
 nums:List Nat:=[]
 by_:Nat:=0
 always:Bool:=XQ
structure PS where
 ts:List gU
 e:Nat
 d:aG
def PS.head(p:PS):gU:=p.ts.headD ⟨0,[],0,0⟩
def PS.fail(p:PS)(e:Nat):PS:=if p.e=0 then {p with e:=e}else p
def PS.take(p:PS)(k:Nat)(l:List ay):PS×gU:=
 if p.e≠0\/p.head.kind≠k\/(l≠[]/\p.head.text∉l)then(p.fail 3,⟨0,[],0,0⟩)else({p with ts:=p.ts.tail},p.head)
def PS.comma(p:PS):PS×Bool:=
 if p.e≠0\/p.head.kind≠4\/p.head.text≠[44]then(p,XQ)else((p.take 4 []).1,XR)
def PS.ref(p:PS):PS:=let q:=p.take 1 [];{q.1 with d:={q.1.d with refs:=q.1.d.refs++[q.2.text]}}
def PS.number(p:PS):PS:=let q:=p.take 3 [];{q.1 with d:={q.1.d with nums:=q.1.d.nums++[q.2.n]}}
def dT:ay:=[97,108,119,97,121,115]
def qJ:ay:=[98,101,102,111,114,101]
def qK:ay:=[98,121]
def qN:ay:=[99,97,112,97,99,105,116,121]
def PZ:ay:=[100,97,114,107]
def P0:ay:=[100,105,115,116,117,114,98]
def P1:ay:=[102,97,105,108,117,114,101,115]
def ga:ay:=[102,101,101,100]
def P2:ay:=[103,114,111,117,112]
def ll:ay:=[105,110]
def PE:ay:=[106,111,98]
def PF:ay:=[107,101,101,112]
def PG:ay:=[108,105,110,107]
def iJ:ay:=[108,111,97,100]
def mR:ay:=[109,97,99,104,105,110,101]
def eK:ay:=[111,110]
def PH:ay:=[111,110,108,121]
def PI:ay:=[111,114,100,101,114]
def PJ:ay:=[112,111,111,108]
def PK:ay:=[113,117,111,114,117,109]
def fN:ay:=[114,97,99,107]
def qO:ay:=[114,101,115,101,114,118,101]
def iK:ay:=[115,104,97,114,101]
def PL:ay:=[115,105,108,101,110,99,101]
def kr:ay:=[115,105,116,101]
def iL:ay:=[115,105,122,101]
def qP:ay:=[115,108,111,116,115]
def PM:ay:=[115,112,114,101,97,100]
def PS.comma_lt(p:PS)(h:p.comma.2=XR):p.comma.1.ts.length<p.ts.length:=by
 unfold PS.comma at*
 split at h
 .cases h
 .rename_i c;rw[if_neg c];unfold PS.take;rw[if_neg (by simp;simp at c;exact⟨c.1,c.2.1⟩)];cases vV:p.ts with
  |nil=>simp[PS.head,vV]at c
  |cons a l=>simp
def PS.take_le(p:PS)(k:Nat)(l:List ay):(p.take k l).1.ts.length<=p.ts.length:=by
 unfold PS.take PS.fail;split
 .dsimp only;split<;>simp
 .simp
def PS.ref_le(p:PS):p.ref.ts.length<=p.ts.length:=by unfold PS.ref;exact PS.take_le p 1 []
def PS.fail_ts(p:PS)(e:Nat):(p.fail e).ts=p.ts:=by unfold PS.fail;split<;>rfl
def PS.listGo(n:Nat)(p:PS):PS:=
 if h:p.comma.2=XR then
  PS.listGo (n+1) (if n=16/\p.comma.1.head.kind=1 then p.comma.1.fail 8 else p.comma.1).ref
 else p.comma.1
termination_by p.ts.length
decreasing_by
 have h1:=PS.comma_lt p h;refine Nat.lt_of_le_of_lt (PS.ref_le _) ?_;split
 .rw[PS.fail_ts];exact h1
 .exact h1
def PS.list(p:PS):PS:=PS.listGo 1 p.ref
def gX(s:ay):Nat:=if s=mR then 1 else if s=fN then 2 else if s=ga then 4 else 0
def PS.classGo(left:List ay)(p:PS):PS:=
 if left=[]then p.fail 3
 else
  let q:=p.take 2 left
  let r:PS:={q.1 with d:={q.1.d with by_:=q.1.d.by_+gX q.2.text}}
  if h:r.comma.2=XR then PS.classGo (left.filter λs=> !XN (s=q.2.text)) r.comma.1 else r.comma.1
termination_by p.ts.length
decreasing_by
 have h1:=PS.comma_lt _ h;have h2:=PS.take_le p 2 left;exact bJ h1 h2
def PS.classes(p:PS):PS:=p.classGo [mR,fN,ga]
def jH(s:ay):Nat:=if s=fN then 2 else if s=ga then 3 else if s=kr then 4 else 0
def PS.domain(p:PS):PS:=let q:=p.take 2 [fN,ga,kr];{q.1 with d:={q.1.d with by_:=jH q.2.text}}
def PS.alw(p:PS):PS:=if p.e=0/\p.head.kind=2/\p.head.text=dT then let q:=p.take 2 [];{q.1 with d:={q.1.d with always:=XR}}else p
def PS.name(p:PS):PS:=let q:=p.take 1 [];{q.1 with d:={q.1.d with name:=q.2.text}}
inductive mt where
 |name|ref|number|list|classes|domain|alw
 |word (s:ay)
def PS.part(p:PS):mt->PS
 | .name=>p.name
 | .ref=>p.ref
 | .number=>p.number
 | .list=>p.list
 | .classes=>p.classes
 | .domain=>p.domain
 | .alw=>p.alw
 | .word s=>(p.take 2 [s]).1
def LU:List mt:=[.word iJ,.number,.word iL,.number,.word iK,.number]
def rules:List (ay×List mt):=[
 (kr,[.name]),
 (ga,[.name]),
 (fN,[.name,.word ll,.ref,.word eK,.ref]),
 (mR,[.name,.word ll,.ref,.word qN,.number]),
 (PG,[.ref,.ref,.number]),
 (P2,[.name,.word eK,.list]++LU),
 (PJ,[.name,.number,.word eK,.list]++LU),
 (PE,[.name,.word eK,.ref]++LU),
 (PZ,[.ref,.word qP,.number,.word qO,.number]),
 (P1,[.classes]),
 (PK,[.ref]),
 (PF,[.ref,.number,.alw]),
 (PM,[.ref,.word qK,.domain,.number]),
 (PH,[.ref,.word eK,.list]),
 (PI,[.ref,.word qJ,.ref]),
 (P0,[.number]),
 (PL,[.ref,.number])]
def tZ(t:gU):Option Nat:=if t.kind=2 then rules.findIdx? (λx=>XN (x.1=t.text))else XM
def PS.parts(p:PS):List mt->PS
 |[]=>p
 |x::l=>PS.parts (if p.e=0 then p.part x else p) l
def PS.decl(p:PS):PS×aG:=
 match tZ p.head with
 |none=>(p.fail 3,{})
 |some i=>
  let q:PS:={(p.take 2 []).1 with d:={kind:=i}}
  let r:=((q.parts (rules.getD i ([],[])).2).take 4 [[59]]).1
  (r,r.d)
def PS.beyond(p:PS):Nat:=if(tZ p.head).isSome then 8 else 3
def ag1:ay->ay
 |[]=>[]
 |c::r=>if c=35 then cE (r.dropWhile gI)else c::r
def Ji{s l:ay}(h:s.dropWhile iQ=l):cE s=ag1 l:=by rw[cE];split<;>(rename_i c;rw[h]at c;subst c;rfl)
def WN{c:UInt8}(h:iQ c=XR)(s:ay):cE (c::s)=cE s:=by
 have e:(c::s).dropWhile iQ=s.dropWhile iQ:=by rw[List.dropWhile_cons,if_pos h]
 rw[Ji e,Ji rfl]
def ak7{c:UInt8}(h:iQ c=XQ)(j:c≠35)(s:ay):cE (c::s)=c::s:=by
 have e:(c::s).dropWhile iQ=c::s:=by rw[List.dropWhile_cons,if_neg (by simp[h])]
 rw[Ji e,ag1,if_neg j]
structure nC where
 name:ay
 site:Int
 feed:Int
structure rq where
 name:ay
 rack:Int
 cap:Int
structure t5 where
 a:Int
 b:Int
 cap:Int
structure fq where
 name:ay
 kind:Int
 count:Int
 load:Int
 size:Int
 share:Int
 on:List Int
structure cF where
 kind:Int
 item:Int
 other:Int
 n:Int
 by_:Int
 always:Bool
 ms:List Int
structure aU where
 sites:List ay:=[]
 feeds:List ay:=[]
 racks:List nC:=[]
 machs:List rq:=[]
 links:List t5:=[]
 items:List fq:=[]
 dark:Int:=0
 slots:Int:=0
 reserve:Int:=0
 failures:Int:=0
 rules:List cF:=[]
def aE(n low high:Int):Bool:=XN (low<=n)&&XN (n<=high)
def aF(n:Int)(k:Nat):Bool:=aE n 1 k
def eD{α:Type}(c:α->List α->Bool):List α->List α->Bool
 |_,[]=>XR
 |b,x::r=>c x b&&eD c (b++[x]) r
def jI(m:aU)(x:nC)(b:List nC):Bool:=aF x.site m.sites.length&&aF x.feed m.feeds.length&& !b.any λy=>XN (y.feed=x.feed)&& !XN (y.site=x.site)
def vY(m:aU)(x:rq)(_:List rq):Bool:=aF x.rack m.racks.length&&aE x.cap 0 1048576
def jJ(m:aU)(x:t5)(b:List t5):Bool:=XN (1<=x.a)&&XN (x.a<x.b)&&XN (x.b<=m.sites.length)&&aE x.cap 0 1048576&& !b.any λy=>XN (y.a=x.a)&&XN (y.b=x.b)
def fO(m:aU):Bool:=
 aF m.sites.length 4&&XN (m.feeds.length<=16)&&XN (m.racks.length<=16)&&aF m.machs.length 16&&XN (m.links.length<=12)&&
 eD (jI m) [] m.racks&&eD (vY m) [] m.machs&&eD (jJ m) [] m.links
def bI(s:ay):Bool:=XN (1<=s.length)&&XN (s.length<=31)&&lQ (s.headD 0)&&s.all di&& !XN (s∈eL)
def dp(m:aU):List ay:=m.sites++m.feeds++m.racks.map (·.name)++m.machs.map (·.name)++m.items.map (·.name)
def pz(l:List ay):Bool:=eD (λs b=>bI s&& !XN (s∈b)) [] l
def WO(k:Nat)(l:List Int):Bool:=eD (λn b=>aF n k&&(match b.getLast? with|none=>XR|some p=>XN (p<n))) [] l
def fF(m:aU)(l:List Int):Bool:=WO m.machs.length l&&XN (0<l.length)
def dV(m:aU)(x:fq):Bool:=
 (if x.kind=0 then(decide (x.count=1)||decide (x.count=3)||decide (x.count=5))&&decide (x.count=x.on.length)
  else if x.kind=1 then aE x.count 1 8
  else if x.kind=2 then XN (x.count=1)&&XN (x.on.length=1)else XQ)&&
 fF m x.on&&aE x.load 0 1048576&&aE x.size 0 1048576&&aE x.share 1 1048576
def rr(m:aU)(n:Int):Int:=((m.items[(n - 1).toNat]?).map (·.kind)).getD 0
def dw(m:aU)(x:cF):Bool:=
 let it:=aF x.item m.items.length
 let z (a b c d:Bool):Bool:=(a||XN (x.other=0))&&(b||XN (x.by_=0))&&(c|| !x.always)&&(d||XN (x.ms=[]))
 if x.kind=0 then it&&XN (rr m x.item=0)&&XN (x.n=0)&&z XQ XQ XQ XQ
 else if x.kind=1 then it&&aE x.n 0 16&&z XQ XQ XR XQ
 else if x.kind=2 then it&&aE x.n 0 16&&aE x.by_ 2 4&&z XQ XR XQ XQ
 else if x.kind=3 then it&&fF m x.ms&&XN (x.n=0)&&z XQ XQ XQ XR
 else if x.kind=4 then it&&aF x.other m.items.length&& !XN (x.item=x.other)&&XN (x.n=0)&&z XR XQ XQ XQ
 else if x.kind=5 then XN (x.item=0)&&aE x.n 0 200&&z XQ XQ XQ XQ
 else if x.kind=6 then it&&aE x.n 0 16&&z XQ XQ XQ XQ
 else XQ
def ew(m:aU):Bool:=
 fO m&&XN (m.items.length<=8)&&XN (m.rules.length<=40)&&aF m.dark m.sites.length&&aE m.slots 1 16&&aE m.reserve 0 (m.slots - 1)&&aE m.failures 0 7&&
 pz (dp m)&&m.items.all (dV m)&&m.rules.all (dw m)
def jf(d:aG)(name:Bool)(least most nums:Nat)(by_ always:Bool):Bool:=
 XN (least<=d.refs.length)&&XN (d.refs.length<=most)&&XN (d.nums.length=nums)&&(by_||XN (d.by_=0))&&(always|| !d.always)&&
 (if name then bI d.name else XN (d.name=[]))
def kf(d:aG):Bool:=
 match d.kind with
 |0=>jf d XR 0 0 0 XQ XQ
 |1=>jf d XR 0 0 0 XQ XQ
 |2=>jf d XR 2 2 0 XQ XQ
 |3=>jf d XR 1 1 1 XQ XQ
 |4=>jf d XQ 2 2 1 XQ XQ
 |5=>jf d XR 1 16 3 XQ XQ
 |6=>jf d XR 1 16 4 XQ XQ
 |7=>jf d XR 1 1 3 XQ XQ
 |8=>jf d XQ 1 1 2 XQ XQ
 |9=>jf d XQ 0 0 0 XR XQ&&XN (1<=d.by_)&&XN (d.by_<=7)
 |10=>jf d XQ 1 1 0 XQ XQ
 |11=>jf d XQ 1 1 1 XQ XR
 |12=>jf d XQ 1 1 1 XR XQ&&XN (2<=d.by_)&&XN (d.by_<=4)
 |13=>jf d XQ 2 17 0 XQ XQ
 |14=>jf d XQ 2 2 0 XQ XQ
 |15=>jf d XQ 0 0 1 XQ XQ
 |16=>jf d XQ 1 1 1 XQ XQ
 |_=>XQ
def bK(d:aG):Bool:=kf d&&d.refs.all bI&&d.nums.all λn=>XN (n<=1048576)
abbrev dK:=List (ay×Nat×Nat)
def cB(k:Nat):Nat:=if 5<=k/\k<=7 then 5 else if 10<=k then 10 else k
def el(t:dK)(s:ay):Option (Nat×Nat):=(t.find? λx=>XN (x.1=s)).map (·.2)
def ks:List aG->dK->List aG->Except (Nat×Nat) dK
 |_,t,[]=> .ok t
 |b,t,d::r=>
  if !bK d then .error (b.length,1)
  else if(!XN (d.name=[])&&(el t d.name).isSome)||((XN (d.kind=8)||XN (d.kind=9))&&b.any λx=>XN (x.kind=d.kind))then .error (b.length,5)
  else ks (b++[d]) (if d.name=[]then t else t++[(d.name,d.kind,((b++[d]).filter λx=>XN (cB x.kind=cB d.kind)).length)]) r
def iY(d:aG)(i:Nat)(k:Nat):Bool:=
 match d.kind,i with
 |2,0=>XN (k=0)
 |2,1=>XN (k=1)
 |3,0=>XN (k=2)
 |4,0=>XN (k=0)
 |4,1=>XN (k=0)
 |8,0=>XN (k=0)
 |10,0=>XN (k=5)
 |11,0=>XN (cB k=5)
 |12,0=>XN (cB k=5)
 |13,0=>XN (cB k=5)
 |14,0=>XN (cB k=5)
 |14,1=>XN (cB k=5)
 |16,0=>XN (cB k=5)
 |_,_=>XN (k=3)
def nZ(t:dK)(d:aG):Nat->List ay->Nat
 |_,[]=>0
 |i,s::r=>match el t s with
  |none=>4
  |some x=>if iY d i x.1 then nZ t d (i+1) r else 7
def kJ(d:aG):List ay:=if d.kind=5\/d.kind=6 then d.refs else if d.kind=13 then d.refs.drop 1 else[]
def n_(t:dK)(d:aG):Nat:=
 let e:=nZ t d 0 d.refs
 if e≠0 then e else if !XN (kJ d).Nodup then 5 else if(d.kind=4\/d.kind=14)/\d.refs[0]?=d.refs[1]? then 2 else 0
def bT(t:dK)(s:ay):Int:=(((el t s).map (·.2)).getD 0:Nat)
def B9(n:Int):List Int->List Int
 |[]=>[n]
 |a::l=>if n<=a then n::a::l else a::B9 n l
def ql(l:List Int):List Int:=l.foldr B9 []
def gj(l:List Nat)(k:Nat):Int:=(l.getD k 0:Nat)
def mu(t:dK)(d:aG)(kind count:Int):fq:=
 let n:=d.nums.drop (d.nums.length - 3)
 ⟨d.name,kind,count,gj n 0,gj n 1,gj n 2,ql (d.refs.map (bT t))⟩
def gV(l:List Int)(k:Nat):Int:=l.getD k 0
def oa(t:dK)(d:aG):cF:=
 let n:=d.refs.map (bT t)
 ⟨(d.kind:Int) - 10,gV n 0,if d.kind=14 then gV n 1 else 0,gj (d.nums.drop (d.nums.length - 1)) 0,d.by_,d.always,if d.kind=13 then ql (n.drop 1)else[]⟩
def fv(t:dK)(m:aU)(d:aG):aU:=
 let n:=d.refs.map (bT t)
 match d.kind with
 |0=>{m with sites:=m.sites++[d.name]}
 |1=>{m with feeds:=m.feeds++[d.name]}
 |2=>{m with racks:=m.racks++[⟨d.name,gV n 0,gV n 1⟩]}
 |3=>{m with machs:=m.machs++[⟨d.name,gV n 0,gj d.nums 0⟩]}
 |4=>{m with links:=m.links++[⟨min (gV n 0) (gV n 1),max (gV n 0) (gV n 1),gj d.nums 0⟩]}
 |5=>{m with items:=m.items++[mu t d 0 n.length]}
 |6=>{m with items:=m.items++[mu t d 1 (gj d.nums 0)]}
 |7=>{m with items:=m.items++[mu t d 2 1]}
 |8=>{m with dark:=gV n 0,slots:=gj d.nums 0,reserve:=gj d.nums 1}
 |9=>{m with failures:=d.by_}
 |_=>{m with rules:=m.rules++[oa t d]}
def t6(t:dK):Nat->aU->List aG->Except (Nat×Nat) aU
 |_,m,[]=> .ok m
 |i,m,d::r=>if n_ t d≠0 then .error (i,n_ t d)else t6 t (i+1) (fv t m d) r
def ru(l:List aG):Except (Nat×Nat) aU:=
 match ks [] [] l with
 | .error e=> .error e
 | .ok t=>match t6 t 0 {} l with
   | .error e=> .error e
   | .ok m=>if !l.any λd=>XN (d.kind=8)then .error (l.length,6)else if ew m then .ok m else .error (l.length,2)
structure dd(w:XO):Prop where
 tab:Lib.TabIs X3 w "internal/strconv.uint64pow10" .u64 Lib.pow10Tab
 most:∃m,aa w 0 0 (ah m)
 esyn:∃tp p,aa w 6 0 (.iface tp p)
 erng:∃tp p,aa w 7 0 (.iface tp p)
 size:8<=w.heap.size
def dd.below{w w':XO}{B:Nat}(h:dd w)(j:Below B w w')(y:8<=B):dd w' where
 tab:=by
  have e:w'.var? X3 "internal/strconv.uint64pow10" =w.var? X3 "internal/strconv.uint64pow10" :=by have z:Tryz.prog.globalNamed "internal/strconv.uint64pow10" =XL 1:=aI;unfold World.var?;rw[z];simp only[Option.bind_some];rw[j.block _ Zv]
  exact e.t h.tab
 most:=by obtain⟨m,hm⟩:=h.most;exact⟨m,(j.cell (bJ aD y)).t hm⟩
 esyn:=by obtain⟨t,p,hm⟩:=h.esyn;exact⟨t,p,(j.cell (bJ aD y)).t hm⟩
 erng:=by obtain⟨t,p,hm⟩:=h.erng;exact⟨t,p,(j.cell (bJ aD y)).t hm⟩
 size:=bC h.size j.size
def dd.step{w w':XO}(h:dd w)(c:Below w w w'):dd w':=h.below c h.size
def LV(n:Int)(c:aN n)(w:XO)(h:dd w):
 aR 21 #[n] w (X2 (bs (XS n))):=
 (strconv_Itoa n c.1 c.2 w h.tab).mono λe w'⟨j,k,os,y⟩=>⟨j,y▸Lib.below_grow _ _ (ar _) _ _⟩
def PN(n:Int)(c:aN n)(w:XO)(h:dd w):
 aR 129 #[n,ah 10] w (X2 (bs (XS n))):=
 (strconv_FormatInt_10 n c.1 c.2 w h.tab).mono λe w'⟨j,k,os,y⟩=>⟨j,y▸Lib.below_grow _ _ (ar _) _ _⟩
def ds8(s:ByteArray)(y:s.size<=281474976710656)(v:Int)(h:Lib.atoiAll s.data.toList= .ok v)(w:XO):
 aR 216 #[s] w (.tuple #[v,.nilIface]):=
 (strconv_Atoi_ok s Zv v h w).mono λe w'⟨c,j⟩=>⟨c,by
   rcases j with rfl|⟨t,rfl⟩
   .exact YI _ _
   .exact Lib.bytesWorld_below _ _ _⟩
def ds9(s:ByteArray)(z:s.size<=281474976710656)(h:∀v,Lib.atoiAll s.data.toList≠ .ok v)(w:XO)(y:dd w):
 X4 X3 216 #[s] w λe w'=>∃(v:Int)(t:Ya)(p:XP),e=YT (.tuple #[ah v,.iface t p])/\Below w w w':=by
 obtain⟨t1,p1,h1⟩:=y.esyn;obtain⟨t2,p2,h2⟩:=y.erng;cases hr:Lib.atoiAll s.data.toList with
 |ok v=>exact absurd hr (h v)
 |range=>exact(strconv_Atoi_range s z hr _ w h2 (.inr ⟨_,_,rfl⟩)).mono λe w'⟨N,j,_,_,c⟩=>⟨_,_,_,j,c⟩
 |_=>exact(strconv_Atoi_syntax s z hr _ w h1 (.inr ⟨_,_,rfl⟩)).mono λe w'⟨N,j,_,_,c⟩=>⟨_,_,_,j,c⟩
def dt0(s:ByteArray)(y:s.size<=281474976710656)(v:Int)(h:Lib.parseIntB 64 s.data.toList= .ok v)(w:XO):
 aR 227 #[s,ah 10,ah 64] w (.tuple #[v,.nilIface]):=
 (strconv_ParseInt_10_at64_ok s Zv v h w).mono λe w'⟨c,j⟩=>⟨c,by
   rcases j with rfl|⟨t,rfl⟩
   .exact YI _ _
   .exact Lib.bytesWorld_below _ _ _⟩
def dt1(s:ByteArray)(z:s.size<=281474976710656)(h:∀v,Lib.parseIntB 64 s.data.toList≠ .ok v)(w:XO)(y:dd w):
 X4 X3 227 #[s,ah 10,ah 64] w λe w'=>∃(v:Int)(t:Ya)(p:XP),e=YT (.tuple #[ah v,.iface t p])/\Below w w w':=by
 obtain⟨t1,p1,h1⟩:=y.esyn;obtain⟨t2,p2,h2⟩:=y.erng;cases hr:Lib.parseIntB 64 s.data.toList with
 |ok v=>exact absurd hr (h v)
 |range=>exact(strconv_ParseInt_10_at64_range s z hr _ w h2 (.inr ⟨_,_,rfl⟩)).mono λe w'⟨N,j,_,_,c⟩=>⟨_,_,_,j,c⟩
 |_=>exact(strconv_ParseInt_10_at64_syntax s z hr _ w h1 (.inr ⟨_,_,rfl⟩)).mono λe w'⟨N,j,_,_,c⟩=>⟨_,_,_,j,c⟩
def ak8(s:ByteArray)(w:XO)(c:dd w)(y:s.size<4294967281):
 X4 X3 34 #[s,X2 (bs [32])] w λe w'=>∃v,e=YT v/\cP w' w' v (Lib.splitB (bs [32]) 0 (Y3 s (bs [32])) s)/\(Lib.splitB (bs [32]) 0 (Y3 s (bs [32])) s).length=Y3 s (bs [32])+1/\Below w w w':=by
 obtain⟨m,hm⟩:=c.most;refine(strings_Split s (bs [32]) m w y hm aD).mono λe w'⟨he,hw⟩=>?_;have bG:(Lib.splitB (bs [32]) 0 (Y3 s (bs [32])) s).length=Y3 s (bs [32])+1:=Lib.splitB_all (bs [32]) aD 0 _ s rfl;have z:=Lib.countB_le (bs [32]) aD s.size s (ar _);exact ak9
def dt2(v:XP)(xs:List ByteArray)(w:XO)(h:cP w w v xs)(D:xs.length<=140737488355328)
 (z:(Lib.join (xs.map (·.data.toList)) [32]).length<=140737488355328):
 aR 19 #[v,X2 (bs [32])] w (X2 (bs (Lib.join (xs.map (·.data.toList)) [32]))):=by
 rcases Sl.cases_ h with⟨C,A,c,rfl,_⟩|⟨V,b,o,c,rfl,y,U,F,G⟩
 .have:xs=[]:=by simpa using C
  subst this;exact(strings_Join_none A c _ w).mono λe w'⟨I,O⟩=>⟨I,O▸YI _ _⟩
 .rw[List.length_map]at y⊢
  exact strings_Join b o c xs (bs [32]) w (λj x J=>G j _ (by simp[J])) F D y z
def WP(v u:XP)(xs ys:List Int)(w:XO)(B:Nat)(hx:aS w B v xs)(G:aS w B u ys):
 aR 170 #[v,u] w (Zp (xs==ys)):=by
 by_cases y:xs.length=ys.length
 .rcases Sl.cases_ hx.1 with⟨D,A,c,rfl,_⟩|⟨I,b,o,c,rfl,V,X,hb,Y⟩
  .have:xs=[]:=by simpa using D
   subst this;obtain⟨A2,c2,rfl,_,_⟩:=G.1;have J:ys=[]:=List.eq_nil_of_length_eq_zero (by simpa using y.symm);subst J;exact(slices_Equal_int_empty A A2 c 0 c2 w Zv).mono λe w'⟨z,C⟩=>⟨z,C▸YI _ _⟩
  .rcases Sl.cases_ G.1 with⟨D,_⟩|⟨Pf,O,o',U,rfl,pX,zZ,gC,Z⟩
   .simp at D I;simp[D]at y;simp[y]at I
   .rw[List.length_map]at V pX⊢
    rw[XY];refine(slices_Equal_int b o xs.length c O o' ys.length U xs ys w (ar _) (ar _) (by simp[Yd]at X;omega) (by simp[Yd]at zZ;omega) (λj F=>Y j _ (by simp[F])) (λj F=>Z j _ (by simp[F]))).mono λe w'⟨z,q,C⟩=>⟨?_,C▸qj (YI _ _) q⟩;rw[z];simp
 .obtain⟨A,c,rfl,_,_⟩:=hx.1;obtain⟨A2,c2,rfl,_,_⟩:=G.1;refine(slices_Equal_int_lens A A2 _ c _ c2 w (by simpa using y)).mono λe w'⟨z,C⟩=>⟨?_,C▸YI _ _⟩;rw[z];exact cD (by simp;intro h;exact y (by rw[h]))
def Sl.form{w:XO}{B:Nat}{v:XP}{xs:List XP}(h:Sl w B v xs):∃A n c,v=Zk A n c/\xs.length=n/\n<=c/\c<=maxLen:=cg0
def aS.form{w:XO}{B:Nat}{v:XP}{l:List Int}(h:aS w B v l):∃A n c,v=Zk A n c/\l.length=n/\n<=c/\c<=9223372036854775807:=by obtain⟨A,n,c,h1,h2,h3,h4⟩:=h.1.form;exact⟨A,n,c,h1,by simpa using h2,h3,h4⟩
def aS.nil_(w:XO)(B:Nat):aS w B (Zk XM 0 0) []:=⟨Sl.nil_ w B,by simp⟩
def aN.zero:aN 0:=⟨by decide,by decide⟩
def cP.form{w:XO}{B:Nat}{v:XP}{l:List ByteArray}(h:cP w B v l):∃A n c,v=Zk A n c/\l.length=n/\n<=c/\c<=9223372036854775807:=by obtain⟨A,n,c,h1,h2,h3,h4⟩:=Sl.form h;exact⟨A,n,c,h1,by simpa using h2,h3,h4⟩
def cY(l:List Int)(k:Nat):Int:=l.getD k 0
def aK(l:List ByteArray)(k:Nat):ByteArray:=l.getD k ByteArray.empty
def LW{l:List Int}{k:Nat}(h:k<l.length):cY l k=l[k]:=by simp[cY,List.getD,XT h]
def WQ{l:List ByteArray}{k:Nat}(h:k<l.length):aK l k=l[k]:=by simp[aK,List.getD,XT h]
def dt3{l c:List Int}(h:l.length=c.length)(A:∀k,k<l.length->cY l k=cY c k):l=c:=
 List.ext_getElem h λj y z=>by rw[<-LW y,<-LW z];exact A j y
def aS.at_{w:XO}{B:Nat}{A:Option Zf}{n c:Nat}{l:List Int}(h:aS w B (Zk A n c) l)(k:Nat)(y:k<n):
 ∃b o,A=XL ⟨b,o,XM⟩/\b<B/\(∀j,j<n->w.cell? ⟨b,o+j,XM⟩=XL (ah (cY l j))):=by
 obtain⟨A',c',he,h1,h2,h3⟩:=h.1;exact al0
def cP.at_{w:XO}{B:Nat}{A:Option Zf}{n c:Nat}{l:List ByteArray}(h:cP w B (Zk A n c) l)(k:Nat)(y:k<n):
 ∃b o,A=XL ⟨b,o,XM⟩/\b<B/\(∀j,j<n->w.cell? ⟨b,o+j,XM⟩=XL (X2 (aK l j))):=by
 obtain⟨A',c',he,h1,h2,h3⟩:=id h;exact al0
def LX(v u:XP)(xs ys:List Int)(w:XO)(B:Nat)(hx:aS w B v xs)(F:aS w B u ys):
 aR 43 #[v,u] w (Zp (xs==ys)):=by
 obtain⟨A,n,c,rfl,hl,hc,hm⟩:=hx.form;obtain⟨A',n',c',rfl,ee,nd,rh⟩:=F.form;by_cases cS:n=n'
 .obtain rfl:n=n':=cS;have X:=aj hx;have Y:=aj F;have J:=aj hl;have D:=aj ee;clear hx F hl ee;go_enter func43,ntmps43
  go_wp2
  go_loopw [5] (λi wr=>∃k:Nat,k<=n/\i=ah k/\(∀j,j<k->cY xs j=cY ys j)/\∃q,wr=w.drewN q) (λi _=>n - (X8 i).toNat)
  case atStart=>exact⟨0,bU _,rfl,by omega,0,rfl⟩
  case round=>
   obtain⟨k,hk,rfl,heq,q,rfl⟩:=hrel;have I:=aj heq;clear heq;by_cases C:k<n
   .obtain⟨b,o,rfl,hb,bo⟩:=X.at_ k C;obtain⟨b',o',rfl,gC,hcell'⟩:=Y.at_ k C;have O:=bo k C;have h2:=hcell' k C;clear bo hcell';obtain⟨eC,bh⟩:=dt C;by_cases z:cY xs k=cY ys k
    .have Z:(cY xs k !=cY ys k)=false:=by simp[z]
     have G:∀j,j<k+1->cY xs j=cY ys j:=λj hj=>by
      by_cases e:j=k
      .rw[e];exact z
      .exact I j Zv
     have V:=aj G;clear z G;generalize cY xs k=x at*
     generalize cY ys k=y at*
     go_wp2_with fail
     go_quiet (fail)
     go_wp2
     exact⟨⟨k+1,by omega,by go_num,V,_,rfl⟩,by simp[X8];omega⟩
    .have Z:(cY xs k !=cY ys k)=true:=by simp[z]
     have U:Hid (xs≠ys):=λh=>z (by rw[h]);clear z;generalize cY xs k=x at*
     generalize cY ys k=y at*
     go_wp2_with fail
     go_quiet (fail)
     go_wp2
     go_ret;exact⟨cD (by simpa using U.o),by first|exact qj (YI _ _) _|exact qj (qj (YI _ _) _) _⟩
   .go_wp2
    go_ret;refine⟨cD ?_,qj (YI _ _) q⟩;have pf:k=n:=Zv;have:xs=ys:=dt3 (by rw[J.o,D.o]) (λj O=>I j (by rw[J.o]at O;omega));simp[this]
 .have aT:((n:Int)!=n')=true:=by simp;omega
  go_enter func43,ntmps43
  go_wp2
  go_ret;refine⟨cD ?_,YI _ _⟩;simp;intro h;subst h;omega
structure aQ where
 kind:Int
 a:Int
 b:Int
 c:Int
 ok:Int
 key:ByteArray
 val:Int
 old:Int
 ms:List Int
 ss:List Int
def aQ.cells(x:aQ)(m s:XP):Array Value:= #[ah x.kind,ah x.a,ah x.b,ah x.c,ah x.ok,X2 x.key,ah x.val,ah x.old,m,s]
def aQ.cells_def(x:aQ)(m s:XP):x.cells m s= #[ah x.kind,ah x.a,ah x.b,ah x.c,ah x.ok,X2 x.key,ah x.val,ah x.old,m,s]:=rfl
structure aQ.In(x:aQ)(w:XO)(B:Nat)(m s:XP):Prop where
 kind:aN x.kind
 a:aN x.a
 b:aN x.b
 c:aN x.c
 ok:aN x.ok
 key:x.key.size<=9223372036854775807
 val:aN x.val
 old:aN x.old
 ms:aS w B m x.ms
 ss:aS w B s x.ss
def aQ.In.below{x:aQ}{w w':XO}{B B':Nat}{m s:XP}(h:x.In w B m s)(j:Below B' w w')(c:B<=B'):x.In w' B m s:=
 ⟨h.kind,h.a,h.b,h.c,h.ok,h.key,h.val,h.old,h.ms.below j c,h.ss.below j c⟩
def aQ.In.more{x:aQ}{w:XO}{B B':Nat}{m s:XP}(h:x.In w B m s)(c:B<=B'):x.In w B' m s:=
 ⟨h.kind,h.a,h.b,h.c,h.ok,h.key,h.val,h.old,h.ms.more c,h.ss.more c⟩
def y_(w:XO)(y:aQ)(e:Zb)(w':XO):Prop:=∃m s,e=YT (Zr (y.cells m s))/\y.In w' w' m s/\Below w w w'
def od(x y:aQ):Bool:=
 (x.kind==y.kind)&&(x.a==y.a)&&(x.b==y.b)&&(x.c==y.c)&&((x.ok==y.ok)&&(x.key.data.toList==y.key.data.toList)&&(x.val==y.val)&&(x.old==y.old))&&(x.ms==y.ms)&&(x.ss==y.ss)
def WR(x y:aQ)(m s D F:XP)(w:XO)(hx:x.In w w m s)(j:y.In w w D F):
 aR 15 #[Zr (x.cells m s),Zr (y.cells D F)] w (Zp (od x y)):=by
 obtain⟨Am,nm,cm,rfl,_,_,_⟩:=hx.ms.form;obtain⟨As,ns,cs,rfl,_,_,_⟩:=hx.ss.form;obtain⟨Am',nm',cm',rfl,_,_,_⟩:=j.ms.form;obtain⟨As',ns',cs',rfl,_,_,_⟩:=j.ss.form;have z:=aj hx;have A:=aj j;unfold aQ.cells;go_enter func15,ntmps15;have J:Below w w w:=am w
 go_wp2_with(first
  |(go_at_call_of 43 (Zk Am nm cm);refine(LX _ _ x.ms y.ms _ w (z.ms.below (ak (ak (am w) _) _) (ar _)) (A.ms.below (ak (ak (am w) _) _) (ar _))).r λO C=>?_;have c:=aq (ak (ak (am w) _) _) C;obtain⟨br,bM⟩:=dE C)
  |(go_at_call_of 43 (Zk As ns cs);refine(LX _ _ x.ss y.ss _ w (z.ss.below c (ar _)) (A.ss.below c (ar _))).r λU I=>?_;have G:=aq c I))
 all_goals go_ret
 all_goals refine⟨cD ?_,?_⟩
 all_goals first
  |exact G
  |exact c
  |exact ak (ak (am w) _) _
  |(simp only[od,<-je];simp[*])
def dt4(x y:aQ)(m s D F:XP)(w:XO)(hx:x.In w w m s)(j:y.In w w D F):
 aR 65 #[Zr (x.cells m s),Zr (y.cells D F)] w (Zp (od x y)):=by
 obtain⟨Am,nm,cm,rfl,_,_,_⟩:=hx.ms.form;obtain⟨As,ns,cs,rfl,_,_,_⟩:=hx.ss.form;obtain⟨Am',nm',cm',rfl,_,_,_⟩:=j.ms.form;obtain⟨As',ns',cs',rfl,_,_,_⟩:=j.ss.form;have z:=aj hx;have A:=aj j;unfold aQ.cells;go_enter func65,ntmps65;have J:Below w w w:=am w
 go_wp2_with(first
  |(go_at_call_of 170 (Zk Am nm cm);refine(WP _ _ x.ms y.ms _ w (z.ms.below (ak (ak (am w) _) _) (ar _)) (A.ms.below (ak (ak (am w) _) _) (ar _))).r λO C=>?_;have c:=aq (ak (ak (am w) _) _) C;obtain⟨br,bM⟩:=dE C)
  |(go_at_call_of 170 (Zk As ns cs);refine(WP _ _ x.ss y.ss _ w (z.ss.below c (ar _)) (A.ss.below c (ar _))).r λU I=>?_;have G:=aq c I))
 all_goals go_ret
 all_goals refine⟨cD ?_,?_⟩
 all_goals first
  |exact G
  |exact c
  |exact ak (ak (am w) _) _
  |(simp only[od,<-je];simp[*])
def cI(x:aQ):aQ:=
 {kind:=x.kind
  a:=if x.kind=4\/x.kind=16\/x.kind=15 then 0 else x.a
  b:=if x.kind=7\/x.kind=10\/x.kind=12\/x.kind=14 then x.b else 0
  c:=if x.kind=14 then x.c else 0
  ok:=if x.kind=10 then x.ok else 0
  key:=if x.kind=10 then x.key else⟨#[]⟩
  val:=if x.kind=10\/x.kind=12 then x.val else 0
  old:=if x.kind=10 then x.old else 0
  ms:=if x.kind=15 then x.ms else[]
  ss:=if x.kind=5 then x.ss else[]}
def al1{x:aQ}{w:XO}{B:Nat}{m s:XP}(h:x.In w B m s):
 (cI x).In w B (if x.kind=15 then m else .slice XM 0 0) (if x.kind=5 then s else .slice XM 0 0):=by
 refine⟨h.kind,?_,?_,?_,?_,?_,?_,?_,?_,?_⟩<;>simp only[cI]<;>split<;>first|exact aN.zero|exact h.a|exact h.b|exact h.c|exact h.ok|exact h.key|exact h.val|exact h.old|exact h.ms|exact h.ss|exact aS.nil_ _ _|exact bU _
def B_{x:aQ}{w w':XO}{m s v:XP}(h:x.In w w m s)(c:Below w w w')
 (j:v=Zr ((cI x).cells (if x.kind=15 then m else .slice XM 0 0) (if x.kind=5 then s else .slice XM 0 0))):y_ w (cI x) (YT v) w':=
 ⟨_,_,congrArg _ j,((al1 h).below c (ar _)).more c.size,c⟩
def dt5(a b c ok:Int)(key:ByteArray)(val old:Int)(ms ss:List Int)(A j:Option Zf)(nm C z y:Nat)(w:XO)
 (D:Hid ((⟨5,a,b,c,ok,key,val,old,ms,ss⟩:aQ).In w w (Zk A nm C) (Zk j z y))):
 X4 X3 68 #[Zr #[ah 5,a,b,c,ok,key,val,old,Zk A nm C,Zk j z y]] w (y_ w (cI ⟨5,a,b,c,ok,key,val,old,ms,ss⟩)):=by
 go_enter func68,ntmps68;go_wp2_with fail
 all_goals refine bodyPost_ret (v:=Zr #[ah 5,a,ah 0,ah 0,ah 0,X2 ⟨#[]⟩,ah 0,ah 0,Zk XM 0 0,Zk j z y]) Bx rfl ?_
 all_goals exact B_ D Bw CR
def dt6(a b c ok:Int)(key:ByteArray)(val old:Int)(ms ss:List Int)(j y:Option Zf)(nm z C A:Nat)(w:XO)
 (D:Hid ((⟨7,a,b,c,ok,key,val,old,ms,ss⟩:aQ).In w w (Zk j nm z) (Zk y C A))):
 X4 X3 68 #[Zr #[ah 7,a,b,c,ok,key,val,old,Zk j nm z,Zk y C A]] w (y_ w (cI ⟨7,a,b,c,ok,key,val,old,ms,ss⟩)):=by
 go_enter func68,ntmps68;go_wp2_with fail
 all_goals refine bodyPost_ret (v:=Zr #[ah 7,a,b,ah 0,ah 0,X2 ⟨#[]⟩,ah 0,ah 0,Zk XM 0 0,Zk XM 0 0]) Bx rfl ?_
 all_goals exact B_ D Bw CR
def dt7(a b c ok:Int)(key:ByteArray)(val old:Int)(ms ss:List Int)(j y:Option Zf)(nm z C A:Nat)(w:XO)
 (D:Hid ((⟨10,a,b,c,ok,key,val,old,ms,ss⟩:aQ).In w w (Zk j nm z) (Zk y C A))):
 X4 X3 68 #[Zr #[ah 10,a,b,c,ok,key,val,old,Zk j nm z,Zk y C A]] w (y_ w (cI ⟨10,a,b,c,ok,key,val,old,ms,ss⟩)):=by
 go_enter func68,ntmps68;go_wp2_with fail
 go_region
 all_goals go_wp2_with fail
 all_goals refine bodyPost_ret (v:=Zr #[ah 10,a,b,ah 0,ok,key,val,old,Zk XM 0 0,Zk XM 0 0]) Bx rfl ?_
 all_goals exact B_ D Bw CR
def dt8(a b c ok:Int)(key:ByteArray)(val old:Int)(ms ss:List Int)(j y:Option Zf)(nm z C A:Nat)(w:XO)
 (D:Hid ((⟨12,a,b,c,ok,key,val,old,ms,ss⟩:aQ).In w w (Zk j nm z) (Zk y C A))):
 X4 X3 68 #[Zr #[ah 12,a,b,c,ok,key,val,old,Zk j nm z,Zk y C A]] w (y_ w (cI ⟨12,a,b,c,ok,key,val,old,ms,ss⟩)):=by
 go_enter func68,ntmps68;go_wp2_with fail
 go_region
 all_goals go_wp2_with fail
 all_goals refine bodyPost_ret (v:=Zr #[ah 12,a,b,ah 0,ah 0,X2 ⟨#[]⟩,val,ah 0,Zk XM 0 0,Zk XM 0 0]) Bx rfl ?_
 all_goals exact B_ D Bw CR
def dt9(a b c ok:Int)(key:ByteArray)(val old:Int)(ms ss:List Int)(j y:Option Zf)(nm z C A:Nat)(w:XO)
 (D:Hid ((⟨14,a,b,c,ok,key,val,old,ms,ss⟩:aQ).In w w (Zk j nm z) (Zk y C A))):
 X4 X3 68 #[Zr #[ah 14,a,b,c,ok,key,val,old,Zk j nm z,Zk y C A]] w (y_ w (cI ⟨14,a,b,c,ok,key,val,old,ms,ss⟩)):=by
 go_enter func68,ntmps68;go_wp2_with fail
 go_region
 all_goals go_wp2_with fail
 all_goals refine bodyPost_ret (v:=Zr #[ah 14,a,b,c,ah 0,X2 ⟨#[]⟩,ah 0,ah 0,Zk XM 0 0,Zk XM 0 0]) Bx rfl ?_
 all_goals exact B_ D Bw CR
def du0(a b c ok:Int)(key:ByteArray)(val old:Int)(ms ss:List Int)(j z:Option Zf)(nm y C A:Nat)(w:XO)
 (D:Hid ((⟨15,a,b,c,ok,key,val,old,ms,ss⟩:aQ).In w w (Zk j nm y) (Zk z C A))):
 X4 X3 68 #[Zr #[ah 15,a,b,c,ok,key,val,old,Zk j nm y,Zk z C A]] w (y_ w (cI ⟨15,a,b,c,ok,key,val,old,ms,ss⟩)):=by
 go_enter func68,ntmps68;go_wp2_with fail
 all_goals refine bodyPost_ret (v:=Zr #[ah 15,ah 0,ah 0,ah 0,ah 0,X2 ⟨#[]⟩,ah 0,ah 0,Zk j nm y,Zk XM 0 0]) Bx rfl ?_
 all_goals exact B_ D Bw CR
def du1(a b c ok:Int)(key:ByteArray)(val old:Int)(ms ss:List Int)(j y:Option Zf)(nm z C A:Nat)(w:XO)
 (D:Hid ((⟨4,a,b,c,ok,key,val,old,ms,ss⟩:aQ).In w w (Zk j nm z) (Zk y C A))):
 X4 X3 68 #[Zr #[ah 4,a,b,c,ok,key,val,old,Zk j nm z,Zk y C A]] w (y_ w (cI ⟨4,a,b,c,ok,key,val,old,ms,ss⟩)):=by
 go_enter func68,ntmps68;go_wp2_with fail
 all_goals refine bodyPost_ret (v:=Zr #[ah 4,ah 0,ah 0,ah 0,ah 0,X2 ⟨#[]⟩,ah 0,ah 0,Zk XM 0 0,Zk XM 0 0]) Bx rfl ?_
 all_goals exact B_ D Bw CR
def du2(a b c ok:Int)(key:ByteArray)(val old:Int)(ms ss:List Int)(j y:Option Zf)(nm z C A:Nat)(w:XO)
 (D:Hid ((⟨16,a,b,c,ok,key,val,old,ms,ss⟩:aQ).In w w (Zk j nm z) (Zk y C A))):
 X4 X3 68 #[Zr #[ah 16,a,b,c,ok,key,val,old,Zk j nm z,Zk y C A]] w (y_ w (cI ⟨16,a,b,c,ok,key,val,old,ms,ss⟩)):=by
 go_enter func68,ntmps68;go_wp2_with fail
 all_goals refine bodyPost_ret (v:=Zr #[ah 16,ah 0,ah 0,ah 0,ah 0,X2 ⟨#[]⟩,ah 0,ah 0,Zk XM 0 0,Zk XM 0 0]) Bx rfl ?_
 all_goals exact B_ D Bw CR
def du3(k:Int)(a b c ok:Int)(key:ByteArray)(val old:Int)(ms ss:List Int)(j y:Option Zf)(nm z C A:Nat)(w:XO)(HK:Hid (¬k=4/\¬k=16/\¬k=15/\¬k=5/\¬k=7/\¬k=10/\¬k=12/\¬k=14))
 (D:Hid ((⟨k,a,b,c,ok,key,val,old,ms,ss⟩:aQ).In w w (Zk j nm z) (Zk y C A))):
 X4 X3 68 #[Zr #[k,a,b,c,ok,key,val,old,Zk j nm z,Zk y C A]] w (y_ w (cI ⟨k,a,b,c,ok,key,val,old,ms,ss⟩)):=by
 have X:(k !=4)=true:=BA;have G:(k !=16)=true:=BA;have F:(k !=15)=true:=BA;have I:(k==5)=false:=BA;have J:(k==7)=false:=BA;have O:(k==10)=false:=BA;have U:(k==12)=false:=BA;have V:(k==14)=false:=BA;have Y:(k==15)=false:=BA;go_enter func68,ntmps68;go_wp2_with fail
 all_goals refine bodyPost_ret (v:=Zr #[k,a,ah 0,ah 0,ah 0,X2 ⟨#[]⟩,ah 0,ah 0,Zk XM 0 0,Zk XM 0 0]) Bx rfl ?_
 all_goals exact B_ D Bw (by simp[cI,aQ.cells,HK.o])
def du4(x:aQ)(m s:XP)(w:XO)(hx:x.In w w m s):
 X4 X3 68 #[Zr (x.cells m s)] w (y_ w (cI x)):=by
 obtain⟨Am,nm,cm,rfl,_,_,_⟩:=hx.ms.form;obtain⟨As,ns,cs,rfl,_,_,_⟩:=hx.ss.form;obtain⟨k,a,b,c,ok,key,val,old,ms,ss⟩:=x;rw[aQ.cells_def];by_cases y:k=4
 .subst y;exact du1 a b c ok key val old ms ss Am As nm cm ns cs w hx
 by_cases C:k=16
 .subst C;exact du2 a b c ok key val old ms ss Am As nm cm ns cs w hx
 by_cases F:k=15
 .subst F;exact du0 a b c ok key val old ms ss Am As nm cm ns cs w hx
 by_cases z:k=5
 .subst z;exact dt5 a b c ok key val old ms ss Am As nm cm ns cs w hx
 by_cases A:k=7
 .subst A;exact dt6 a b c ok key val old ms ss Am As nm cm ns cs w hx
 by_cases j:k=10
 .subst j;exact dt7 a b c ok key val old ms ss Am As nm cm ns cs w hx
 by_cases h:k=12
 .subst h;exact dt8 a b c ok key val old ms ss Am As nm cm ns cs w hx
 by_cases D:k=14
 .subst D;exact dt9 a b c ok key val old ms ss Am As nm cm ns cs w hx
 exact du3 k a b c ok key val old ms ss Am As nm cm ns cs w ⟨y,C,F,z,A,j,h,D⟩ hx
def y'(c:UInt8):Bool:=XN (33<=c.toNat)&&XN (c.toNat<=126)
def Az(x:aQ):Array Value:= #[ah x.ok,X2 x.key,ah x.val,ah x.old]
def xr(s:ByteArray):Bool:=s.data.toList.all y'
def al2{s:ByteArray}(h:∀k(y:k<s.size),y' s[k]=XR):xr s=true:=by rw[xr,Yn];intro c j;obtain⟨i,hi,rfl⟩:=List.getElem_of_mem j;exact h i (by rw[Array.length_toList]at hi;exact hi)
def al3{s:ByteArray}{k:Nat}(j:k<s.size)(h:¬y' s[k]=XR):xr s=false:=by rw[Bool.eq_false_iff];intro c;rw[xr,Yn]at c;exact h (c _ (Array.mem_toList_iff.2 (Array.getElem_mem j)))
def LY(c:UInt8):y' c=XR↔33<=c.toNat/\c.toNat<=126:=by simp[y']
def ve(x:aQ):Bool:=
 XN (0<=x.ok)&&XN (x.ok<=3)&&XN (1<=x.key.size)&&XN (x.key.size<=31)&&((x.old==0)||(x.ok==2))&&((x.val==0)|| !(x.ok==0))&&xr x.key
def du5(x:aQ)(w:XO)(c:¬(0<=x.ok/\x.ok<=3/\1<=x.key.size/\x.key.size<=31/\(x.old=0\/x.ok=2)/\(x.val=0\/x.ok≠0))):
 aR 70 #[Zr (Az x)] w (Zp XQ):=by
 have j:=aj c;rw[Az];go_enter func70,ntmps70;go_wp2_with fail
 all_goals first
  |(go_ret;exact⟨rfl,ak (am w) _⟩)
  |(exfalso;refine j ?_;simp only[bne_iff_ne,ne_eq,beq_iff_eq,beq_eq_false_iff_ne,bne_eq_false_iff_eq]at*;omega)
def du6(x:aQ)(w:XO)(I:0<=x.ok/\x.ok<=3/\1<=x.key.size/\x.key.size<=31/\(x.old=0\/x.ok=2)/\(x.val=0\/x.ok≠0)):
 aR 70 #[Zr (Az x)] w (Zp (xr x.key)):=by
 obtain⟨h1,h2,h3,h4,c,y⟩:=I;have A:((x.old !=0)=XQ)\/((x.old !=0)=XR/\(x.ok !=2)=XQ):=by
  rcases c with h|h
  .simp[h]
  .by_cases D:x.old=0<;>simp[h,D]
 have C:((x.val !=0)=XQ)\/((x.val !=0)=XR/\(x.ok==0)=XQ):=by
  rcases y with h|h
  .simp[h]
  .by_cases D:x.val=0<;>simp[h,D]
 rw[Az];rcases A with c|⟨c,J⟩<;>rcases C with y|⟨y,O⟩;all_goals
  go_enter func70,ntmps70;go_wp2_with fail
  go_loopw [3] (λi wr=>∃k:Nat,k<=x.key.size/\i=ah k/\(∀j(z:j<x.key.size),j<k->y' x.key[j]=XR)/\wr=w.alloc (Zq #[x.ok,x.key,x.val,x.old] 43)) (λi _=>x.key.size - (X8 i).toNat)
  case atStart=>exact⟨0,bU _,rfl,by omega,rfl⟩
  case round=>
   obtain⟨k,hk,rfl,bA,rfl⟩:=hrel;have F:=aj bA;by_cases G:k<x.key.size
   .go_wp2_with fail
    all_goals first
     |exact⟨⟨k+1,by omega,by go_num,(λj z U=>by
       by_cases e:j=k
       .subst e;rw[LY];omega
       .exact F j z Zv),trivial⟩,by simp[X8];omega⟩
     |(go_ret;exact⟨cD (al3 G (by rw[LY];omega)).symm,ak (am w) _⟩)
   .go_wp2_with fail
    go_ret;exact⟨cD (al2 λj z=>F j z Zv).symm,ak (am w) _⟩
def al4(x:aQ)(w:XO):
 aR 70 #[Zr (Az x)] w (Zp (ve x)):=by
 by_cases y:0<=x.ok/\x.ok<=3/\1<=x.key.size/\x.key.size<=31/\(x.old=0\/x.ok=2)/\(x.val=0\/x.ok≠0)
 .refine(du6 x w y).mono λe w'⟨z,A⟩=>⟨?_,A⟩;obtain⟨h1,h2,h3,h4,c,j⟩:=y;rw[z];refine cD ?_;by_cases C:x.val=0<;>rcases c with c|c<;>rcases j with j|j<;>simp[ve,h1,h2,h3,h4,c,j,C]
 .refine(du5 x w y).mono λe w'⟨z,A⟩=>⟨?_,A⟩;rw[z];refine cD ?_;simp only[ve];symm;rw[Bool.eq_false_iff];intro h;simp only[XW,YX,decide_eq_true_eq,beq_iff_eq,YZ,beq_eq_false_iff_ne]at h;exact y ⟨h.1.1.1.1.1.1,h.1.1.1.1.1.2,h.1.1.1.1.2,h.1.1.1.2,h.1.1.2,h.1.2⟩
def cb:Nat->List UInt8
 |0=>[100,101,108,105,118,101,114]
 |1=>[100,114,111,112]
 |2=>[100,111,117,98,108,101]
 |3=>[116,105,99,107]
 |4=>[115,108,111,116]
 |5=>[99,114,97,115,104]
 |6=>[114,101,115,116,97,114,116]
 |7=>[102,97,105,108]
 |8=>[105,115,111,108,97,116,101]
 |9=>[106,111,105,110]
 |10=>[114,101,113,117,101,115,116]
 |11=>[114,101,116,114,121]
 |12=>[99,97,108,108]
 |13=>[99,111,109,112,97,99,116]
 |14=>[116,114,97,110,115,102,101,114]
 |15=>[114,101,112,108,97,110]
 |16=>[100,97,114,107]
 |17=>[99,97,108,109]
 |_=>[]
def fV:List Int->List UInt8
 |[]=>[]
 |n::r=>32::XS n++fV r
def dr1(a b:List Int):fV (a++b)=fV a++fV b:=by
 induction a with
 |nil=>rfl
 |cons n r ih=>simp[fV,ih]
def al5(l:List Int)(h:∀x∈l,aN x):(fV l).length<=22*l.length:=by
 induction l with
 |nil=>simp[fV]
 |cons n r ih=>have c:=Lib.itoa_length_le n (h n Zy).1 (h n Zy).2;have j:=ih λx hx=>h x By;simp[fV];omega
def al6(l:List Int)(k:Nat)(h:k<l.length):l.take (k+1)=l.take k++[cY l k]:=by rw[List.take_succ_eq_append_getElem h,LW h]
def al7{l:List Int}{k:Nat}(h:k<l.length):cY l k∈l:=by rw[LW h];exact List.getElem_mem h
def bg(w:XO)(B:Nat)(v:XP)(l:List ay):Prop:=cP w B v (l.map bs)
def bg.below{w w':XO}{B B₂:Nat}{v:XP}{l:List ay}(h:bg w B v l)(j:Below B₂ w w')(c:B<=B₂):bg w' B v l:=cP.below h j c
def bg.more{w:XO}{B B':Nat}{v:XP}{l:List ay}(h:bg w B v l)(c:B<=B'):bg w B' v l:=cP.more h c
def bg.nil_(w:XO)(B:Nat):bg w B (Zk XM 0 0) []:=Sl.nil_ w B
def jQ{α:Type}(R:XO->Nat->List XP->α->Prop):Prop:=∀(w w':XO)(B B₂ B':Nat)cs x,R w B cs x->Below B₂ w w'->B<=B₂->B<=B'->R w' B' cs x
def ci{α:Type}(k:Nat)(R:XO->Nat->List XP->α->Prop)(w:XO)(B:Nat)(v:XP)(xs:List α):Prop:=
 ∃A c,v= .slice A xs.length c/\xs.length<=c/\c<=maxLen/\
  (xs≠[]->∃b o,A=XL ⟨b,o,XM⟩/\b<B/\∀(j:Nat)x,xs[j]?=XL x->∃cs:List XP,cs.length=k/\R w B cs x/\∀(i:Nat)u,cs[i]?=XL u->w.cell? ⟨b,o+j*k+i,XM⟩=XL u)
section
variable {α:Type} {k:Nat} {R:XO->Nat->List XP->α->Prop} {w w':XO} {B B' B₂:Nat} {v:XP} {xs:List α}
def ci.nil_(w:XO)(B:Nat):ci k R w B (Zk XM 0 0) []:=⟨XM,0,rfl,by simp,by simp[Yd],λh=>absurd rfl h⟩
def ci.to(h:ci k R w B v xs)(C:jQ R)(z:Below B₂ w w')(y:B<=B₂)(G:B<=B'):ci k R w' B' v xs:=by obtain⟨A,c,rfl,h1,h2,h3⟩:=h;refine⟨A,c,rfl,h1,h2,λD=>?_⟩;obtain⟨b,o,rfl,ap,hc⟩:=h3 D;refine⟨b,o,rfl,by omega,λj x hx=>?_⟩;obtain⟨cs,h4,h5,h6⟩:=hc j x hx;exact⟨cs,h4,C _ _ _ _ _ _ _ h5 z y G,λi u F=>(z.cell (p:=b _ XM) (bJ ap y)).t (h6 i u F)⟩
def ci.below(h:ci k R w B v xs)(j:jQ R)(y:Below B₂ w w')(c:B<=B₂):ci k R w' B v xs:=h.to j y c (ar _)
def ci.form(h:ci k R w B v xs):∃A n c,v=Zk A n c/\xs.length=n/\n<=c/\c<=9223372036854775807:=cg0
def ci.at_{A:Option Zf}{n c:Nat}(h:ci k R w B (Zk A n c) xs){j:Nat}{x:α}(hx:xs[j]?=XL x):
 ∃b o y,A=XL ⟨b,o,XM⟩/\b<B/\y.length=k/\R w B y x/\∀(i:Nat)u,y[i]?=XL u->w.cell? ⟨b,o+j*k+i,XM⟩=XL u:=by
 obtain⟨A',c',he,h1,h2,h3⟩:=h;injection he with z C D;subst z;obtain⟨b,o,hA,hb,hc⟩:=h3 (λe=>by rw[e]at hx;simp at hx);obtain⟨y,h4,h5,h6⟩:=hc j x hx;exact⟨b,o,y,hA,hb,h4,h5,h6⟩
end
def oe(_:XO)(_:Nat)(cs:List XP)(t:gU):Prop:=cs=[ah t.kind,X2 (bs t.text),ah t.n,ah t.pos]
def mS(w:XO)(B:Nat)(cs:List XP)(d:aG):Prop:=
 ∃r n,cs=[ah d.kind,X2 (bs d.name),r,n,ah d.by_,Zp d.always]/\bg w B r d.refs/\aS w B n (d.nums.map λx:Nat=>(x:Int))/\d.kind<=1000000/\d.by_<=1000000
def qn(_:XO)(_:Nat)(cs:List XP)(x:nC):Prop:=cs=[X2 (bs x.name),ah x.site,ah x.feed]/\aN x.site/\aN x.feed
def v_(_:XO)(_:Nat)(cs:List XP)(x:rq):Prop:=cs=[X2 (bs x.name),ah x.rack,ah x.cap]/\aN x.rack/\aN x.cap
def qp(_:XO)(_:Nat)(cs:List XP)(x:t5):Prop:=cs=[ah x.a,ah x.b,ah x.cap]/\aN x.a/\aN x.b/\aN x.cap
def DX(w:XO)(B:Nat)(cs:List XP)(x:fq):Prop:=
 ∃o,cs=[X2 (bs x.name),ah x.kind,ah x.count,ah x.load,ah x.size,ah x.share,o]/\aS w B o x.on/\(aN x.kind/\aN x.count/\aN x.load/\aN x.size/\aN x.share)
def DY(w:XO)(B:Nat)(cs:List XP)(x:cF):Prop:=
 ∃o,cs=[ah x.kind,ah x.item,ah x.other,ah x.n,ah x.by_,Zp x.always,o]/\aS w B o x.ms/\(aN x.kind/\aN x.item/\aN x.other/\aN x.n/\aN x.by_)
def oe.ab:jQ oe:=λ_ _ _ _ _ _ _ h _ _ _=>h
def qn.ab:jQ qn:=λ_ _ _ _ _ _ _ h _ _ _=>h
def v_.ab:jQ v_:=λ_ _ _ _ _ _ _ h _ _ _=>h
def qp.ab:jQ qp:=λ_ _ _ _ _ _ _ h _ _ _=>h
def mS.ab:jQ mS:=λ_ _ _ _ _ _ _⟨r,n,y,z,A,C⟩h c j=>⟨r,n,y,(z.below h c).more j,(A.below h c).more j,C⟩
def DX.ab:jQ DX:=λ_ _ _ _ _ _ _⟨o,c,h,j⟩z y A=>⟨o,c,(h.below z y).more A,j⟩
def DY.ab:jQ DY:=λ_ _ _ _ _ _ _⟨o,c,h,j⟩z y A=>⟨o,c,(h.below z y).more A,j⟩
structure MV where
 s:XP
 f:XP
 r:XP
 m:XP
 l:XP
 i:XP
 u:XP
def aU.cells(m:aU)(v:MV):Array Value:= #[v.s,v.f,v.r,v.m,v.l,v.i,ah m.dark,ah m.slots,ah m.reserve,ah m.failures,v.u]
def aU.cells_def(m:aU)(v:MV):m.cells v= #[v.s,v.f,v.r,v.m,v.l,v.i,ah m.dark,ah m.slots,ah m.reserve,ah m.failures,v.u]:=rfl
def nD(m:aU){v:MV}{a b c d e f g:XP}(h:v.s=a)(j:v.f=b)(y:v.r=c)(z:v.m=d)(A:v.l=e)(C:v.i=f)(D:v.u=g):m.cells v= #[a,b,c,d,e,f,ah m.dark,ah m.slots,ah m.reserve,ah m.failures,g]:=by rw[aU.cells_def,h,j,y,z,A,C,D]
def F9{m:aU}{v:MV}{a b c d e f g p q r s:XP}(h:m.cells v= #[a,b,c,d,e,f,p,q,r,s,g])(x y z:XP):m.cells v++ #[x,y,z]= #[a,b,c,d,e,f,p,q,r,s,g,x,y,z]:=by rw[h];rfl
structure aU.In(m:aU)(w:XO)(B:Nat)(v:MV):Prop where
 ss:bg w B v.s m.sites
 fs:bg w B v.f m.feeds
 rs:ci 3 qn w B v.r m.racks
 ms:ci 3 v_ w B v.m m.machs
 ls:ci 3 qp w B v.l m.links
 is:ci 7 DX w B v.i m.items
 us:ci 7 DY w B v.u m.rules
 dark:aN m.dark
 slots:aN m.slots
 reserve:aN m.reserve
 failures:aN m.failures
def aU.In.to{m:aU}{w w':XO}{B B₂ B':Nat}{v:MV}(h:m.In w B v)(j:Below B₂ w w')(c:B<=B₂)(y:B<=B'):m.In w' B' v:=
 ⟨(h.ss.below j c).more y,(h.fs.below j c).more y,h.rs.to qn.ab j c y,h.ms.to v_.ab j c y,h.ls.to qp.ab j c y,h.is.to DX.ab j c y,h.us.to DY.ab j c y,h.dark,h.slots,h.reserve,h.failures⟩
def cR(w:XO)(o:Obj):(w.alloc o).heap[w.heap.size]?=XL o:=by show(w.heap.push o)[w.heap.size]?=_;exact Array.getElem?_push_size
def gl{B b:Nat}{w w':XO}{o:Obj}(h:w.heap[b]?=XL o)(j:Below B w w')(c:b<B):w'.heap[b]?=XL o:=(j.block b c).t h
def ai{b:Nat}{w w':XO}{o:Obj}(h:w.heap[b]?=XL o)(c:Below w w w'):w'.heap[b]?=XL o:=gl h c (Array.getElem?_eq_some_iff.1 h).1
def blk_lt{b:Nat}{w:XO}{o:Obj}(h:w.heap[b]?=XL o):b<w:=(Array.getElem?_eq_some_iff.1 h).1
def ag{w:XO}{b o:Nat}{C:Array XP}{t:Ya}(h:af w b C t){v:XP}(c:C[o]?=XL v):aa w b o v:=by simp only[Zc,h];exact c
def cO{w:XO}{b:Nat}{C:Array XP}{t:Ya}(h:af w b C t)(o:Nat):w.frozen? (b o XM)=false:=by simp[World.frozen?,h]
def IV{w:XO}{b:Nat}{r:List XP}{t:Ya}{c j y:XP}(h:af w b (List.toArray (c::j::y::r)) t):ae w b c/\aa w b 1 j/\aa w b 2 y:=
 ⟨ag h rfl,ag h rfl,ag h rfl⟩
def XC{w:XO}{b:Nat}{r:List XP}{t:Ya}{c j y z:XP}(h:af w b (List.toArray (c::j::y::z::r)) t):ae w b c/\aa w b 1 j/\aa w b 2 y/\aa w b 3 z:=
 ⟨ag h rfl,ag h rfl,ag h rfl,ag h rfl⟩
def dy{w:XO}{b:Nat}{r:List XP}{t:Ya}{c j y z A C:XP}(h:af w b (List.toArray (c::j::y::z::A::C::r)) t):ae w b c/\aa w b 1 j/\aa w b 2 y/\aa w b 3 z/\aa w b 4 A/\aa w b 5 C:=
 ⟨ag h rfl,ag h rfl,ag h rfl,ag h rfl,ag h rfl,ag h rfl⟩
def gM{w:XO}{b:Nat}{r:List XP}{t:Ya}{c j y z A C D:XP}(h:af w b (List.toArray (c::j::y::z::A::C::D::r)) t):ae w b c/\aa w b 1 j/\aa w b 2 y/\aa w b 3 z/\aa w b 4 A/\aa w b 5 C/\aa w b 6 D:=
 ⟨ag h rfl,ag h rfl,ag h rfl,ag h rfl,ag h rfl,ag h rfl,ag h rfl⟩
def XD{w:XO}{b:Nat}{r:List XP}{t:Ya}{c j y z A C D F:XP}(h:af w b (List.toArray (c::j::y::z::A::C::D::F::r)) t):ae w b c/\aa w b 1 j/\aa w b 2 y/\aa w b 3 z/\aa w b 4 A/\aa w b 5 C/\aa w b 6 D/\aa w b 7 F:=
 ⟨ag h rfl,ag h rfl,ag h rfl,ag h rfl,ag h rfl,ag h rfl,ag h rfl,ag h rfl⟩
def XE{w:XO}{b:Nat}{r:List XP}{t:Ya}{c j y z A C D F G I:XP}(h:af w b (List.toArray (c::j::y::z::A::C::D::F::G::I::r)) t):ae w b c/\aa w b 1 j/\aa w b 2 y/\aa w b 3 z/\aa w b 4 A/\aa w b 5 C/\aa w b 6 D/\aa w b 7 F/\aa w b 8 G/\aa w b 9 I:=
 ⟨ag h rfl,ag h rfl,ag h rfl,ag h rfl,ag h rfl,ag h rfl,ag h rfl,ag h rfl,ag h rfl,ag h rfl⟩
def bQ{w:XO}{b:Nat}{r:List XP}{t:Ya}{c j y z A C D F G I J:XP}(h:af w b (List.toArray (c::j::y::z::A::C::D::F::G::I::J::r)) t):ae w b c/\aa w b 1 j/\aa w b 2 y/\aa w b 3 z/\aa w b 4 A/\aa w b 5 C/\aa w b 6 D/\aa w b 7 F/\aa w b 8 G/\aa w b 9 I/\aa w b 10 J:=
 ⟨ag h rfl,ag h rfl,ag h rfl,ag h rfl,ag h rfl,ag h rfl,ag h rfl,ag h rfl,ag h rfl,ag h rfl,ag h rfl⟩
def ME{w:XO}{b:Nat}{r:List XP}{t:Ya}{c j y z A C D F G I J O:XP}(h:af w b (List.toArray (c::j::y::z::A::C::D::F::G::I::J::O::r)) t):ae w b c/\aa w b 1 j/\aa w b 2 y/\aa w b 3 z/\aa w b 4 A/\aa w b 5 C/\aa w b 6 D/\aa w b 7 F/\aa w b 8 G/\aa w b 9 I/\aa w b 10 J/\aa w b 11 O:=
 ⟨ag h rfl,ag h rfl,ag h rfl,ag h rfl,ag h rfl,ag h rfl,ag h rfl,ag h rfl,ag h rfl,ag h rfl,ag h rfl,ag h rfl⟩
def js{w:XO}{b:Nat}{r:List XP}{t:Ya}{c j y z A C D F G I J O U V:XP}(h:af w b (List.toArray (c::j::y::z::A::C::D::F::G::I::J::O::U::V::r)) t):ae w b c/\aa w b 1 j/\aa w b 2 y/\aa w b 3 z/\aa w b 4 A/\aa w b 5 C/\aa w b 6 D/\aa w b 7 F/\aa w b 8 G/\aa w b 9 I/\aa w b 10 J/\aa w b 11 O/\aa w b 12 U/\aa w b 13 V:=
 ⟨ag h rfl,ag h rfl,ag h rfl,ag h rfl,ag h rfl,ag h rfl,ag h rfl,ag h rfl,ag h rfl,ag h rfl,ag h rfl,ag h rfl,ag h rfl,ag h rfl⟩
def AH{w:XO}{b:Nat}{C:Array XP}{t:Ya}(h:af w b C t):w.frozen? b=XQ/\w.frozen? (b 1 XM)=XQ/\w.frozen? (b 2 XM)=XQ/\w.frozen? (b 3 XM)=false:=
 ⟨cO h 0,cO h 1,cO h 2,cO h 3⟩
def Cf{w:XO}{b:Nat}{C:Array XP}{t:Ya}(h:af w b C t):w.frozen? b=XQ/\w.frozen? (b 1 XM)=XQ/\w.frozen? (b 2 XM)=XQ/\w.frozen? (b 3 XM)=XQ/\w.frozen? (b 4 XM)=XQ/\w.frozen? (b 5 XM)=false:=
 ⟨cO h 0,cO h 1,cO h 2,cO h 3,cO h 4,cO h 5⟩
def DZ{w:XO}{b:Nat}{C:Array XP}{t:Ya}(h:af w b C t):w.frozen? b=XQ/\w.frozen? (b 1 XM)=XQ/\w.frozen? (b 2 XM)=XQ/\w.frozen? (b 3 XM)=XQ/\w.frozen? (b 4 XM)=XQ/\w.frozen? (b 5 XM)=XQ/\w.frozen? (b 6 XM)=false:=
 ⟨cO h 0,cO h 1,cO h 2,cO h 3,cO h 4,cO h 5,cO h 6⟩
def dx0{w:XO}{b:Nat}{C:Array XP}{t:Ya}(h:af w b C t):w.frozen? b=XQ/\w.frozen? (b 1 XM)=XQ/\w.frozen? (b 2 XM)=XQ/\w.frozen? (b 3 XM)=XQ/\w.frozen? (b 4 XM)=XQ/\w.frozen? (b 5 XM)=XQ/\w.frozen? (b 6 XM)=XQ/\w.frozen? (b 7 XM)=XQ/\w.frozen? (b 8 XM)=XQ/\w.frozen? (b 9 XM)=XQ/\w.frozen? (b 10 XM)=false:=
 ⟨cO h 0,cO h 1,cO h 2,cO h 3,cO h 4,cO h 5,cO h 6,cO h 7,cO h 8,cO h 9,cO h 10⟩
def ak3{W c:XO}(j:Below W.drew.heap.size W.drew c):(∀b o,b<W.heap.size->c.cell? ⟨b,o,XM⟩=W.cell? ⟨b,o,XM⟩)/\(∀b o,b<W.heap.size->c.frozen? ⟨b,o,XM⟩=W.frozen? ⟨b,o,XM⟩):=
 ⟨λb o h=>j.cell (p:=⟨b,o,XM⟩) h,λb o h=>j.frozen (p:=⟨b,o,XM⟩) h⟩
section
variable {P:Zh} {ops:Array YO} {Q:Exit->Act->XO->Prop} {md:Y4}
end
def bf{w:XO}{b:Nat}{C:Array XP}{t:Ya}(h:af w b C t)(o:Nat)(u:XP):(w.setCell (b o XM) u).heap[b]?=XL (Zq (C.setIfInBounds o u) t (0,0)):=by simp[YS,Array.getElem?_modify,h]
def mT{w:XO}{b p o:Nat}{u:XP}{ob:Obj}(h:w.heap[b]?=XL ob)(aT:¬b=p):(w.setCell (p o XM) u).heap[b]?=XL ob:=
 (Below.heap_setCell w (p o XM) u b Oo).t h
def ak4{w:XO}{b j p o:Nat}{u:XP}(aT:¬b=p):(w.setCell (p o XM) u).cell? (b j XM)=w.cell? (b j XM):=
 Y1 (Below.heap_setCell w (p o XM) u b Oo)
def ez{P:Zh}{c:Code}{Q:Exit->Act->XO->Prop}{a:Act}{W:XO}(F:XO->Prop)(j:F W)(h:∀W0,F W0->Code.wp P c Q a W0):Code.wp P c Q a W:=h W j
def df{P:Zh}{c:Code}{Q:Exit->Act->XO->Prop}{a:Act}{w:XO}{o:Obj}(h:∀W,(Below w w W/\W.heap[w.heap.size]?=XL o)->Code.wp P c Q a W):Code.wp P c Q a (w.alloc o):=h _ ⟨ak (am w) o,cR w o⟩
def dx1{P:Zh}{c:Code}{Q:Exit->Act->XO->Prop}{a:Act}{w:XO}{o:Obj}(h:∀W,(W.heap[w.heap.size]?=XL o/\Below w w W)->Code.wp P c Q a W):Code.wp P c Q a (w.alloc o):=df λW⟨j,y⟩=>h W ⟨y,j⟩
def ak5{k:Nat}:∀(rows:List (List XP)),(∀r∈rows,r.length=k)->∀(j i:Nat)r u,rows[j]?=XL r->r[i]?=XL u->rows.flatten[j*k+i]?=XL u
 |[],_,j,i,r,u,h,_=>by simp at h
 |x::rows,hk,0,i,r,u,h,hu=>by simp at h;subst h;rw[List.flatten_cons,Nat.zero_mul,Y9,YN (List.getElem?_eq_some_iff.1 hu).1];exact hu
 |x::rows,hk,j+1,i,r,u,h,hu=>by
  have hx:=hk x Zy;have c:=ak5 rows (λy hy=>hk y uG) j i r u zH hu;rw[List.flatten_cons,Za (by rw[hx,Nat.add_mul];omega),hx];have:(j+1)*k+i - k=j*k+i:=by rw[Nat.add_mul];omega
  rw[this];exact c
def ci.of_own{α:Type}{R:XO->Nat->List XP->α->Prop}{w:XO}{base:Nat}{e:Ya}{k:Nat}{v:XP}{xs:List α}(rows:List (List XP))(A:∀r∈rows,r.length=k)(F:rows.length=xs.length)
 (h:w.ownsRow base e k v xs.length rows.flatten)(C:∀(j:Nat)r x,rows[j]?=XL r->xs[j]?=XL x->R w w r x):ci k R w w v xs:=by
 by_cases G:0<xs.length
 .obtain⟨g,cap,hv,_,ap⟩:=h.form G;have z:xs.length<=cap/\cap<=maxLen:=by
   exact ag2
  subst hv;refine⟨_,cap,rfl,z.1,z.2,λ_=>⟨g,0,rfl,ap,λj x hx=>?_⟩⟩;have y:j<rows.length:=by rw[F];exact(List.getElem?_eq_some_iff.1 hx).1
  refine⟨rows[j],A _ (List.getElem_mem y),C j _ x (XT y) hx,λi u I=>?_⟩;have D:=ak5 rows A j i _ u (XT y) I;have:=h.cells (g:=g) rfl (j*k+i) u D;rw[Y9];generalize j*k+i=m at this;by_cases c:m=0
  .subst c;simpa[Addr.add]using this
  .simpa[Addr.add,c]using this
 .have c:xs=[]:=List.eq_nil_of_length_eq_zero (by omega);subst c;rcases h.2 with⟨rfl,_⟩|⟨g,cap,_,rfl,_,_,h1,h2,_⟩
  .exact ci.nil_ _ _
  .exact⟨_,cap,rfl,by simp,h2,λh=>absurd rfl h⟩
def eI{w w':XO}{base:Nat}{e:Ya}{size:Nat}{v:XP}{n:Nat}{xs:List XP}(h:w.ownsRow base e size v n xs)(C:Below w w w'):w'.ownsRow base e size v n xs:=by
 refine⟨h.1,?_⟩;rcases h.2 with D|⟨g,cap,c,j,y,z,A⟩
 .exact .inl D
 .exact .inr ⟨g,cap,c,j,y,ai z C,A⟩
def nE{w:XO}{base:Nat}{e:Ya}{size:Nat}{v:XP}{n:Nat}{xs:List XP}(h:w.ownsRow base e size v n xs){p:Nat}(D:∀k,v.ownBlock=XL k->¬k=p)(o:Nat)(u:XP):(w.setCell (p o XM) u).ownsRow base e size v n xs:=by
 refine⟨h.1,?_⟩;rcases h.2 with C|⟨g,cap,c,j,y,z,A⟩
 .exact .inl C
 .exact .inr ⟨g,cap,c,j,y,mT z (D g (by rw[j];rfl)),A⟩
def AI{a w w':XO}{base:Nat}{e:Ya}{size:Nat}{v:XP}{n:Nat}{xs:List XP}(h:w.ownsRow base e size v n xs)(j:Below a a w)(y:a.heap.size<=base)(z:w.grownBy w' v.ownBlock):Below a a w':=
 j.grown z j.size λk A=>bC y (X6 h k A).1
def jD{w w':XO}{v:XP}{b:Nat}{o:Obj}(h:w.heap[b]?=XL o)(j:w.grownBy w' v.ownBlock)(c:∀k,v.ownBlock=XL k->¬b=k):w'.heap[b]?=XL o:=
 (j.block b (blk_lt h) λe=>c b e.symm rfl).t h
def pA{w:XO}{C:List XP}{t:Ya}{g:Nat}(y:g=w):∀(j:Nat)u,C[j]?=XL u->(w.alloc (Zq C.toArray t)).cell? (((g 0 XM):Zf).add j)=XL u:=by
 subst y;intro j u z;have h:(w.alloc (Zq C.toArray t)).cell? (w j XM)=XL u:=ag (cR w _) (by simpa using z);by_cases c:j=0
 .subst c;simpa[Addr.add]using h
 .simpa[Addr.add,c]using h
def lL(P:Nat->Bool)(n:Nat):Int:=match (Yz n).find? P with|some i=>i|none=> -1
def aw1{P:Nat->Bool}{n k:Nat}(y:k<n)(h:P k=XR)(z:∀j,j<k->P j=XQ):lL P n=k:=by
 unfold lL;have:(Yz n).find? P=XL k:=by rw[List.find?_range_eq_some];exact⟨h,by simpa using y,λj c=>by simp[z j c]⟩
 rw[this]
def aw2{P:Nat->Bool}{n:Nat}(h:∀j,j<n->P j=XQ):lL P n= -1:=by
 unfold lL;have:(Yz n).find? P=none:=by rw[List.find?_range_eq_none];exact λj c=>by simp[h j c]
 rw[this]
def DD(P:Nat->Bool)(n:Nat):XN (0<=lL P n)=(Yz n).any P:=by
 unfold lL;cases h:(Yz n).find? P with
 |none=>
  have:(Yz n).any P=false:=by rw[List.any_eq_false];exact λx hx=>by simpa using List.find?_eq_none.1 h x hx
  rw[this];simp
 |some i=>have:(Yz n).any P=true:=List.any_eq_true.2 ⟨i,List.mem_of_find?_eq_some h,List.find?_some h⟩;rw[this];simp
def R1{α:Type}(enc:α->XP)(_:XO)(_:Nat)(cs:List XP)(x:α):Prop:=cs=[enc x]
def R1.ab{α:Type}(enc:α->XP):jQ (R1 enc):=λ_ _ _ _ _ _ _ h _ _ _=>h
def Sl.k1{α:Type}{enc:α->XP}{w:XO}{B:Nat}{v:XP}{xs:List α}(h:Sl w B v (xs.map enc)):ci 1 (R1 enc) w B v xs:=by
 obtain⟨A,c,rfl,h1,h2,h3⟩:=h;rw[XY]at h1⊢
 refine⟨A,c,rfl,h1,h2,λz=>?_⟩;obtain⟨b,o,rfl,hb,hc⟩:=h3 (by simpa using z);refine⟨b,o,rfl,hb,λj x hx=>⟨[enc x],rfl,rfl,λi u y=>?_⟩⟩
 match i,y with
 |0,y=>injection y with y;subst y;rw[Nat.mul_one,X7];exact hc j _ (by rw[X5,hx];rfl)
def kg{α:Type}(xs:List α)(p:α->Bool)(j:Nat):Bool:=match xs[j]? with|some x=>p x|none=>XQ
def fW{α:Type}{xs:List α}{p:α->Bool}{j:Nat}{x:α}(h:xs[j]?=XL x):kg xs p j=p x:=by unfold kg;rw[h]
def DE{α:Type}(xs:List α)(p:α->Bool):(Yz xs.length).any (kg xs p)=xs.any p:=by
 rw[Yf,List.any_eq_true,List.any_eq_true];constructor
 .rintro⟨j,c,h⟩;unfold kg at h;split at h
  .rename_i x hx;exact⟨x,eE hx,h⟩
  .cases h
 .rintro⟨x,hx,h⟩;obtain⟨j,c⟩:=List.mem_iff_getElem?.1 hx;exact⟨j,List.mem_range.2 (List.getElem?_eq_some_iff.1 c).1,by rw[fW c];exact h⟩
def aw3{α:Type}(xs:List α)(p:α->Bool):lL (kg xs p) xs.length=match xs.findIdx? p with|some i=>(i:Int)|none=> -1:=by
 cases h:xs.findIdx? p with
 |none=>
  refine aw2 λj c=>?_;rw[fW (XT c)];exact List.findIdx?_eq_none_iff.1 h _ (List.getElem_mem c)
 |some i=>obtain⟨hi,h1,h2⟩:=List.findIdx?_eq_some_iff_getElem.1 h;refine aw1 hi (by rw[fW (XT hi)];exact h1) λj c=>?_;rw[fW (XT Zv)];simpa using h2 j c
def ek5{α:Type}:∀{l:List α},l.length=3->∃a b c,l=[a,b,c]
 |[a,b,c],_=>⟨a,b,c,rfl⟩
def ek6{α:Type}:∀{l:List α},l.length=1->∃a,l=[a]
 |[a],_=>⟨a,rfl⟩
def ek7{α:Type}:∀{l:List α},l.length=7->∃a b c d e f g,l=[a,b,c,d,e,f,g]
 |[a,b,c,d,e,f,g],_=>⟨a,b,c,d,e,f,g,rfl⟩
def ek8{α:Type}:∀{l:List α},l.length=10->∃a b c d e f g h i j,l=[a,b,c,d,e,f,g,h,i,j]
 |[a,b,c,d,e,f,g,h,i,j],_=>⟨a,b,c,d,e,f,g,h,i,j,rfl⟩
def ek9{α:Type}(R:XO->Nat->List XP->α->Prop)(hR:jQ R)(v:XP)(xs:List α)(g:Nat)(caps:Array XP)(P:Nat->Bool)(w:XO)(h:ci 1 R w w v xs)(z:d_ g)
 (y:∀(j:Nat)x cs W,xs[j]?=XL x->Below w w W->R W W cs x->cs.length=1->aR g (#[(cs.headD YQ)]++caps) W (Zp (P j))):
 aR 396 #[v,bH g caps] w (ah (lL P xs.length)):=by
 obtain⟨A,n,c,rfl,hl,hc,hm⟩:=h.form;have H:=aj h;have HG:=aj y;have HL:=aj hl;unfold d_ at z;simp only[bH];rw[hl];go_enter func396,ntmps396;exact Xi
def el0{α:Type}(R:XO->Nat->List XP->α->Prop)(D:jQ R)(v:XP)(xs:List α)(g:Nat)(caps:Array XP)(P:Nat->Bool)(w:XO)(h:ci 1 R w w v xs)(z:d_ g)
 (C:∀(j:Nat)x cs W,xs[j]?=XL x->Below w w W->R W W cs x->cs.length=1->aR g (#[(cs.headD YQ)]++caps) W (Zp (P j))):
 aR 369 #[v,bH g caps] w (Zp ((Yz xs.length).any P)):=by
 obtain⟨A,n,c,rfl,hl,hc,hm⟩:=h.form;have y:=aj (ek9 R D _ xs g caps P w h z C);have F: -1<=lL P xs.length:=CV;rw[<-DD];clear h C z hl;simp only[bH]at y⊢
 go_enter func369,ntmps369;go_wp2_with(go_at_call 396;refine y.m ?_;rintro e G ⟨rfl,aC⟩)
 exact zc
def aw4{α:Type}(R:XO->Nat->List XP->α->Prop)(hR:jQ R)(v:XP)(xs:List α)(g:Nat)(caps:Array XP)(P:Nat->Bool)(w:XO)(h:ci 1 R w w v xs)(z:d_ g)
 (y:∀(j:Nat)x cs W,xs[j]?=XL x->Below w w W->R W W cs x->cs.length=1->aR g (#[(cs.headD YQ)]++caps) W (Zp (P j))):
 aR 35 #[v,bH g caps] w (ah (lL P xs.length)):=by
 obtain⟨A,n,c,rfl,hl,hc,hm⟩:=h.form;have H:=aj h;have HG:=aj y;have HL:=aj hl;unfold d_ at z;simp only[bH];rw[hl];go_enter func35,ntmps35;exact Xi
def Xj{α:Type}(R:XO->Nat->List XP->α->Prop)(D:jQ R)(v:XP)(xs:List α)(g:Nat)(caps:Array XP)(P:Nat->Bool)(w:XO)(h:ci 1 R w w v xs)(z:d_ g)
 (C:∀(j:Nat)x cs W,xs[j]?=XL x->Below w w W->R W W cs x->cs.length=1->aR g (#[(cs.headD YQ)]++caps) W (Zp (P j))):
 aR 229 #[v,bH g caps] w (Zp ((Yz xs.length).any P)):=by
 obtain⟨A,n,c,rfl,hl,hc,hm⟩:=h.form;have y:=aj (aw4 R D _ xs g caps P w h z C);have F: -1<=lL P xs.length:=CV;rw[<-DD];clear h C z hl;simp only[bH]at y⊢
 go_enter func229,ntmps229;go_wp2_with(go_at_call 35;refine y.m ?_;rintro e G ⟨rfl,aC⟩)
 exact zc
def el1{α:Type}(R:XO->Nat->List XP->α->Prop)(hR:jQ R)(v:XP)(xs:List α)(g:Nat)(caps:Array XP)(P:Nat->Bool)(w:XO)(h:ci 3 R w w v xs)(z:d_ g)
 (y:∀(j:Nat)x cs W,xs[j]?=XL x->Below w w W->R W W cs x->cs.length=3->aR g (#[(Zr cs.toArray)]++caps) W (Zp (P j))):
 aR 190 #[v,bH g caps] w (ah (lL P xs.length)):=by
 obtain⟨A,n,c,rfl,hl,hc,hm⟩:=h.form;have H:=aj h;have HG:=aj y;have HL:=aj hl;unfold d_ at z;simp only[bH];rw[hl];go_enter func190,ntmps190;exact Xk
def el2{α:Type}(R:XO->Nat->List XP->α->Prop)(hR:jQ R)(v:XP)(xs:List α)(g:Nat)(caps:Array XP)(P:Nat->Bool)(w:XO)(h:ci 7 R w w v xs)(z:d_ g)
 (y:∀(j:Nat)x cs W,xs[j]?=XL x->Below w w W->R W W cs x->cs.length=7->aR g (#[(Zr cs.toArray)]++caps) W (Zp (P j))):
 aR 161 #[v,bH g caps] w (ah (lL P xs.length)):=by
 obtain⟨A,n,c,rfl,hl,hc,hm⟩:=h.form;have H:=aj h;have HG:=aj y;have HL:=aj hl;unfold d_ at z;simp only[bH];rw[hl];go_enter func161,ntmps161;exact aw5
def eg7{α:Type}(R:XO->Nat->List XP->α->Prop)(D:jQ R)(v:XP)(xs:List α)(g:Nat)(caps:Array XP)(P:Nat->Bool)(w:XO)(h:ci 7 R w w v xs)(z:d_ g)
 (C:∀(j:Nat)x cs W,xs[j]?=XL x->Below w w W->R W W cs x->cs.length=7->aR g (#[(Zr cs.toArray)]++caps) W (Zp (P j))):
 aR 57 #[v,bH g caps] w (Zp ((Yz xs.length).any P)):=by
 obtain⟨A,n,c,rfl,hl,hc,hm⟩:=h.form;have y:=aj (el2 R D _ xs g caps P w h z C);have F: -1<=lL P xs.length:=CV;rw[<-DD];clear h C z hl;simp only[bH]at y⊢
 go_enter func57,ntmps57;go_wp2_with(go_at_call 161;refine y.m ?_;rintro e G ⟨rfl,aC⟩)
 exact zc
def eg8{α:Type}(R:XO->Nat->List XP->α->Prop)(hR:jQ R)(v:XP)(xs:List α)(g:Nat)(caps:Array XP)(P:Nat->Bool)(w:XO)(h:ci 7 R w w v xs)(z:d_ g)
 (y:∀(j:Nat)x cs W,xs[j]?=XL x->Below w w W->R W W cs x->cs.length=7->aR g (#[(Zr cs.toArray)]++caps) W (Zp (P j))):
 aR 166 #[v,bH g caps] w (ah (lL P xs.length)):=by
 obtain⟨A,n,c,rfl,hl,hc,hm⟩:=h.form;have H:=aj h;have HG:=aj y;have HL:=aj hl;unfold d_ at z;simp only[bH];rw[hl];go_enter func166,ntmps166;exact aw5
def eg9{α:Type}(R:XO->Nat->List XP->α->Prop)(D:jQ R)(v:XP)(xs:List α)(g:Nat)(caps:Array XP)(P:Nat->Bool)(w:XO)(h:ci 7 R w w v xs)(z:d_ g)
 (C:∀(j:Nat)x cs W,xs[j]?=XL x->Below w w W->R W W cs x->cs.length=7->aR g (#[(Zr cs.toArray)]++caps) W (Zp (P j))):
 aR 60 #[v,bH g caps] w (Zp ((Yz xs.length).any P)):=by
 obtain⟨A,n,c,rfl,hl,hc,hm⟩:=h.form;have y:=aj (eg8 R D _ xs g caps P w h z C);have F: -1<=lL P xs.length:=CV;rw[<-DD];clear h C z hl;simp only[bH]at y⊢
 go_enter func60,ntmps60;go_wp2_with(go_at_call 166;refine y.m ?_;rintro e G ⟨rfl,aC⟩)
 exact zc
def eh0{α:Type}(R:XO->Nat->List XP->α->Prop)(F:jQ R)(v:XP)(xs:List α)(g:Nat)(caps:Array XP)(P:Nat->Bool)(w:XO)(h:ci 10 R w w v xs)(D:d_ g)
 (y:∀(j:Nat)x cs W,xs[j]?=XL x->Below w w W->R W W cs x->cs.length=10->aR g (#[(Zr cs.toArray)]++caps) W (Zp (P j))):
 aR 64 #[v,bH g caps] w (ah (lL P xs.length)):=by
 obtain⟨A,n,c,rfl,hl,hc,hm⟩:=h.form;have H:=aj h;have z:=aj y;have C:=aj hl;unfold d_ at D;simp only[bH];rw[hl];go_enter func64,ntmps64;go_wp2_with fail
 go_loopw [8] (λi wr=>∃k:Nat,k<=n/\i=ah k/\(∀j,j<k->P j=XQ)/\Below w w wr) (λi _=>n - (X8 i).toNat)
 case atStart=>exact⟨0,bU _,rfl,by omega,am w⟩
 case round=>
  obtain⟨k,hk,rfl,dx,hB⟩:=hrel;have HA:=aj dx;by_cases ap:k<n
  .obtain⟨eC,bh⟩:=dt ap;obtain⟨x,hx⟩:=iT C ap;obtain⟨b,o,cs,rfl,fL,ep,hr,bo⟩:=(H.to F hB (ar _) hB.size).at_ hx;have BM:=z k x cs wr hx hB hr ep;obtain⟨u0,u1,u2,u3,u4,u5,u6,u7,u8,u9,rfl⟩:=ek8 ep;refine DF λh0 h1 h2=>?_;have G:=bo 3 _ rfl;have I:=bo 4 _ rfl;have J:=bo 5 _ rfl;have O:=bo 6 _ rfl;have U:=bo 7 _ rfl;have V:=bo 8 _ rfl;have X:=bo 9 _ rfl;simp only[X7]at h0;exact QI
  .exact P3
def eh1{α:Type}(R:XO->Nat->List XP->α->Prop)(D:jQ R)(v:XP)(xs:List α)(g:Nat)(caps:Array XP)(P:Nat->Bool)(w:XO)(h:ci 10 R w w v xs)(z:d_ g)
 (C:∀(j:Nat)x cs W,xs[j]?=XL x->Below w w W->R W W cs x->cs.length=10->aR g (#[(Zr cs.toArray)]++caps) W (Zp (P j))):
 aR 25 #[v,bH g caps] w (Zp ((Yz xs.length).any P)):=by
 obtain⟨A,n,c,rfl,hl,hc,hm⟩:=h.form;have y:=aj (eh0 R D _ xs g caps P w h z C);have F: -1<=lL P xs.length:=CV;rw[<-DD];clear h C z hl;simp only[bH]at y⊢
 go_enter func25,ntmps25;go_wp2_with(go_at_call 64;refine y.m ?_;rintro e G ⟨rfl,aC⟩)
 exact zc
def eh2{α:Type}(R:XO->Nat->List XP->α->Prop)(hR:jQ R)(v:XP)(xs:List α)(g:Nat)(caps:Array XP)(P:Nat->Bool)(w:XO)(h:ci 3 R w w v xs)(z:d_ g)
 (y:∀(j:Nat)x cs W,xs[j]?=XL x->Below w w W->R W W cs x->cs.length=3->aR g (#[(Zr cs.toArray)]++caps) W (Zp (P j))):
 aR 258 #[v,bH g caps] w (ah (lL P xs.length)):=by
 obtain⟨A,n,c,rfl,hl,hc,hm⟩:=h.form;have H:=aj h;have HG:=aj y;have HL:=aj hl;unfold d_ at z;simp only[bH];rw[hl];go_enter func258,ntmps258;exact Xk
def eh3{α:Type}(R:XO->Nat->List XP->α->Prop)(D:jQ R)(v:XP)(xs:List α)(g:Nat)(caps:Array XP)(P:Nat->Bool)(w:XO)(h:ci 3 R w w v xs)(z:d_ g)
 (C:∀(j:Nat)x cs W,xs[j]?=XL x->Below w w W->R W W cs x->cs.length=3->aR g (#[(Zr cs.toArray)]++caps) W (Zp (P j))):
 aR 147 #[v,bH g caps] w (Zp ((Yz xs.length).any P)):=by
 obtain⟨A,n,c,rfl,hl,hc,hm⟩:=h.form;have y:=aj (eh2 R D _ xs g caps P w h z C);have F: -1<=lL P xs.length:=CV;rw[<-DD];clear h C z hl;simp only[bH]at y⊢
 go_enter func147,ntmps147;go_wp2_with(go_at_call 258;refine y.m ?_;rintro e G ⟨rfl,aC⟩)
 exact zc
def eh4{α:Type}(R:XO->Nat->List XP->α->Prop)(hR:jQ R)(v:XP)(xs:List α)(g:Nat)(caps:Array XP)(P:Nat->Bool)(w:XO)(h:ci 3 R w w v xs)(z:d_ g)
 (y:∀(j:Nat)x cs W,xs[j]?=XL x->Below w w W->R W W cs x->cs.length=3->aR g (#[(Zr cs.toArray)]++caps) W (Zp (P j))):
 aR 259 #[v,bH g caps] w (ah (lL P xs.length)):=by
 obtain⟨A,n,c,rfl,hl,hc,hm⟩:=h.form;have H:=aj h;have HG:=aj y;have HL:=aj hl;unfold d_ at z;simp only[bH];rw[hl];go_enter func259,ntmps259;exact Xk
def eh5{α:Type}(R:XO->Nat->List XP->α->Prop)(D:jQ R)(v:XP)(xs:List α)(g:Nat)(caps:Array XP)(P:Nat->Bool)(w:XO)(h:ci 3 R w w v xs)(z:d_ g)
 (C:∀(j:Nat)x cs W,xs[j]?=XL x->Below w w W->R W W cs x->cs.length=3->aR g (#[(Zr cs.toArray)]++caps) W (Zp (P j))):
 aR 154 #[v,bH g caps] w (Zp ((Yz xs.length).any P)):=by
 obtain⟨A,n,c,rfl,hl,hc,hm⟩:=h.form;have y:=aj (eh4 R D _ xs g caps P w h z C);have F: -1<=lL P xs.length:=CV;rw[<-DD];clear h C z hl;simp only[bH]at y⊢
 go_enter func154,ntmps154;go_wp2_with(go_at_call 259;refine y.m ?_;rintro e G ⟨rfl,aC⟩)
 exact zc
def aw6(c:UInt8):∀(l:List UInt8),XN (0<=Lib.indexByte l c)=XN (c∈l)
 |[]=>by simp[Lib.indexByte]
 |b::l=>by
  have z:=aw6 c l;have A:=Lib.indexByte_ge l c;rw[Lib.indexByte];by_cases h:b=c
  .subst h;simp
  .have j:(b==c)=false:=by simpa using h
   rw[j];simp only[Yh,if_false];have y:(c∈b::l)=(c∈l):=by simp[Ne.symm h]
   simp only[y,<-z];by_cases hm:Lib.indexByte l c= -1
   .simp[hm]
   .have:(Lib.indexByte l c== -1)=false:=by simpa using hm
    rw[this];simp only[Yh,if_false,decide_eq_decide];omega
structure j6(w:XO)(F:XP)(p:UInt8->Bool):Prop where
 ex:∃g caps,F=bH g caps/\d_ g/\∀(W:XO)(c:UInt8),Below w w W->aR g (#[.int .u8 c.toNat]++caps) W (Zp (p c))
def j6.later{w w':XO}{F:XP}{p:UInt8->Bool}(h:j6 w F p)(y:Below w w w'):j6 w' F p:=by obtain⟨g,caps,h1,h2,h3⟩:=h.ex;exact⟨g,caps,h1,h2,λW c j=>h3 W c (aq y j)⟩
def j6.congr{w:XO}{F:XP}{p q:UInt8->Bool}(h:j6 w F p)(e:∀c,p c=q c):j6 w F q:=by obtain rfl:p=q:=funext e;exact h
def aw7(s:ByteArray)(w:XO):
 X4 X3 307 #[s] w λe w'=>e=YT (bH 344 #[az w])/\w'=w.alloc (Zq #[s] 9):=by
 refine rF λqa=>?_;go_enter func307,ntmps307
 go_wp2
 go_ret;exact⟨rfl,rfl⟩
def eh6(s:ByteArray)(c:UInt8)(b:Nat)(w:XO)(h:ae w b (X2 s)):
 X4 X3 344 #[.int .u8 c.toNat,az b] w λe w'=>e=YT (Zp (XN (c∈s.data.toList)))/\w'=w:=by
 simp only[az];go_enter func344,ntmps344;go_wp2_with(go_at_call 345;refine(strings_IndexByte s _ _).z ?_)
 go_ret;refine⟨?_,rfl⟩;have:=aw6 c s.data.toList;simpa using this
def aw8(s:ByteArray)(w:XO):j6 (w.alloc (Zq #[s] 9)) (bH 344 #[az w]) (λc=>XN (c∈s.data.toList)):=by refine⟨_,_,rfl,XX func344 aI rfl,λW c j=>?_⟩;have h:ae W w (X2 s):=(j.cell (p:=w) Zy).t jM;exact(eh6 s c w W h).mono λe w'⟨y,z⟩=>⟨y,z▸am W⟩
def eh7(a b:UInt8)(w:XO):
 X4 X3 309 #[.int .u8 a.toNat,.int .u8 b.toNat] w λe w'=>e=YT (bH 346 #[az w,az (w+1)])/\w'=(w.alloc (Zq #[.int .u8 a.toNat] 5)).alloc (Zq #[.int .u8 b.toNat] 5):=by
 refine rF λqa=>?_;go_enter func309,ntmps309
 go_wp2
 go_ret;exact⟨rfl,rfl⟩
def eh8(a b c:UInt8)(p q:Nat)(w:XO)(h:ae w p (.int .u8 a.toNat))(j:ae w q (.int .u8 b.toNat)):
 X4 X3 346 #[.int .u8 c.toNat,az p,az q] w λe w'=>e=YT (Zp (XN (a.toNat<=c.toNat)&&XN (c.toNat<=b.toNat)))/\w'=w:=by
 simp only[az];go_enter func346,ntmps346
 go_wp2
 all_goals
  go_ret;refine⟨?_,rfl⟩;simp_all;try omega
def eh9(a b:UInt8)(w:XO):j6 ((w.alloc (Zq #[.int .u8 a.toNat] 5)).alloc (Zq #[.int .u8 b.toNat] 5)) (bH 346 #[az w,az (w+1)]) (λc=>XN (a.toNat<=c.toNat)&&XN (c.toNat<=b.toNat)):=by refine⟨_,_,rfl,XX func346 aI rfl,λW c j=>?_⟩;have y:ae W w (.int .u8 a.toNat):=(j.cell (p:=w) bN).t jM;have z:aa W (w+1) 0 (.int .u8 b.toNat):=(j.cell (p:=⟨w+1,0,XM⟩) Zy).t jM;exact(eh8 a b c _ _ W y z).mono λe w'⟨A,C⟩=>⟨A,C▸am W⟩
def lM(s:ByteArray):s.data.toList.length=s.size:=Oh
def P4{s:ByteArray}{k:Nat}(h:k<s.size):s.data.toList[k]?=XL s[k]:=by rw[XT (by rw[lM];exact h)];rfl
def Xl{p:UInt8->Bool}:∀{l:List UInt8}{k:Nat},(∀j c,j<k->l[j]?=XL c->p c=XR)->k<=l.length->(k=l.length\/∃c,l[k]?=XL c/\p c=XQ)->(l.takeWhile p).length=k
 |[],k,_,hk,_=>by simp at hk;simp[hk]
 |c::l,0,_,_,h=>by
  rcases h with h|⟨d,y,z⟩
  .simp at h
  .simp at y;subst y;simp[z]
 |c::l,k+1,dx,hk,h=>by
  have A:=dx 0 c Zv Zy;rw[List.takeWhile_cons,if_pos A,YF];have:=Xl (p:=p) (l:=l) (k:=k) (λj d C y=>dx (j+1) d Zv (by simpa using y)) (by simpa using hk) (by
   rcases h with h|⟨d,y,z⟩
   .exact .inl zH
   .exact .inr ⟨d,by simpa using y,z⟩)
  omega
def gN(p:UInt8->Bool)(s:ByteArray):Nat:=(s.data.toList.takeWhile p).length
def Mj(s:ByteArray)(F:XP)(p:UInt8->Bool)(w:XO)(O:s.size<=9223372036854775807)(h:j6 w F p):
 aR 306 #[s,F] w (ah (gN p s)):=by
 unfold gN;obtain⟨g,caps,rfl,eg,hg⟩:=h.ex;have G:=aj hg;unfold d_ at eg;simp only[bH];go_enter func306,ntmps306;go_wp2_with fail
 go_loopw [5] (λi wr=>∃k:Nat,k<=s.size/\i=ah k/\(∀j c,j<k->s.data.toList[j]?=XL c->p c=XR)/\Below w w wr) (λi _=>s.size - (X8 i).toNat)
 case atStart=>exact⟨0,bU _,rfl,by omega,am w⟩
 case round=>
  obtain⟨k,hk,rfl,dx,hB⟩:=hrel;have z:=aj dx;by_cases C:k<s.size
  .obtain⟨eC,bh⟩:=dt C;go_wp2_with fail
   refine(G wr s[k] hB).r λw' I=>?_;have D:=aq hB I;cases hp:p s[k]with
   |true=>
    have A:=aj hp;go_wp2_with fail
    refine⟨⟨k+1,by omega,by go_num,λj c J y=>?_,D⟩,by simp[X8];omega⟩;by_cases e:j=k
    .subst e;rw[P4 C]at y;injection y with y;rw[<-y];exact A
    .exact z j c Zv y
   |false=>
    have A:=aj hp;go_wp2_with fail
    go_ret;refine⟨?_,D⟩;rw[Xl z (by rw[lM];exact hk) (.inr ⟨_,P4 C,A⟩)];rfl
  .go_wp2_with fail
   go_ret;refine⟨?_,hB⟩;rw[Xl z (by rw[lM];exact hk) (.inl (by rw[lM];omega))];rfl
def xG(w:XO)(B:Nat)(cs:List XP)(p:UInt8->Bool):Prop:=
 ∃g caps,cs=[bH g caps]/\d_ g/\∀(W:XO)(c:UInt8),Below B w W->aR g (#[.int .u8 c.toNat]++caps) W (Zp (p c))
def xG.ab:jQ xG:=λw w' B B₂ B' F p⟨g,caps,h,j,y⟩C z D=>⟨g,caps,h,j,λW c A=>y W c ((C.mono z).t (A.mono D))⟩
def j6.toR{w:XO}{F:XP}{p:UInt8->Bool}(h:j6 w F p):xG w w [F] p:=by obtain⟨g,caps,h1,h2,h3⟩:=h.ex;exact⟨g,caps,by rw[h1],h2,h3⟩
def ei0(v:XP)(w:XO)(j:∃A n c,v=Zk A n c):
 X4 X3 347 #[v] w λe w'=>e=YT (bH 368 #[az w])/\w'=w.alloc (Zq #[v] 318):=by
 obtain⟨A,n,c,rfl⟩:=j;refine rF λqa=>?_;go_enter func347,ntmps347
 go_wp2
 go_ret;exact⟨rfl,rfl⟩
def ei1(c:UInt8)(b g:Nat)(caps:Array XP)(r:Bool)(w:XO)(h:ae w b (.int .u8 c.toNat))(z:d_ g)
 (j:aR g (#[.int .u8 c.toNat]++caps) w (Zp r)):
 aR 370 #[bH g caps,az b] w (Zp r):=by
 have y:=aj j;unfold d_ at z;simp only[bH,az];go_enter func370,ntmps370;go_wp2_with fail
 refine y.r λw' A=>?_;go_wp2_with fail
 go_ret;exact⟨rfl,A⟩
def ei2(c:UInt8)(b:Nat)(v:XP)(z:List (UInt8->Bool))(w:XO)(h:ae w b v)(U:b<w)(y:ci 1 xG w w v z):
 aR 368 #[.int .u8 c.toNat,az b] w (Zp (z.any λp=>p c)):=by
 refine rF λqa=>?_;have J:=aj y;obtain⟨A,n,cc,rfl,hl,_,_⟩:=y.form;have C:=el0 xG xG.ab (Zk A n cc) z 370 #[az w] (kg z λp=>p c) (w.alloc (Zq #[.int .u8 c.toNat] 5)) (y.to xG.ab (ak (am w) _) (ar _) Zy) (XX func370 aI rfl)
  (λj x O W hx G I _=>by obtain⟨g,caps,rfl,eg,hg⟩:=I;have F:ae W w (.int .u8 c.toNat):=(G.cell (p:=w) Zy).t jM;rw[fW hx];exact ei1 c _ g caps _ W F eg (hg W c (YI _ _)))
 rw[DE]at C;have D:=aj C;simp only[bH,az]at D⊢
 go_enter func368,ntmps368;go_wp2_with(go_at_call 369;refine D.r λV aC=>?_)
 exact Mk
def ei3(v:XP)(y:List (UInt8->Bool))(w:XO)(A:ci 1 xG w w v y):j6 (w.alloc (Zq #[v] 318)) (bH 368 #[az w]) (λc=>y.any λp=>p c):=by
 refine⟨_,_,rfl,XX func368 aI rfl,λW c j=>?_⟩;have z:ae W w v:=by refine(j.cell (p:=w) Zy).t ?_;rw[Yj];rfl
 exact ei2 c w v y W z (bJ Zy j.size) (A.to xG.ab (aq (ak (am w) _) j) (ar _) (aq (ak (am w) _) j).size)
def Xm(s:ByteArray)(n:Nat):(s.extract n s.size).data.toList=s.data.toList.drop n:=by have h:=lM s;simp[ByteArray.data_extract];exact Ye (by rw[Ym];omega)
def Xn(p:UInt8->Bool)(s:ByteArray)(n:Nat):gN p (s.extract n s.size)=((s.data.toList.drop n).takeWhile p).length:=by unfold gN;rw[Xm]
def Xo{p:UInt8->Bool}:∀(l:List UInt8),l.drop (l.takeWhile p).length=l.dropWhile p
 |[]=>rfl
 |c::l=>by
  rw[List.takeWhile_cons,List.dropWhile_cons];split
  .simp[Xo l]
  .simp
def Ml(p:UInt8->Bool)(l:List UInt8):(l.takeWhile p).length<=l.length:=by
 induction l with
 |nil=>simp
 |cons c l ih=>rw[List.takeWhile_cons];split<;>simp;omega
def ei4(w:XO):j6 w (bH 308 #[]) gI:=by
 refine⟨_,_,rfl,XX func308 aI rfl,λW c _=>?_⟩;show X4 _ _ #[_] _ _;go_enter func308,ntmps308
 go_wp2
 go_ret;refine⟨cD ?_,am W⟩;unfold gI;have:((c.toNat:Int)!=10)= !(c==10):=by
  by_cases h:c=10
  .subst h;rfl
  .have j:(c==10)=false:=by simpa using h
   rw[j];have:c.toNat≠10:=λe=>h (UInt8.toNat_inj.1 e);simp;omega
 simpa using this
def ei5(c:UInt8):XN (c∈(⟨#[32,9,10,13]⟩:ByteArray).data.toList)=iQ c:=by unfold iQ;rw[Yf];simp[or_assoc]
def ei6(w:XO):j6 (w.alloc (Zq #[X2 ⟨#[32,9,10,13]⟩] 9)) (bH 344 #[az w]) iQ:=(aw8 ⟨#[32,9,10,13]⟩ w).congr ei5
def ei7(L:List UInt8)(n:Nat)(J:n<=L.length)(h:cE (L.drop n)=cE L):
 (n+((L.drop n).takeWhile iQ).length<=L.length)/\
 (n+((L.drop n).takeWhile iQ).length=L.length->cE L=[])/\
 (∀c,L[n+((L.drop n).takeWhile iQ).length]?=XL c->c≠35->(cE L).length=L.length - (n+((L.drop n).takeWhile iQ).length))/\
 (L[n+((L.drop n).takeWhile iQ).length]?=some 35->
   n<n+((L.drop n).takeWhile iQ).length+((L.drop (n+((L.drop n).takeWhile iQ).length)).takeWhile gI).length/\
   n+((L.drop n).takeWhile iQ).length+((L.drop (n+((L.drop n).takeWhile iQ).length)).takeWhile gI).length<=L.length/\
   cE (L.drop (n+((L.drop n).takeWhile iQ).length+((L.drop (n+((L.drop n).takeWhile iQ).length)).takeWhile gI).length))=cE L):=by
 have D:=Ml iQ (L.drop n);rw[Ym]at D;have j:L.drop (n+((L.drop n).takeWhile iQ).length)=(L.drop n).dropWhile iQ:=by rw[<-Xo,List.drop_drop]
 generalize hm:n+((L.drop n).takeWhile iQ).length=m at*
 refine⟨by omega,λe=>?_,λc y I=>?_,λy=>?_⟩
 .rw[e,List.drop_length]at j;rw[<-h,Ji j.symm];rfl
 .have z:m<L.length:=(List.getElem?_eq_some_iff.1 y).1;rw[List.drop_eq_getElem_cons z]at j;have C:L[m]=c:=(List.getElem?_eq_some_iff.1 y).2;rw[<-h,Ji j.symm,C];show(if c=35 then cE (List.dropWhile gI (L.drop (m+1)))else c::L.drop (m+1)).length=_;rw[if_neg I];simp;omega
 .have z:m<L.length:=(List.getElem?_eq_some_iff.1 y).1;have C:L[m]=35:=(List.getElem?_eq_some_iff.1 y).2;have A:=List.drop_eq_getElem_cons z;rw[C]at A;have F:(L.drop m).takeWhile gI=35::(L.drop (m+1)).takeWhile gI:=by rw[A];rfl
  rw[F];have G:=Ml gI (L.drop (m+1));rw[Ym]at G;simp only[YF];refine⟨by omega,by omega,?_⟩;have e:m+((L.drop (m+1)).takeWhile gI).length.succ=(m+1)+((L.drop (m+1)).takeWhile gI).length:=Zv;rw[show m+(((L.drop (m+1)).takeWhile gI).length+1)=(m+1)+((L.drop (m+1)).takeWhile gI).length by omega];rw[<-List.drop_drop,Xo,<-h,Ji (s:=L.drop n) (l:=L.drop m) j.symm,A];show _=if(35:UInt8)=35 then cE (List.dropWhile gI (L.drop (m+1)))else(35:UInt8)::L.drop (m+1)
  rw[if_pos rfl]
def Xp{c d:UInt8}(h:c≠d):((c.toNat:Int)!=(d.toNat:Int))=true:=by rw[bne_iff_ne];intro e;exact h (UInt8.toNat_inj.1 Zv)
def aw9(s:ByteArray)(w:XO)(hs:s.size<=16384):
 aR 185 #[s] w (ah ((s.size - (cE s.data.toList).length:Nat):Int)):=by
 go_enter func185,ntmps185;go_wp2_with fail
 go_loopw [3] (λi wr=>∃k:Nat,k<=s.size/\i=ah k/\cE (s.data.toList.drop k)=cE s.data.toList/\Below w w wr) (λi _=>s.size - (X8 i).toNat)
 case atStart=>exact⟨0,bU _,rfl,rfl,am w⟩
 case round=>
  obtain⟨k,hk,rfl,cw7,hB⟩:=hrel;have c:=ei7 s.data.toList k (by rw[lM];exact hk) cw7;have y:=aj c;have eC:(0:Int)<=k:=Zv;have bh:(k:Int)<=s.size:=Zv;have hz:(s.extract k s.size).size<=9223372036854775807:=BC;go_wp2_with fail
  go_region_held3 (λ_=>True) (trivial)
   (first
     |(go_at_call 307;refine(aw7 _ _).z ?_)
     |(go_at_call 306;refine(Mj _ _ iQ _ hz ((ei6 wr).later (aW (am _)))).r λw2 X=>?_))
  rw[Xn];have C:=aq hB (aq (aW (ak (am wr) _)) X);generalize hm:((s.data.toList.drop k).takeWhile iQ).length=d at*
  have hd:k+d<=s.size:=by have:=y.1;rw[lM]at this;exact this
  have U:IntKind.i64.wrap ((k:Int)+(d:Int))=((k+d:Nat):Int):=by rw[Yr _ Zv];omega
  rw[U];have HM:=aj hm;obtain⟨m,hm⟩:∃m,k+d=m:=⟨_,rfl⟩;rw[hm]at hd y;simp only[hm];have D:=aj hm;have hn0:(0:Int)<=m:=Zv;by_cases z:m=s.size
  .have I:((m:Int)==(s.size:Int))=true:=by simp[z]
   have V:=aj z;go_wp2_with fail
   go_ret;refine⟨?_,C⟩;have h0:=y.2.1 (by rw[lM];exact V);rw[h0];show YT (ah (m:Int))=_;rw[V.o];rfl
  .have I:((m:Int)==(s.size:Int))=false:=by simp;omega
   have J:m<s.size:=Zv;have cl0:(m:Int)<s.size:=Zv;have Z:=P4 J;have iz:=aj Z;by_cases j:s[m]=35
   .have Uz:((s[m].toNat:Int)!=35)=false:=by rw[j];rfl
    have c:=y.2.2.2 (by rw[iz.o,j]);have O:=aj c;have Y:(s.extract m s.size).size<=9223372036854775807:=BC;rw[<-Xn]at c;have A:=aj (Mj (s.extract m s.size) _ gI w2 Y (ei4 _));obtain⟨q,hq⟩:∃q,gN gI (s.extract m s.size)=q:=⟨_,rfl⟩;rw[hq]at c A;rw[lM]at c;obtain⟨bZ,bL,kZ⟩:=c;have G:=aj kZ;have F:=D.o;have hr3:k<=m:=Zv;unfold bH at A;go_wp2_with(go_at_call 306;refine A.r λw3 aM=>?_)
    refine⟨⟨m+q,by omega,by go_num,G,aq C aM⟩,by simp[X8];omega⟩
   .have Uz:((s[m].toNat:Int)!=35)=true:=by
     exact Xp j
    have c:=y.2.2.1 _ iz j;rw[lM]at c;have O:=aj c;go_wp2_with fail
    go_ret;refine⟨?_,C⟩;rw[O.o];show YT (ah (m:Int))=_;congr 2;omega
structure iC(w:XO):Prop where
 g:dd w
 sp:Lib.TabIs X3 w "strings.asciiSpace" .u8 Lib.asciiSpaceTab
def iC.below{w w':XO}{B:Nat}(h:iC w)(z:Below B w w')(y:8<=B):iC w' where
 g:=h.g.below z y
 sp:=by
  have e:w'.var? X3 "strings.asciiSpace" =w.var? X3 "strings.asciiSpace" :=by have A:Tryz.prog.globalNamed "strings.asciiSpace" =XL 2:=aI;have C:=z.block 2 (bJ aD y);simp only[World.var?,A];show(match w'.heap[2]? with|some (Obj.cells cs _ _)=>XL cs|_=>XM)=(match w.heap[2]? with|some (Obj.cells cs _ _)=>XL cs|_=>XM);rw[C]
  have j:=h.sp;unfold Lib.TabIs at j⊢
  rw[e];exact j
def iC.step{w w':XO}(h:iC w)(c:Below w w w'):iC w':=h.below c h.g.size
def Mn{l c:List UInt8}(h:bs l=bs c):l=c:=by rw[<-ie l,h,ie]
def ei8(l:List UInt8)(h:l.all (λb=>XN (b.toNat<128))=XR)(j:Nat)(b:UInt8)(c:l[j]?=XL b):b.toNat<128:=by have:=List.all_eq_true.1 h b (eE c);simpa using this
def Xq(w:XO)(c:iC w):
 X4 X3 160 #[] w λe w'=>∃v,e=YT v/\bg w' w' v eL/\Below w w w':=by
 have A:=aj c;go_enter func160,ntmps160;go_wp2_with fail
 refine(strings_Fields _ _ (by decide+kernel) (λj b h=>ei8 _ (by decide+kernel) j b h) A.sp).m ?_;rintro e w' ⟨y,z⟩;rw[show Lib.fields _=eL from by decide+kernel]at y z;subst y z;go_wp2_with fail
 go_ret;refine⟨_,rfl,?_,ak (am w) _⟩;refine⟨_,28,rfl,by decide,by decide,λ_=>⟨w.heap.size,0,rfl,by simp,λj u C=>?_⟩⟩;rw[Yj];simpa[bs]using C
def P5(v:XP)(l:List ay)(s:ay)(w:XO)(B:Nat)(h:bg w B v l):
 X4 X3 159 #[v,bs s] w λe w'=>e=YT (Zp (XN (s∈l)))/\w'=w:=by
 have D:=cP.form h;obtain⟨A,n,c,rfl,hl,hc,hm⟩:=D;rw[XY]at hl;by_cases C:n=0
 .subst C;have:l=[]:=List.eq_nil_of_length_eq_zero hl;subst this;refine(slices_Contains_string_empty A c _ w).mono λe w'⟨y,z⟩=>⟨by rw[y];simp,z⟩
 .obtain⟨b,o,rfl,hb,bo⟩:=cP.at_ h 0 Zv;refine(slices_Contains_string b o n c (l.map bs) (bs s) w (by simp[hl]) Zv (λj F=>bo j (by simp at F;omega))).mono λe w'⟨y,z⟩=>⟨?_,z⟩;rw[y];refine cD ?_;rw[Ye (by simp[hl])];rw[Yf,Lib.containsS_iff];simp only[List.mem_map,decide_eq_true_eq];exact⟨λ⟨x,hx,e⟩=>Mn e▸hx,λhx=>⟨s,hx,rfl⟩⟩
def Gg(w:XO)(p:UInt8->Bool)(e:Zb)(w':XO):Prop:=∃g caps,e=YT (.func (.func g) #[] caps)/\j6 w' (bH g caps) p/\Below w w w'
def ax0(a b:UInt8)(w:XO):X4 X3 309 #[.int .u8 a.toNat,.int .u8 b.toNat] w (Gg w λc=>XN (a.toNat<=c.toNat)&&XN (c.toNat<=b.toNat)):=
 (eh7 a b w).mono λe w'⟨j,h⟩=>⟨_,_,j,h▸eh9 a b w,h▸ak (ak (am w) _) _⟩
def P6(w:XO):X4 X3 309 #[.int .u8 97,.int .u8 122] w (Gg w lQ):=ax0 97 122 w
def Gh(w:XO):X4 X3 309 #[.int .u8 48,.int .u8 57] w (Gg w cy):=ax0 48 57 w
def ax1(s:ByteArray)(w:XO):X4 X3 307 #[s] w (Gg w λc=>XN (c∈s.data.toList)):=
 (aw7 s w).mono λe w'⟨j,h⟩=>⟨_,_,j,h▸aw8 s w,h▸ak (am w) _⟩
def Xr(w:XO):X4 X3 307 #[X2 ⟨#[95]⟩] w (Gg w λc=>c==95):=by
 have h:=ax1 ⟨#[95]⟩ w;have e:(λc:UInt8=>XN (c∈(⟨#[95]⟩:ByteArray).data.toList))=λc=>c==95:=by funext c;rw[Yf];simp
 rw[e]at h;exact h
def ei9(w:XO):X4 X3 307 #[X2 ⟨#[59,44]⟩] w (Gg w λc=>c==59||c==44):=by
 have h:=ax1 ⟨#[59,44]⟩ w;have e:(λc:UInt8=>XN (c∈(⟨#[59,44]⟩:ByteArray).data.toList))=λc=>c==59||c==44:=by funext c;rw[Yf];simp
 rw[e]at h;exact h
def Xs(v:XP)(h:List (UInt8->Bool))(w:XO)(j:ci 1 xG w w v h):X4 X3 347 #[v] w (Gg w λc=>h.any λp=>p c):=by obtain⟨A,n,c,e,_⟩:=j.form;exact(ei0 v w ⟨A,n,c,e⟩).mono λe w'⟨z,y⟩=>⟨_,_,z,y▸ei3 v h w j,y▸ak (am w) _⟩
def ax2(w:XO)(t:Ya)(z:List XP)(y:List (UInt8->Bool))(n:Nat)(A:y.length=n)(F:n<=100)(D:0<n)
 (h:∀(j:Nat)p,y[j]?=XL p->∃v,z[j]?=XL v/\j6 w v p):ci 1 xG (w.alloc (Zq z.toArray t)) (w.alloc (Zq z.toArray t)).heap.size (Zk (XL (w 0 XM)) n n) y:=by
 subst A;refine⟨_,_,rfl,ar _,by simp[Yd];omega,λ_=>⟨w.heap.size,0,rfl,by simp,λj p C=>?_⟩⟩;obtain⟨v,hv,hc⟩:=h j p C;refine⟨[v],rfl,(hc.later (ak (am w) _)).toR,λi u c=>?_⟩
 match i,c with
 |0,c=>injection c with c;subst c;rw[Yj];simpa using hv
def ej0(c:UInt8):([lQ,cy,λc=>c==95]:List (UInt8->Bool)).any (λp=>p c)=di c:=by simp[di,Bool.or_assoc]
def ax3(c:UInt8):([lQ,λc=>c==95]:List (UInt8->Bool)).any (λp=>p c)=gW c:=by simp[gW]
def jZ(k:Nat)(t:ay)(n p:Nat):Value:=Zr #[k,bs t,n,p]
def Mo(w:XO)(r:Except Nat (Nat×ay×Nat))(e:Zb)(w':XO):Prop:=
 Below w w w'/\match r with
  | .error c=>e=YT (.tuple #[jZ 0 [] 0 0,c])
  | .ok (k,t,n)=>e=YT (.tuple #[jZ k t n 0,ah 0])
def Mp(p:UInt8->Bool)(s:ByteArray):s.extract 0 (gN p s)=bs (s.data.toList.takeWhile p):=by
 have h:∀l:List UInt8,l.take (l.takeWhile p).length=l.takeWhile p:=λl=>by have:=List.takeWhile_prefix p (l:=l);exact(List.prefix_iff_eq_take.1 this).symm
 rw[<-nY (s.extract 0 (gN p s))];congr 1;unfold gN;simp[ByteArray.data_extract,h]
def ax4(p:UInt8->Bool)(s:ByteArray):gN p s<=s.size:=by have:=Ml p s.data.toList;rw[lM]at this;exact this
def ef9(s:ByteArray)(w:XO)(hG:iC w)(hs:s.size<=16384):
 X4 X3 310 #[s] w (Mo w (B8 s.data.toList)):=by
 have HG:=aj hG;have hz:s.size<=9223372036854775807:=Zv;have fl:=ax4 di s;have HX:=aj (Mp di s);obtain⟨n,hn⟩:∃n,gN di s=n:=⟨_,rfl⟩;have J:Hid (B8 s.data.toList=if 31<n then .error 8 else if(s.data.toList.takeWhile di)∈eL then .ok (2,s.data.toList.takeWhile di,0)else .ok (1,s.data.toList.takeWhile di,0)):=by rw[<-hn];rfl
 generalize s.data.toList.takeWhile di=t at J HX;have HR:Hid (∀W F,j6 W F di->aR 306 #[s,F] W (ah n)):=λW F h=>by
  have:=Mj s F di W hz h
  rwa [hn]at this
 rw[hn]at fl HX;refine I9 λng gh oz=>?_;go_enter func310,ntmps310;go_wp2_with(go_at_call_of 309 (X1 IntKind.u8 97);refine(P6 _).m ?_;rintro e w1 ⟨g1,c1,rfl,mY,X⟩;have bP:=aq (ak (am w) _) X)
 refine(Gh _).m ?_;rintro e w2 ⟨g2,c2,rfl,D,U⟩;have aZ:=aq bP U;go_wp2_with(go_at_call 307;refine(Xr _).m ?_;rintro e w3 ⟨g3,c3,rfl,uM,A⟩;have du:=aq aZ A)
 have hS:=ax2 w3 272 [bH g1 c1,bH g2 c2,bH g3 c3] [lQ,cy,λc=>c==95] 3 rfl Zv Zv (λj p y=>by
  match j,y with
  |0,y=>injection y with y;subst y;exact⟨_,rfl,mY.later (aq U A)⟩
  |1,y=>injection y with y;subst y;exact⟨_,rfl,D.later A⟩
  |2,y=>injection y with y;subst y;exact⟨_,rfl,uM⟩)
 have hA:=Xs _ _ _ hS;refine hA.m ?_;rintro e w4 ⟨g4,c4,rfl,C_,Y⟩;have gP:=aq (ak du _) Y;go_wp2_with fail
 refine(HR w4 _ (C_.congr ej0)).r λw5 Z=>?_;have kV:=aq gP Z;have jl:=ai (ai (cR w _) X) (aq U (aq A (aq (ak (am w3) _) (aq Y Z))));have mK:=blk_lt jl;refine P7 λc0 yc vK yd f0 f1 f2 f3=>?_;have HB:=aj jl;have C:=aj (HG.step kV);have aT:¬w.heap.size=w5.heap.size:=Zv;have ha5:¬w5.heap.size=w.heap.size:=Zv;by_cases O:31<n
 .have gu2:(31:Int)<n:=by omega
  have I:Hid (31<n):=O;go_wp2_with fail
  refine bodyPost_ret (v:= .tuple #[jZ 0 [] 0 0,ah 8]) (by simp[results,results310,go_sem,jZ,bs,c0,yc,vK,yd]) rfl ?_;rw[J.o,if_pos I.o];exact⟨cV (cV (cV (cV kV (ar _) _) (ar _) _) (ar _) _) (ar _) _,rfl⟩
 .have gu2:¬(31:Int)<n:=by omega
  have I:Hid (¬31<n):=O;have G:Hid (∀v W B,bg W B v eL->X4 X3 159 #[v,X2 (s.extract 0 n)] W λe w'=>e=YT (Zp (XN (t∈eL)))/\w'=W):=λv W B h=>by rw[HX.o];exact P5 v eL t W B h
  cases hk:XN (t∈eL)with
  |true=>
   rw[hk]at G;have V:=aj (of_decide_eq_true hk);go_wp2_with fail
   go_region_held3 (λw'=>aa w' w5 1 (X2 (s.extract 0 n))) (go_simp)
    (first
      |(go_at_call 160;refine(Xq _ (C.step (aW (ak (am w5) _)))).q λw6 v6 z cL=>?_;obtain⟨A6,n6,gt6,rfl,_⟩:=cP.form z;obtain⟨UY,U'⟩:=ak3 cL)
      |(go_at_call 159;refine(G _ _ _ z).m ?_;rintro e w7 ⟨rfl,rfl⟩))
   refine ax5 λgQ fy FB eh t0 t1 t2 t3 q0 q1 q2 q3 r0 r1 r2 r3 p0 p1 p2 p3 ES=>?_;go_wp2_with fail
   refine bodyPost_ret (v:= .tuple #[jZ 2 t 0 0,ah 0]) cf8 rfl ?_;rw[J.o,if_neg I.o,if_pos V.o];exact ax6
  |false=>
   rw[hk]at G;have V:=aj (of_decide_eq_false hk);go_wp2_with fail
   go_region_held3 (λw'=>aa w' w5 1 (X2 (s.extract 0 n))) (go_simp)
    (first
      |(go_at_call 160;refine(Xq _ (C.step (aW (ak (am w5) _)))).q λw6 v6 z cL=>?_;obtain⟨A6,n6,gt6,rfl,_⟩:=cP.form z;obtain⟨UY,U'⟩:=ak3 cL)
      |(go_at_call 159;refine(G _ _ _ z).z ?_))
   refine ax5 λgQ fy FB eh t0 t1 t2 t3 q0 q1 q2 q3 r0 r1 r2 r3 p0 p1 p2 p3 ES=>?_;go_wp2_with fail
   refine bodyPost_ret (v:= .tuple #[jZ 1 t 0 0,ah 0]) cf8 rfl ?_;rw[J.o,if_neg I.o,if_neg V.o];exact ax6
structure eu5 where
 name:Bool
 least:Nat
 most:Nat
 nums:Nat
 alw:Bool
def pL(k:Nat):eu5:=
 match k with
 |0=>⟨XR,0,0,0,XQ⟩
 |1=>⟨XR,0,0,0,XQ⟩
 |2=>⟨XR,2,2,0,XQ⟩
 |3=>⟨XR,1,1,1,XQ⟩
 |4=>⟨XQ,2,2,1,XQ⟩
 |5=>⟨XR,1,16,3,XQ⟩
 |6=>⟨XR,1,16,4,XQ⟩
 |7=>⟨XR,1,1,3,XQ⟩
 |8=>⟨XQ,1,1,2,XQ⟩
 |9=>⟨XQ,0,0,0,XQ⟩
 |10=>⟨XQ,1,1,0,XQ⟩
 |11=>⟨XQ,1,1,1,XR⟩
 |12=>⟨XQ,1,1,1,XQ⟩
 |13=>⟨XQ,2,17,0,XQ⟩
 |14=>⟨XQ,2,2,0,XQ⟩
 |15=>⟨XQ,0,0,1,XQ⟩
 |16=>⟨XQ,1,1,1,XQ⟩
 |_=>⟨XQ,0,0,0,XQ⟩
def DG(k n:Nat):Bool:=if k=9 then XN (1<=n)&&XN (n<=7)else if k=12 then XN (2<=n)&&XN (n<=4)else XN (n=0)
def oJ{k:Nat}(h:k<=16):k=0\/k=1\/k=2\/k=3\/k=4\/k=5\/k=6\/k=7\/k=8\/k=9\/k=10\/k=11\/k=12\/k=13\/k=14\/k=15\/k=16:=Zv
def Qi(d:aG)(k:Nat)(h:k<=16)(c:d.kind=k):
 kf d=(XN ((pL k).least<=d.refs.length)&&(XN (d.refs.length<=(pL k).most)&&(XN (d.nums.length=(pL k).nums)&&(DG k d.by_&&(((pL k).alw|| !d.always)&&(if(pL k).name then bI d.name else XN (d.name=[]))))))):=by
 rcases oJ h with rfl|rfl|rfl|rfl|rfl|rfl|rfl|rfl|rfl|rfl|rfl|rfl|rfl|rfl|rfl|rfl|rfl<;>simp only[kf,c,jf,pL,DG]<;>(rw[Yf];simp[and_assoc,and_comm,and_left_comm])
def eu6(d:aG)(h:16<d.kind):kf d=false:=by unfold kf;split<;>first|omega|rfl
end
section
open Go Go.RowKit Go.Shelf Go.Proofs.Tryz
attribute [local go_sem] Oper.semAt_some
def qw{α:Type}(f:Nat->α)(k:Nat):List α:=(Yz k).map f
def bh8{α:Type}(f:Nat->α)(k:Nat):qw f (k+1)=qw f k++[f k]:=by simp[qw,List.range_succ]
def fe4{α:Type}(f:Nat->α)(k:Nat):(qw f k).length=k:=by simp[qw]
def fe5{α:Type}(l:List α)(d:α):qw (λj=>l.getD j d) l.length=l:=by
 apply List.ext_getElem
 .simp[qw]
 .intro i h c;simp[qw,c]
def fe6{α:Type}(l:List α)(d:α){k:Nat}(h:k<=l.length):qw (λj=>l.getD j d) k=l.take k:=by
 apply List.ext_getElem
 .simp[qw,h]
 .intro i c y;have:i<l.length:=by simp[qw]at c;omega
  simp[qw,this]
def fe7(F:Fence)(n:Nat)(C:F.fn 324)(I:F.round=XM)(O:1<=n)(l y n₀ b off len cap:Nat)(f:Nat->ByteArray)(hreach:len<=1000000)(D:b<n₀)(J z:List ByteArray->XO->Prop)
 (hY:∀pre x W,J pre W->pre.length<len->YieldAt F (n - 1) X3 l #[X2 x] W λe c=>(e=YT (Zp XR)/\J (pre++[x]) c/\Below n₀ W c)\/(e=YT (Zp XQ)/\z (pre++[x]) c))
 (W:XO)(U:ae W y (Zk (XL (b off XM)) len cap))(G:∀j,j<len->W.cell? ⟨b,off+j,XM⟩=XL (X2 (f j)))(A:J [] W):
 CallsIn F n X3 324 #[.func (.yield l) #[] #[],Zs (XL y)] W λe c=>(∃v,e=YT v)/\
  ((∃ys,ys=qw f len/\J ys c)\/(∃pre,(∃k,k<=len/\pre=qw f k)/\z pre c)):=by
 refine callsIn_of_wp func324 rfl C ?_ I;simp only[ntmps324,List.size_toArray,YF,Zn,Nat.reduceAdd,Nat.reduceSub,Array.replicate_succ,Array.replicate_zero,List.push_toArray,List.append_toArray,YA,Yk]
 gi_wp2
 gi_loopw [7] (λi wr=>∃k:Nat,k<=len/\i=ah k/\J (qw f k) wr/\Below n₀ W wr)
  (λi _=>len - (X8 i).toNat)
 case atStart=>exact⟨0,bU _,rfl,A,YI _ _⟩
 case round=>obtain⟨k,hk,rfl,EV,yE⟩:=hrel;have i':k<len->wr.cell? ⟨b,off+k,XM⟩=XL (X2 (f k)):=λh=>(yE.cell (p:=⟨b,off+k,XM⟩) D).t (G k h);exact bh9
def fe8(F:Fence)(n:Nat)(z:F.fn 324)(C:F.round=XM)(l h c:Nat)(A:Option Zf)(J:List ByteArray->XO->Prop)(W:XO)(D:ae W h (Zk A 0 c))(y:J [] W):
 CallsIn F n X3 324 #[.func (.yield l) #[] #[],Zs (XL h)] W λe j=>(∃v,e=YT v)/\J [] j:=by
 refine callsIn_of_wp func324 rfl z ?_ C;simp only[ntmps324,List.size_toArray,YF,Zn,Nat.reduceAdd,Nat.reduceSub,Array.replicate_succ,Array.replicate_zero,List.push_toArray,List.append_toArray,YA,Yk]
 gi_wp2
 gi_loopw [7] (λi wr=>i=ah 0/\J [] wr) (λ_ _=>0)
 case atStart=>exact⟨rfl,y⟩
 case round=>
  obtain⟨rfl,EV⟩:=hrel
  gi_wp2
  go_end0
  exact⟨⟨_,rfl⟩,EV⟩
def ZP(a:Option Zf)(len cap:Nat)(w:XO):
 X4 X3 210 #[Zk a len cap] w λe w'=>e=YT (bH 324 #[az w])/\w'=w.alloc (Zq #[Zk a len cap] 22):=by
 simp only[bH,az];go_enter func210,ntmps210
 go_wp2
 go_ret;exact⟨rfl,rfl⟩
def fe9(F:Fence)(n:Nat)(D:F.fn 324)(I:F.round=XM)(hn:1<=n)(y n₀:Nat)(O:XP)(zs:List ByteArray)(hreach:zs.length<=1000000)(w:XO)(kW:y<w)(hn₀:n₀<=w)
 (hc:ae w y O)(X:Sl w n₀ O (zs.map (X2))):
 SeqStopsK F n X3 324 #[Zs (XL y)] (λx:ByteArray=> #[X2 x]) (Below n₀) (λys=>ys=zs) (λpre=>pre<+:zs) zs.length w:=λl J U W G _ _ Y C=>by
 have z:=(G.cell (p:=y) kW).t hc;rcases(X.below (G.mono hn₀)).cases_ with⟨he,A,c,rfl,_⟩|⟨jx,b,off,cap,rfl,_,_,Z,V⟩
 .have hz:zs=[]:=by simpa using he
  subst hz;exact(fe8 F n D I l y c A J W z C).mono λe W'⟨he,hj⟩=>⟨he,.inl ⟨_,rfl,hj⟩⟩
 .rw[XY]at z;refine(fe7 F n D I hn l y n₀ b off zs.length cap (λj=>zs.getD j default) hreach Z J U Y W z (λj hj=>V j _ (by simp[hj])) C).mono ?_;exact bi0
def ff0(F:Fence)(n:Nat)(C:F.fn 327)(I:F.round=XM)(O:1<=n)(l y n₀ b off len cap:Nat)(f:Nat->Int)(hreach:len<=1000000)(D:b<n₀)(J z:List Int->XO->Prop)
 (hY:∀pre x W,J pre W->pre.length<len->YieldAt F (n - 1) X3 l #[ah x] W λe c=>(e=YT (Zp XR)/\J (pre++[x]) c/\Below n₀ W c)\/(e=YT (Zp XQ)/\z (pre++[x]) c))
 (W:XO)(U:ae W y (Zk (XL (b off XM)) len cap))(G:∀j,j<len->W.cell? ⟨b,off+j,XM⟩=XL (ah (f j)))(A:J [] W):
 CallsIn F n X3 327 #[.func (.yield l) #[] #[],Zs (XL y)] W λe c=>(∃v,e=YT v)/\
  ((∃ys,ys=qw f len/\J ys c)\/(∃pre,(∃k,k<=len/\pre=qw f k)/\z pre c)):=by
 refine callsIn_of_wp func327 rfl C ?_ I;simp only[ntmps327,List.size_toArray,YF,Zn,Nat.reduceAdd,Nat.reduceSub,Array.replicate_succ,Array.replicate_zero,List.push_toArray,List.append_toArray,YA,Yk]
 gi_wp2
 gi_loopw [7] (λi wr=>∃k:Nat,k<=len/\i=ah k/\J (qw f k) wr/\Below n₀ W wr)
  (λi _=>len - (X8 i).toNat)
 case atStart=>exact⟨0,bU _,rfl,A,YI _ _⟩
 case round=>obtain⟨k,hk,rfl,EV,yE⟩:=hrel;have i':k<len->wr.cell? ⟨b,off+k,XM⟩=XL (ah (f k)):=λh=>(yE.cell (p:=⟨b,off+k,XM⟩) D).t (G k h);exact bh9
def ff1(F:Fence)(n:Nat)(z:F.fn 327)(C:F.round=XM)(l h c:Nat)(A:Option Zf)(J:List Int->XO->Prop)(W:XO)(D:ae W h (Zk A 0 c))(y:J [] W):
 CallsIn F n X3 327 #[.func (.yield l) #[] #[],Zs (XL h)] W λe j=>(∃v,e=YT v)/\J [] j:=by
 refine callsIn_of_wp func327 rfl z ?_ C;simp only[ntmps327,List.size_toArray,YF,Zn,Nat.reduceAdd,Nat.reduceSub,Array.replicate_succ,Array.replicate_zero,List.push_toArray,List.append_toArray,YA,Yk]
 gi_wp2
 gi_loopw [7] (λi wr=>i=ah 0/\J [] wr) (λ_ _=>0)
 case atStart=>exact⟨rfl,y⟩
 case round=>
  obtain⟨rfl,EV⟩:=hrel
  gi_wp2
  go_end0
  exact⟨⟨_,rfl⟩,EV⟩
def bi1(a:Option Zf)(len cap:Nat)(w:XO):
 X4 X3 213 #[Zk a len cap] w λe w'=>e=YT (bH 327 #[az w])/\w'=w.alloc (Zq #[Zk a len cap] 30):=by
 simp only[bH,az];go_enter func213,ntmps213
 go_wp2
 go_ret;exact⟨rfl,rfl⟩
def ff2(F:Fence)(n:Nat)(D:F.fn 327)(I:F.round=XM)(hn:1<=n)(y n₀:Nat)(O:XP)(zs:List Int)(hreach:zs.length<=1000000)(w:XO)(kW:y<w)(hn₀:n₀<=w)
 (hc:ae w y O)(X:Sl w n₀ O (zs.map (X1 .i64))):
 SeqStopsK F n X3 327 #[Zs (XL y)] (λx:Int=> #[X1 .i64 x]) (Below n₀) (λys=>ys=zs) (λpre=>pre<+:zs) zs.length w:=λl J U W G _ _ Y C=>by
 have z:=(G.cell (p:=y) kW).t hc;rcases(X.below (G.mono hn₀)).cases_ with⟨he,A,c,rfl,_⟩|⟨jx,b,off,cap,rfl,_,_,Z,V⟩
 .have hz:zs=[]:=by simpa using he
  subst hz;exact(ff1 F n D I l y c A J W z C).mono λe W'⟨he,hj⟩=>⟨he,.inl ⟨_,rfl,hj⟩⟩
 .rw[XY]at z;refine(ff0 F n D I hn l y n₀ b off zs.length cap (λj=>zs.getD j default) hreach Z J U Y W z (λj hj=>V j _ (by simp[hj])) C).mono ?_;exact bi0
attribute [local go_sem] Oper.semAt_some
def ff3(F:Fence)(n:Nat)(Z:F.fn 353)(I:F.fn 324)(A:F.round=XM)(hn:3<=n)(j:Nat)(C:XP)(y:List ByteArray)(U:y.length<=1000000)(w:XO)(kW:j<w)
 (X:ae w j C)(hI:Sl w w C (y.map (X2))):
 CallsIn F n X3 353 #[Zk XM 0 0,.func (.func 324) #[] #[Zs (XL j)]] w λe G=>∃v,e=YT v/\G.ownsRow w 9 1 v y.length (y.map (X2))/\Below w w G:=by
 have Y:1<=n:=Zv;refine Qb λi0 hi cA a_ bd=>?_;refine callsIn_of_wp_marks func353 rfl Z ?_ A;simp only[ntmps353,List.size_toArray,YF,Zn,Nat.reduceAdd,Nat.reduceSub,Array.replicate_succ,Array.replicate_zero,List.push_toArray,List.append_toArray,YA,Yk]
 gi_wp2
 have V:=Boxed.new w 22 (Zk XM 0 0);have z:Below w w (w.alloc (Zq #[Zk XM 0 0] 22)):=(YI _ w).alloc (ar _) _;refine wpIn_rangeFunc_ownG A Y (gf:=324) (lb:= #[Zs (XL j)]) rfl I (XX func324 aI rfl)
  (fe9 F (n - 1) I A Zv j w C y U (w.alloc (Zq #[Zk XM 0 0] 22)) bN Zy ((z.cell (p:=j) kW).t X) (hI.below z)) belowK_t (belowK_b Zy) (YI _ _) (λ_=>rfl)
  (λpre W=>(∃v,Boxed W w 22 v/\W.ownsRow w 9 1 v pre.length (pre.map (X2))/\True)/\Below w w W)
  (λ_ _ _=>False)
  (OwnFrom.and (Own.from (holdsRow_own w w 22 9 1 (λpre:List ByteArray=>pre.length) (λpre=>pre.map (X2)) λ_ _=>True) _) (ownFrom_below (ar _) Zy))
  (λ_ _ _ _ _ hs _ _=>hs)
  ⟨⟨_,V,Yc _ _ _ _,trivial⟩,z⟩
  (λx=>{tmps:= #[Zk XM 0 0,.func (.func 324) #[] #[Zs (XL j)],Zs (XL w),YQ,Zk XM 0 0,X2 x,.func (.func 324) #[] #[Zs (XL j)],X2 x,YQ,YQ,YQ,YQ,YQ],defers:=[]}) ?assign ?body ?done ?stop
 case assign=>
  intro l x W K hK
  gi_wp2
  exact hK
 case body=>
  rintro l pre x W ⟨⟨v,hv,eJ,_⟩,hB⟩ ap;have hc:=hv.cell
  gi_wp2_with (gi_at_builtin;refine wpListIn_append_own _ rfl _ _ 22 rfl w.heap.size 9 i0 (X2 ⟨#[]⟩) 1 16 Zo hi cA a_ bd rfl aD _ _ _ rfl (eJ.alloc _) (W 0 XM) 1 1 [X2 x] rfl rfl (cell_one_new _ _ _) uF uE Zv (by have:=hB.size;simp;omega) ?_;intro v' w1 J O _;obtain⟨g',cap',rfl⟩:=ownsRow_succ J;obtain⟨fS,k_,cZ,gD,au⟩:=hv.appended aD eJ hB.size (ar _) J O;have br:=fS.cell;have bM:=fS.frozen)
  exact⟨gD.from _,au,⟨_,k_,by simpa using cZ,trivial⟩,hB.t au⟩
 case done=>exact bi2
 case stop=>rintro D c pre W _ _ h _;exact h.elim
def ff4(F:Fence)(n:Nat)(Z:F.fn 356)(I:F.fn 327)(A:F.round=XM)(hn:3<=n)(j:Nat)(C:XP)(y:List Int)(U:y.length<=1000000)(w:XO)(kW:j<w)
 (X:ae w j C)(hI:Sl w w C (y.map (X1 .i64))):
 CallsIn F n X3 356 #[Zk XM 0 0,.func (.func 327) #[] #[Zs (XL j)]] w λe G=>∃v,e=YT v/\G.ownsRow w 3 1 v y.length (y.map (X1 .i64))/\Below w w G:=by
 have Y:1<=n:=Zv;refine L5 λi0 hi cA a_ bd=>?_;refine callsIn_of_wp_marks func356 rfl Z ?_ A;simp only[ntmps356,List.size_toArray,YF,Zn,Nat.reduceAdd,Nat.reduceSub,Array.replicate_succ,Array.replicate_zero,List.push_toArray,List.append_toArray,YA,Yk]
 gi_wp2
 have V:=Boxed.new w 30 (Zk XM 0 0);have z:Below w w (w.alloc (Zq #[Zk XM 0 0] 30)):=(YI _ w).alloc (ar _) _;refine wpIn_rangeFunc_ownG A Y (gf:=327) (lb:= #[Zs (XL j)]) rfl I (XX func327 aI rfl)
  (ff2 F (n - 1) I A Zv j w C y U (w.alloc (Zq #[Zk XM 0 0] 30)) bN Zy ((z.cell (p:=j) kW).t X) (hI.below z)) belowK_t (belowK_b Zy) (YI _ _) (λ_=>rfl)
  (λpre W=>(∃v,Boxed W w 30 v/\W.ownsRow w 3 1 v pre.length (pre.map (X1 .i64))/\True)/\Below w w W)
  (λ_ _ _=>False)
  (OwnFrom.and (Own.from (holdsRow_own w w 30 3 1 (λpre:List Int=>pre.length) (λpre=>pre.map (X1 .i64)) λ_ _=>True) _) (ownFrom_below (ar _) Zy))
  (λ_ _ _ _ _ hs _ _=>hs)
  ⟨⟨_,V,Yc _ _ _ _,trivial⟩,z⟩
  (λx=>{tmps:= #[Zk XM 0 0,.func (.func 327) #[] #[Zs (XL j)],Zs (XL w),YQ,Zk XM 0 0,X1 .i64 x,.func (.func 327) #[] #[Zs (XL j)],X1 .i64 x,YQ,YQ,YQ,YQ,YQ],defers:=[]}) ?assign ?body ?done ?stop
 case assign=>
  intro l x W K hK
  gi_wp2
  exact hK
 case body=>
  rintro l pre x W ⟨⟨v,hv,eJ,_⟩,hB⟩ ap;have hc:=hv.cell
  gi_wp2_with (gi_at_builtin;refine wpListIn_append_own _ rfl _ _ 30 rfl w.heap.size 3 i0 (ah 0) 1 8 underlying30 hi cA a_ bd rfl aD _ _ _ rfl (eJ.alloc _) (W 0 XM) 1 1 [X1 .i64 x] rfl rfl (cell_one_new _ _ _) uF uE Zv (by have:=hB.size;simp;omega) ?_;intro v' w1 J O _;obtain⟨g',cap',rfl⟩:=ownsRow_succ J;obtain⟨fS,k_,cZ,gD,au⟩:=hv.appended aD eJ hB.size (ar _) J O;have br:=fS.cell;have bM:=fS.frozen)
  exact⟨gD.from _,au,⟨_,k_,by simpa using cZ,trivial⟩,hB.t au⟩
 case done=>exact bi2
 case stop=>rintro D c pre W _ _ h _;exact h.elim
end
section
open Go Go.RowKit Go.Proofs.Tryz
def R4:Go.Shelf.Ren:=⟨fun|166=>16|169=>22|240=>46|276=>138|n=>n,fun|37=>51|70=>50|72=>53|75=>55|80=>64|127=>108|164=>174|n=>n,λn=>n⟩
def ge1:Lays.n166 X3 R4:=cf9
def ge2:Lays.n169 X3 R4:=cf9
def bx9:Builder.Extra X3 R4:=by constructor;all_goals first|(intros;kernel_rfl)|decide|(constructor<;>first|(intros;kernel_rfl)|decide)
def rP(B b:Nat)(l:ay)(w:XO):Prop:=Lib.IsBuilderF 53 5 B b (Lib.byteCells l) w
def rP.new(w:XO){B:Nat}(c:B<=w):rP B w [] (w.alloc (Zq #[Zs XM,Zk XM 0 0] 53)):=
 .inl ⟨c,_,cR w _,World.ownsRowF_nil _ _ _ _,by simp[YC]⟩
def rP.later{B b:Nat}{l:ay}{w w':XO}(h:rP B b l w)(y:Below w w w'):rP B b l w':=by
 have key:∀p,Lib.BuilderAtF 53 5 B b p (Lib.byteCells l) w->Lib.BuilderAtF 53 5 B b p (Lib.byteCells l) w':=by
  rintro p ⟨A,v,C,⟨D,j⟩,F⟩;refine⟨A,v,ai C y,⟨D,?_⟩,F⟩;rcases j with j|⟨g,cap,c,z,e,G,I,J⟩
  .exact .inl j
  .exact .inr ⟨g,cap,c,z,e,G,ai I y,J⟩
 exact h.elim (λh=> .inl (key _ h)) λh=> .inr (key _ h)
def Rr(B b:Nat)(l s:ay)(w:XO)(h:rP B b l w)(A:l.length+s.length<=100000000)(z:B<=w):
 X4 X3 16 #[Zs (XL b),bs s] w λe w'=>e=YT (.tuple #[ah (bs s).size,.nilIface])/\rP B b (l++s) w'/\Below B w w'/\Lib.OthersKept 5 (XL b) w w':=by
 refine(Any.Builder_WriteString_k ge1 bx9 B b _ (bs s) w h (by rw[Lib.byteCells_length];show l.length+s.length<=_;omega) z).m ?_;rintro e w' ⟨c,j,y⟩;refine⟨c,.inr ?_,y⟩;rw[Lib.byteCells_append];exact j
def by0(B b:Nat)(l:ay)(w:XO)(h:rP B b l w)(c:B<=w):
 X4 X3 22 #[Zs (XL b)] w λe w'=>e=YT (X2 (bs l))/\Below B w w':=
 (Any.Builder_String_any_k ge2 bx9 B b l w h c).mono λe w' h=>⟨h.1,h.2.2.1⟩
def Ni(n:Int)(hn:aN n)(w:XO):
 aR 78 #[n] w (X2 (bs (XS n))):=by
 have U:=aj hn;clear hn;have gx4:=ah4;go_enter func78,ntmps78
 go_wp2
 go_loopw [3,4] (λs m wr=>∃(l:List UInt8)(k:Int),s=X2 (bs l)/\m=ah k/\aN k/\Ax n l k/\Below w w wr) (λs m _=>PY s m)
 case atStart=>exact⟨[],n,rfl,rfl,U,.inl ⟨rfl,rfl⟩,YI _ _⟩
 case round=>
  obtain⟨l,k,rfl,rfl,⟨lB,gD⟩,hd,hb⟩:=hrel;have X:=hd.len U.o;have bm:(bs l).size<=20:=by rw[eM];exact X
  have G:=aj hd;clear hd X;by_cases j:l=[]\/k≠0
  .have I:=aj j;have Z:(((bs l).toList==[])=true\/((bs l).toList==[])=false):=by cases((bs l).toList==[])<;>simp
   have y:((bs l).toList==[])=XQ->(k !=0)=true:=λh=>by
    rcases j with rfl|j
    .rw[je]at h;simp[bs]at h
    .simp[j]
   clear j;have F:∀x,(bs [x]).size<=1:=λx=>by rw[eM];exact ar _
   by_cases jx:0<=k
   .have m1:0<=k%10:=by omega
    have m2:k%10<=9:=Zv;have Y:=F (Y2 (48+k%10).toNat);clear F;have c:=fun(W:XO)(D:Below w w W)=>WL (W:=W) ⟨lB,gD⟩ G I (show k%10=k.natAbs%10 by omega) (show k / 10=k.tdiv 10 by rw[Int.tdiv_eq_ediv_of_nonneg jx]) D;rcases Z with z|z
    .clear y
     go_wp2
     exact c _ (hb.alloc hb.size _)
    .have hk:=y z;clear y
     go_wp2
     exact c _ (hb.alloc hb.size _)
   .have m1:k.tmod 10<=0:=by
     have:=Int.tmod_nonneg (a:= -k) 10 Zv;rw[Int.neg_tmod]at this;omega
    have m2: -9<=k.tmod 10:=by have:=Int.tmod_lt_of_pos (-k) (b:=10) Zv;rw[Int.neg_tmod]at this;omega
    have Y:=F (Y2 (48+ -k.tmod 10).toNat);have bL:=F (Y2 (48+k.tmod 10).toNat);clear F;have ed: -k.tmod 10=k.natAbs%10:=by have C:=Int.tmod_eq_emod_of_nonneg (a:= -k) (b:=10) Zv;rw[Int.neg_tmod]at C;omega
    have c:=fun(W:XO)(D:Below w w W)=>WL (W:=W) ⟨lB,gD⟩ G I ed rfl D;have A:0<=k.tmod 10->k.tmod 10=k.natAbs%10:=λh=>by omega
    have fin0:=fun(W:XO)(h:0<=k.tmod 10)(D:Below w w W)=>WL (W:=W) ⟨lB,gD⟩ G I (A h) rfl D;clear ed A;have Fin:=aj c;have Fin0:=aj fin0;clear c fin0;rcases Z with z|z
    .clear y
     go_wp2
     all_goals first|exact Fin _ (hb.alloc hb.size _)|exact Fin0 _ ‹_› (hb.alloc hb.size _)
    .have hk:=y z;clear y
     go_wp2
     all_goals first|exact Fin _ (hb.alloc hb.size _)|exact Fin0 _ ‹_› (hb.alloc hb.size _)
  .have C:l≠[]:=λh=>j (.inl h);have J:k=0:=Classical.byContradiction λh=>j (.inr h);clear j;have z:=ds7 l C;have V:Lib.decDigits n.natAbs=l:=G.done C J;have O:=aj V;have y:(k !=0)=false:=by simp[J]
   have Y:(bs [45]).size<=1:=by rw[eM];exact ar _
   clear V C J
   go_wp2
   all_goals go_ret
   .refine⟨?_,hb⟩;refine mQ (a:=bs [45]++bs l) ?_;rw[<-O.o,XS,if_pos ‹_›,fU];rfl
   .refine⟨?_,hb⟩;have:¬n<0:=by omega
    refine mQ (a:=bs l) ?_;rw[<-O.o,XS,if_neg this];congr 2;omega
def Se(n:Int)(c:aN n)(w:XO):
 aR 75 #[n] w (X2 (bs (XS n))):=by
 obtain⟨h1,h2⟩:=c;go_enter func75,ntmps75;go_wp2_with(go_at_call 78;refine(Ni _ ⟨‹_›,‹_›⟩ _).r λj aC=>?_)
 exact zc
def cb0:Array Value:=((Yz 18).map λk=>X2 (bs (cb k))).toArray
def gh3{n k:Nat}{f:Nat->XP}(h:k<n):((Yz n).map f)[k]?=XL (f k):=by rw[X5,List.getElem?_range h];rfl
def yZ(k:Nat)(h:k<18)(w:XO):aR 76 #[k] w (X2 (bs (cb k))):=by
 have C:(0:Int)<=k:=Zv;have D:(k:Int)<18:=Zv;have z:=aj (gh3 (f:=λk=>X2 (bs (cb k))) h);go_enter func76,ntmps76;go_upto_region 2 with(fail)
 refine ez (λW=>Below w w W/\af W w.heap.size cb0 9) ⟨ak (am w) _,cR w _⟩ ?_;intro A ⟨j,hx⟩;have c:aa A w k (X2 (bs (cb k))):=ag hx (by unfold cb0;rw[List.getElem?_toArray];exact z);have y:=aj j;go_wp2_with fail
 go_ret;exact⟨rfl,y⟩
def Gv(v:XP)(l:List Int)(w:XO)(h:aS w w v l)(C:l.length<=100000):
 aR 77 #[v] w (X2 (bs (fV l))):=by
 obtain⟨A,n,c,rfl,hn,hc,hm⟩:=h.form;have HL:=aj hn;have H:=aj h;have I:n<=100000:=Zv;go_enter func77,ntmps77;go_wp2_with fail
 go_loopw [3,4] (λs i wr=>∃k:Nat,k<=n/\i=ah k/\s=X2 (bs (fV (l.take k)))/\Below w w wr) (λ_ i _=>n - (X8 i).toNat)
 case atStart=>exact⟨0,bU _,rfl,rfl,am w⟩
 case round=>
  obtain⟨k,hk,rfl,rfl,hb⟩:=hrel;have G:(bs (fV (l.take k))).size<=2200000:=by rw[eM];have:=al5 (l.take k) λx hx=>H.2 x (List.mem_of_mem_take hx);rw[YK]at this;omega
  by_cases ap:k<n
  .obtain⟨b,o,rfl,BK,bo⟩:=(H.below hb (ar _)).at_ k ap;have F:=bo k ap;have j:aN (cY l k):=H.2 _ (al7 (by rw[HL.o];exact ap));have D:(bs (Lib.itoa (cY l k))).size<=21:=by rw[eM];exact Lib.itoa_length_le _ j.1 j.2
   have J:(bs (fV (l.take k))++⟨#[32]⟩:ByteArray).size<=2200001:=by rw[ByteArray.size_append];have:(⟨#[32]⟩:ByteArray).size=1:=rfl;omega
   have y:Hid (bs (fV (l.take (k+1)))=bs (fV (l.take k))++⟨#[32]⟩++bs (XS (cY l k))):=by rw[al6 l k Ho,dr1];show bs (fV (l.take k)++(32::XS (cY l k)++[]))=bs (fV (l.take k))++bs [32]++bs (XS (cY l k));rw[fU,fU];simp
   go_wp2_with(go_at_call 75;refine(Se _ j _).r λO z=>?_)
   exact⟨⟨k+1,by omega,by go_num,by rw[y.o],aq hb z⟩,by simp[X8];omega⟩
  .go_wp2_with fail
   go_ret;refine⟨mQ (by rw[Ye (by rw[HL.o];omega)]),hb⟩
end
end Go.Proofs.YtihhpjmclebfpaaGreatDoor
