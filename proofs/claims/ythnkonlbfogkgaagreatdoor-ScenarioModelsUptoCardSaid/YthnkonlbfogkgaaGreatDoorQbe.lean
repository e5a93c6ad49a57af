/- A part of the proof. -/
import Derived.Test.YthnkonlbfogkgaaGreatDoorQbd
set_option linter.unusedVariables false
set_option linter.unusedSimpArgs false
set_option maxRecDepth 100000
set_option maxHeartbeats 32000000
namespace Go.Proofs.YthnkonlbfogkgaaGreatDoor
section
open Go Go.RowKit Tryz
def bK (c:UInt8) (w:ai):Prop:= ∀x∈w,x≠c
theorem bK.append {c:UInt8} {a b:ai} (ha:bK c a) (hb:bK c b):bK c (a++b):=fun x hx=>(List.mem_append.1 hx).elim (ha x) (hb x)
theorem bK.cons {c x:UInt8} {b:ai} (ha:x≠c) (hb:bK c b):bK c (x::b):=fun y hy=>by
 rcases List.mem_cons.1 hy with rfl|hy
 ·exact ha
 ·exact hb y hy
theorem bK.tail {c x:UInt8} {b:ai} (h:bK c (x::b)):bK c b:=fun y hy=>h y (by simp[hy])
theorem xe {c x:UInt8} {t l:ai} (h:x≠c):(c::t).isPrefixOf (x::l)=false:=by simp[List.isPrefixOf,Ne.symm h]
theorem xf (c:UInt8) (t:ai): ∀(w r:ai),bK c w→Lib.index (w++((c::t)++r)) (c::t)=w.length
 |[],r,_=>by
  show Lib.index (c::(t++r)) (c::t)=_
  rw[Lib.index,if_pos (by simp)]
  rfl
 |x::w,r,h=>by
  have ih:=xf c t w r h.tail
  show Lib.index (x::(w++((c::t)++r))) (c::t)=_
  rw[Lib.index,ih,xe (h x (by simp))]
  have hne:((w.length:Int)== -1)=false:=by simp
  simp[hne]
theorem xg (c:UInt8) (t:ai): ∀(w:ai),bK c w→Lib.index w (c::t)= -1
 |[],_=>by simp[Lib.index]
 |x::w,h=>by
  rw[Lib.index,xg c t w h.tail,xe (h x (by simp))]
  simp
theorem mY (c:UInt8) (t w:ai) (h:bK c w):Lib.split w (c::t)=[w]:=by
 unfold Lib.split
 rw[Lib.count_miss (xg c t w h)];rfl
theorem oS (c:UInt8) (t w r:ai) (h:bK c w):Lib.split (w++((c::t)++r)) (c::t)=w::Lib.split r (c::t):=by
 have hi:=xf c t w r h
 have e:(w++((c::t)++r)).drop (w.length+(c::t).length)=r:=by
  rw[←List.append_assoc]
  exact List.drop_left' (by simp)
 unfold Lib.split
 rw[Lib.count_hit (by simp) hi,Nat.add_comm,Lib.splitK,hi]
 have hne:((w.length:Int)== -1)=false:=by simp
 simp only[hne,Bool.false_eq_true,if_false,Int.toNat_natCast,Nat.add_zero]
 rw[e]
 simp
theorem xh (c:UInt8) (t:ai): ∀(w:ai) (r:List ai),(∀x∈w::r,bK c x)→Lib.split (fi (c::t) (w::r)) (c::t)=w::r
 |w,[],h=>mY c t w (h w (by simp))
 |w,x::r,h=>by
  show Lib.split (w++(c::t)++fi (c::t) (x::r)) (c::t)=_
  rw[List.append_assoc,oS c t w _ (h w (by simp)),xh c t x r fun y hy=>h y (by simp at hy⊢;exact .inr hy)]
theorem xi: ∀(l:List ai),(∀x∈l,bK 10 x)→Lib.split (bb l) [10]=l++[[]]
 |[],_=>mY 10 [] [] (by simp[bK])
 |x::l,h=>by
  have e:bb (x::l)=x++(([10]:ai)++bb l):=by simp[bb]
  rw[e,oS 10 [] x _ (h x (by simp)),xi l fun y hy=>h y (by simp[hy])]
  rfl
theorem EN (l:List ai) (h: ∀x∈l,bK 10 x):aX (bb l)=l:=by
 unfold aX
 rw[xi l h]
 simp
def cN (s:ai):Bool:=fA.isPrefixOf s
theorem rh: ∀(D:List ai) (c:ai) (R:List ai),(∀x∈D,cN x=false)→cN c=true→(D++c::R).findIdx? (fun s=>fA.isPrefixOf s)=some D.length
 |[],c,R,_,h=>by
  have h':fA.isPrefixOf c=true:=h
  simp[List.findIdx?_cons,h']
 |x::D,c,R,hD,h=>by
  have h':fA.isPrefixOf x=false:=hD x (by simp)
  have ih:=rh D c R (fun y hy=>hD y (by simp[hy])) h
  rw[List.cons_append,List.findIdx?_cons,h',ih]
  simp
theorem EO (D:List ai) (c:ai) (R:List ai) (hD: ∀x∈D,cN x=false) (hc:cN c=true) (hlf: ∀x∈D++c::R,bK 10 x) (hlen:(bb (D++c::R)).length≤65536):
 fk (bb (D++c::R))=
  match dP (bb D) with
  | .error x=> .error (ju (bb D) x.1,x.2)
  | .ok ds=>match dL ds with
    | .error x=> .error (0,x.2)
    | .ok m=>match gC c with
      |none=> .error (D.length+1,3)
      |some q=>match dD (D.length+2) [] R with
       | .error x=> .error x
       | .ok acts=>if iT ⟨m,q.1,q.2,acts⟩ then .ok ⟨m,q.1,q.2,acts⟩ else .error (D.length+1,1):=by
 have h1:(D++c::R).take D.length=D:=by simp
 have h2:(D++c::R).getD D.length []=c:=by simp
 have h3:(D++c::R).drop (D.length+1)=R:=by
  rw[List.drop_append];simp
 unfold fk
 rw[if_neg (by omega),EN _ hlf,rh D c R hD hc]
 simp only[h1,h2,h3]
 rfl
theorem xj {c:UInt8} (h:c.toNat<48∨57<c.toNat) (n:Nat):bK c (Lib.decDigits n):=fun x hx e=>by
 subst e
 have:=lF _ _ (ae _) _ hx
 omega
theorem oT {c:UInt8} (h:c.toNat<48∨57<c.toNat) (h2:c≠45) (v:Int):bK c (Lib.itoa v):=by
 unfold Lib.itoa
 split
 ·exact .cons (Ne.symm h2) (xj h _)
 ·exact xj h _
theorem ri {c:UInt8} {sep:ai} (hs:bK c sep): ∀(l:List ai),(∀x∈l,bK c x)→bK c (fi sep l)
 |[],_=>by simp[bK,fi]
 |[a],h=>h a (by simp)
 |a::b::l,h=>((h a (by simp)).append hs).append (ri hs (b::l) fun y hy=>h y (by simp at hy⊢;exact .inr hy))
theorem EQ (s:fX):cN (dO s)=true:=by
 unfold cN dO
 rw[List.append_assoc,List.append_assoc]
 exact List.isPrefixOf_iff_prefix.2 ⟨_,rfl⟩
theorem ER (s:fX):bK 10 (dO s):=by
 unfold dO
 refine((bK.append ?_ (ri (by unfold bK;decide) _ fun x hx=> ?_)).append ?_).append (oT (by decide) (by decide) _)
 ·unfold bK fA;decide
 ·obtain⟨n,_,rfl⟩:=List.mem_map.1 hx
  exact oT (by decide) (by decide) _
 ·unfold bK dV;decide
theorem ES (a b:ai) (ha:bK 99 a) (j:Nat) (hj:j<a.length):Lib.occAt (a++(dV++b)) dV j=false:=by
 apply Bool.eq_false_iff.2
 intro h
 unfold Lib.occAt at h
 obtain⟨t,ht⟩:=List.isPrefixOf_iff_prefix.1 h
 have h1:((a++(dV++b)).drop j)[1]? =some 99:=by rw[←ht];rfl
 rw[List.getElem?_drop] at h1
 rcases Nat.lt_or_ge (j+1) a.length with h2|h2
 ·rw[List.getElem?_append_left h2] at h1
  exact ha _ (co h1) rfl
 ·have e:j+1=a.length:=by omega
  rw[List.getElem?_append_right (by omega),e,Nat.sub_self] at h1
  exact absurd h1 (by simp[dV])
theorem xk (a b:ai) (ha:bK 99 a):Lib.cut (a++(dV++b)) dV=(a,b,true):=by
 have hi:Lib.index (a++(dV++b)) dV=a.length:=Lib.index_first (by simp) (by
  unfold Lib.occAt
  rw[List.drop_left]
  exact List.isPrefixOf_iff_prefix.2 ⟨_,rfl⟩) (ES a b ha)
 unfold Lib.cut
 rw[hi,if_pos (by omega),Int.toNat_natCast]
 congr 1
 ·simp
 ·congr 1
  rw[←List.append_assoc]
  exact List.drop_left' (by simp)
theorem ET (s:fX) (hc:s.control≠[]) (h1: ∀x∈s.control,aj x) (h2:aj s.clients):gC (dO s)=some (s.control,s.clients):=by
 have e:(dO s).drop 8=fi [44,32] (s.control.map Lib.itoa)++(dV++Lib.itoa s.clients):=by
  unfold dO
  rw[List.append_assoc,List.append_assoc]
  exact List.drop_left' rfl
 unfold gC
 rw[e,xk _ _ (ri (by unfold bK;decide) _ fun x hx=>by
  obtain⟨n,_,rfl⟩:=List.mem_map.1 hx
  exact oT (by decide) (by decide) _)]
 simp only[if_true]
 rw[lG _ h2]
 match hs:s.control,hc with
 |a::r,_=>
  rw[List.map_cons,xh 44 [32] _ _ (fun x hx=>by
   rw[←List.map_cons] at hx
   obtain⟨n,_,rfl⟩:=List.mem_map.1 hx
   exact oT (by decide) (by decide) _),←List.map_cons,List.map_map]
  have:=km (a::r) (fun x hx=>h1 x (hs▸hx))
  show(some s.clients).bind (fun n=>(bi ((a::r).map (fun n=>bs (Lib.itoa n)))).map fun l=>(l,n))=_
  rw[this]
  rfl
theorem rj: ∀(l:ai),bK 10 l∨∃w r,l=w++10::r∧bK 10 w
 |[]=> .inl fun c hc=>by simp at hc
 |c::l=>by
  by_cases hc:c=10
  ·subst hc;exact .inr ⟨[],l,rfl,fun c hc=>by simp at hc⟩
  ·rcases rj l with h|⟨w,r,rfl,h⟩
   ·exact .inl (.cons hc h)
   ·exact .inr ⟨c::w,r,rfl,.cons hc h⟩
theorem EU (t:ai):Lib.split t [10]≠[]:=by
 rcases rj t with h|⟨w,r,rfl,h⟩
 ·rw[mY 10 [] t h];simp
 ·have:=oS 10 [] w r h
  rw[show w++10::r=w++(([10]:ai)++r) from rfl,this];simp
theorem xl {t:ai} (h:bK 10 t):aX t=if t=[] then[] else[t]:=by
 unfold aX
 rw[mY 10 [] t h]
 by_cases e:t=[]<;>simp[e]
theorem xm (w r:ai) (h:bK 10 w):aX (w++10::r)=w::aX r:=by
 unfold aX
 rw[show w++10::r=w++(([10]:ai)++r) from rfl,oS 10 [] w r h]
 have hn:=EU r
 cases hs:Lib.split r [10] with
 |nil=>exact absurd hs hn
 |cons a q=>
  have e:(w::a::q).getLast?=(a::q).getLast?:=by simp
  simp only[e]
  split<;>simp
theorem mZ: ∀(n:Nat) (t:ai),t.length≤n→(∀x∈aX t,bK 10 x)∧(bb (aX t)).length≤t.length+1
 |n,t,hn=>by
  rcases rj t with h|⟨w,r,rfl,h⟩
  ·rw[xl h]
   by_cases e:t=[]
   ·simp[e,bb]
   ·rw[if_neg e]
    exact⟨by simpa using h,by simp[bb]⟩
  ·rw[xm w r h]
   match n,hn with
   |0,hn=>simp at hn
   |n+1,hn=>
    obtain⟨h1,h2⟩:=mZ n r (by simp at hn;omega)
    refine⟨fun x hx=> ?_,?_⟩
    ·rcases List.mem_cons.1 hx with rfl|hx
     ·exact h
     ·exact h1 x hx
    ·have e:bb (w::aX r)=w++10::bb (aX r):=by simp[bb]
     rw[e];simp;omega
theorem rm: ∀(k n:Nat),1≤k→n<10^k→(Lib.decDigits n).length≤k
 |0,n,hk,_=>by omega
 |k+1,n,_,h=>by
  rw[Lib.decDigits]
  by_cases h10:n<10
  ·rw[dif_pos h10];simp
  ·rw[dif_neg h10]
   have hk:1≤k:=by
    rcases Nat.eq_zero_or_pos k with e|e
    ·subst e;simp at h;omega
    ·exact e
   have:=rm k (n / 10) hk (by rw[Nat.pow_succ] at h;omega)
   simp;omega
theorem rp {v:Int} (h:aj v):(Lib.itoa v).length≤20:=by
 obtain⟨h1,h2⟩:=h
 unfold Lib.itoa
 split
 ·have:=rm 19 v.natAbs (by omega) (by omega)
  simp;omega
 ·have:=rm 19 v.toNat (by omega) (by omega)
  omega
theorem rq (n:Nat): ∀(l:List ai),(∀x∈l,x.length≤n)→(fi [44,32] l).length≤(n+2)*l.length
 |[],_=>by simp[fi]
 |[a],h=>by have:=h a (by simp);simp[fi];omega
 |a::b::l,h=>by
  have h1:=h a (by simp)
  have ih:=rq n (b::l) fun y hy=>h y (by simp at hy⊢;exact .inr hy)
  have e:fi [44,32] (a::b::l)=a++[44,32]++fi [44,32] (b::l):=rfl
  rw[e]
  simp only[List.length_append,List.length_cons,List.length_nil] at ih⊢
  have:(n+2)*(l.length+1+1)=(n+2)*(l.length+1)+(n+2):=by rw[Nat.mul_add _ (l.length+1) 1,Nat.mul_one]
  omega
theorem xo {s:fX} (h1: ∀x∈s.control,aj x) (h2:aj s.clients) (hn:s.control.length≤10):(dO s).length≤1000:=by
 unfold dO
 have h3:=rp h2
 have h4:=rq 20 (s.control.map Lib.itoa) fun x hx=>by
  obtain⟨n,hn,rfl⟩:=List.mem_map.1 hx
  exact rp (h1 n hn)
 rw[List.length_map] at h4
 have e1:fA.length=8:=rfl
 have e2:dV.length=9:=rfl
 simp only[List.length_append,e1,e2]
 omega
theorem EV (m:aC) (c:Int):gC (dO ⟨m,[],c,[]⟩)=none:=by
 have e:(dO ⟨m,[],c,[]⟩).drop 8=[]++(dV++Lib.itoa c):=by
  unfold dO
  rfl
 unfold gC
 rw[e,xk [] _ (by simp[bK])]
 simp only[if_true]
 have h1:Lib.split [] [44,32]=[[]]:=mY 44 [32] [] (by simp[bK])
 have h2:bi [bs []]=none:=by
  rw[bi]
  have:bg (bs [])=none:=by
   unfold bg
   rw[bL]
   rfl
  rw[this]
 rw[h1]
 simp only[List.map_cons,List.map_nil,h2]
 cases bg (bs (Lib.itoa c))<;>rfl
def gZ (s:fX):Bool:=dQ s.m&&jY s&&aD s.clients 0 8
theorem EW {l:List ar} {m:aC} (h:dL l= .ok m):dQ m=true:=by
 unfold dL at h
 split at h
 ·cases h
 ·split at h
  ·cases h
  ·split at h
   ·cases h
   ·split at h
    ·rename_i hm
     injection h with h
     subst h
     exact hm
    ·cases h
theorem EX (source:ai) (control:List Int) (clients:Int) (hs:source.length≤3000) (hc: ∀x∈aX source,cN x=false) (h1: ∀x∈control,aj x) (h2:aj clients) (hn:control.length≤10):
 match dP (bb (aX source)) with
 | .error x=>fk (bb (aX source++[dO ⟨{},control,clients,[]⟩]))= .error (ju (bb (aX source)) x.1,x.2)
 | .ok ds=>match dL ds with
   | .error y=>fk (bb (aX source++[dO ⟨{},control,clients,[]⟩]))= .error (0,y.2)
   | .ok m=>if gZ ⟨m,control,clients,[]⟩ then fk (bb (aX source++[dO ⟨{},control,clients,[]⟩]))= .ok ⟨m,control,clients,[]⟩
     else ∃e,(e=1∨e=3)∧fk (bb (aX source++[dO ⟨{},control,clients,[]⟩]))= .error ((aX source).length+1,e):=by
 obtain⟨l1,l2⟩:=mZ _ source (ae _)
 have hl:=xo (s:=⟨{},control,clients,[]⟩) h1 h2 hn
 have e:=EO (aX source) (dO ⟨{},control,clients,[]⟩) [] hc (EQ _) (fun x hx=>by
  rcases List.mem_append.1 hx with hx|hx
  ·exact l1 x hx
  ·simp only[List.mem_singleton] at hx
   subst hx
   exact ER _) (by
  have:bb (aX source++[dO ⟨{},control,clients,[]⟩])=bb (aX source)++(dO ⟨{},control,clients,[]⟩++[10]):=by simp[bb]
  rw[this]
  simp only[List.length_append,List.length_singleton]
  omega)
 rw[e]
 cases hp:dP (bb (aX source)) with
 |error x=>rfl
 |ok ds=>
  simp only
  cases hm:dL ds with
  |error y=>rfl
  |ok m=>
   simp only
   have hmo:=EW hm
   by_cases hcn:control=[]
   ·subst hcn
    have:gZ ⟨m,[],clients,[]⟩=false:=by simp[gZ,jY]
    rw[if_neg (by simp[this]),EV]
    exact⟨3,.inr rfl,rfl⟩
   ·rw[ET ⟨{},control,clients,[]⟩ hcn h1 h2]
    simp only[dD]
    have hv:iT ⟨m,control,clients,[]⟩=gZ ⟨m,control,clients,[]⟩:=by simp[iT,gZ]
    rw[hv]
    by_cases hok:gZ ⟨m,control,clients,[]⟩=true
    ·rw[if_pos hok,if_pos hok]
    ·rw[if_neg hok,if_neg hok]
     exact⟨1,.inl rfl,rfl⟩
end
section
open Go Tryz
section
variable {P:Program} {ops:Array Oper} {Q:Exit→Act→World→Prop} {md:Region.Mode}
def rr (md:Region.Mode) (ops:Array Oper):Bool:=
 (List.range ops.size).all fun i=>match ops[i]? with|some o=>o.after.all fun e=> !Region.binds md e||decide (e.on<i)|none=>true
theorem xp (h:rr md ops=true) {i:Nat} {o:Oper} (ho:ops[i]? =some o): ∀e∈o.after,Region.binds md e=true→e.on<i:=by
 intro e he hb
 have hi:=(Array.getElem?_eq_some_iff.1 ho).1
 have h1:=List.all_eq_true.1 h i (List.mem_range.2 hi)
 simp only[ho] at h1
 have h2:=Array.all_eq_true'.1 h1 e he
 simpa[hb] using h2
def nd (listed:Array Bool) (n:Nat):Nat:=(List.range n).countP fun j=> !listed.getD j true
theorem xq {listed:Array Bool} {n i:Nat} (hi:i<n) (h:listed.getD i true=false):nd (listed.setIfInBounds i true) n+1≤nd listed n:=by
 unfold nd
 induction n with
 |zero=>omega
 |succ n ih=>
  rw[List.range_succ,List.countP_append,List.countP_append,List.countP_singleton,List.countP_singleton]
  by_cases e:i=n
  ·subst e
   have h1:(listed.setIfInBounds i true).getD i true=true:=by
    exact ru
   have h2:(List.range i).countP (fun j=> !(listed.setIfInBounds i true).getD j true)≤(List.range i).countP (fun j=> !listed.getD j true):=by
    refine Nat.le_of_eq (List.countP_congr fun j hj=> ?_)
    have: ¬i=j:=by have:=List.mem_range.1 hj;omega
    rw[getD_set_ne true this]
   rw[h1,h]
   simp only[Bool.not_true,Bool.not_false,Bool.false_eq_true,if_false,if_true]
   omega
  ·have:=ih (by omega)
   rw[getD_set_ne true e]
   omega
def ch (md:Region.Mode) (ops:Array Oper) (j i:Nat):Bool:=match ops[j]? with|some o=>o.after.any fun e=>Region.binds md e&&decide (e.on=i)|none=>false
theorem ry {i j:Nat} (h:ch md ops j i=true): ∃o,ops[j]? =some o∧∃e,e∈o.after∧Region.binds md e=true∧e.on=i:=by
 unfold ch at h
 split at h
 ·rename_i o ho
  obtain⟨e,he,hq⟩:=Array.any_eq_true'.1 h
  simp at hq
  exact⟨o,ho,e,he,hq.1,hq.2⟩
 ·cases h
theorem EY (Fr:Act→World→Prop) (Y:Nat→Act→World→Prop) (hb:rr md ops=true)
 (hstep: ∀i o,ops[i]? =some o→∀a w,Fr a w→(∀j,ch md ops i j=true→Y j a w)→
   wpOp P ops Q i (fun a' w'=>Fr a' w'∧Y i a' w'∧∀j,j≠i→j<ops.size→ch md ops j i=false→Y j a w→Y j a' w') a w)
 (hdone: ∀a w,Fr a w→(∀i,i<ops.size→Y i a w)→Q .normal a w):
 ∀(fuel:Nat) (listed:Array Bool) (a:Act) (w:World),listed.size=ops.size→nd listed ops.size≤fuel→(∀j i,listed.getD j true=true→j<ops.size→ch md ops j i=true→listed.getD i true=true)→
  Fr a w→(∀i,i<ops.size→listed.getD i true=true→Y i a w)→wpAny P md ops Q fuel listed a w:=by
 have fin: ∀(listed:Array Bool) (a:Act) (w:World),listed.size=ops.size→Fr a w→(∀i,i<ops.size→listed.getD i true=true→Y i a w)→Region.ready md ops listed=[]→Q .normal a w:=by
  intro listed a w hs hF hY hr
  have all: ∀(m i:Nat),i<m→i<ops.size→listed.getD i true=true:=by
   intro m
   induction m with
   |zero=>intro i hi;omega
   |succ m ih=>
    intro i hi hio
    cases hl:listed.getD i true with
    |true=>rfl
    |false=>
     obtain⟨o,ho⟩: ∃o,ops[i]? =some o:=⟨_,Array.getElem?_eq_getElem hio⟩
     have:i∈Region.ready md ops listed:=mem_ready.2 ⟨hl,o,ho,fun e he hbd=>by
      have hlt:=xp hb ho e he hbd
      have h1:=ih e.on (by omega) (by omega)
      have hes:e.on<listed.size:=by omega
      simp[hes] at h1⊢
      exact h1⟩
     rw[hr] at this
     cases this
  exact hdone a w hF fun i hi=>hY i hi (all (i+1) i (by omega) hi)
 intro fuel
 induction fuel with
 |zero=>
  intro listed a w hs hu hcl hF hY
  have hr:Region.ready md ops listed=[]:=by
   apply List.eq_nil_iff_forall_not_mem.2
   intro i hi
   obtain⟨hl,o,ho,_⟩:=mem_ready.1 hi
   have hio:=(Array.getElem?_eq_some_iff.1 ho).1
   have:=xq hio hl
   omega
  exact⟨hr,fin listed a w hs hF hY hr⟩
 |succ fuel ih=>
  intro listed a w hs hu hcl hF hY
  refine⟨fin listed a w hs hF hY,fun i hi=> ?_⟩
  obtain⟨hl,o,ho,hdep⟩:=mem_ready.1 hi
  have hio:=(Array.getElem?_eq_some_iff.1 ho).1
  have hun:=xq hio hl
  have hdl: ∀j,ch md ops i j=true→j<ops.size∧listed.getD j true=true:=by
   intro j hj
   obtain⟨o',ho',e,he,hbd,rfl⟩:=ry hj
   rw[ho] at ho'
   injection ho' with ho'
   subst ho'
   have hlt:=xp hb ho e he hbd
   have h1:=hdep e he hbd
   have hes:e.on<listed.size:=by omega
   refine⟨by omega,?_⟩
   simp[hes] at h1⊢
   exact h1
  refine wpOp_mono (fun a' w' h=> ?_) (hstep i o ho a w hF fun j hj=>hY j (hdl j hj).1 (hdl j hj).2)
  obtain⟨h1,h2,h3⟩:=h
  refine ih _ a' w' (by simp[hs]) (by omega) (fun j k hlj hj hw=> ?_) h1 fun j hj hlj=> ?_
  ·by_cases e:k=i
   ·subst e
    exact ru
   ·rw[getD_set_ne true (fun h=>e h.symm)]
    by_cases e2:j=i
    ·subst e2;exact(hdl k hw).2
    ·rw[getD_set_ne true (fun h=>e2 h.symm)] at hlj
     exact hcl j k hlj hj hw
  ·by_cases e:j=i
   ·subst e;exact h2
   ·rw[getD_set_ne true (fun h=>e h.symm)] at hlj
    refine h3 j e hj ?_ (hY j hj hlj)
    cases hw:ch md ops j i with
    |false=>rfl
    |true=>
     have:=hcl j i hlj hj hw
     rw[hl] at this
     cases this
theorem EZ (Fr:Act→World→Prop) (Y:Nat→Act→World→Prop) {id:Nat} {a:Act} {w:World} (hm:P.follows .mixedOrders=true) (hb:rr .any ops=true)
 (hF:Fr a w.drew)
 (hstep: ∀i o,ops[i]? =some o→∀a w,Fr a w→(∀j,ch .any ops i j=true→Y j a w)→
   wpOp P ops Q i (fun a' w'=>Fr a' w'∧Y i a' w'∧∀j,j≠i→j<ops.size→ch .any ops j i=false→Y j a w→Y j a' w') a w)
 (hdone: ∀a w,Fr a w→(∀i,i<ops.size→Y i a w)→Q .normal a w):(Code.region id ops true).wp P Q a w:=by
 refine wp_region_any hm (EY Fr Y hb hstep hdone _ _ _ _ (by simp) ?_ (fun j i h hj=> ?_) hF fun i hi h=> ?_)
 ·unfold nd
  exact aP (List.countP_le_length) (by simp)
 ·simp[hj] at h
 ·simp[hi] at h
theorem xr {i:Nat} {o:Oper} {K:Act→World→Prop} {a:Act} {w w':World} {v:Value} (ho:ops[i]? =some o) (hg:o.guard=none) (hrun:(execOp a.eval o).run P w= .ok (.value v) w') (hK:K (a.put o.dst v) w'):wpOp P ops Q i K a w:=by
 unfold wpOp
 rw[ho]
 simp only[Region.wanted,hg,if_true]
 refine .inl ?_
 unfold Oper.wp
 rw[hrun]
 exact hK
theorem E0 {i:Nat} {o:Oper} {K:Act→World→Prop} {a:Act} {w w':World} (ho:ops[i]? =some o) (hg:o.guard=none) (hrun:(execOp a.eval o).run P w= .ok .skip w') (hK:K (a.put o.dst undef) w'):wpOp P ops Q i K a w:=by
 unfold wpOp
 rw[ho]
 simp only[Region.wanted,hg,if_true]
 refine .inl ?_
 unfold Oper.wp
 rw[hrun]
 exact hK
theorem E1 {i:Nat} {o:Oper} {K:Act→World→Prop} {a:Act} {w w':World} {f:FuncId} {args:Array Value} (ho:ops[i]? =some o) (hg:o.guard=none) (hrun:(execOp a.eval o).run P w= .ok (.enter f args) w')
 (hK:Calls P f args w' fun e w''=> ∃v,e= .returned v∧K (a.put o.dst v) w''):wpOp P ops Q i K a w:=by
 unfold wpOp
 rw[ho]
 simp only[Region.wanted,hg,if_true]
 refine .inl ?_
 unfold Oper.wp
 rw[hrun,Oper.upon_enter]
 refine hK.mono ?_
 rintro e w'' ⟨v,rfl,h⟩
 exact h
end
section
variable {P:Program} {ops:Array Oper} {Q:Exit→Act→World→Prop} {md:Region.Mode} {S:World→Prop} {N:Nat}
def bX (P:Program) (md:Region.Mode) (ops:Array Oper) (Q:Exit→Act→World→Prop) (S:World→Prop) (N:Nat):Nat→Array Bool→Act→World→Prop
 |0,listed,a,w=>Region.ready md ops listed=[]∧Q .normal a w
 |fuel+1,listed,a,w=>
  (Region.ready md ops listed=[]→Q .normal a w)∧
  ∀i∈Region.ready md ops listed,wpOp P ops Q i (fun a' w'=>(i<N→S w')∧bX P md ops Q S N fuel (listed.setIfInBounds i true) a' w') a w
theorem xt: ∀(fuel:Nat) (listed:Array Bool) (a:Act) (w:World),bX P md ops Q S N fuel listed a w→wpAny P md ops Q fuel listed a w
 |0,_,_,_,h=>h
 |fuel+1,_,_,_,h=>⟨h.1,fun i hi=>wpOp_mono (fun a' w' h'=>xt fuel _ a' w' h'.2) (h.2 i hi)⟩
def jZ (md:Region.Mode) (ops:Array Oper) (N i:Nat):Bool:=(List.range ops.size).all fun j=>decide (j<N)||ch md ops j i
theorem E2 {i j:Nat} (h:jZ md ops N i=true) (hj:j<ops.size) (hn:N≤j):ch md ops j i=true:=by
 exact xu
theorem E3 {i:Nat} {oi:Oper} {v:Value} (hi:ops[i]? =some oi) (hiN:i<N) (hsel: ∀(j:Nat) (o:Oper) cs b,ops[j]? =some o→o.op≠ .select cs b) (hlate:jZ md ops N i=true)
 (hQ: ∀c a w,Q (.panic c) (a.put oi.dst v) w→Q (.panic c) a w):
 ∀(fuel:Nat) (listed:Array Bool) (a:Act) (w:World),
  (∀j oj,ops[j]? =some oj→j≠i→listed.getD j true=false→(∀e∈oj.after,Region.binds md e=true→e.on≠i)→oi.apart ops oj=true)→
  i∈Region.ready md ops listed→YieldsIf P ops S oi v a→S w→
  bX P md ops Q S N fuel (listed.setIfInBounds i true) (a.put oi.dst v) w→bX P md ops Q S N (fuel+1) listed a w:=by
 intro fuel
 induction fuel with
 |zero=>
  intro listed a w _ hr hy hS H
  exact xw
 |succ fuel ih=>
  intro listed a w hfree hr hy hS H
  refine⟨fun h=>(by rw[h] at hr;cases hr),fun j hj=> ?_⟩
  by_cases hji:j=i
  ·subst hji;exact hy.wpOp hi hS ⟨fun _=>hS,H⟩
  ·have h1:=H.2 j (ready_mono hj hji)
   obtain⟨hjun,oj,hoj,hall⟩:=mem_ready.1 hj
   have hnot: ∀e∈oj.after,Region.binds md e=true→e.on≠i:=fun e he hb heq=>by
    exact xx
   have hjN:j<N:=by
    rcases Nat.lt_or_ge j N with h|h
    ·exact h
    ·obtain⟨o,ho,e,he,hb,hei⟩:=ry (E2 hlate (Array.getElem?_eq_some_iff.1 hoj).1 h)
     rw[hoj] at ho
     injection ho with ho
     subst ho
     exact absurd hei (hnot e he hb)
   have h2:=wpOp_putIf hoj (hfree j oj hoj hji hjun hnot) (fun cs b=>hsel i oi cs b hi) (fun cs b=>hsel j oj cs b hoj) hQ hy h1
   have hfree': ∀k ok,ops[k]? =some ok→k≠i→(listed.setIfInBounds j true).getD k true=false→
    (∀e∈ok.after,Region.binds md e=true→e.on≠i)→oi.apart ops ok=true:=fun k ok hk hki hun hno=>by
    refine hfree k ok hk hki ?_ hno
    by_cases hjk:j=k
    ·subst hjk;exact hjun
    ·rw[getD_set_ne true hjk] at hun;exact hun
   refine wpOp_mono (fun a' w' h3=>⟨h3.2.1,ih (listed.setIfInBounds j true) a' w' hfree' (ready_mono hr (Ne.symm hji)) h3.1 (h3.2.1 hjN) ?_⟩) h2
   rw[Array.setIfInBounds_comm _ _ hji]
   exact h3.2.2
theorem lJ {i:Nat} {oi:Oper} {v:Value} {fuel:Nat} {listed:Array Bool} {a:Act} {w:World} (d:Option Tmp) (hi:ops[i]? =some oi) (hd:oi.dst=d) (hiN:decide (i<N)=true)
 (hs:Region.noSelect ops=true) (hf:Region.free md ops listed i=true) (hr:(Region.ready md ops listed).contains i=true) (hl:jZ md ops N i=true)
 (hQ: ∀c a w,Q (.panic c) (a.put d v) w→Q (.panic c) a w) (hy:YieldsIf P ops S oi v a) (hS:S w)
 (h:bX P md ops Q S N fuel (listed.setIfInBounds i true) (a.put d v) w):bX P md ops Q S N (fuel+1) listed a w:=by
 subst hd
 exact E3 hi (of_decide_eq_true hiN) (Region.noSelect_spec hs) hl hQ fuel listed a w (Region.free_spec hi hf) (by simpa using hr) hy hS h
theorem tP (m s:Nat) {oi:Oper} {v:Value} {fuel:Nat} {listed:Array Bool} {a:Act} {w:World} (hi:ops[m - (fuel+1)]? =some oi) (hk:(eB md ops listed (m - (fuel+1)) (s+(m - (fuel+1)))&&(decide (m - (fuel+1)<N)&&jZ md ops N (m - (fuel+1))))=true)
 (hQ: ∀c a w,Q (.panic c) (a.put (some (s+(m - (fuel+1)))) v) w→Q (.panic c) a w) (hy:YieldsIf P ops S oi v a) (hS:S w)
 (h:bX P md ops Q S N fuel (listed.setIfInBounds (m - (fuel+1)) true) (a.put (some (s+(m - (fuel+1)))) v) w):bX P md ops Q S N (fuel+1) listed a w:=by
 exact xy
theorem E4 (i t:Nat) {oi:Oper} {v:Value} {fuel:Nat} {listed:Array Bool} {a:Act} {w:World} (hi:ops[i]? =some oi) (hk:(eB md ops listed i t&&(decide (i<N)&&jZ md ops N i))=true)
 (hQ: ∀c a w,Q (.panic c) (a.put (some t) v) w→Q (.panic c) a w) (hy:YieldsIf P ops S oi v a) (hS:S w)
 (h:bX P md ops Q S N fuel (listed.setIfInBounds i true) (a.put (some t) v) w):bX P md ops Q S N (fuel+1) listed a w:=by
 exact xy
def bR (P:Program) (md:Region.Mode) (ops:Array Oper) (Q:Exit→Act→World→Prop) (S:World→Prop) (N:Nat) (fuel:Nat) (listed:Array Bool) (a:Act) (w:World) (rs:List Nat):Prop:=
 ∀i∈rs,wpOp P ops Q i (fun a' w'=>(i<N→S w')∧bX P md ops Q S N fuel (listed.setIfInBounds i true) a' w') a w
theorem bR.nil {fuel:Nat} {listed:Array Bool} {a:Act} {w:World}:bR P md ops Q S N fuel listed a w []:=fun _ h=>by cases h
theorem bR.cons1 {fuel:Nat} {listed:Array Bool} {a:Act} {w:World} {i:Nat} {o:Oper} {rs:List Nat} (ho:ops[i]? =some o)
 (h: ∀K':Act→World→Prop,Shut (∀a w,S w→(S w→bX P md ops Q S N fuel (listed.setIfInBounds i true) a w)→K' a w)→if Region.wanted o (yielded ops a.tmps)=true then Oper.wp P o a w K' Q else K' (a.put o.dst undef) w)
 (hs:bR P md ops Q S N fuel listed a w rs):bR P md ops Q S N fuel listed a w (i::rs):=fun j hj=>by
 rcases List.mem_cons.1 hj with rfl|hj
 ·exact wpOp_step ho (fun K' hK=>h K' (fun a w hS hW=>hK a w ⟨fun _=>hS,hW hS⟩))
 ·exact hs j hj
theorem bR.cons2 {fuel:Nat} {listed:Array Bool} {a:Act} {w:World} {i:Nat} {o:Oper} {rs:List Nat} (ho:ops[i]? =some o) (hN:decide (N≤i)=true)
 (h: ∀K':Act→World→Prop,Shut (∀a w,bX P md ops Q S N fuel (listed.setIfInBounds i true) a w→K' a w)→if Region.wanted o (yielded ops a.tmps)=true then Oper.wp P o a w K' Q else K' (a.put o.dst undef) w)
 (hs:bR P md ops Q S N fuel listed a w rs):bR P md ops Q S N fuel listed a w (i::rs):=fun j hj=>by
 rcases List.mem_cons.1 hj with rfl|hj
 ·exact wpOp_step ho (fun K' hK=>h K' (fun a w hW=>hK a w ⟨fun h=>by have:=of_decide_eq_true hN;omega,hW⟩))
 ·exact hs j hj
theorem iU {rs:List Nat} {fuel:Nat} {listed:Array Bool} {a:Act} {w:World} (hr:Region.ready md ops listed=rs) (hne:rs≠[])
 (h:bR P md ops Q S N fuel listed a w rs):bX P md ops Q S N (fuel+1) listed a w:=⟨fun h0=>absurd (hr▸h0) hne,hr▸h⟩
theorem E5 {listed:Array Bool} {a:Act} {w:World} (hr:Region.ready md ops listed=[]) (h:Q .normal a w):
 ∀fuel,bX P md ops Q S N fuel listed a w
 |0=>⟨hr,h⟩
 |_+1=>⟨fun _=>h,by rw[hr];simp⟩
theorem E6 {id:Nat} {a:Act} {w:World} (N:Nat) (hm:P.follows .mixedOrders=true) (hS:S w.drew)
 (h:S w.drew→bX P .any ops Q S N ops.size (Array.replicate ops.size false) a w.drew):(Code.region id ops true).wp P Q a w:=
 wp_region_any hm (xt _ _ _ _ (h hS))
theorem gP (m s:Nat) {oi:Oper} {v:Value} {fuel:Nat} {listed:Array Bool} {a:Act} {w:World} {p:Prop} (h:p) (hS:S w:=by exact hS)
 (hi:ops[m - (fuel+1)]? =some oi:=by rfl) (hk:(eB md ops listed (m - (fuel+1)) (s+(m - (fuel+1)))&&(decide ((m - (fuel+1))<N)&&jZ md ops N (m - (fuel+1))))=true:=by kernel_rfl)
 (hQ: ∀c a w,Q (.panic c) (a.put (some (s+(m - (fuel+1)))) v) w→Q (.panic c) a w:=by exact fun _ _ _ h=>h) (hy:YieldsIf P ops S oi v a:=by(refine Or.inl ⟨by rfl,?_⟩;intro w hSw;(try have hSw:=HSB.out w hSw);(try dsimp only at hSw);go_simp;try with_reducible rfl))
 (hn:p→bX P md ops Q S N fuel (listed.setIfInBounds (m - (fuel+1)) true) (a.put (some (s+(m - (fuel+1)))) v) w:=by(intro hq;simp only[Act.put,sA,sZ,sS,Nat.reduceSub,Nat.reduceAdd];exact hq)):bX P md ops Q S N (fuel+1) listed a w:=
 tP m s hi hk hQ hy hS (hn h)
theorem kP (m s:Nat) {oi:Oper} {fuel:Nat} {listed:Array Bool} {a:Act} {w:World} {p:Prop} (h:p) (hS:S w:=by exact hS)
 (hi:ops[m - (fuel+1)]? =some oi:=by rfl) (hk:(eB md ops listed (m - (fuel+1)) (s+(m - (fuel+1)))&&(decide ((m - (fuel+1))<N)&&jZ md ops N (m - (fuel+1))))=true:=by kernel_rfl)
 (hQ: ∀c a w,Q (.panic c) (a.put (some (s+(m - (fuel+1)))) undef) w→Q (.panic c) a w:=by exact fun _ _ _ h=>h) (hy:YieldsIf P ops S oi undef a:=by exact Or.inr ⟨by rfl,rfl⟩)
 (hn:p→bX P md ops Q S N fuel (listed.setIfInBounds (m - (fuel+1)) true) (a.put (some (s+(m - (fuel+1)))) undef) w:=by(intro hq;simp only[Act.put,sA,sZ,sS,Nat.reduceSub,Nat.reduceAdd];exact hq)):bX P md ops Q S N (fuel+1) listed a w:=
 tP m s hi hk hQ hy hS (hn h)
theorem cj (i t:Nat) {oi:Oper} {v:Value} {fuel:Nat} {listed:Array Bool} {a:Act} {w:World} {p:Prop} (h:p) (hS:S w:=by exact hS)
 (hi:ops[i]? =some oi:=by rfl) (hk:(eB md ops listed i t&&(decide (i<N)&&jZ md ops N i))=true:=by kernel_rfl)
 (hQ: ∀c a w,Q (.panic c) (a.put (some t) v) w→Q (.panic c) a w:=by exact fun _ _ _ h=>h) (hy:YieldsIf P ops S oi v a:=by(refine Or.inl ⟨by rfl,?_⟩;intro w hSw;(try have hSw:=HSB.out w hSw);(try dsimp only at hSw);go_simp;try with_reducible rfl))
 (hn:p→bX P md ops Q S N fuel (listed.setIfInBounds i true) (a.put (some t) v) w:=by(intro hq;simp only[Act.put,sA,sZ,sS];exact hq)):bX P md ops Q S N (fuel+1) listed a w:=
 E4 i t hi hk hQ hy hS (hn h)
theorem cP (i:Nat) {o:Oper} {fuel:Nat} {listed:Array Bool} {a:Act} {w:World} (h: ∀K':Act→World→Prop,Shut (∀a w,S w→(S w→bX P md ops Q S N fuel (listed.setIfInBounds i true) a w)→K' a w)→if Region.wanted o (yielded ops a.tmps)=true then Oper.wp P o a w K' Q else K' (a.put o.dst undef) w)
 (hr:Region.ready md ops listed=[i]:=by kernel_rfl) (ho:ops[i]? =some o:=by rfl):bX P md ops Q S N (fuel+1) listed a w:=iU hr (by simp) (bR.cons1 ho h bR.nil)
theorem cQ (i:Nat) {o:Oper} {fuel:Nat} {listed:Array Bool} {a:Act} {w:World} (h: ∀K':Act→World→Prop,Shut (∀a w,bX P md ops Q S N fuel (listed.setIfInBounds i true) a w→K' a w)→if Region.wanted o (yielded ops a.tmps)=true then Oper.wp P o a w K' Q else K' (a.put o.dst undef) w)
 (hr:Region.ready md ops listed=[i]:=by kernel_rfl) (ho:ops[i]? =some o:=by rfl) (hN:decide (N≤i)=true:=by rfl):bX P md ops Q S N (fuel+1) listed a w:=iU hr (by simp) (bR.cons2 ho hN h bR.nil)
theorem bP {S:World→Prop} (N n:Nat) {id:Nat} {a:Act} {w:World} (hS:S (World.drew w)) (h:S (World.drew w)→bX P .any ops Q S N n (Array.replicate n false) a (World.drew w)) (hm:P.follows .mixedOrders=true:=by kernel_rfl) (hn:ops.size=n:=by rfl):(Code.region id ops true).wp P Q a w:=by
 subst hn;exact E6 N hm hS h
theorem eP {listed:Array Bool} {a:Act} {w:World} {fuel:Nat} (h:Q .normal a w) (hr:Region.ready md ops listed=[]:=by kernel_rfl):bX P md ops Q S N fuel listed a w:=E5 hr h fuel
end
end
section
open Go Go.RowKit Tryz
def cy (P:Nat→Bool) (n:Nat):Int:=match (List.range n).find? P with|some i=>i|none=> -1
theorem xz {P:Nat→Bool} {n k:Nat} (hk:k<n) (h:P k=true) (hn: ∀j,j<k→P j=false):cy P n=k:=by
 unfold cy
 have:(List.range n).find? P=some k:=by
  rw[List.find?_range_eq_some]
  exact⟨h,by simpa using hk,fun j hj=>by simp[hn j hj]⟩
 rw[this]
theorem xA {P:Nat→Bool} {n:Nat} (hn: ∀j,j<n→P j=false):cy P n= -1:=by
 unfold cy
 have:(List.range n).find? P=none:=by
  rw[List.find?_range_eq_none]
  exact fun j hj=>by simp[hn j hj]
 rw[this]
theorem jw (P:Nat→Bool) (n:Nat):decide (0≤cy P n)=(List.range n).any P:=by
 unfold cy
 cases h:(List.range n).find? P with
 |none=>
  have:(List.range n).any P=false:=by
   rw[List.any_eq_false]
   exact fun x hx=>by simpa using List.find?_eq_none.1 h x hx
  rw[this];simp
 |some i=>
  have:(List.range n).any P=true:=List.any_eq_true.2 ⟨i,List.mem_of_find?_eq_some h,List.find?_some h⟩
  rw[this];simp
def R1 {α:Type} (enc:α→Value) (_:World) (_:Nat) (cs:List Value) (x:α):Prop:=cs=[enc x]
theorem R1.ab {α:Type} (enc:α→Value):cI (R1 enc):=fun _ _ _ _ _ _ _ h _ _ _=>h
theorem Sl.k1 {α:Type} {enc:α→Value} {w:World} {B:Nat} {v:Value} {xs:List α} (h:Sl w B v (xs.map enc)):aQ 1 (R1 enc) w B v xs:=by
 obtain⟨A,c,rfl,h1,h2,h3⟩:=h
 rw[List.length_map] at h1⊢
 refine⟨A,c,rfl,h1,h2,fun hn=> ?_⟩
 obtain⟨b,o,rfl,hb,hc⟩:=h3 (by simpa using hn)
 refine⟨b,o,rfl,hb,fun j x hx=>⟨[enc x],rfl,rfl,fun i u hu=> ?_⟩⟩
 match i,hu with
 |0,hu=>
  injection hu with hu
  subst hu
  rw[Nat.mul_one,Nat.add_zero]
  exact hc j _ (by rw[List.getElem?_map,hx];rfl)
def cJ {α:Type} (xs:List α) (p:α→Bool) (j:Nat):Bool:=match xs[j]? with|some x=>p x|none=>false
theorem dx {α:Type} {xs:List α} {p:α→Bool} {j:Nat} {x:α} (h:xs[j]? =some x):cJ xs p j=p x:=by unfold cJ;rw[h]
theorem jx {α:Type} (xs:List α) (p:α→Bool):(List.range xs.length).any (cJ xs p)=xs.any p:=by
 rw[Bool.eq_iff_iff,List.any_eq_true,List.any_eq_true]
 constructor
 ·rintro ⟨j,hj,h⟩
  unfold cJ at h
  split at h
  ·rename_i x hx
   exact⟨x,co hx,h⟩
  ·cases h
 ·rintro ⟨x,hx,h⟩
  obtain⟨j,hj⟩:=List.mem_iff_getElem?.1 hx
  exact⟨j,List.mem_range.2 (List.getElem?_eq_some_iff.1 hj).1,by rw[dx hj];exact h⟩
theorem rz {α:Type} (xs:List α) (p:α→Bool):cy (cJ xs p) xs.length=match xs.findIdx? p with|some i=>(i:Int)|none=> -1:=by
 cases h:xs.findIdx? p with
 |none=>
  refine xA fun j hj=> ?_
  rw[dx (List.getElem?_eq_getElem hj)]
  exact List.findIdx?_eq_none_iff.1 h _ (List.getElem_mem hj)
 |some i=>
  obtain⟨hi,h1,h2⟩:=List.findIdx?_eq_some_iff_getElem.1 h
  refine xz hi (by rw[dx (List.getElem?_eq_getElem hi)];exact h1) fun j hj=> ?_
  rw[dx (List.getElem?_eq_getElem (by omega))]
  simpa using h2 j hj
theorem E7 {α:Type}: ∀{l:List α},l.length=3→∃a b c,l=[a,b,c]
 |[a,b,c],_=>⟨a,b,c,rfl⟩
theorem E8 {α:Type}: ∀{l:List α},l.length=1→∃a,l=[a]
 |[a],_=>⟨a,rfl⟩
theorem E9 {α:Type}: ∀{l:List α},l.length=7→∃a b c d e f g,l=[a,b,c,d,e,f,g]
 |[a,b,c,d,e,f,g],_=>⟨a,b,c,d,e,f,g,rfl⟩
theorem Fb {α:Type}: ∀{l:List α},l.length=10→∃a b c d e f g h i j,l=[a,b,c,d,e,f,g,h,i,j]
 |[a,b,c,d,e,f,g,h,i,j],_=>⟨a,b,c,d,e,f,g,h,i,j,rfl⟩
theorem Fc {α:Type} (R:World→Nat→List Value→α→Prop) (hR:cI R) (v:Value) (xs:List α) (g:Nat) (caps:Array Value) (P:Nat→Bool) (w:World) (h:aQ 1 R w w.heap.size v xs) (eg:bc g)
 (hg: ∀(j:Nat) x cs W,xs[j]? =some x→Below w.heap.size w W→R W W.heap.size cs x→cs.length=1→am g (#[(cs.headD undef)]++caps) W (.bool (P j))):
 am 398 #[v,az g caps] w (.int .i64 (cy P xs.length)):=by
 obtain⟨A,n,c,rfl,hl,hc,hm⟩:=h.form
 have H:=aa h;have HG:=aa hg;have HL:=aa hl
 unfold bc at eg
 simp only[az]
 rw[hl]
 clear h hg hl
 go_enter func398,ntmps398
 exact rB
theorem Fd {α:Type} (R:World→Nat→List Value→α→Prop) (hR:cI R) (v:Value) (xs:List α) (g:Nat) (caps:Array Value) (P:Nat→Bool) (w:World) (h:aQ 1 R w w.heap.size v xs) (eg:bc g)
 (hg: ∀(j:Nat) x cs W,xs[j]? =some x→Below w.heap.size w W→R W W.heap.size cs x→cs.length=1→am g (#[(cs.headD undef)]++caps) W (.bool (P j))):
 am 367 #[v,az g caps] w (.bool ((List.range xs.length).any P)):=by
 obtain⟨A,n,c,rfl,hl,hc,hm⟩:=h.form
 have HI:=aa (Fc R hR _ xs g caps P w h eg hg)
 have hge: -1≤cy P xs.length:=by unfold cy;split<;>omega
 rw[←jw]
 clear h hg eg hl
 simp only[az] at HI⊢
 go_enter func367,ntmps367
 go_wp2_with(go_at_call 398;refine HI.out.mono ?_;rintro e w1 ⟨rfl,hb1⟩)
 exact ik
theorem xB {α:Type} (R:World→Nat→List Value→α→Prop) (hR:cI R) (v:Value) (xs:List α) (g:Nat) (caps:Array Value) (P:Nat→Bool) (w:World) (h:aQ 1 R w w.heap.size v xs) (eg:bc g)
 (hg: ∀(j:Nat) x cs W,xs[j]? =some x→Below w.heap.size w W→R W W.heap.size cs x→cs.length=1→am g (#[(cs.headD undef)]++caps) W (.bool (P j))):
 am 30 #[v,az g caps] w (.int .i64 (cy P xs.length)):=by
 obtain⟨A,n,c,rfl,hl,hc,hm⟩:=h.form
 have H:=aa h;have HG:=aa hg;have HL:=aa hl
 unfold bc at eg
 simp only[az]
 rw[hl]
 clear h hg hl
 go_enter func30,ntmps30
 exact rB
theorem rC {α:Type} (R:World→Nat→List Value→α→Prop) (hR:cI R) (v:Value) (xs:List α) (g:Nat) (caps:Array Value) (P:Nat→Bool) (w:World) (h:aQ 1 R w w.heap.size v xs) (eg:bc g)
 (hg: ∀(j:Nat) x cs W,xs[j]? =some x→Below w.heap.size w W→R W W.heap.size cs x→cs.length=1→am g (#[(cs.headD undef)]++caps) W (.bool (P j))):
 am 222 #[v,az g caps] w (.bool ((List.range xs.length).any P)):=by
 obtain⟨A,n,c,rfl,hl,hc,hm⟩:=h.form
 have HI:=aa (xB R hR _ xs g caps P w h eg hg)
 have hge: -1≤cy P xs.length:=by unfold cy;split<;>omega
 rw[←jw]
 clear h hg eg hl
 simp only[az] at HI⊢
 go_enter func222,ntmps222
 go_wp2_with(go_at_call 30;refine HI.out.mono ?_;rintro e w1 ⟨rfl,hb1⟩)
 exact ik
theorem rD {α:Type} (R:World→Nat→List Value→α→Prop) (hR:cI R) (v:Value) (xs:List α) (g:Nat) (caps:Array Value) (P:Nat→Bool) (w:World) (h:aQ 3 R w w.heap.size v xs) (eg:bc g)
 (hg: ∀(j:Nat) x cs W,xs[j]? =some x→Below w.heap.size w W→R W W.heap.size cs x→cs.length=3→am g (#[(.agg cs.toArray)]++caps) W (.bool (P j))):
 am 126 #[v,az g caps] w (.int .i64 (cy P xs.length)):=by
 obtain⟨A,n,c,rfl,hl,hc,hm⟩:=h.form
 have H:=aa h;have HG:=aa hg;have HL:=aa hl
 unfold bc at eg
 simp only[az]
 rw[hl]
 clear h hg hl
 go_enter func126,ntmps126
 exact rE
theorem Fe {α:Type} (R:World→Nat→List Value→α→Prop) (hR:cI R) (v:Value) (xs:List α) (g:Nat) (caps:Array Value) (P:Nat→Bool) (w:World) (h:aQ 3 R w w.heap.size v xs) (eg:bc g)
 (hg: ∀(j:Nat) x cs W,xs[j]? =some x→Below w.heap.size w W→R W W.heap.size cs x→cs.length=3→am g (#[(.agg cs.toArray)]++caps) W (.bool (P j))):
 am 123 #[v,az g caps] w (.bool ((List.range xs.length).any P)):=by
 obtain⟨A,n,c,rfl,hl,hc,hm⟩:=h.form
 have HI:=aa (rD R hR _ xs g caps P w h eg hg)
 have hge: -1≤cy P xs.length:=by unfold cy;split<;>omega
 rw[←jw]
 clear h hg eg hl
 simp only[az] at HI⊢
 go_enter func123,ntmps123
 go_wp2_with(go_at_call 126;refine HI.out.mono ?_;rintro e w1 ⟨rfl,hb1⟩)
 exact ik
theorem Ff {α:Type} (R:World→Nat→List Value→α→Prop) (hR:cI R) (v:Value) (xs:List α) (g:Nat) (caps:Array Value) (P:Nat→Bool) (w:World) (h:aQ 7 R w w.heap.size v xs) (eg:bc g)
 (hg: ∀(j:Nat) x cs W,xs[j]? =some x→Below w.heap.size w W→R W W.heap.size cs x→cs.length=7→am g (#[(.agg cs.toArray)]++caps) W (.bool (P j))):
 am 248 #[v,az g caps] w (.int .i64 (cy P xs.length)):=by
 obtain⟨A,n,c,rfl,hl,hc,hm⟩:=h.form
 have H:=aa h;have HG:=aa hg;have HL:=aa hl
 unfold bc at eg
 simp only[az]
 rw[hl]
 clear h hg hl
 go_enter func248,ntmps248
 exact xC
theorem Fg {α:Type} (R:World→Nat→List Value→α→Prop) (hR:cI R) (v:Value) (xs:List α) (g:Nat) (caps:Array Value) (P:Nat→Bool) (w:World) (h:aQ 7 R w w.heap.size v xs) (eg:bc g)
 (hg: ∀(j:Nat) x cs W,xs[j]? =some x→Below w.heap.size w W→R W W.heap.size cs x→cs.length=7→am g (#[(.agg cs.toArray)]++caps) W (.bool (P j))):
 am 156 #[v,az g caps] w (.bool ((List.range xs.length).any P)):=by
 obtain⟨A,n,c,rfl,hl,hc,hm⟩:=h.form
 have HI:=aa (Ff R hR _ xs g caps P w h eg hg)
 have hge: -1≤cy P xs.length:=by unfold cy;split<;>omega
 rw[←jw]
 clear h hg eg hl
 simp only[az] at HI⊢
 go_enter func156,ntmps156
 go_wp2_with(go_at_call 248;refine HI.out.mono ?_;rintro e w1 ⟨rfl,hb1⟩)
 exact ik
theorem Fh {α:Type} (R:World→Nat→List Value→α→Prop) (hR:cI R) (v:Value) (xs:List α) (g:Nat) (caps:Array Value) (P:Nat→Bool) (w:World) (h:aQ 7 R w w.heap.size v xs) (eg:bc g)
 (hg: ∀(j:Nat) x cs W,xs[j]? =some x→Below w.heap.size w W→R W W.heap.size cs x→cs.length=7→am g (#[(.agg cs.toArray)]++caps) W (.bool (P j))):
 am 253 #[v,az g caps] w (.int .i64 (cy P xs.length)):=by
 obtain⟨A,n,c,rfl,hl,hc,hm⟩:=h.form
 have H:=aa h;have HG:=aa hg;have HL:=aa hl
 unfold bc at eg
 simp only[az]
 rw[hl]
 clear h hg hl
 go_enter func253,ntmps253
 exact xC
theorem Fi {α:Type} (R:World→Nat→List Value→α→Prop) (hR:cI R) (v:Value) (xs:List α) (g:Nat) (caps:Array Value) (P:Nat→Bool) (w:World) (h:aQ 7 R w w.heap.size v xs) (eg:bc g)
 (hg: ∀(j:Nat) x cs W,xs[j]? =some x→Below w.heap.size w W→R W W.heap.size cs x→cs.length=7→am g (#[(.agg cs.toArray)]++caps) W (.bool (P j))):
 am 159 #[v,az g caps] w (.bool ((List.range xs.length).any P)):=by
 obtain⟨A,n,c,rfl,hl,hc,hm⟩:=h.form
 have HI:=aa (Fh R hR _ xs g caps P w h eg hg)
 have hge: -1≤cy P xs.length:=by unfold cy;split<;>omega
 rw[←jw]
 clear h hg eg hl
 simp only[az] at HI⊢
 go_enter func159,ntmps159
 go_wp2_with(go_at_call 253;refine HI.out.mono ?_;rintro e w1 ⟨rfl,hb1⟩)
 exact ik
theorem Fj {α:Type} (R:World→Nat→List Value→α→Prop) (hR:cI R) (v:Value) (xs:List α) (g:Nat) (caps:Array Value) (P:Nat→Bool) (w:World) (h:aQ 10 R w w.heap.size v xs) (eg:bc g)
 (hg: ∀(j:Nat) x cs W,xs[j]? =some x→Below w.heap.size w W→R W W.heap.size cs x→cs.length=10→am g (#[(.agg cs.toArray)]++caps) W (.bool (P j))):
 am 177 #[v,az g caps] w (.int .i64 (cy P xs.length)):=by
 obtain⟨A,n,c,rfl,hl,hc,hm⟩:=h.form
 have H:=aa h;have HG:=aa hg;have HL:=aa hl
 unfold bc at eg
 simp only[az]
 rw[hl]
 clear h hg hl
 go_enter func177,ntmps177
 go_wp2_with fail
 go_loopw [8] (fun i wr=> ∃k:Nat,k≤n∧i= .int .i64 k∧(∀j,j<k→P j=false)∧Below w.heap.size w wr) (fun i _=>n - (intOf i).toNat)
 case atStart=>exact⟨0,aY _,rfl,by omega,B0 w⟩
 case round=>
  obtain⟨k,hk,rfl,hall,hB⟩:=hrel
  have HA:=aa hall
  clear hall
  by_cases hlt:k<n
  ·have hI1:(0:Int)≤k:=by omega
   have hI2:(k:Int)<n:=by omega
   obtain⟨x,hx⟩: ∃x,xs[k]? =some x:=⟨_,List.getElem?_eq_getElem (by rw[HL.out];exact hlt)⟩
   obtain⟨b,o,cs,rfl,hbb,hcl,hr,hcell⟩:=(H.out.to hR hB (ae _) hB.size).at_ hx
   have hcall:=HG.out k x cs wr hx hB hr hcl
   obtain⟨u0,u1,u2,u3,u4,u5,u6,u7,u8,u9,rfl⟩:=Fb hcl
   refine j5 fun h0 h1 h2=> ?_
   have h3:=hcell 3 _ rfl
   have h4:=hcell 4 _ rfl
   have h5:=hcell 5 _ rfl
   have h6:=hcell 6 _ rfl
   have h7:=hcell 7 _ rfl
   have h8:=hcell 8 _ rfl
   have h9:=hcell 9 _ rfl
   simp only[Nat.add_zero] at h0
   exact oU
  ·exact oV
theorem Fk {α:Type} (R:World→Nat→List Value→α→Prop) (hR:cI R) (v:Value) (xs:List α) (g:Nat) (caps:Array Value) (P:Nat→Bool) (w:World) (h:aQ 10 R w w.heap.size v xs) (eg:bc g)
 (hg: ∀(j:Nat) x cs W,xs[j]? =some x→Below w.heap.size w W→R W W.heap.size cs x→cs.length=10→am g (#[(.agg cs.toArray)]++caps) W (.bool (P j))):
 am 62 #[v,az g caps] w (.bool ((List.range xs.length).any P)):=by
 obtain⟨A,n,c,rfl,hl,hc,hm⟩:=h.form
 have HI:=aa (Fj R hR _ xs g caps P w h eg hg)
 have hge: -1≤cy P xs.length:=by unfold cy;split<;>omega
 rw[←jw]
 clear h hg eg hl
 simp only[az] at HI⊢
 go_enter func62,ntmps62
 go_wp2_with(go_at_call 177;refine HI.out.mono ?_;rintro e w1 ⟨rfl,hb1⟩)
 exact ik
theorem Fl {α:Type} (R:World→Nat→List Value→α→Prop) (hR:cI R) (v:Value) (xs:List α) (g:Nat) (caps:Array Value) (P:Nat→Bool) (w:World) (h:aQ 3 R w w.heap.size v xs) (eg:bc g)
 (hg: ∀(j:Nat) x cs W,xs[j]? =some x→Below w.heap.size w W→R W W.heap.size cs x→cs.length=3→am g (#[(.agg cs.toArray)]++caps) W (.bool (P j))):
 am 324 #[v,az g caps] w (.int .i64 (cy P xs.length)):=by
 obtain⟨A,n,c,rfl,hl,hc,hm⟩:=h.form
 have H:=aa h;have HG:=aa hg;have HL:=aa hl
 unfold bc at eg
 simp only[az]
 rw[hl]
 clear h hg hl
 go_enter func324,ntmps324
 exact rE
theorem Fm {α:Type} (R:World→Nat→List Value→α→Prop) (hR:cI R) (v:Value) (xs:List α) (g:Nat) (caps:Array Value) (P:Nat→Bool) (w:World) (h:aQ 3 R w w.heap.size v xs) (eg:bc g)
 (hg: ∀(j:Nat) x cs W,xs[j]? =some x→Below w.heap.size w W→R W W.heap.size cs x→cs.length=3→am g (#[(.agg cs.toArray)]++caps) W (.bool (P j))):
 am 236 #[v,az g caps] w (.bool ((List.range xs.length).any P)):=by
 obtain⟨A,n,c,rfl,hl,hc,hm⟩:=h.form
 have HI:=aa (Fl R hR _ xs g caps P w h eg hg)
 have hge: -1≤cy P xs.length:=by unfold cy;split<;>omega
 rw[←jw]
 clear h hg eg hl
 simp only[az] at HI⊢
 go_enter func236,ntmps236
 go_wp2_with(go_at_call 324;refine HI.out.mono ?_;rintro e w1 ⟨rfl,hb1⟩)
 exact ik
theorem Fo {α:Type} (R:World→Nat→List Value→α→Prop) (hR:cI R) (v:Value) (xs:List α) (g:Nat) (caps:Array Value) (P:Nat→Bool) (w:World) (h:aQ 3 R w w.heap.size v xs) (eg:bc g)
 (hg: ∀(j:Nat) x cs W,xs[j]? =some x→Below w.heap.size w W→R W W.heap.size cs x→cs.length=3→am g (#[(.agg cs.toArray)]++caps) W (.bool (P j))):
 am 325 #[v,az g caps] w (.int .i64 (cy P xs.length)):=by
 obtain⟨A,n,c,rfl,hl,hc,hm⟩:=h.form
 have H:=aa h;have HG:=aa hg;have HL:=aa hl
 unfold bc at eg
 simp only[az]
 rw[hl]
 clear h hg hl
 go_enter func325,ntmps325
 exact rE
theorem Fp {α:Type} (R:World→Nat→List Value→α→Prop) (hR:cI R) (v:Value) (xs:List α) (g:Nat) (caps:Array Value) (P:Nat→Bool) (w:World) (h:aQ 3 R w w.heap.size v xs) (eg:bc g)
 (hg: ∀(j:Nat) x cs W,xs[j]? =some x→Below w.heap.size w W→R W W.heap.size cs x→cs.length=3→am g (#[(.agg cs.toArray)]++caps) W (.bool (P j))):
 am 243 #[v,az g caps] w (.bool ((List.range xs.length).any P)):=by
 obtain⟨A,n,c,rfl,hl,hc,hm⟩:=h.form
 have HI:=aa (Fo R hR _ xs g caps P w h eg hg)
 have hge: -1≤cy P xs.length:=by unfold cy;split<;>omega
 rw[←jw]
 clear h hg eg hl
 simp only[az] at HI⊢
 go_enter func243,ntmps243
 go_wp2_with(go_at_call 325;refine HI.out.mono ?_;rintro e w1 ⟨rfl,hb1⟩)
 exact ik
def dE {α:Type} (c:α→List α→Bool) (b xs:List α) (j:Nat):Bool:=match xs[j]? with|some x=>c x (b++xs.take j)|none=>true
theorem iu {α:Type} {c:α→List α→Bool} {b xs:List α} {j:Nat} {x:α} (h:xs[j]? =some x):dE c b xs j=c x (b++xs.take j):=by unfold dE;rw[h]
def cV (P:Nat→Bool) (n:Nat):Bool:=(List.range n).all P
theorem gD {P:Nat→Bool} {n k:Nat} (hk:k<n) (h:P k=false):cV P n=false:=by
 unfold cV
 rw[List.all_eq_false]
 exact⟨k,List.mem_range.2 hk,by simp[h]⟩
theorem iV {P:Nat→Bool} {n:Nat} (h: ∀j,j<n→P j=true):cV P n=true:=by
 unfold cV
 rw[List.all_eq_true]
 exact fun j hj=>h j (List.mem_range.1 hj)
theorem hE {α:Type} (c:α→List α→Bool): ∀(xs b:List α),dh c b xs=cV (dE c b xs) xs.length
 |[],b=>rfl
 |x::r,b=>by
  rw[dh,hE c r (b++[x])]
  unfold cV
  rw[List.length_cons,List.range_succ_eq_map,List.all_cons,List.all_map]
  congr 1
  ·simp[dE]
  ·congr 1
   funext j
   simp[dE,Function.comp]
theorem rF {α:Type} (xs:List α) (p:α→Bool):cV (cJ xs p) xs.length=xs.all p:=by
 rw[Bool.eq_iff_iff]
 unfold cV
 rw[List.all_eq_true,List.all_eq_true]
 constructor
 ·intro h x hx
  obtain⟨j,hj⟩:=List.mem_iff_getElem?.1 hx
  have:=h j (List.mem_range.2 (List.getElem?_eq_some_iff.1 hj).1)
  rwa [dx hj] at this
 ·intro h j hj
  have hlt:=List.mem_range.1 hj
  rw[dx (List.getElem?_eq_getElem hlt)]
  exact h _ (List.getElem_mem hlt)
theorem aQ.take {α:Type} {k:Nat} {R:World→Nat→List Value→α→Prop} {w:World} {B n c:Nat} {A:Option Addr} {xs:List α} (h:aQ k R w B (.slice A n c) xs) {j:Nat} (hj:j≤n):aQ k R w B (.slice A j c) (xs.take j):=by
 obtain⟨A',c',he,h1,h2,h3⟩:=h
 injection he with e1 e2 e3
 subst e1 e3
 refine⟨A,c,by rw[List.length_take,←e2,Nat.min_eq_left hj],by rw[List.length_take];omega,h2,fun hn=> ?_⟩
 have hne:xs≠[]:=fun e=>hn (by rw[e];simp)
 obtain⟨b,o,hA,hb,hc⟩:=h3 hne
 refine⟨b,o,hA,hb,fun i x hx=>hc i x ?_⟩
 rw[List.getElem?_take] at hx
 split at hx
 ·exact hx
 ·cases hx
theorem Fq (v:Value) (xs:List eN) (g:Nat) (caps:Array Value) (P:Nat→Bool) (w:World) (h:aQ 3 fd w w.heap.size v xs) (eg:bc g)
 (hg: ∀(j:Nat) x cs bv W,xs[j]? =some x→Below w.heap.size w W→fd W W.heap.size cs x→cs.length=3→aQ 3 fd W W.heap.size bv (xs.take j)→am g (#[.agg cs.toArray,bv]++caps) W (.bool (P j))):
 am 233 #[v,az g caps] w (.bool (cV P xs.length)):=by
 obtain⟨A,n,c,rfl,hl,hc,hm⟩:=h.form
 have H:=aa h;have HG:=aa hg;have HL:=aa hl
 unfold bc at eg
 simp only[az]
 rw[hl]
 clear h hg hl
 go_enter func233,ntmps233
 go_wp2_with fail
 go_loopw [9] (fun i wr=> ∃k:Nat,k≤n∧i= .int .i64 k∧(∀j,j<k→P j=true)∧Below w.heap.size w wr) (fun i _=>n - (intOf i).toNat)
 case atStart=>exact⟨0,aY _,rfl,by omega,B0 w⟩
 case round=>
  obtain⟨k,hk,rfl,hall,hB⟩:=hrel
  have HA:=aa hall
  clear hall
  by_cases hlt:k<n
  ·have hI1:(0:Int)≤k:=by omega
   have hI2:(k:Int)<n:=by omega
   have hI3:(k:Int)≤c:=by omega
   obtain⟨x,hx⟩: ∃x,xs[k]? =some x:=⟨_,List.getElem?_eq_getElem (by rw[HL.out];exact hlt)⟩
   have hS:=H.out.to fd.ab hB (ae _) hB.size
   obtain⟨b,o,cs,rfl,hbb,hcl,hr,hcell⟩:=hS.at_ hx
   have HC:=aa (fun W (hW:Below wr.heap.size wr W)=>HG.out k x cs (.slice (some ⟨b,o,none⟩) k c) W hx (ag hB hW) (fd.ab _ _ _ _ _ _ _ hr hW (ae _) hW.size) hcl ((hS.to fd.ab hW (ae _) hW.size).take (by omega:k≤n)))
   obtain⟨rfl,hxr⟩:=hr
   refine j5 fun h0 h1 h2=> ?_
   simp only[Nat.add_zero] at h0
   have HQ:=aa hB
   clear hcell hcl hS hB hxr
   cases hp:P k with
   |false=>
    rw[hp] at HC
    have HP:=aa hp
    clear hp
    go_wp2_with fail
    go_region_held3 (fun w'=>w'.cell? ⟨wr.heap.size,0,none⟩=some (.string (bs x.name))∧w'.cell? ⟨wr.heap.size,1,none⟩=some (.int .i64 x.site)∧w'.cell? ⟨wr.heap.size,2,none⟩=some (.int .i64 x.feed)) (go_simp)
     ((refine(HC.out _ (au (ac (B0 wr) _))).mono ?_;rintro e w' ⟨rfl,hb'⟩;obtain⟨hc2,hf2⟩:=ck hb'))
    exact rG
   |true=>
    rw[hp] at HC
    have HP:=aa hp
    clear hp
    go_wp2_with fail
    go_region_held3 (fun w'=>w'.cell? ⟨wr.heap.size,0,none⟩=some (.string (bs x.name))∧w'.cell? ⟨wr.heap.size,1,none⟩=some (.int .i64 x.site)∧w'.cell? ⟨wr.heap.size,2,none⟩=some (.int .i64 x.feed)) (go_simp)
     ((refine(HC.out _ (au (ac (B0 wr) _))).mono ?_;rintro e w' ⟨rfl,hb'⟩;obtain⟨hc2,hf2⟩:=ck hb'))
    have hB':=ag HQ.out (ag (au (ac (B0 wr) _)) hb')
    exact oW
  ·exact rH
theorem Fs (v:Value) (xs:List fR) (g:Nat) (caps:Array Value) (P:Nat→Bool) (w:World) (h:aQ 3 gW w w.heap.size v xs) (eg:bc g)
 (hg: ∀(j:Nat) x cs bv W,xs[j]? =some x→Below w.heap.size w W→gW W W.heap.size cs x→cs.length=3→aQ 3 gW W W.heap.size bv (xs.take j)→am g (#[.agg cs.toArray,bv]++caps) W (.bool (P j))):
 am 237 #[v,az g caps] w (.bool (cV P xs.length)):=by
 obtain⟨A,n,c,rfl,hl,hc,hm⟩:=h.form
 have H:=aa h;have HG:=aa hg;have HL:=aa hl
 unfold bc at eg
 simp only[az]
 rw[hl]
 clear h hg hl
 go_enter func237,ntmps237
 go_wp2_with fail
 go_loopw [9] (fun i wr=> ∃k:Nat,k≤n∧i= .int .i64 k∧(∀j,j<k→P j=true)∧Below w.heap.size w wr) (fun i _=>n - (intOf i).toNat)
 case atStart=>exact⟨0,aY _,rfl,by omega,B0 w⟩
 case round=>
  obtain⟨k,hk,rfl,hall,hB⟩:=hrel
  have HA:=aa hall
  clear hall
  by_cases hlt:k<n
  ·have hI1:(0:Int)≤k:=by omega
   have hI2:(k:Int)<n:=by omega
   have hI3:(k:Int)≤c:=by omega
   obtain⟨x,hx⟩: ∃x,xs[k]? =some x:=⟨_,List.getElem?_eq_getElem (by rw[HL.out];exact hlt)⟩
   have hS:=H.out.to gW.ab hB (ae _) hB.size
   obtain⟨b,o,cs,rfl,hbb,hcl,hr,hcell⟩:=hS.at_ hx
   have HC:=aa (fun W (hW:Below wr.heap.size wr W)=>HG.out k x cs (.slice (some ⟨b,o,none⟩) k c) W hx (ag hB hW) (gW.ab _ _ _ _ _ _ _ hr hW (ae _) hW.size) hcl ((hS.to gW.ab hW (ae _) hW.size).take (by omega:k≤n)))
   obtain⟨rfl,hxr⟩:=hr
   refine j5 fun h0 h1 h2=> ?_
   simp only[Nat.add_zero] at h0
   have HQ:=aa hB
   clear hcell hcl hS hB hxr
   cases hp:P k with
   |false=>
    rw[hp] at HC
    have HP:=aa hp
    clear hp
    go_wp2_with fail
    go_region_held3 (fun w'=>w'.cell? ⟨wr.heap.size,0,none⟩=some (.string (bs x.name))∧w'.cell? ⟨wr.heap.size,1,none⟩=some (.int .i64 x.rack)∧w'.cell? ⟨wr.heap.size,2,none⟩=some (.int .i64 x.cap)) (go_simp)
     ((refine(HC.out _ (au (ac (B0 wr) _))).mono ?_;rintro e w' ⟨rfl,hb'⟩;obtain⟨hc2,hf2⟩:=ck hb'))
    exact rG
   |true=>
    rw[hp] at HC
    have HP:=aa hp
    clear hp
    go_wp2_with fail
    go_region_held3 (fun w'=>w'.cell? ⟨wr.heap.size,0,none⟩=some (.string (bs x.name))∧w'.cell? ⟨wr.heap.size,1,none⟩=some (.int .i64 x.rack)∧w'.cell? ⟨wr.heap.size,2,none⟩=some (.int .i64 x.cap)) (go_simp)
     ((refine(HC.out _ (au (ac (B0 wr) _))).mono ?_;rintro e w' ⟨rfl,hb'⟩;obtain⟨hc2,hf2⟩:=ck hb'))
    have hB':=ag HQ.out (ag (au (ac (B0 wr) _)) hb')
    exact oW
  ·exact rH
theorem Ft (v:Value) (xs:List gq) (g:Nat) (caps:Array Value) (P:Nat→Bool) (w:World) (h:aQ 3 fe w w.heap.size v xs) (eg:bc g)
 (hg: ∀(j:Nat) x cs bv W,xs[j]? =some x→Below w.heap.size w W→fe W W.heap.size cs x→cs.length=3→aQ 3 fe W W.heap.size bv (xs.take j)→am g (#[.agg cs.toArray,bv]++caps) W (.bool (P j))):
 am 240 #[v,az g caps] w (.bool (cV P xs.length)):=by
 obtain⟨A,n,c,rfl,hl,hc,hm⟩:=h.form
 have H:=aa h;have HG:=aa hg;have HL:=aa hl
 unfold bc at eg
 simp only[az]
 rw[hl]
 clear h hg hl
 go_enter func240,ntmps240
 go_wp2_with fail
 go_loopw [9] (fun i wr=> ∃k:Nat,k≤n∧i= .int .i64 k∧(∀j,j<k→P j=true)∧Below w.heap.size w wr) (fun i _=>n - (intOf i).toNat)
 case atStart=>exact⟨0,aY _,rfl,by omega,B0 w⟩
 case round=>
  obtain⟨k,hk,rfl,hall,hB⟩:=hrel
  have HA:=aa hall
  clear hall
  by_cases hlt:k<n
  ·have hI1:(0:Int)≤k:=by omega
   have hI2:(k:Int)<n:=by omega
   have hI3:(k:Int)≤c:=by omega
   obtain⟨x,hx⟩: ∃x,xs[k]? =some x:=⟨_,List.getElem?_eq_getElem (by rw[HL.out];exact hlt)⟩
   have hS:=H.out.to fe.ab hB (ae _) hB.size
   obtain⟨b,o,cs,rfl,hbb,hcl,hr,hcell⟩:=hS.at_ hx
   have HC:=aa (fun W (hW:Below wr.heap.size wr W)=>HG.out k x cs (.slice (some ⟨b,o,none⟩) k c) W hx (ag hB hW) (fe.ab _ _ _ _ _ _ _ hr hW (ae _) hW.size) hcl ((hS.to fe.ab hW (ae _) hW.size).take (by omega:k≤n)))
   obtain⟨rfl,hxr⟩:=hr
   refine j5 fun h0 h1 h2=> ?_
   simp only[Nat.add_zero] at h0
   have HQ:=aa hB
   clear hcell hcl hS hB hxr
   cases hp:P k with
   |false=>
    rw[hp] at HC
    have HP:=aa hp
    clear hp
    go_wp2_with fail
    go_region_held3 (fun w'=>w'.cell? ⟨wr.heap.size,0,none⟩=some (.int .i64 x.a)∧w'.cell? ⟨wr.heap.size,1,none⟩=some (.int .i64 x.b)∧w'.cell? ⟨wr.heap.size,2,none⟩=some (.int .i64 x.cap)) (go_simp)
     ((refine(HC.out _ (au (ac (B0 wr) _))).mono ?_;rintro e w' ⟨rfl,hb'⟩;obtain⟨hc2,hf2⟩:=ck hb'))
    exact rG
   |true=>
    rw[hp] at HC
    have HP:=aa hp
    clear hp
    go_wp2_with fail
    go_region_held3 (fun w'=>w'.cell? ⟨wr.heap.size,0,none⟩=some (.int .i64 x.a)∧w'.cell? ⟨wr.heap.size,1,none⟩=some (.int .i64 x.b)∧w'.cell? ⟨wr.heap.size,2,none⟩=some (.int .i64 x.cap)) (go_simp)
     ((refine(HC.out _ (au (ac (B0 wr) _))).mono ?_;rintro e w' ⟨rfl,hb'⟩;obtain⟨hc2,hf2⟩:=ck hb'))
    have hB':=ag HQ.out (ag (au (ac (B0 wr) _)) hb')
    exact oW
  ·exact rH
theorem nf (n k:Int) (w:World):Calls prog 232 #[.int .i64 n,.int .i64 k] w fun e w'=>e= .returned (.bool (aD n 1 k))∧w'=w:=by
 go_enter func232,ntmps232
 go_wp2
 all_goals (go_ret;exact⟨aV (by simp[aD];try omega),rfl⟩)
theorem xD (n:Int) (w:World):Calls prog 239 #[.int .i64 n] w fun e w'=>e= .returned (.bool (aD n 0 1048576))∧w'=w:=by
 go_enter func239,ntmps239
 go_wp2
 all_goals (go_ret;exact⟨aV (by simp[aD];try omega),rfl⟩)
def lK (x y:eN):Bool:=decide (y.feed=x.feed)&& !decide (y.site=x.site)
theorem Fu (m:aC) (x:eN) (b:List eN):gv m x b=(aM x.site m.sites.length&&aM x.feed m.feeds.length&& !b.any (lK x)):=rfl
theorem iv (a b:Int):(a==b)=decide (a=b):=by rw[Bool.eq_iff_iff];simp
theorem Fv (x y:eN) (cs:List Value) (xb:Nat) (w:World) (hy:fd w w.heap.size cs y) (h1:w.cell? ⟨xb,1,none⟩=some (.int .i64 x.site)) (h2:w.cell? ⟨xb,2,none⟩=some (.int .i64 x.feed)) (hb:xb<w.heap.size):
 am 235 #[.agg cs.toArray,ptr xb] w (.bool (lK x y)):=by
 obtain⟨rfl,hI1,hI2⟩:=hy
 have hne: ¬xb=w.heap.size:=by omega
 have HF:Hid (lK x y=(decide (y.feed=x.feed)&& !decide (y.site=x.site))):=rfl
 generalize lK x y=r at HF
 clear hI1 hI2
 simp only[ptr]
 by_cases hf:(y.feed==x.feed)=true
 ·have HE:=aa hf
  go_enter func235,ntmps235
  go_wp2_with fail
  go_ret
  refine⟨aV ?_,ac (B0 w) _⟩
  have e:=HE.out
  rw[iv] at e
  rw[HF.out,e]
  simp[bne,iv]
 ·have hf':(y.feed==x.feed)=false:=by simpa using hf
  clear hf
  have HE:=aa hf'
  go_enter func235,ntmps235
  go_wp2_with fail
  go_ret
  refine⟨aV ?_,ac (B0 w) _⟩
  have e:=HE.out
  rw[iv] at e
  rw[HF.out,e]
  rfl
theorem aC.In.cells {m:aC} {w:World} {B:Nat} {v:MV} (h:m.In w B v):
 (∃A c,v.s= .slice A m.sites.length c∧m.sites.length≤c∧c≤9223372036854775807)∧(∃A c,v.f= .slice A m.feeds.length c∧m.feeds.length≤c∧c≤9223372036854775807)∧(∃A c,v.r= .slice A m.racks.length c∧m.racks.length≤c∧c≤9223372036854775807)∧
 (∃A c,v.m= .slice A m.machs.length c∧m.machs.length≤c∧c≤9223372036854775807)∧(∃A c,v.l= .slice A m.links.length c∧m.links.length≤c∧c≤9223372036854775807)∧(∃A c,v.i= .slice A m.items.length c∧m.items.length≤c∧c≤9223372036854775807)∧
 (∃A c,v.u= .slice A m.rules.length c∧m.rules.length≤c∧c≤9223372036854775807):=by
 have s1 {l:List ai} {v:Value} (h:aI w B v l): ∃A c,v= .slice A l.length c∧l.length≤c∧c≤9223372036854775807:=by
  obtain⟨A,c,h1,h2,h3,_⟩:=h
  simp only[List.length_map] at h1 h2
  exact⟨A,c,h1,h2,h3⟩
 have sk {α:Type} {k:Nat} {R:World→Nat→List Value→α→Prop} {l:List α} {v:Value} (h:aQ k R w B v l): ∃A c,v= .slice A l.length c∧l.length≤c∧c≤9223372036854775807:=by
  obtain⟨A,c,h1,h2,h3,_⟩:=h
  exact⟨A,c,h1,h2,h3⟩
 exact⟨s1 h.ss,s1 h.fs,sk h.rs,sk h.ms,sk h.ls,sk h.is,sk h.us⟩
theorem Fw (m:aC) (v:MV) (mb:Nat) (x:eN) (cs:List Value) (b:List eN) (bv:Value) (w:World) (hm:w.heap[mb]? =some (.cells (m.cells v) 29 (0,0))) (hv:m.In w w.heap.size v) (hx:fd w w.heap.size cs x) (hb:aQ 3 fd w w.heap.size bv b):
 am 234 #[.agg cs.toArray,bv,ptr mb] w (.bool (gv m x b)):=by
 obtain⟨rfl,hI1,hI2⟩:=hx
 obtain⟨⟨Sa,sc,hs,hs1,hs2⟩,⟨Fa,fc,hf,hf1,hf2⟩,_⟩:=hv.cells
 have hmb:=blk_lt hm
 have c0:w.cell? ⟨mb,0,none⟩=some (.slice Sa m.sites.length sc):=by rw[←hs];exact af hm rfl
 have c1:w.cell? ⟨mb,1,none⟩=some (.slice Fa m.feeds.length fc):=by rw[←hf];exact af hm rfl
 have hne: ¬mb=w.heap.size:=by omega
 obtain⟨A,n,c,rfl,hl,hc,hcm⟩:=hb.form
 have HC:=aa (fun(W:World) (hW:Below w.heap.size w W) (xb:Nat) (h1:W.cell? ⟨xb,1,none⟩=some (.int .i64 x.site)) (h2:W.cell? ⟨xb,2,none⟩=some (.int .i64 x.feed)) (hx:xb<W.heap.size)=>
  Fm fd fd.ab (.slice A n c) b 235 #[ptr xb] (cJ b (lK x)) W (hb.to fd.ab hW (ae _) hW.size) (enters_of func235 (by kernel_rfl) rfl)
   (fun j y cs W2 hy hW2 hr _=>by
     rw[dx hy]
     exact Fv x y cs xb W2 hr ((hW2.cell (p:=⟨xb,1,none⟩) hx).trans h1) ((hW2.cell (p:=⟨xb,2,none⟩) hx).trans h2) (aF hx hW2.size)))
 rw[jx] at HC
 have hE1:=fun W=>nf x.site m.sites.length W
 have hE2:=fun W=>nf x.feed m.feeds.length W
 have HE1:=aa hE1;have HE2:=aa hE2
 refine eG fun hmf=> ?_
 rw[Fu]
 unfold aM
 generalize aD x.site 1 (m.sites.length:Nat)=r1 at HE1
 generalize aD x.feed 1 (m.feeds.length:Nat)=r2 at HE2
 generalize b.any (lK x)=r3 at HC
 have hq1: ∀n:Nat,(w.alloc (.cells #[.string (bs x.name),.int .i64 x.site,.int .i64 x.feed] 128)).cell? ⟨w.heap.size,1,none⟩=some (.int .i64 x.site):=fun _=>af (aN w _) rfl
 clear hE1 hE2 hv hm hb hs hf hI1 hI2 hl hq1
 unfold az ptr at HC
 simp only[ptr]
 cases r1 with
 |false=>
  go_enter func234,ntmps234
  go_wp2_with(first|(go_at_call 232;refine(HE1.out _).mono ?_;rintro e w1 ⟨rfl,rfl⟩))
  go_ret
  exact⟨rfl,ac (B0 w) _⟩
 |true=>
  cases r2 with
  |false=>
   go_enter func234,ntmps234
   have tok1:True:=trivial
   go_wp2_with(first
    |(go_at_call 232;have _t:=tok1;refine(HE1.out _).mono ?_;rintro e w1 ⟨rfl,rfl⟩;clear tok1)
    |(go_at_call 232;refine(HE2.out _).mono ?_;rintro e w1 ⟨rfl,rfl⟩))
   go_ret
   exact⟨rfl,ac (B0 w) _⟩
  |true=>
   go_enter func234,ntmps234
   have tok1:True:=trivial
   go_wp2_with(first
    |(go_at_call 232;have _t:=tok1;refine(HE1.out _).mono ?_;rintro e w1 ⟨rfl,rfl⟩;clear tok1)
    |(go_at_call 232;refine(HE2.out _).mono ?_;rintro e w1 ⟨rfl,rfl⟩))
   refine(HC.out _ (ac (B0 w) _) w.heap.size (af (aN w _) rfl) (af (aN w _) rfl) (by simp)).mono ?_
   rintro e w1 ⟨rfl,hb1⟩
   go_wp2_with fail
   go_ret
   exact⟨by simp,ag (ac (B0 w) _) hb1⟩
end
end Go.Proofs.YthnkonlbfogkgaaGreatDoor
