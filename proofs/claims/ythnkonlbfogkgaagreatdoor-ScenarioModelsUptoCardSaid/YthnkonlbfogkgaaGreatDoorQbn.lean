/- A part of the proof. -/
import Derived.Test.YthnkonlbfogkgaaGreatDoorQbm
set_option linter.unusedVariables false
set_option linter.unusedSimpArgs false
set_option maxRecDepth 100000
set_option maxHeartbeats 32000000
namespace Go.Proofs.YthnkonlbfogkgaaGreatDoor
section
open Go Go.RowKit Go.MapKept Tryz
def de (s:ai):Value:= .string (bs s)
def nP (x:eN):List Value:=[.string (bs x.name),.int .i64 x.site,.int .i64 x.feed]
def nQ (x:fR):List Value:=[.string (bs x.name),.int .i64 x.rack,.int .i64 x.cap]
def nR (x:gq):List Value:=[.int .i64 x.a,.int .i64 x.b,.int .i64 x.cap]
def iB (x:bQ) (o:Value):List Value:=[.string (bs x.name),.int .i64 x.kind,.int .i64 x.count,.int .i64 x.load,.int .i64 x.size,.int .i64 x.share,o]
def jC (x:aU) (o:Value):List Value:=[.int .i64 x.kind,.int .i64 x.item,.int .i64 x.other,.int .i64 x.n,.int .i64 x.by_,.bool x.always,o]
def lU (x:bQ):Prop:=aj x.kind∧aj x.count∧aj x.load∧aj x.size∧aj x.share
def lV (x:aU):Prop:=aj x.kind∧aj x.item∧aj x.other∧aj x.n∧aj x.by_
def gG {α:Type} (C:α→Value→List Value) (L:α→List Int) (G:α→Prop) (w:World) (B:Nat) (rows:List (List Value)) (l:List α):Prop:=
 rows.length=l.length∧∀(j:Nat) x,l[j]? =some x→∃o,rows[j]? =some (C x o)∧w.ownsRow B 3 1 o (L x).length ((L x).map (Value.int .i64))∧(∀y∈L x,aj y)∧G x
section
variable {w w':World} {rb B:Nat} {ob:Option Nat} {e:TypeId} {size:Nat} {u:Value} {n:Nat} {xs:List Value}
theorem bx (h:w.ownsRow B e size u n xs) (hg:GP rb ob w w') (hrb:rb<B) (hne: ∀k,u.ownBlock=some k→ob≠some k):w'.ownsRow B e size u n xs:=by
 refine⟨h.1,?_⟩
 rcases h.2 with hn|⟨g,cap,cur,h1,h2,h3,h4⟩
 ·exact .inl hn
 ·refine .inr ⟨g,cap,cur,h1,h2,?_,h4⟩
  rw[hg.block g (blk_lt h3) (by omega) (fun e=>hne g (by rw[h1];rfl) e.symm)]
  exact h3
theorem bk {B':Nat} {e':TypeId} {size':Nat} {v:Value} {n':Nat} {xs':List Value} (h:w.ownsRow B e size u n xs) (h':w.ownsRow B' e' size' v n' xs') (hne: ¬e=e'): ∀k,u.ownBlock=some k→v.ownBlock≠some k:=by
 intro k hk hv
 rcases h.2 with ⟨rfl,_⟩|⟨g,cap,cur,rfl,_,hg,_⟩
 ·simp[Value.ownBlock] at hk
 ·rcases h'.2 with ⟨rfl,_⟩|⟨g',cap',cur',rfl,_,hg',_⟩
  ·simp[Value.ownBlock] at hv
  ·have e1:g=k:=by simpa[Value.ownBlock] using hk
   have e2:g'=k:=by simpa[Value.ownBlock] using hv
   subst e1 e2
   rw[hg] at hg'
   injection hg' with hg'
   injection hg' with _ hg' _
   exact hne hg'
theorem gG.gp {α:Type} {C:α→Value→List Value} {L:α→List Int} {G:α→Prop} {rows:List (List Value)} {l:List α} (h:gG C L G w B rows l) (hg:GP rb ob w w') (hrb:rb<B)
 (hv: ∀(o:Value) (n:Nat) (ys:List Value),w.ownsRow B 3 1 o n ys→∀k,o.ownBlock=some k→ob≠some k):gG C L G w' B rows l:=
 ⟨h.1,fun j x hx=>by
  obtain⟨o,h1,h2,h3,h4⟩:=h.2 j x hx
  exact⟨o,h1,bx h2 hg hrb (hv _ _ _ h2),h3,h4⟩⟩
theorem gG.snoc {α:Type} {C:α→Value→List Value} {L:α→List Int} {G:α→Prop} {rows:List (List Value)} {l:List α} {x:α} {o:Value} (h:gG C L G w B rows l) (ho:w.ownsRow B 3 1 o (L x).length ((L x).map (Value.int .i64))) (hI: ∀y∈L x,aj y) (hG:G x):
 gG C L G w B (rows++[C x o]) (l++[x]):=by
 refine⟨by simp[h.1],fun j y hy=> ?_⟩
 rcases Nat.lt_or_ge j l.length with hj|hj
 ·rw[List.getElem?_append_left hj] at hy
  obtain⟨o',g1,g⟩:=h.2 j y hy
  exact⟨o',by rw[List.getElem?_append_left (by rw[h.1];exact hj)];exact g1,g⟩
 ·rw[List.getElem?_append_right hj] at hy
  have hj0:j - l.length=0:=by
   have:=(List.getElem?_eq_some_iff.1 hy).1
   simp at this
   omega
  rw[hj0] at hy
  simp at hy
  subst hy
  exact⟨o,by rw[List.getElem?_append_right (by rw[h.1];exact hj),h.1,hj0];rfl,ho,hI,hG⟩
end
structure bI (w:World) (B M:Nat) (m:aC) (v:MV):Prop where
 s_:w.ownsRow B 9 1 v.s m.sites.length (m.sites.map de)
 f_:w.ownsRow B 9 1 v.f m.feeds.length (m.feeds.map de)
 r_:w.ownsRow B 128 3 v.r m.racks.length (m.racks.map nP).flatten
 m_:w.ownsRow B 130 3 v.m m.machs.length (m.machs.map nQ).flatten
 l_:w.ownsRow B 132 3 v.l m.links.length (m.links.map nR).flatten
 i_: ∃rows,w.ownsRow B 135 7 v.i m.items.length rows.flatten∧gG iB bQ.on lU w B rows m.items
 u_: ∃rows,w.ownsRow B 110 7 v.u m.rules.length rows.flatten∧gG jC aU.ms lV w B rows m.rules
 sf: ∀k,v.s.ownBlock=some k→v.f.ownBlock≠some k
 len:m.sites.length≤M∧m.feeds.length≤M∧m.racks.length≤M∧m.machs.length≤M∧m.links.length≤M∧m.items.length≤M∧m.rules.length≤M
 rI: ∀x∈m.racks,aj x.site∧aj x.feed
 mI: ∀x∈m.machs,aj x.rack∧aj x.cap
 lI: ∀x∈m.links,aj x.a∧aj x.b∧aj x.cap
 nums:aj m.dark∧aj m.slots∧aj m.reserve∧aj m.failures
section
variable {w w':World} {rb B M:Nat} {m:aC} {v:MV}
theorem bI.gp (h:bI w B M m v) (hg:GP rb none w w') (hrb:rb<B):bI w' B M m v:=
 have no: ∀(u:Value) k,u.ownBlock=some k→(none:Option Nat)≠some k:=fun _ _ _ e=>by cases e
 ⟨bx h.s_ hg hrb (no _),bx h.f_ hg hrb (no _),bx h.r_ hg hrb (no _),bx h.m_ hg hrb (no _),bx h.l_ hg hrb (no _),
  by obtain⟨rows,h1,h2⟩:=h.i_;exact⟨rows,bx h1 hg hrb (no _),h2.gp hg hrb fun o _ _ _=>no o⟩,
  by obtain⟨rows,h1,h2⟩:=h.u_;exact⟨rows,bx h1 hg hrb (no _),h2.gp hg hrb fun o _ _ _=>no o⟩,h.sf,h.len,h.rI,h.mI,h.lI,h.nums⟩
theorem bI.more (h:bI w B M m v) {M':Nat} (hM:M≤M'):bI w B M' m v:=
 ⟨h.s_,h.f_,h.r_,h.m_,h.l_,h.i_,h.u_,h.sf,by have:=h.len;omega,h.rI,h.mI,h.lI,h.nums⟩
theorem GP.of_kp {w w':World} {rb:Nat} {ob:Option Nat} (h:KP w.heap.size rb w w'):GP rb ob w w':=⟨h.os,h.tape,h.output,h.size,fun i hi h1 _=>h.block i hi h1⟩
theorem GP.kp {w w':World} {rb B:Nat} {ob:Option Nat} (h:GP rb ob w w') (hB:B≤w.heap.size) (ho: ∀k,ob=some k→B≤k):KP B rb w w':=
 ⟨h.os,h.tape,h.output,h.size,fun i hi h1=>h.block i (aF hi hB) h1 (fun e=>by have:=ho i e.symm;omega)⟩
theorem bI.addS (h:bI w B M m v) {v':Value} (hrb:rb<B) (hg:GP rb v.s.ownBlock w w') (hw: ∀j,v'.ownBlock=some j→v.s.ownBlock=some j∨w.heap.size≤j)
 (x:ai) (ho:w'.ownsRow B 9 1 v' (m.sites.length+1) (m.sites.map de++[de x])):bI w' B (M+1) {m with sites:=m.sites++[x]} {v with s:=v'}:=by
 exact⟨by simpa using ho,
  bx h.f_ hg hrb (fun j hj e=>h.sf j e hj),
  bx h.r_ hg hrb (bk h.r_ h.s_ (by decide)),
  bx h.m_ hg hrb (bk h.m_ h.s_ (by decide)),
  bx h.l_ hg hrb (bk h.l_ h.s_ (by decide)),
  by obtain⟨rows,h1,h2⟩:=h.i_;exact⟨rows,bx h1 hg hrb (bk h1 h.s_ (by decide)),h2.gp hg hrb fun o _ _ ho=>bk ho h.s_ (by decide)⟩,
  by obtain⟨rows,h1,h2⟩:=h.u_;exact⟨rows,bx h1 hg hrb (bk h1 h.s_ (by decide)),h2.gp hg hrb fun o _ _ ho=>bk ho h.s_ (by decide)⟩,
  fun j hj e=>(hw j hj).elim (fun h1=>h.sf j h1 e) (fun h1=>absurd (World.ownsRow.lt h.f_ j e).2 (by omega)),
  by have:=h.len;simp only[List.length_append,List.length_singleton];omega,
  h.rI,
  h.mI,
  h.lI,
  h.nums⟩
theorem bI.addF (h:bI w B M m v) {v':Value} (hrb:rb<B) (hg:GP rb v.f.ownBlock w w') (hw: ∀j,v'.ownBlock=some j→v.f.ownBlock=some j∨w.heap.size≤j)
 (x:ai) (ho:w'.ownsRow B 9 1 v' (m.feeds.length+1) (m.feeds.map de++[de x])):bI w' B (M+1) {m with feeds:=m.feeds++[x]} {v with f:=v'}:=by
 exact⟨bx h.s_ hg hrb h.sf,
  by simpa using ho,
  bx h.r_ hg hrb (bk h.r_ h.f_ (by decide)),
  bx h.m_ hg hrb (bk h.m_ h.f_ (by decide)),
  bx h.l_ hg hrb (bk h.l_ h.f_ (by decide)),
  by obtain⟨rows,h1,h2⟩:=h.i_;exact⟨rows,bx h1 hg hrb (bk h1 h.f_ (by decide)),h2.gp hg hrb fun o _ _ ho=>bk ho h.f_ (by decide)⟩,
  by obtain⟨rows,h1,h2⟩:=h.u_;exact⟨rows,bx h1 hg hrb (bk h1 h.f_ (by decide)),h2.gp hg hrb fun o _ _ ho=>bk ho h.f_ (by decide)⟩,
  fun j hj e=>(hw j e).elim (fun h1=>h.sf j hj h1) (fun h1=>absurd (World.ownsRow.lt h.s_ j hj).2 (by omega)),
  by have:=h.len;simp only[List.length_append,List.length_singleton];omega,
  h.rI,
  h.mI,
  h.lI,
  h.nums⟩
theorem bI.addR (h:bI w B M m v) {v':Value} (hrb:rb<B) (hg:GP rb v.r.ownBlock w w') (hw: ∀j,v'.ownBlock=some j→v.r.ownBlock=some j∨w.heap.size≤j)
 (x:eN) (ho:w'.ownsRow B 128 3 v' (m.racks.length+1) ((m.racks.map nP).flatten++nP x)) (hI:aj x.site∧aj x.feed):bI w' B (M+1) {m with racks:=m.racks++[x]} {v with r:=v'}:=by
 exact⟨bx h.s_ hg hrb (bk h.s_ h.r_ (by decide)),
  bx h.f_ hg hrb (bk h.f_ h.r_ (by decide)),
  by simpa using ho,
  bx h.m_ hg hrb (bk h.m_ h.r_ (by decide)),
  bx h.l_ hg hrb (bk h.l_ h.r_ (by decide)),
  by obtain⟨rows,h1,h2⟩:=h.i_;exact⟨rows,bx h1 hg hrb (bk h1 h.r_ (by decide)),h2.gp hg hrb fun o _ _ ho=>bk ho h.r_ (by decide)⟩,
  by obtain⟨rows,h1,h2⟩:=h.u_;exact⟨rows,bx h1 hg hrb (bk h1 h.r_ (by decide)),h2.gp hg hrb fun o _ _ ho=>bk ho h.r_ (by decide)⟩,
  h.sf,
  by have:=h.len;simp only[List.length_append,List.length_singleton];omega,
  fun y hy=>(List.mem_append.1 hy).elim (h.rI y) (fun hy=>by rw[List.mem_singleton.1 hy];exact hI),
  h.mI,
  h.lI,
  h.nums⟩
theorem bI.addM (h:bI w B M m v) {v':Value} (hrb:rb<B) (hg:GP rb v.m.ownBlock w w') (hw: ∀j,v'.ownBlock=some j→v.m.ownBlock=some j∨w.heap.size≤j)
 (x:fR) (ho:w'.ownsRow B 130 3 v' (m.machs.length+1) ((m.machs.map nQ).flatten++nQ x)) (hI:aj x.rack∧aj x.cap):bI w' B (M+1) {m with machs:=m.machs++[x]} {v with m:=v'}:=by
 exact⟨bx h.s_ hg hrb (bk h.s_ h.m_ (by decide)),
  bx h.f_ hg hrb (bk h.f_ h.m_ (by decide)),
  bx h.r_ hg hrb (bk h.r_ h.m_ (by decide)),
  by simpa using ho,
  bx h.l_ hg hrb (bk h.l_ h.m_ (by decide)),
  by obtain⟨rows,h1,h2⟩:=h.i_;exact⟨rows,bx h1 hg hrb (bk h1 h.m_ (by decide)),h2.gp hg hrb fun o _ _ ho=>bk ho h.m_ (by decide)⟩,
  by obtain⟨rows,h1,h2⟩:=h.u_;exact⟨rows,bx h1 hg hrb (bk h1 h.m_ (by decide)),h2.gp hg hrb fun o _ _ ho=>bk ho h.m_ (by decide)⟩,
  h.sf,
  by have:=h.len;simp only[List.length_append,List.length_singleton];omega,
  h.rI,
  fun y hy=>(List.mem_append.1 hy).elim (h.mI y) (fun hy=>by rw[List.mem_singleton.1 hy];exact hI),
  h.lI,
  h.nums⟩
theorem bI.addL (h:bI w B M m v) {v':Value} (hrb:rb<B) (hg:GP rb v.l.ownBlock w w') (hw: ∀j,v'.ownBlock=some j→v.l.ownBlock=some j∨w.heap.size≤j)
 (x:gq) (ho:w'.ownsRow B 132 3 v' (m.links.length+1) ((m.links.map nR).flatten++nR x)) (hI:aj x.a∧aj x.b∧aj x.cap):bI w' B (M+1) {m with links:=m.links++[x]} {v with l:=v'}:=by
 exact⟨bx h.s_ hg hrb (bk h.s_ h.l_ (by decide)),
  bx h.f_ hg hrb (bk h.f_ h.l_ (by decide)),
  bx h.r_ hg hrb (bk h.r_ h.l_ (by decide)),
  bx h.m_ hg hrb (bk h.m_ h.l_ (by decide)),
  by simpa using ho,
  by obtain⟨rows,h1,h2⟩:=h.i_;exact⟨rows,bx h1 hg hrb (bk h1 h.l_ (by decide)),h2.gp hg hrb fun o _ _ ho=>bk ho h.l_ (by decide)⟩,
  by obtain⟨rows,h1,h2⟩:=h.u_;exact⟨rows,bx h1 hg hrb (bk h1 h.l_ (by decide)),h2.gp hg hrb fun o _ _ ho=>bk ho h.l_ (by decide)⟩,
  h.sf,
  by have:=h.len;simp only[List.length_append,List.length_singleton];omega,
  h.rI,
  h.mI,
  fun y hy=>(List.mem_append.1 hy).elim (h.lI y) (fun hy=>by rw[List.mem_singleton.1 hy];exact hI),
  h.nums⟩
theorem bI.addI (h:bI w B M m v) {v':Value} (hrb:rb<B) (hg:GP rb v.i.ownBlock w w') (hw: ∀j,v'.ownBlock=some j→v.i.ownBlock=some j∨w.heap.size≤j)
 (x:bQ) (o:Value) (rows:List (List Value)) (hrows:w.ownsRow B 135 7 v.i m.items.length rows.flatten) (hX:gG iB bQ.on lU w B rows m.items) (ho:w'.ownsRow B 135 7 v' (m.items.length+1) (rows.flatten++iB x o)) (hoo:w'.ownsRow B 3 1 o (bQ.on x).length ((bQ.on x).map (Value.int .i64))) (hI: ∀y∈bQ.on x,aj y) (hG:lU x):bI w' B (M+1) {m with items:=m.items++[x]} {v with i:=v'}:=by
 obtain⟨rows0,hvi,hvx⟩:=h.i_
 exact⟨bx h.s_ hg hrb (bk h.s_ hvi (by decide)),
  bx h.f_ hg hrb (bk h.f_ hvi (by decide)),
  bx h.r_ hg hrb (bk h.r_ hvi (by decide)),
  bx h.m_ hg hrb (bk h.m_ hvi (by decide)),
  bx h.l_ hg hrb (bk h.l_ hvi (by decide)),
  ⟨rows++[iB x o],by simpa using ho,(hX.gp hg hrb fun o _ _ ho=>bk ho hvi (by decide)).snoc hoo hI hG⟩,
  by obtain⟨rows,h1,h2⟩:=h.u_;exact⟨rows,bx h1 hg hrb (bk h1 hvi (by decide)),h2.gp hg hrb fun o _ _ ho=>bk ho hvi (by decide)⟩,
  h.sf,
  by have:=h.len;simp only[List.length_append,List.length_singleton];omega,
  h.rI,
  h.mI,
  h.lI,
  h.nums⟩
theorem bI.addU (h:bI w B M m v) {v':Value} (hrb:rb<B) (hg:GP rb v.u.ownBlock w w') (hw: ∀j,v'.ownBlock=some j→v.u.ownBlock=some j∨w.heap.size≤j)
 (x:aU) (o:Value) (rows:List (List Value)) (hrows:w.ownsRow B 110 7 v.u m.rules.length rows.flatten) (hX:gG jC aU.ms lV w B rows m.rules) (ho:w'.ownsRow B 110 7 v' (m.rules.length+1) (rows.flatten++jC x o)) (hoo:w'.ownsRow B 3 1 o (aU.ms x).length ((aU.ms x).map (Value.int .i64))) (hI: ∀y∈aU.ms x,aj y) (hG:lV x):bI w' B (M+1) {m with rules:=m.rules++[x]} {v with u:=v'}:=by
 obtain⟨rows0,hvu,hvx⟩:=h.u_
 exact⟨bx h.s_ hg hrb (bk h.s_ hvu (by decide)),
  bx h.f_ hg hrb (bk h.f_ hvu (by decide)),
  bx h.r_ hg hrb (bk h.r_ hvu (by decide)),
  bx h.m_ hg hrb (bk h.m_ hvu (by decide)),
  bx h.l_ hg hrb (bk h.l_ hvu (by decide)),
  by obtain⟨rows,h1,h2⟩:=h.i_;exact⟨rows,bx h1 hg hrb (bk h1 hvu (by decide)),h2.gp hg hrb fun o _ _ ho=>bk ho hvu (by decide)⟩,
  ⟨rows++[jC x o],by simpa using ho,(hX.gp hg hrb fun o _ _ ho=>bk ho hvu (by decide)).snoc hoo hI hG⟩,
  h.sf,
  by have:=h.len;simp only[List.length_append,List.length_singleton];omega,
  h.rI,
  h.mI,
  h.lI,
  h.nums⟩
theorem tg {α:Type} {R:World→Nat→List Value→α→Prop} {k:Nat} {e:TypeId} {c:α→List Value} {l:List α} {u:Value} (h:w.ownsRow B e k u l.length (l.map c).flatten) (hk: ∀x,(c x).length=k) (hR: ∀x∈l,R w w.heap.size (c x) x):aQ k R w w.heap.size u l:=by
 refine aQ.of_own (l.map c) (fun r hr=> ?_) (by simp) h (fun j r x hr hx=> ?_)
 ·obtain⟨x,_,rfl⟩:=List.mem_map.1 hr
  exact hk x
 ·rw[List.getElem?_map,hx] at hr
  simp at hr
  subst hr
  exact hR x (co hx)
theorem zQ {α:Type} {R:World→Nat→List Value→α→Prop} {C:α→Value→List Value} {L:α→List Int} {G:α→Prop} {e:TypeId} {rows:List (List Value)} {l:List α} {u:Value} (h:w.ownsRow B e 7 u l.length rows.flatten) (hX:gG C L G w B rows l)
 (hk: ∀x o,(C x o).length=7) (hR: ∀x o,aq w w.heap.size o (L x)→G x→R w w.heap.size (C x o) x):aQ 7 R w w.heap.size u l:=by
 refine aQ.of_own rows (fun r hr=> ?_) hX.1 h (fun j r x hr hx=> ?_)
 ·obtain⟨j,hj⟩:=List.mem_iff_getElem?.1 hr
  have hlt:=(List.getElem?_eq_some_iff.1 hj).1
  obtain⟨x,hx⟩: ∃x,l[j]? =some x:=⟨_,List.getElem?_eq_getElem (by rw[←hX.1];exact hlt)⟩
  obtain⟨o,g1,_⟩:=hX.2 j x hx
  rw[hj] at g1
  injection g1 with g1
  subst g1
  exact hk _ _
 ·obtain⟨o,g1,g2,g3,g4⟩:=hX.2 j x hx
  rw[hr] at g1
  injection g1 with g1
  subst g1
  exact hR x o ⟨Sl.of_own g2,g3⟩ g4
theorem bI.in_ (h:bI w B M m v):m.In w w.heap.size v:=by
 obtain⟨r1,i1,i2⟩:=h.i_
 obtain⟨r2,u1,u2⟩:=h.u_
 refine⟨?_,?_,tg h.r_ (fun _=>rfl) (fun x hx=>⟨rfl,h.rI x hx⟩),tg h.m_ (fun _=>rfl) (fun x hx=>⟨rfl,h.mI x hx⟩),tg h.l_ (fun _=>rfl) (fun x hx=>⟨rfl,h.lI x hx⟩),
  zQ i1 i2 (fun _ _=>rfl) (fun x o ho hG=>⟨o,rfl,ho,hG⟩),zQ u1 u2 (fun _ _=>rfl) (fun x o ho hG=>⟨o,rfl,ho,hG⟩),h.nums.1,h.nums.2.1,h.nums.2.2.1,h.nums.2.2.2⟩
 ·have hs:=Sl.of_own h.s_
  unfold aI aL
  rw[List.map_map]
  exact hs
 ·have hs:=Sl.of_own h.f_
  unfold aI aL
  rw[List.map_map]
  exact hs
end
def fF (b:List ar) (s:Nat):Nat:=(b.filter fun x=>decide (bM x.kind=s)).length
def jD (b:List ar) (k:Int):Option Value:=if 0≤k∧fF b k.toNat≠0 then some (.int .i64 (fF b k.toNat)) else none
def ig (b:List ar) (k:Nat):Bool:=b.any fun x=>decide (x.kind=k)
def jE (b:List ar) (k:Int):Option Value:=if 0≤k∧ig b k.toNat=true then some (.bool true) else none
theorem zR (b:List ar) (s:Nat):(jD b s).getD (.int .i64 0)= .int .i64 (fF b s):=by
 unfold jD
 simp only[Int.toNat_natCast]
 by_cases h:fF b s=0
 ·rw[if_neg (by omega),h];rfl
 ·rw[if_pos ⟨by omega,h⟩];rfl
theorem JH (b:List ar) (s:Nat):(jE b s).getD (.bool false)= .bool (ig b s):=by
 unfold jE
 simp only[Int.toNat_natCast]
 by_cases h:ig b s=true
 ·rw[if_pos ⟨by omega,h⟩,h];rfl
 ·rw[if_neg (fun e=>h e.2)]
  simp only[Bool.not_eq_true] at h
  rw[h];rfl
theorem th (b:List ar) (d:ar) (s:Nat):fF (b++[d]) s=if bM d.kind=s then fF b s+1 else fF b s:=by
 unfold fF
 rw[List.filter_append,List.length_append]
 by_cases h:bM d.kind=s
 ·simp[h]
 ·simp[h]
theorem zS (b:List ar) (d:ar) (s:Nat):ig (b++[d]) s=(ig b s||decide (d.kind=s)):=by
 unfold ig
 simp
theorem JI (b:List ar) (d:ar) (x:Int):aS (jD b) ((bM d.kind:Nat):Int) (.int .i64 ((fF b (bM d.kind):Int)+1)) x=jD (b++[d]) x:=by
 rw[iW]
 unfold jD
 by_cases h:x=(bM d.kind:Nat)
 ·subst h
  simp only[Int.toNat_natCast,th,if_true]
  rw[if_pos ⟨by omega,by omega⟩]
  simp
 ·rw[if_neg h]
  by_cases h0:0≤x
  ·have: ¬bM d.kind=x.toNat:=by omega
   rw[th,if_neg this]
  ·rw[if_neg (by omega),if_neg (by omega)]
theorem JJ (b:List ar) (d:ar) (x:Int):aS (jE b) (d.kind:Int) (.bool true) x=jE (b++[d]) x:=by
 rw[iW]
 unfold jE
 by_cases h:x=(d.kind:Int)
 ·subst h
  simp only[Int.toNat_natCast,zS,if_true]
  rw[if_pos ⟨by omega,by simp⟩]
 ·rw[if_neg h,zS]
  by_cases h0:0≤x
  ·have:decide (d.kind=x.toNat)=false:=by simp;omega
   rw[this,Bool.or_false]
  ·rw[if_neg (by omega),if_neg (by omega)]
theorem JK {t:br} {s:ai} (x:Nat×Nat) (h:dR t s=none) (y:ai):dR (t++[(s,x.1,x.2)]) y=if y=s then some x else dR t y:=by
 unfold dR at h⊢
 rw[List.find?_append]
 by_cases hy:y=s
 ·subst hy
  rw[if_pos rfl]
  have:t.find? (fun z=>decide (z.1=y))=none:=by
   cases hq:t.find? (fun z=>decide (z.1=y)) with
   |none=>rfl
   |some q=>rw[hq] at h;cases h
  rw[this]
  simp
 ·rw[if_neg hy]
  cases hq:t.find? (fun z=>decide (z.1=y)) with
  |some q=>rfl
  |none=>
   have: ¬s=y:=fun e=>hy e.symm
   simp[this]
theorem JL {t:br} {s:ai} (x:Nat×Nat) (h:dR t s=none) (y:ai):aS (dr t) s (pH x) y=dr (t++[(s,x.1,x.2)]) y:=by
 rw[iW]
 unfold dr
 rw[JK x h y]
 by_cases hy:y=s
 ·rw[if_pos hy,if_pos hy];rfl
 ·rw[if_neg hy,if_neg hy]
def kO (t:br) (b:List ar) (d:ar):Bool:=(!decide (d.name=[])&&(dR t d.name).isSome)||((decide (d.kind=8)||decide (d.kind=9))&&ig b d.kind)
theorem zT {b r:List ar} {t:br} {d:ar} (h:dF d=false):dm b t (d::r)= .error (b.length,1):=by
 rw[dm,h];rfl
theorem zU {b r:List ar} {t:br} {d:ar} (h:dF d=true) (hb:kO t b d=true):dm b t (d::r)= .error (b.length,5):=by
 unfold kO ig at hb
 rw[dm,h,hb];rfl
theorem zV {b r:List ar} {t:br} {d:ar} (h:dF d=true) (hb:kO t b d=false):
 dm b t (d::r)=dm (b++[d]) (if d.name=[] then t else t++[(d.name,d.kind,fF (b++[d]) (bM d.kind))]) r:=by
 unfold kO ig at hb
 rw[dm,h,hb];rfl
theorem ti {b:List ar} {t:br}:dm b t []= .ok t:=rfl
theorem fy.kp {w w':World} {B B' M:Nat} {cs:List Value} {d:ar} (h:fy w B cs d) (hk:KP B' M w w') (hB:B≤B') (hM: ∀o,w.cell? ⟨M,o,none⟩=none):fy w' B cs d:=by
 obtain⟨r,n,h1,h2,h3,h4⟩:=h
 exact⟨r,n,h1,Sl.kp h2 hk hB hM,⟨Sl.kp h3.1 hk hB hM,h3.2⟩,h4⟩
theorem DeclS.kp {w w':World} {B B' M:Nat} {v:Value} {l:List ar} (h:aQ 6 fy w B v l) (hk:KP B' M w w') (hB:B≤B') (hM: ∀o,w.cell? ⟨M,o,none⟩=none):aQ 6 fy w' B v l:=by
 obtain⟨A,c,rfl,h1,h2,h3⟩:=h
 refine⟨A,c,rfl,h1,h2,fun hn=> ?_⟩
 obtain⟨b,o,rfl,hb,hc⟩:=h3 hn
 have hne: ¬b=M:=fun e=>by
  subst e
  obtain⟨x,hx⟩: ∃x,l[0]? =some x:=⟨_,List.getElem?_eq_getElem (List.length_pos_iff.2 hn)⟩
  obtain⟨cs,hl,_,hcell⟩:=hc 0 x hx
  obtain⟨u,hu⟩: ∃u,cs[0]? =some u:=⟨_,List.getElem?_eq_getElem (by omega)⟩
  have:=hcell 0 u hu
  rw[hM] at this
  cases this
 refine⟨b,o,rfl,hb,fun j x hx=> ?_⟩
 obtain⟨cs,hl,hR,hcell⟩:=hc j x hx
 exact⟨cs,hl,hR.kp hk hB hM,fun i u hu=>(hk.cell _ (aF hb hB) hne).trans (hcell i u hu)⟩
theorem JM {κ:Type} [DecidableEq κ] {enc:κ→Value} {w:World} {b:Nat} {f:κ→Option Value} (h:aZ enc w b f) (o:Nat):w.cell? ⟨b,o,none⟩=none:=by
 obtain⟨l,hl,_⟩:=h
 have hl':w.heap[b]? =some (.map (bj 0 (bS enc l)).toArray (bS enc l).length):=hl
 simp[World.cell?,hl']
end
section
open Go Go.RowKit Tryz
theorem JN {α:Type} (R:World→Nat→List Value→α→Prop) (hR:cI R) (v:Value) (xs:List α) (g:Nat) (caps:Array Value) (P:Nat→Bool) (w:World) (h:aQ 1 R w w.heap.size v xs) (eg:bc g)
 (hg: ∀(j:Nat) x cs W,xs[j]? =some x→Below w.heap.size w W→R W W.heap.size cs x→cs.length=1→am g (#[(cs.headD undef)]++caps) W (.bool (P j))):
 am 198 #[v,az g caps] w (.int .i64 (cy P xs.length)):=by
 obtain⟨A,n,c,rfl,hl,hc,hm⟩:=h.form
 have H:=aa h;have HG:=aa hg;have HL:=aa hl
 unfold bc at eg
 simp only[az]
 rw[hl]
 clear h hg hl
 go_enter func198,ntmps198
 exact rB
theorem tj {α:Type} (R:World→Nat→List Value→α→Prop) (hR:cI R) (v:Value) (xs:List α) (g:Nat) (caps:Array Value) (P:Nat→Bool) (w:World) (h:aQ 1 R w w.heap.size v xs) (eg:bc g)
 (hg: ∀(j:Nat) x cs W,xs[j]? =some x→Below w.heap.size w W→R W W.heap.size cs x→cs.length=1→am g (#[(cs.headD undef)]++caps) W (.bool (P j))):
 am 89 #[v,az g caps] w (.bool ((List.range xs.length).any P)):=by
 obtain⟨A,n,c,rfl,hl,hc,hm⟩:=h.form
 have HI:=aa (JN R hR _ xs g caps P w h eg hg)
 have hge: -1≤cy P xs.length:=by unfold cy;split<;>omega
 rw[←jw]
 clear h hg eg hl
 simp only[az] at HI⊢
 go_enter func89,ntmps89
 go_wp2_with(go_at_call 198;refine HI.out.mono ?_;rintro e w1 ⟨rfl,hb1⟩)
 exact ik
structure JO where
 name:Bool
 least:Nat
 most:Nat
 nums:Nat
 alw:Bool
def lW (k:Nat):JO:=
 match k with
 |0=>⟨true,0,0,0,false⟩
 |1=>⟨true,0,0,0,false⟩
 |2=>⟨true,2,2,0,false⟩
 |3=>⟨true,1,1,1,false⟩
 |4=>⟨false,2,2,1,false⟩
 |5=>⟨true,1,16,3,false⟩
 |6=>⟨true,1,16,4,false⟩
 |7=>⟨true,1,1,3,false⟩
 |8=>⟨false,1,1,2,false⟩
 |9=>⟨false,0,0,0,false⟩
 |10=>⟨false,1,1,0,false⟩
 |11=>⟨false,1,1,1,true⟩
 |12=>⟨false,1,1,1,false⟩
 |13=>⟨false,2,17,0,false⟩
 |14=>⟨false,2,2,0,false⟩
 |15=>⟨false,0,0,1,false⟩
 |16=>⟨false,1,1,1,false⟩
 |_=>⟨false,0,0,0,false⟩
def zW (k n:Nat):Bool:=if k=9 then decide (1≤n)&&decide (n≤7) else if k=12 then decide (2≤n)&&decide (n≤4) else decide (n=0)
theorem tk {k:Nat} (h:k≤16):k=0∨k=1∨k=2∨k=3∨k=4∨k=5∨k=6∨k=7∨k=8∨k=9∨k=10∨k=11∨k=12∨k=13∨k=14∨k=15∨k=16:=by omega
theorem JP (d:ar) (k:Nat) (hk:k≤16) (hd:d.kind=k):
 lq d=(decide ((lW k).least≤d.refs.length)&&(decide (d.refs.length≤(lW k).most)&&(decide (d.nums.length=(lW k).nums)&&(zW k d.by_&&(((lW k).alw|| !d.always)&&(if(lW k).name then bJ d.name else decide (d.name=[]))))))):=by
 rcases tk hk with rfl|rfl|rfl|rfl|rfl|rfl|rfl|rfl|rfl|rfl|rfl|rfl|rfl|rfl|rfl|rfl|rfl<;>simp only[lq,hd,ee,lW,zW]<;>(rw[Bool.eq_iff_iff];simp[and_assoc,and_comm,and_left_comm])
theorem JQ (d:ar) (h:16<d.kind):lq d=false:=by
 unfold lq
 split<;>first|omega|rfl
end
section
open Go Go.RowKit Go.MapKept Tryz
def eJ (pb:Nat) (k:Nat):Value:=
 match k with
 |0=> .agg #[.string ⟨#[115,105,116,101]⟩,.bool true,.int .i64 0,.int .i64 0,.int .i64 0,.func (.func 296) #[] #[],.bool false,.func (.func 297) #[] #[]]
 |1=> .agg #[.string ⟨#[102,101,101,100]⟩,.bool true,.int .i64 0,.int .i64 0,.int .i64 0,.func (.func 296) #[] #[],.bool false,.func (.func 297) #[] #[]]
 |2=> .agg #[.string ⟨#[114,97,99,107]⟩,.bool true,.int .i64 2,.int .i64 2,.int .i64 0,.func (.func 296) #[] #[],.bool false,.func (.func 301) #[] #[]]
 |3=> .agg #[.string ⟨#[109,97,99,104,105,110,101]⟩,.bool true,.int .i64 1,.int .i64 1,.int .i64 1,.func (.func 296) #[] #[],.bool false,.func (.func 302) #[] #[]]
 |4=> .agg #[.string ⟨#[108,105,110,107]⟩,.bool false,.int .i64 2,.int .i64 2,.int .i64 1,.func (.func 296) #[] #[],.bool false,.func (.func 298) #[] #[]]
 |5=> .agg #[.string ⟨#[103,114,111,117,112]⟩,.bool true,.int .i64 1,.int .i64 16,.int .i64 3,.func (.func 296) #[] #[],.bool false,.func (.func 303) #[] #[]]
 |6=> .agg #[.string ⟨#[112,111,111,108]⟩,.bool true,.int .i64 1,.int .i64 16,.int .i64 4,.func (.func 296) #[] #[],.bool false,.func (.func 306) #[] #[]]
 |7=> .agg #[.string ⟨#[106,111,98]⟩,.bool true,.int .i64 1,.int .i64 1,.int .i64 3,.func (.func 296) #[] #[],.bool false,.func (.func 307) #[] #[]]
 |8=> .agg #[.string ⟨#[100,97,114,107]⟩,.bool false,.int .i64 1,.int .i64 1,.int .i64 2,.func (.func 296) #[] #[],.bool false,.func (.func 308) #[] #[]]
 |9=> .agg #[.string ⟨#[102,97,105,108,117,114,101,115]⟩,.bool false,.int .i64 0,.int .i64 0,.int .i64 0,.func (.func 309) #[] #[],.bool false,.func (.func 310) #[] #[]]
 |10=> .agg #[.string ⟨#[113,117,111,114,117,109]⟩,.bool false,.int .i64 1,.int .i64 1,.int .i64 0,.func (.func 296) #[] #[],.bool false,.func (.func 298) #[] #[]]
 |11=> .agg #[.string ⟨#[107,101,101,112]⟩,.bool false,.int .i64 1,.int .i64 1,.int .i64 1,.func (.func 296) #[] #[],.bool true,.func (.func 312) #[] #[ptr pb]]
 |12=> .agg #[.string ⟨#[115,112,114,101,97,100]⟩,.bool false,.int .i64 1,.int .i64 1,.int .i64 1,.func (.func 313) #[] #[],.bool false,.func (.func 315) #[] #[]]
 |13=> .agg #[.string ⟨#[111,110,108,121]⟩,.bool false,.int .i64 2,.int .i64 17,.int .i64 0,.func (.func 296) #[] #[],.bool false,.func (.func 316) #[] #[]]
 |14=> .agg #[.string ⟨#[111,114,100,101,114]⟩,.bool false,.int .i64 2,.int .i64 2,.int .i64 0,.func (.func 296) #[] #[],.bool false,.func (.func 317) #[] #[]]
 |15=> .agg #[.string ⟨#[100,105,115,116,117,114,98]⟩,.bool false,.int .i64 0,.int .i64 0,.int .i64 1,.func (.func 296) #[] #[],.bool false,.func (.func 298) #[] #[]]
 |16=> .agg #[.string ⟨#[115,105,108,101,110,99,101]⟩,.bool false,.int .i64 1,.int .i64 1,.int .i64 1,.func (.func 296) #[] #[],.bool false,.func (.func 298) #[] #[]]
 |_=> .nilFunc
def jF (pb:Nat):Int→Option Value:=(aS (aS (aS (aS (aS (aS (aS (aS (aS (aS (aS (aS (aS (aS (aS (aS (aS (fun _=>none) 0 (eJ pb 0)) 1 (eJ pb 1)) 2 (eJ pb 2)) 3 (eJ pb 3)) 4 (eJ pb 4)) 5 (eJ pb 5)) 6 (eJ pb 6)) 7 (eJ pb 7)) 8 (eJ pb 8)) 9 (eJ pb 9)) 10 (eJ pb 10)) 11 (eJ pb 11)) 12 (eJ pb 12)) 13 (eJ pb 13)) 14 (eJ pb 14)) 15 (eJ pb 15)) 16 (eJ pb 16))
theorem JR (pb:Nat) {k:Nat} (h:k≤16):jF pb k=some (eJ pb k):=by
 rcases tk h with rfl|rfl|rfl|rfl|rfl|rfl|rfl|rfl|rfl|rfl|rfl|rfl|rfl|rfl|rfl|rfl|rfl<;>rfl
theorem JS (pb:Nat) {k:Int} (h: ¬(0≤k∧k≤16)):jF pb k=none:=by
 unfold jF aS
 repeat rw[if_neg (by omega)]
theorem zX (w:World):
 Calls prog 220 #[] w fun e w'=> ∃M pb,e= .returned (.map (some M))∧aZ cC w' M (jF pb)∧w.heap.size≤pb∧w'.heap[pb]? =some (.cells #[.func (.func 298) #[] #[]] 229 (0,0))∧Below w.heap.size w w':=by
 refine fU fun hmm=> ?_
 refine eG fun hmf=> ?_
 go_enter func220,ntmps220
 go_upto_region 4 with (fail)
 refine bt (fun W=>Below w.heap.size w W∧W.heap[w.heap.size]? =some (.cells #[.func (.func 298) #[] #[]] 229 (0,0))) ⟨by first|exact aR (ac (B0 w) _) (ae _) _|exact ac (B0 w) _,by first|exact(ay (heap_alloc_new w _) _ _).trans rfl|exact heap_alloc_new w _⟩ ?_
 intro W1 ⟨hBW,hpW⟩
 have q0:W1.cell? ⟨w.heap.size,0,none⟩=some (.func (.func 298) #[] #[]):=af hpW rfl
 have hz:=blk_lt hpW
 have HB0:=aa (show Below W1.heap.size W1 (W1.alloc (.map #[] 0)) from ac (B0 W1) _)
 have HBW:=aa hBW;have HpW:=aa hpW
 clear hBW hpW
 go_wp2_with first
  |(refine bm rfl (.tmp 4) (.const (.int .i64 0)) (.tmp 7) 233 (.inr rfl) 3 231 (.int .i64) underlying233 underlying3 aO W1.heap.size (fun _=>none) rfl (aZ.made cC W1) 0 (.agg #[.string ⟨#[115,105,116,101]⟩,.bool true,.int .i64 0,.int .i64 0,.int .i64 0,.func (.func 296) #[] #[],.bool false,.func (.func 297) #[] #[]]) rfl rfl ?_
    intro w1 hL1 hT1
    have HB1:=aa (hT1.1 _ _ HB0.out (ae _))
    have q1:w1.cell? ⟨w.heap.size,0,none⟩=some (.func (.func 298) #[] #[]):=(HB1.out.cell (p:=⟨w.heap.size,0,none⟩) hz).trans q0
    clear hT1)
  |(refine bm rfl (.tmp 4) (.const (.int .i64 1)) (.tmp 10) 233 (.inr rfl) 3 231 (.int .i64) underlying233 underlying3 aO W1.heap.size _ rfl hL1 1 (.agg #[.string ⟨#[102,101,101,100]⟩,.bool true,.int .i64 0,.int .i64 0,.int .i64 0,.func (.func 296) #[] #[],.bool false,.func (.func 297) #[] #[]]) rfl rfl ?_
    intro w2 hL2 hT2
    have HB2:=aa (hT2.1 _ _ HB1.out (ae _))
    have q2:w2.cell? ⟨w.heap.size,0,none⟩=some (.func (.func 298) #[] #[]):=(HB2.out.cell (p:=⟨w.heap.size,0,none⟩) hz).trans q0
    clear hT2 hL1)
  |(refine bm rfl (.tmp 4) (.const (.int .i64 2)) (.tmp 12) 233 (.inr rfl) 3 231 (.int .i64) underlying233 underlying3 aO W1.heap.size _ rfl hL2 2 (.agg #[.string ⟨#[114,97,99,107]⟩,.bool true,.int .i64 2,.int .i64 2,.int .i64 0,.func (.func 296) #[] #[],.bool false,.func (.func 301) #[] #[]]) rfl rfl ?_
    intro w3 hL3 hT3
    have HB3:=aa (hT3.1 _ _ HB2.out (ae _))
    have q3:w3.cell? ⟨w.heap.size,0,none⟩=some (.func (.func 298) #[] #[]):=(HB3.out.cell (p:=⟨w.heap.size,0,none⟩) hz).trans q0
    clear hT3 hL2)
  |(refine bm rfl (.tmp 4) (.const (.int .i64 3)) (.tmp 14) 233 (.inr rfl) 3 231 (.int .i64) underlying233 underlying3 aO W1.heap.size _ rfl hL3 3 (.agg #[.string ⟨#[109,97,99,104,105,110,101]⟩,.bool true,.int .i64 1,.int .i64 1,.int .i64 1,.func (.func 296) #[] #[],.bool false,.func (.func 302) #[] #[]]) rfl rfl ?_
    intro w4 hL4 hT4
    have HB4:=aa (hT4.1 _ _ HB3.out (ae _))
    have q4:w4.cell? ⟨w.heap.size,0,none⟩=some (.func (.func 298) #[] #[]):=(HB4.out.cell (p:=⟨w.heap.size,0,none⟩) hz).trans q0
    clear hT4 hL3)
  |(refine bm rfl (.tmp 4) (.const (.int .i64 4)) (.tmp 17) 233 (.inr rfl) 3 231 (.int .i64) underlying233 underlying3 aO W1.heap.size _ rfl hL4 4 (.agg #[.string ⟨#[108,105,110,107]⟩,.bool false,.int .i64 2,.int .i64 2,.int .i64 1,.func (.func 296) #[] #[],.bool false,.func (.func 298) #[] #[]]) rfl rfl ?_
    intro w5 hL5 hT5
    have HB5:=aa (hT5.1 _ _ HB4.out (ae _))
    have q5:w5.cell? ⟨w.heap.size,0,none⟩=some (.func (.func 298) #[] #[]):=(HB5.out.cell (p:=⟨w.heap.size,0,none⟩) hz).trans q0
    clear hT5 hL4)
  |(refine bm rfl (.tmp 4) (.const (.int .i64 5)) (.tmp 19) 233 (.inr rfl) 3 231 (.int .i64) underlying233 underlying3 aO W1.heap.size _ rfl hL5 5 (.agg #[.string ⟨#[103,114,111,117,112]⟩,.bool true,.int .i64 1,.int .i64 16,.int .i64 3,.func (.func 296) #[] #[],.bool false,.func (.func 303) #[] #[]]) rfl rfl ?_
    intro w6 hL6 hT6
    have HB6:=aa (hT6.1 _ _ HB5.out (ae _))
    have q6:w6.cell? ⟨w.heap.size,0,none⟩=some (.func (.func 298) #[] #[]):=(HB6.out.cell (p:=⟨w.heap.size,0,none⟩) hz).trans q0
    clear hT6 hL5)
  |(refine bm rfl (.tmp 4) (.const (.int .i64 6)) (.tmp 21) 233 (.inr rfl) 3 231 (.int .i64) underlying233 underlying3 aO W1.heap.size _ rfl hL6 6 (.agg #[.string ⟨#[112,111,111,108]⟩,.bool true,.int .i64 1,.int .i64 16,.int .i64 4,.func (.func 296) #[] #[],.bool false,.func (.func 306) #[] #[]]) rfl rfl ?_
    intro w7 hL7 hT7
    have HB7:=aa (hT7.1 _ _ HB6.out (ae _))
    have q7:w7.cell? ⟨w.heap.size,0,none⟩=some (.func (.func 298) #[] #[]):=(HB7.out.cell (p:=⟨w.heap.size,0,none⟩) hz).trans q0
    clear hT7 hL6)
  |(refine bm rfl (.tmp 4) (.const (.int .i64 7)) (.tmp 23) 233 (.inr rfl) 3 231 (.int .i64) underlying233 underlying3 aO W1.heap.size _ rfl hL7 7 (.agg #[.string ⟨#[106,111,98]⟩,.bool true,.int .i64 1,.int .i64 1,.int .i64 3,.func (.func 296) #[] #[],.bool false,.func (.func 307) #[] #[]]) rfl rfl ?_
    intro w8 hL8 hT8
    have HB8:=aa (hT8.1 _ _ HB7.out (ae _))
    have q8:w8.cell? ⟨w.heap.size,0,none⟩=some (.func (.func 298) #[] #[]):=(HB8.out.cell (p:=⟨w.heap.size,0,none⟩) hz).trans q0
    clear hT8 hL7)
  |(refine bm rfl (.tmp 4) (.const (.int .i64 8)) (.tmp 25) 233 (.inr rfl) 3 231 (.int .i64) underlying233 underlying3 aO W1.heap.size _ rfl hL8 8 (.agg #[.string ⟨#[100,97,114,107]⟩,.bool false,.int .i64 1,.int .i64 1,.int .i64 2,.func (.func 296) #[] #[],.bool false,.func (.func 308) #[] #[]]) rfl rfl ?_
    intro w9 hL9 hT9
    have HB9:=aa (hT9.1 _ _ HB8.out (ae _))
    have q9:w9.cell? ⟨w.heap.size,0,none⟩=some (.func (.func 298) #[] #[]):=(HB9.out.cell (p:=⟨w.heap.size,0,none⟩) hz).trans q0
    clear hT9 hL8)
  |(refine bm rfl (.tmp 4) (.const (.int .i64 9)) (.tmp 26) 233 (.inr rfl) 3 231 (.int .i64) underlying233 underlying3 aO W1.heap.size _ rfl hL9 9 (.agg #[.string ⟨#[102,97,105,108,117,114,101,115]⟩,.bool false,.int .i64 0,.int .i64 0,.int .i64 0,.func (.func 309) #[] #[],.bool false,.func (.func 310) #[] #[]]) rfl rfl ?_
    intro w10 hL10 hT10
    have HB10:=aa (hT10.1 _ _ HB9.out (ae _))
    have q10:w10.cell? ⟨w.heap.size,0,none⟩=some (.func (.func 298) #[] #[]):=(HB10.out.cell (p:=⟨w.heap.size,0,none⟩) hz).trans q0
    clear hT10 hL9)
  |(refine bm rfl (.tmp 4) (.const (.int .i64 10)) (.tmp 29) 233 (.inr rfl) 3 231 (.int .i64) underlying233 underlying3 aO W1.heap.size _ rfl hL10 10 (.agg #[.string ⟨#[113,117,111,114,117,109]⟩,.bool false,.int .i64 1,.int .i64 1,.int .i64 0,.func (.func 296) #[] #[],.bool false,.func (.func 298) #[] #[]]) rfl rfl ?_
    intro w11 hL11 hT11
    have HB11:=aa (hT11.1 _ _ HB10.out (ae _))
    have q11:w11.cell? ⟨w.heap.size,0,none⟩=some (.func (.func 298) #[] #[]):=(HB11.out.cell (p:=⟨w.heap.size,0,none⟩) hz).trans q0
    clear hT11 hL10)
  |(refine bm rfl (.tmp 4) (.const (.int .i64 11)) (.tmp 32) 233 (.inr rfl) 3 231 (.int .i64) underlying233 underlying3 aO W1.heap.size _ rfl hL11 11 (.agg #[.string ⟨#[107,101,101,112]⟩,.bool false,.int .i64 1,.int .i64 1,.int .i64 1,.func (.func 296) #[] #[],.bool true,.func (.func 312) #[] #[ptr w.heap.size]]) rfl rfl ?_
    intro w12 hL12 hT12
    have HB12:=aa (hT12.1 _ _ HB11.out (ae _))
    have q12:w12.cell? ⟨w.heap.size,0,none⟩=some (.func (.func 298) #[] #[]):=(HB12.out.cell (p:=⟨w.heap.size,0,none⟩) hz).trans q0
    clear hT12 hL11)
  |(refine bm rfl (.tmp 4) (.const (.int .i64 12)) (.tmp 33) 233 (.inr rfl) 3 231 (.int .i64) underlying233 underlying3 aO W1.heap.size _ rfl hL12 12 (.agg #[.string ⟨#[115,112,114,101,97,100]⟩,.bool false,.int .i64 1,.int .i64 1,.int .i64 1,.func (.func 313) #[] #[],.bool false,.func (.func 315) #[] #[]]) rfl rfl ?_
    intro w13 hL13 hT13
    have HB13:=aa (hT13.1 _ _ HB12.out (ae _))
    have q13:w13.cell? ⟨w.heap.size,0,none⟩=some (.func (.func 298) #[] #[]):=(HB13.out.cell (p:=⟨w.heap.size,0,none⟩) hz).trans q0
    clear hT13 hL12)
  |(refine bm rfl (.tmp 4) (.const (.int .i64 13)) (.tmp 35) 233 (.inr rfl) 3 231 (.int .i64) underlying233 underlying3 aO W1.heap.size _ rfl hL13 13 (.agg #[.string ⟨#[111,110,108,121]⟩,.bool false,.int .i64 2,.int .i64 17,.int .i64 0,.func (.func 296) #[] #[],.bool false,.func (.func 316) #[] #[]]) rfl rfl ?_
    intro w14 hL14 hT14
    have HB14:=aa (hT14.1 _ _ HB13.out (ae _))
    have q14:w14.cell? ⟨w.heap.size,0,none⟩=some (.func (.func 298) #[] #[]):=(HB14.out.cell (p:=⟨w.heap.size,0,none⟩) hz).trans q0
    clear hT14 hL13)
  |(refine bm rfl (.tmp 4) (.const (.int .i64 14)) (.tmp 37) 233 (.inr rfl) 3 231 (.int .i64) underlying233 underlying3 aO W1.heap.size _ rfl hL14 14 (.agg #[.string ⟨#[111,114,100,101,114]⟩,.bool false,.int .i64 2,.int .i64 2,.int .i64 0,.func (.func 296) #[] #[],.bool false,.func (.func 317) #[] #[]]) rfl rfl ?_
    intro w15 hL15 hT15
    have HB15:=aa (hT15.1 _ _ HB14.out (ae _))
    have q15:w15.cell? ⟨w.heap.size,0,none⟩=some (.func (.func 298) #[] #[]):=(HB15.out.cell (p:=⟨w.heap.size,0,none⟩) hz).trans q0
    clear hT15 hL14)
  |(refine bm rfl (.tmp 4) (.const (.int .i64 15)) (.tmp 40) 233 (.inr rfl) 3 231 (.int .i64) underlying233 underlying3 aO W1.heap.size _ rfl hL15 15 (.agg #[.string ⟨#[100,105,115,116,117,114,98]⟩,.bool false,.int .i64 0,.int .i64 0,.int .i64 1,.func (.func 296) #[] #[],.bool false,.func (.func 298) #[] #[]]) rfl rfl ?_
    intro w16 hL16 hT16
    have HB16:=aa (hT16.1 _ _ HB15.out (ae _))
    have q16:w16.cell? ⟨w.heap.size,0,none⟩=some (.func (.func 298) #[] #[]):=(HB16.out.cell (p:=⟨w.heap.size,0,none⟩) hz).trans q0
    clear hT16 hL15)
  |(refine bm rfl (.tmp 4) (.const (.int .i64 16)) (.tmp 43) 233 (.inr rfl) 3 231 (.int .i64) underlying233 underlying3 aO W1.heap.size _ rfl hL16 16 (.agg #[.string ⟨#[115,105,108,101,110,99,101]⟩,.bool false,.int .i64 1,.int .i64 1,.int .i64 1,.func (.func 296) #[] #[],.bool false,.func (.func 298) #[] #[]]) rfl rfl ?_
    intro w17 hL17 hT17
    have HB17:=aa (hT17.1 _ _ HB16.out (ae _))
    have q17:w17.cell? ⟨w.heap.size,0,none⟩=some (.func (.func 298) #[] #[]):=(HB17.out.cell (p:=⟨w.heap.size,0,none⟩) hz).trans q0
    clear hT17 hL16
    have HL17:=aa hL17
    clear hL17)
 go_ret
 exact⟨_,w.heap.size,rfl,HL17.out,ae _,ah HpW.out HB17.out,ag HBW.out HB17.out⟩
theorem iC {a b:Bool} (h:a=b):Ending.returned (Value.bool a)= .returned (.bool b):=by rw[h]
theorem JT (n:Nat) (w:World):am 296 #[.int .i64 n] w (.bool (decide (n=0))):=by
 go_enter func296,ntmps296
 exact pI
theorem JU (n:Nat) (w:World):am 309 #[.int .i64 n] w (.bool (decide (1≤n)&&decide (n≤7))):=by
 by_cases h1:1≤n
 ·have e1:decide ((1:Int)≤(n:Int))=true:=by simp;omega
  go_enter func309,ntmps309
  exact pI
 ·have e1:decide ((1:Int)≤(n:Int))=false:=by simp;omega
  go_enter func309,ntmps309
  exact pI
def tl:Int→Option Value:=aS (aS (aS (fun _=>none) 2 (.string ⟨#[114,97,99,107]⟩)) 3 (.string ⟨#[102,101,101,100]⟩)) 4 (.string ⟨#[115,105,116,101]⟩)
def kQ (n:Nat):ai:=if n=2 then[114,97,99,107] else if n=3 then[102,101,101,100] else if n=4 then[115,105,116,101] else[]
theorem JV (n:Nat):(tl n).getD (.string ⟨#[]⟩)= .string (bs (kQ n)):=by
 unfold tl kQ aS
 by_cases h2:n=2
 ·subst h2;rfl
 by_cases h3:n=3
 ·subst h3;rfl
 by_cases h4:n=4
 ·subst h4;rfl
 have e2: ¬(n:Int)=2:=by omega
 have e3: ¬(n:Int)=3:=by omega
 have e4: ¬(n:Int)=4:=by omega
 simp[h2,h3,h4,e2,e3,e4,bs]
theorem JW (n:Nat) (w:World):am 314 #[.int .i64 n] w (.string (bs (kQ n))):=by
 refine fU fun hmm=> ?_
 have HD:=aa (JV n)
 generalize kQ n=sd at HD
 go_enter func314,ntmps314
 go_wp2_with first
  |(refine bm rfl (.tmp 3) (.const (.int .i64 2)) (.const (.string ⟨#[114,97,99,107]⟩)) 312 (.inr rfl) 3 9 (.int .i64) underlying312 underlying3 aO w.heap.size (fun _=>none) rfl (aZ.made cC w) 2 (.string ⟨#[114,97,99,107]⟩) rfl rfl ?_
    intro w1 hL1 hT1)
  |(refine bm rfl (.tmp 3) (.const (.int .i64 3)) (.const (.string ⟨#[102,101,101,100]⟩)) 312 (.inr rfl) 3 9 (.int .i64) underlying312 underlying3 aO w.heap.size _ rfl hL1 3 (.string ⟨#[102,101,101,100]⟩) rfl rfl ?_
    intro w2 hL2 hT2)
  |(refine bm rfl (.tmp 3) (.const (.int .i64 4)) (.const (.string ⟨#[115,105,116,101]⟩)) 312 (.inr rfl) 3 9 (.int .i64) underlying312 underlying3 aO w.heap.size _ rfl hL2 4 (.string ⟨#[115,105,116,101]⟩) rfl rfl ?_
    intro w3 hL3 hT3
    have HBe:=aa (hT3.1 _ _ (hT2.1 _ _ (hT1.1 _ _ (ac (B0 w) _) (ae _)) (ae _)) (ae _))
    have HL3:=aa hL3
    clear hL1 hT1 hL2 hT2 hL3 hT3)
  |(at_lookup;refine jz rfl (.tmp 4) (.tmp 5) 312 false rfl 3 9 (.int .i64) underlying312 underlying3 aO w.heap.size tl rfl HL3.out n (.string ⟨#[]⟩) rfl (zeroValue9 _) ?_
    rw[HD.out]
    simp only[Bool.false_eq_true,if_false])
 go_ret
 exact⟨rfl,HBe.out⟩
theorem JX (n:Nat) (w:World):am 313 #[.int .i64 n] w (.bool (decide (2≤n)&&decide (n≤4))):=by
 have HD:=aa (JW n w)
 have HE:=aa (show(!(bs (kQ n)).toList.isEmpty)=(decide (2≤n)&&decide (n≤4)) from by
  rw[cD,bL]
  unfold kQ
  by_cases h2:n=2
  ·subst h2;rfl
  by_cases h3:n=3
  ·subst h3;rfl
  by_cases h4:n=4
  ·subst h4;rfl
  rw[if_neg h2,if_neg h3,if_neg h4]
  have:decide (2≤n)=false∨decide (n≤4)=false:=by simp;omega
  rcases this with e|e<;>rw[e]<;>simp)
 generalize kQ n=sd at HD HE
 go_enter func313,ntmps313
 go_wp2_with(go_at_call 314;refine HD.out.mono ?_;rintro e w2 ⟨rfl,hb2⟩)
 go_ret
 exact⟨iC HE.out,hb2⟩
theorem tq (n:Nat) (w:World):am 221 #[.int .i64 n] w (.bool (!decide (n≤1048576))):=by
 have e1:decide ((n:Int)<0)=false:=by simp
 go_enter func221,ntmps221
 exact pI
theorem tr (s:ai) (w:World) (hG:bY w):am 223 #[.string (bs s)] w (.bool (!bJ s)):=by
 have HI:=aa (sW s w hG)
 generalize bJ s=r at HI
 go_enter func223,ntmps223
 go_wp2_with(go_at_call 155;refine HI.out.mono ?_;rintro e w2 ⟨rfl,hb2⟩)
 go_ret
 exact⟨rfl,hb2⟩
theorem JY (d:ar) (aw:Bool) (RA NA:Option Addr) (rn rc nn nc:Nat) (w:World) (hk: ¬(0≤(d.kind:Int)∧(d.kind:Int)≤16)):
 am 133 #[.agg #[.int .i64 d.kind,.string (bs d.name),.slice RA rn rc,.slice NA nn nc,.int .i64 d.by_,.bool aw]] w (.bool false):=by
 have HF:=aa (fun pb=>JS pb hk)
 have HFm:=aa (fun W=>zX W)
 clear hk
 go_enter func133,ntmps133
 go_upto_region 1 with (fail)
 refine zY ?_
 intro W1 ⟨hBW,hxW⟩
 refine pJ fun q0 hz1 hz0=> ?_
 have HBW:=aa hBW;have HxW:=aa hxW
 clear hBW hxW
 go_cut [3,4] (fun p q wx=>q= .bool false∧Below w.heap.size w wx)
 case first=>
  rename_i J K' hJ hK'
  have HJ:=aa hJ
  have HK':=aa hK'
  clear hJ hK'
  go_region_held3 (fun w'=>w'.cell? ⟨w.heap.size,0,none⟩=some (.int .i64 d.kind)) (go_simp)
   (first
     |(go_at_call 220
       refine(HFm.out _).mono ?_
       rintro e w2 ⟨M1,pb,rfl,hM,_,_,hb2⟩
       have hF:=HF.out pb
       refine nr fun hB2=> ?_
       have hk1:(Instr.lookup 233 (.map (some M1)) (.int .i64 d.kind) true).run prog w2= .ok (.tuple #[.agg #[.string ⟨#[]⟩,.bool false,.int .i64 0,.int .i64 0,.int .i64 0,.nilFunc,.bool false,.nilFunc],.bool false]) w2:=by
        exact tt
       have hk2: ∀o,(Instr.lookup 233 (.map (some M1)) (.int .i64 d.kind) true).run prog (w2.alloc o)= .ok (.tuple #[.agg #[.string ⟨#[]⟩,.bool false,.int .i64 0,.int .i64 0,.int .i64 0,.nilFunc,.bool false,.nilFunc],.bool false]) (w2.alloc o):=fun o=>by
        exact tu
       refine tx fun c0 hcx hfx=> ?_
       try(have hzx:W1.heap.size<w2.heap.size:=by(have hq:=hb2.size;simp at hq;omega))
       refine ty fun hz2 hz3 HBl=> ?_
       clear hM hb2))
  all_goals
   dsimp only[Exit.then]
   refine HK'.out _ _ (Met.intro (HJ.out _ _ ?_))
   (repeat apply Exists.intro)
   refine⟨⟨rfl,?_⟩,rfl⟩
   have hb:=ag HBW.out hB2
   (repeat' first|with_reducible exact hb|with_reducible refine aR ?_ (by dsimp only;have:=HBW.out.size;omega) _|with_reducible refine ac ?_ _)
 case rest=>
  obtain⟨rfl,hB⟩:=hcut
  go_wp2_with fail
  go_ret
  exact⟨rfl,hB⟩
theorem JZ (d:ar) (rv nv:Value) (w:World) (hG:bY w) (fb ft L M N:Nat) (NM AL bv:Bool) (wd:ByteArray) (eb:bc fb) (hr:aI w w.heap.size rv d.refs) (hn:aq w w.heap.size nv (d.nums.map fun x:Nat=>(x:Int)))
 (hf: ∀pb,∃cap,jF pb d.kind=some (.agg #[.string wd,.bool NM,.int .i64 L,.int .i64 M,.int .i64 N,.func (.func fb) #[] #[],.bool AL,.func (.func ft) #[] cap])) (hby: ∀W,Below w.heap.size w W→am fb #[.int .i64 d.by_] W (.bool bv)) (hbad:(decide (L≤d.refs.length)&&(decide (d.refs.length≤M)&&(decide (d.nums.length=N)&&(bv&&(AL|| !d.always)))))=false):
 am 133 #[.agg #[.int .i64 d.kind,.string (bs d.name),rv,nv,.int .i64 d.by_,.bool d.always]] w (.bool ((decide (L≤d.refs.length)&&(decide (d.refs.length≤M)&&(decide (d.nums.length=N)&&(bv&&((AL|| !d.always)&&(if NM then bJ d.name else decide (d.name=[])))))))
  &&d.refs.all bJ&&d.nums.all fun n=>decide (n≤1048576))):=by
 refine tz fun HFm HF HBy HIs=> ?_
 have HRf:=aa (fun W (hW:Below w.heap.size w W)=>rC (R1 fun s=>Value.string (bs s)) (R1.ab _) rv d.refs 223 #[] (cJ d.refs fun s=> !bJ s) W ((hr.below hW (ae _)).more hW.size).sk (enters_of func223 (by kernel_rfl) rfl)
  (fun j x cs W2 hx hW2 hR _=>by
    rw[dx hx]
    unfold R1 at hR
    subst hR
    exact tr x W2 (hG.step (ag hW hW2))))
 have HNf:=aa (fun W (hW:Below w.heap.size w W)=>tj (R1 (Value.int .i64)) (R1.ab _) nv (d.nums.map fun x:Nat=>(x:Int)) 221 #[] (cJ (d.nums.map fun x:Nat=>(x:Int)) fun n=> !decide (n≤1048576)) W ((hn.below hW (ae _)).more hW.size).sk (enters_of func221 (by kernel_rfl) rfl)
  (fun j x cs W2 hx hW2 hR _=>by
    rw[dx hx]
    unfold R1 at hR
    subst hR
    obtain⟨y,hy,rfl⟩:=List.mem_map.1 (co hx)
    have h:=tq y W2
    have e:decide (y≤1048576)=decide ((y:Int)≤1048576):=by rw[decide_eq_decide];omega
    rw[e] at h
    exact h))
 simp only[jx,az] at HRf HNf
 have e1:(d.refs.any fun s=> !bJ s)= !(d.refs.all bJ):=by rw[List.not_all_eq_any_not]
 have e2:((d.nums.map fun x:Nat=>(x:Int)).any fun n=> !decide (n≤1048576))= !(d.nums.all fun n=>decide (n≤1048576)):=by
  exact tB
 rw[e1] at HRf
 rw[e2] at HNf
 have HNe:=aa (show(bs d.name).toList.isEmpty=decide (d.name=[]) from by
  rw[cD,bL]
  cases d.name<;>rfl)
 obtain⟨RA,rn,rc,rfl,hrn,_,_⟩:=hr.sk.form
 obtain⟨NA,nn,nc,rfl,hnn,_,_⟩:=hn.sk.form
 rw[List.length_map] at hnn
 rw[hrn,hnn]
 obtain⟨b1,HR1⟩: ∃b,Hid (decide (L≤rn)=b):=⟨_,aa rfl⟩
 obtain⟨b2,HR2⟩: ∃b,Hid (decide (rn≤M)=b):=⟨_,aa rfl⟩
 obtain⟨b3,HR3⟩: ∃b,Hid (decide (nn=N)=b):=⟨_,aa rfl⟩
 rw[hrn,hnn,HR1.out,HR2.out,HR3.out] at hbad
 rw[HR1.out,HR2.out,HR3.out]
 have HBad:=aa hbad
 clear hbad
 generalize d.always=aw at HBad⊢
 generalize bJ d.name=ni at HIs
 generalize decide (d.name=[])=ne at HNe
 generalize d.refs.all bJ=ra at HRf
 generalize (d.nums.all fun n=>decide (n≤1048576))=na at HNf
 unfold bc at eb
 clear hr hn hf hby e1 e2 hrn hnn hG
 go_enter func133,ntmps133
 go_upto_region 1 with (fail)
 refine zY ?_
 intro W1 ⟨hBW,hxW⟩
 refine pJ fun q0 hz1 hz0=> ?_
 have HBW:=aa hBW;have HxW:=aa hxW
 clear hBW hxW
 go_cut [3,4] (fun p q wx=>q= .bool true∧∃fo,p=ptr fo∧W1.heap.size≤fo∧Below W1.heap.size W1 wx∧∃cap,wx.heap[fo]? =some (.cells #[.string wd,.bool NM,.int .i64 L,.int .i64 M,.int .i64 N,.func (.func fb) #[] #[],.bool AL,.func (.func ft) #[] cap] 231 (0,0)))
 case first=>
  exact zZ
 case rest=>
  obtain⟨rfl,fo,rfl,hfb,hB2,cap,hfa⟩:=hcut
  have hxa:=ah HxW.out hB2
  obtain⟨ax0,ax1,ax2,ax3,ax4,ax5⟩:=iq hxa
  obtain⟨af0,af1,af2,af3,af4,af5,af6,af7⟩:=qT hfa
  have HBa:=aa (ag HBW.out hB2)
  have Hxa:=aa hxa;have Hfa:=aa hfa
  clear hxa hfa hB2 q0
  simp only[ptr]
  cases b1 with
  |false=>
   have k1:(rn:Int)<(L:Int):=by have hq:=HR1.out;simp at hq;omega
   exact tC
  |true=>
   have k1: ¬(rn:Int)<(L:Int):=by have hq:=HR1.out;simp at hq;omega
   cases b2 with
   |false=>
    have k2:(M:Int)<(rn:Int):=by have hq:=HR2.out;simp at hq;omega
    exact tC
   |true=>
    have k2: ¬(M:Int)<(rn:Int):=by have hq:=HR2.out;simp at hq;omega
    cases b3 with
    |false=>
     have k3:((nn:Int)!=(N:Int))=true:=by have hq:=HR3.out;simp at hq;simp;omega
     exact tC
    |true=>
     have k3:((nn:Int)!=(N:Int))=false:=by have hq:=HR3.out;simp at hq;simp;omega
     cases bv with
     |false=>
      go_wp2_with first
       |(refine(HBy.out _ HBa.out).mono ?_
         rintro e w4 ⟨rfl,hb4⟩
         refine pK fun hxb hfb bx1 bx2 bx3=> ?_
         have bx5:w4.cell? ⟨w.heap.size,5,none⟩=some (.bool aw):=af hxb rfl
         have bf1:w4.cell? ⟨fo,1,none⟩=some (.bool NM):=af hfb rfl
         have bf6:w4.cell? ⟨fo,6,none⟩=some (.bool AL):=af hfb rfl
         have HBb:=aa (ag HBa.out hb4)
         have Hxb:=aa hxb
         clear hb4 hxb hfb ax0 ax1 ax2 ax3 ax4 ax5 af0 af1 af2 af3 af4 af5 af6 af7)
      all_goals go_ret
      all_goals exact⟨iC (by(try simp[]);(try omega)),HBb.out⟩
     |true=>
      cases aw with
      |false=>exact absurd HBad.out (by simp)
      |true=>
       cases AL with
       |true=>exact absurd HBad.out (by simp)
       |false=>
        go_wp2_with first
         |(refine(HBy.out _ HBa.out).mono ?_
           rintro e w4 ⟨rfl,hb4⟩
           refine pK fun hxb hfb bx1 bx2 bx3=> ?_
           have bx5:w4.cell? ⟨w.heap.size,5,none⟩=some (.bool true):=af hxb rfl
           have bf1:w4.cell? ⟨fo,1,none⟩=some (.bool NM):=af hfb rfl
           have bf6:w4.cell? ⟨fo,6,none⟩=some (.bool false):=af hfb rfl
           have HBb:=aa (ag HBa.out hb4)
           have Hxb:=aa hxb
           clear hb4 hxb hfb ax0 ax1 ax2 ax3 ax4 ax5 af0 af1 af2 af3 af4 af5 af6 af7)
        all_goals go_ret
        all_goals exact⟨iC (by(try simp[]);(try omega)),HBb.out⟩
theorem J0 (d:ar) (rv nv:Value) (w:World) (hG:bY w) (fb ft L M N:Nat) (NM AL bv:Bool) (wd:ByteArray) (eb:bc fb) (hr:aI w w.heap.size rv d.refs) (hn:aq w w.heap.size nv (d.nums.map fun x:Nat=>(x:Int)))
 (hf: ∀pb,∃cap,jF pb d.kind=some (.agg #[.string wd,.bool NM,.int .i64 L,.int .i64 M,.int .i64 N,.func (.func fb) #[] #[],.bool AL,.func (.func ft) #[] cap])) (hby: ∀W,Below w.heap.size w W→am fb #[.int .i64 d.by_] W (.bool bv)) (haw:d.always=true) (hal:AL=true) (hb1:L≤d.refs.length) (hb2:d.refs.length≤M) (hb3:d.nums.length=N) (hbv:bv=true):
 am 133 #[.agg #[.int .i64 d.kind,.string (bs d.name),rv,nv,.int .i64 d.by_,.bool d.always]] w (.bool ((decide (L≤d.refs.length)&&(decide (d.refs.length≤M)&&(decide (d.nums.length=N)&&(bv&&((AL|| !d.always)&&(if NM then bJ d.name else decide (d.name=[])))))))
  &&d.refs.all bJ&&d.nums.all fun n=>decide (n≤1048576))):=by
 refine tz fun HFm HF HBy HIs=> ?_
 have HRf:=aa (fun W (hW:Below w.heap.size w W)=>rC (R1 fun s=>Value.string (bs s)) (R1.ab _) rv d.refs 223 #[] (cJ d.refs fun s=> !bJ s) W ((hr.below hW (ae _)).more hW.size).sk (enters_of func223 (by kernel_rfl) rfl)
  (fun j x cs W2 hx hW2 hR _=>by
    rw[dx hx]
    unfold R1 at hR
    subst hR
    exact tr x W2 (hG.step (ag hW hW2))))
 have HNf:=aa (fun W (hW:Below w.heap.size w W)=>tj (R1 (Value.int .i64)) (R1.ab _) nv (d.nums.map fun x:Nat=>(x:Int)) 221 #[] (cJ (d.nums.map fun x:Nat=>(x:Int)) fun n=> !decide (n≤1048576)) W ((hn.below hW (ae _)).more hW.size).sk (enters_of func221 (by kernel_rfl) rfl)
  (fun j x cs W2 hx hW2 hR _=>by
    rw[dx hx]
    unfold R1 at hR
    subst hR
    obtain⟨y,hy,rfl⟩:=List.mem_map.1 (co hx)
    have h:=tq y W2
    have e:decide (y≤1048576)=decide ((y:Int)≤1048576):=by rw[decide_eq_decide];omega
    rw[e] at h
    exact h))
 simp only[jx,az] at HRf HNf
 have e1:(d.refs.any fun s=> !bJ s)= !(d.refs.all bJ):=by rw[List.not_all_eq_any_not]
 have e2:((d.nums.map fun x:Nat=>(x:Int)).any fun n=> !decide (n≤1048576))= !(d.nums.all fun n=>decide (n≤1048576)):=by
  exact tB
 rw[e1] at HRf
 rw[e2] at HNf
 have HNe:=aa (show(bs d.name).toList.isEmpty=decide (d.name=[]) from by
  rw[cD,bL]
  cases d.name<;>rfl)
 obtain⟨RA,rn,rc,rfl,hrn,_,_⟩:=hr.sk.form
 obtain⟨NA,nn,nc,rfl,hnn,_,_⟩:=hn.sk.form
 rw[List.length_map] at hnn
 rw[hrn,hnn]
 rw[hrn] at hb1 hb2
 rw[hnn] at hb3
 have k1: ¬(rn:Int)<(L:Int):=by omega
 have k2: ¬(M:Int)<(rn:Int):=by omega
 have k3:((nn:Int)!=(N:Int))=false:=by simp;omega
 rw[decide_eq_true hb1,decide_eq_true hb2,decide_eq_true hb3,haw]
 subst hal hbv
 clear hb1 hb2 hb3 haw
 generalize bJ d.name=ni at HIs
 generalize decide (d.name=[])=ne at HNe
 generalize d.refs.all bJ=ra at HRf
 generalize (d.nums.all fun n=>decide (n≤1048576))=na at HNf
 unfold bc at eb
 clear hr hn hf hby e1 e2 hrn hnn hG
 go_enter func133,ntmps133
 go_upto_region 1 with (fail)
 refine bt (fun W=>Below w.heap.size w W∧W.heap[w.heap.size]? =some (.cells #[.int .i64 d.kind,.string (bs d.name),.slice RA rn rc,.slice NA nn nc,.int .i64 d.by_,.bool true] 87 (0,0))) ⟨ac (B0 w) _,aN w _⟩ ?_
 intro W1 ⟨hBW,hxW⟩
 refine pJ fun q0 hz1 hz0=> ?_
 have HBW:=aa hBW;have HxW:=aa hxW
 clear hBW hxW
 go_cut [3,4] (fun p q wx=>q= .bool true∧∃fo,p=ptr fo∧W1.heap.size≤fo∧Below W1.heap.size W1 wx∧∃cap,wx.heap[fo]? =some (.cells #[.string wd,.bool NM,.int .i64 L,.int .i64 M,.int .i64 N,.func (.func fb) #[] #[],.bool true,.func (.func ft) #[] cap] 231 (0,0)))
 case first=>
  rename_i J K' hJ hK'
  have HJ:=aa hJ
  have HK':=aa hK'
  clear hJ hK'
  go_region_held3 (fun w'=>w'.cell? ⟨w.heap.size,0,none⟩=some (.int .i64 d.kind)) (go_simp)
   (first
     |(go_at_call 220
       refine(HFm.out _).mono ?_
       rintro e w2 ⟨M1,pb,rfl,hM,_,_,hb2⟩
       obtain⟨cap,hF⟩:=HF.out pb
       refine nr fun hB2=> ?_
       have hk1:(Instr.lookup 233 (.map (some M1)) (.int .i64 d.kind) true).run prog w2= .ok (.tuple #[.agg #[.string wd,.bool NM,.int .i64 L,.int .i64 M,.int .i64 N,.func (.func fb) #[] #[],.bool true,.func (.func ft) #[] cap],.bool true]) w2:=by
        exact tt
       have hk2: ∀o,(Instr.lookup 233 (.map (some M1)) (.int .i64 d.kind) true).run prog (w2.alloc o)= .ok (.tuple #[.agg #[.string wd,.bool NM,.int .i64 L,.int .i64 M,.int .i64 N,.func (.func fb) #[] #[],.bool true,.func (.func ft) #[] cap],.bool true]) (w2.alloc o):=fun o=>by
        exact tu
       refine tx fun c0 hcx hfx=> ?_
       try(have hzx:W1.heap.size<w2.heap.size:=by(have hq:=hb2.size;simp at hq;omega))
       refine ty fun hz2 hz3 HBl=> ?_
       clear hM hb2))
  all_goals
   dsimp only[Exit.then]
   refine HK'.out _ _ (Met.intro (HJ.out _ _ ?_))
   (repeat apply Exists.intro)
   refine⟨⟨rfl,?_⟩,rfl⟩
  ·exact pL
  ·exact pL
  ·exact Ab
 case rest=>
  obtain⟨rfl,fo,rfl,hfb,hB2,cap,hfa⟩:=hcut
  have hxa:=ah HxW.out hB2
  obtain⟨ax0,ax1,ax2,ax3,ax4,ax5⟩:=iq hxa
  obtain⟨af0,af1,af2,af3,af4,af5,af6,af7⟩:=qT hfa
  have HBa:=aa (ag HBW.out hB2)
  have Hxa:=aa hxa;have Hfa:=aa hfa
  clear hxa hfa hB2 q0
  simp only[ptr]
  go_upto_region 4 with (first
   |(refine(HBy.out _ HBa.out).mono ?_
     rintro e w4 ⟨rfl,hb4⟩
     refine pK fun hxb hfb bx1 bx2 bx3=> ?_
     have bx5:w4.cell? ⟨w.heap.size,5,none⟩=some (.bool true):=af hxb rfl
     have bf1:w4.cell? ⟨fo,1,none⟩=some (.bool NM):=af hfb rfl
     have bf6:w4.cell? ⟨fo,6,none⟩=some (.bool true):=af hfb rfl
     have HBb:=aa (ag HBa.out hb4)
     have Hxb:=aa hxb
     clear hb4 hxb hfb ax0 ax1 ax2 ax3 ax4 ax5 af0 af1 af2 af3 af4 af5 af6 af7))
  exact Ad
theorem J1 (d:ar) (rv nv:Value) (w:World) (hG:bY w) (fb ft L M N:Nat) (NM AL bv:Bool) (wd:ByteArray) (eb:bc fb) (hr:aI w w.heap.size rv d.refs) (hn:aq w w.heap.size nv (d.nums.map fun x:Nat=>(x:Int)))
 (hf: ∀pb,∃cap,jF pb d.kind=some (.agg #[.string wd,.bool NM,.int .i64 L,.int .i64 M,.int .i64 N,.func (.func fb) #[] #[],.bool AL,.func (.func ft) #[] cap])) (hby: ∀W,Below w.heap.size w W→am fb #[.int .i64 d.by_] W (.bool bv)) (haw:d.always=false) (hb1:L≤d.refs.length) (hb2:d.refs.length≤M) (hb3:d.nums.length=N) (hbv:bv=true):
 am 133 #[.agg #[.int .i64 d.kind,.string (bs d.name),rv,nv,.int .i64 d.by_,.bool d.always]] w (.bool ((decide (L≤d.refs.length)&&(decide (d.refs.length≤M)&&(decide (d.nums.length=N)&&(bv&&((AL|| !d.always)&&(if NM then bJ d.name else decide (d.name=[])))))))
  &&d.refs.all bJ&&d.nums.all fun n=>decide (n≤1048576))):=by
 refine tz fun HFm HF HBy HIs=> ?_
 have HRf:=aa (fun W (hW:Below w.heap.size w W)=>rC (R1 fun s=>Value.string (bs s)) (R1.ab _) rv d.refs 223 #[] (cJ d.refs fun s=> !bJ s) W ((hr.below hW (ae _)).more hW.size).sk (enters_of func223 (by kernel_rfl) rfl)
  (fun j x cs W2 hx hW2 hR _=>by
    rw[dx hx]
    unfold R1 at hR
    subst hR
    exact tr x W2 (hG.step (ag hW hW2))))
 have HNf:=aa (fun W (hW:Below w.heap.size w W)=>tj (R1 (Value.int .i64)) (R1.ab _) nv (d.nums.map fun x:Nat=>(x:Int)) 221 #[] (cJ (d.nums.map fun x:Nat=>(x:Int)) fun n=> !decide (n≤1048576)) W ((hn.below hW (ae _)).more hW.size).sk (enters_of func221 (by kernel_rfl) rfl)
  (fun j x cs W2 hx hW2 hR _=>by
    rw[dx hx]
    unfold R1 at hR
    subst hR
    obtain⟨y,hy,rfl⟩:=List.mem_map.1 (co hx)
    have h:=tq y W2
    have e:decide (y≤1048576)=decide ((y:Int)≤1048576):=by rw[decide_eq_decide];omega
    rw[e] at h
    exact h))
 simp only[jx,az] at HRf HNf
 have e1:(d.refs.any fun s=> !bJ s)= !(d.refs.all bJ):=by rw[List.not_all_eq_any_not]
 have e2:((d.nums.map fun x:Nat=>(x:Int)).any fun n=> !decide (n≤1048576))= !(d.nums.all fun n=>decide (n≤1048576)):=by
  exact tB
 rw[e1] at HRf
 rw[e2] at HNf
 have HNe:=aa (show(bs d.name).toList.isEmpty=decide (d.name=[]) from by
  rw[cD,bL]
  cases d.name<;>rfl)
 obtain⟨RA,rn,rc,rfl,hrn,_,_⟩:=hr.sk.form
 obtain⟨NA,nn,nc,rfl,hnn,_,_⟩:=hn.sk.form
 rw[List.length_map] at hnn
 rw[hrn,hnn]
 rw[hrn] at hb1 hb2
 rw[hnn] at hb3
 have k1: ¬(rn:Int)<(L:Int):=by omega
 have k2: ¬(M:Int)<(rn:Int):=by omega
 have k3:((nn:Int)!=(N:Int))=false:=by simp;omega
 rw[decide_eq_true hb1,decide_eq_true hb2,decide_eq_true hb3,haw]
 subst hbv
 clear hb1 hb2 hb3 haw
 generalize bJ d.name=ni at HIs
 generalize decide (d.name=[])=ne at HNe
 generalize d.refs.all bJ=ra at HRf
 generalize (d.nums.all fun n=>decide (n≤1048576))=na at HNf
 unfold bc at eb
 clear hr hn hf hby e1 e2 hrn hnn hG
 go_enter func133,ntmps133
 go_upto_region 1 with (fail)
 refine bt (fun W=>Below w.heap.size w W∧W.heap[w.heap.size]? =some (.cells #[.int .i64 d.kind,.string (bs d.name),.slice RA rn rc,.slice NA nn nc,.int .i64 d.by_,.bool false] 87 (0,0))) ⟨ac (B0 w) _,aN w _⟩ ?_
 intro W1 ⟨hBW,hxW⟩
 refine pJ fun q0 hz1 hz0=> ?_
 have HBW:=aa hBW;have HxW:=aa hxW
 clear hBW hxW
 go_cut [3,4] (fun p q wx=>q= .bool true∧∃fo,p=ptr fo∧W1.heap.size≤fo∧Below W1.heap.size W1 wx∧∃cap,wx.heap[fo]? =some (.cells #[.string wd,.bool NM,.int .i64 L,.int .i64 M,.int .i64 N,.func (.func fb) #[] #[],.bool AL,.func (.func ft) #[] cap] 231 (0,0)))
 case first=>
  exact zZ
 case rest=>
  obtain⟨rfl,fo,rfl,hfb,hB2,cap,hfa⟩:=hcut
  have hxa:=ah HxW.out hB2
  obtain⟨ax0,ax1,ax2,ax3,ax4,ax5⟩:=iq hxa
  obtain⟨af0,af1,af2,af3,af4,af5,af6,af7⟩:=qT hfa
  have HBa:=aa (ag HBW.out hB2)
  have Hxa:=aa hxa;have Hfa:=aa hfa
  clear hxa hfa hB2 q0
  simp only[ptr]
  go_upto_region 4 with (first
   |(refine(HBy.out _ HBa.out).mono ?_
     rintro e w4 ⟨rfl,hb4⟩
     refine pK fun hxb hfb bx1 bx2 bx3=> ?_
     have bx5:w4.cell? ⟨w.heap.size,5,none⟩=some (.bool false):=af hxb rfl
     have bf1:w4.cell? ⟨fo,1,none⟩=some (.bool NM):=af hfb rfl
     have bf6:w4.cell? ⟨fo,6,none⟩=some (.bool AL):=af hfb rfl
     have HBb:=aa (ag HBa.out hb4)
     have Hxb:=aa hxb
     clear hb4 hxb hfb ax0 ax1 ax2 ax3 ax4 ax5 af0 af1 af2 af3 af4 af5 af6 af7))
  exact Ad
theorem tD (d:ar) (rv nv:Value) (w:World) (hG:bY w) (fb ft L M N:Nat) (NM AL bv:Bool) (wd:ByteArray) (eb:bc fb) (hr:aI w w.heap.size rv d.refs) (hn:aq w w.heap.size nv (d.nums.map fun x:Nat=>(x:Int)))
 (hf: ∀pb,∃cap,jF pb d.kind=some (.agg #[.string wd,.bool NM,.int .i64 L,.int .i64 M,.int .i64 N,.func (.func fb) #[] #[],.bool AL,.func (.func ft) #[] cap])) (hby: ∀W,Below w.heap.size w W→am fb #[.int .i64 d.by_] W (.bool bv)):
 am 133 #[.agg #[.int .i64 d.kind,.string (bs d.name),rv,nv,.int .i64 d.by_,.bool d.always]] w (.bool ((decide (L≤d.refs.length)&&(decide (d.refs.length≤M)&&(decide (d.nums.length=N)&&(bv&&((AL|| !d.always)&&(if NM then bJ d.name else decide (d.name=[])))))))
  &&d.refs.all bJ&&d.nums.all fun n=>decide (n≤1048576))):=by
 cases hbad:(decide (L≤d.refs.length)&&(decide (d.refs.length≤M)&&(decide (d.nums.length=N)&&(bv&&(AL|| !d.always)))))
 ·exact JZ d rv nv w hG fb ft L M N NM AL bv wd eb hr hn hf hby hbad
 ·simp only[Bool.and_eq_true,decide_eq_true_eq,Bool.or_eq_true,Bool.not_eq_true'] at hbad
  obtain⟨h1,h2,h3,h4,h5⟩:=hbad
  cases ha:d.always with
  |false=>
   have h:=J1 d rv nv w hG fb ft L M N NM AL bv wd eb hr hn hf hby ha h1 h2 h3 h4
   rwa [ha] at h
  |true=>
   rw[ha] at h5
   have h:=J0 d rv nv w hG fb ft L M N NM AL bv wd eb hr hn hf hby ha (by simpa using h5) h1 h2 h3 h4
   rwa [ha] at h
theorem J2 (d:ar) (rv nv:Value) (w:World) (hG:bY w) (hr:aI w w.heap.size rv d.refs) (hn:aq w w.heap.size nv (d.nums.map fun x:Nat=>(x:Int))):
 am 133 #[.agg #[.int .i64 d.kind,.string (bs d.name),rv,nv,.int .i64 d.by_,.bool d.always]] w (.bool (dF d)):=by
 by_cases hk:d.kind≤16
 ·obtain⟨k,hkd⟩: ∃k,d.kind=k:=⟨_,rfl⟩
  unfold dF
  rw[JP d k (by omega) hkd]
  have hfk: ∀pb,jF pb d.kind=some (eJ pb k):=fun pb=>by rw[hkd];exact JR pb (by omega)
  rcases tk (show k≤16 by omega) with rfl|rfl|rfl|rfl|rfl|rfl|rfl|rfl|rfl|rfl|rfl|rfl|rfl|rfl|rfl|rfl|rfl
  ·exact fO
  ·exact fO
  ·exact fO
  ·exact fO
  ·exact fO
  ·exact fO
  ·exact fO
  ·exact fO
  ·exact fO
  ·exact tD d rv nv w hG _ _ _ _ _ _ _ _ _ (enters_of func309 (by kernel_rfl) rfl) hr hn (fun pb=>⟨_,hfk pb⟩) (fun W _=>JU d.by_ W)
  ·exact fO
  ·exact fO
  ·exact tD d rv nv w hG _ _ _ _ _ _ _ _ _ (enters_of func313 (by kernel_rfl) rfl) hr hn (fun pb=>⟨_,hfk pb⟩) (fun W _=>JX d.by_ W)
  ·exact fO
  ·exact fO
  ·exact fO
  ·exact fO
 ·obtain⟨RA,rn,rc,rfl,_,_,_⟩:=hr.sk.form
  obtain⟨NA,nn,nc,rfl,_,_,_⟩:=hn.sk.form
  have:dF d=false:=by unfold dF;rw[JQ d (by omega)];rfl
  rw[this]
  exact JY d d.always RA NA rn rc nn nc w (by omega)
end
end Go.Proofs.YthnkonlbfogkgaaGreatDoor
