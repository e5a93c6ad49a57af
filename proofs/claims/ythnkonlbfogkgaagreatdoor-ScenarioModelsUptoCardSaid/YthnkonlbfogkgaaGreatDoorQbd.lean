/- A part of the proof. -/
import Derived.Test.YthnkonlbfogkgaaGreatDoorQbc
set_option linter.unusedVariables false
set_option linter.unusedSimpArgs false
set_option maxRecDepth 100000
set_option maxHeartbeats 32000000
namespace Go.Proofs.YthnkonlbfogkgaaGreatDoor
section
open Go Go.RowKit Go.MapKept Go.ChangeMaps Tryz
def da (B:Nat) (v:Value):Prop:= ∀a n c,v= .slice (some a) n c→B≤a.block
theorem da.nil (B:Nat):da B aG:=fun a n c h=>by unfold aG at h;cases h
theorem da.mk_ {B b n c:Nat} (h:B≤b):da B (.slice (some ⟨b,0,none⟩) n c):=fun a n' c' e=>by injection e with e;injection e with e;subst e;exact h
def dC (W:World) (pa:Nat) (r:Option ap) (e:Ending) (w':World):Prop:=
 W.grownBy w' (some pa)∧e= .returned (.bool r.isSome)∧∀y,r=some y→∃m s,bB w' pa y m s∧aq w' w'.heap.size m y.ms∧aq w' w'.heap.size s y.ss∧da W.heap.size m∧da W.heap.size s
def bW (l:List ByteArray) (j:Nat):Option (List Int):=if l.length=j then bi l else none
def lE (w:World) (b:Nat) (t:TypeId) (cs:Array Value) (offs:List Nat) (l:List ByteArray) (e:Ending) (w':World):Prop:=
 w.grownBy w' (some b)∧match bW l offs.length with
  |some vs=>e= .returned (.bool true)∧w'.heap[b]? =some (.cells (fw cs offs vs) t (0,0))
  |none=>e= .returned (.bool false)∧∃cs',w'.heap[b]? =some (.cells cs' t (0,0))∧cs'.size=cs.size
theorem lE.ret {w w':World} {b:Nat} {t:TypeId} {cs:Array Value} {offs:List Nat} {l:List ByteArray} {e:Ending} (h:lE w b t cs offs l e w'):e= .returned (.bool (bW l offs.length).isSome):=by
 obtain⟨_,h⟩:=h
 cases hq:bW l offs.length<;>rw[hq] at h<;>exact h.1
theorem da.less {B B':Nat} {v:Value} (h:da B v) (hB:B'≤B):da B' v:=fun a n c e=>aP hB (h a n c e)
theorem iR {W W1 w':World} {b:Nat} (hb:Below W.heap.size W W1) (hg:W1.grownBy w' (some b)):W.grownBy w' (some b):=
 ⟨hg.os.trans hb.os,hg.tape.trans hb.tape,hg.output.trans hb.output,aP hb.size hg.size,fun i hi hne=>(hg.block i (aF hi hb.size) hne).trans (hb.block i hi)⟩
theorem dC.from_ {W W1 w':World} {pa:Nat} {r:Option ap} {e:Ending} (h:dC W1 pa r e w') (hb:Below W.heap.size W W1):dC W pa r e w':=
 ⟨iR hb h.1,h.2.1,fun y hy=>by
  obtain⟨m,s,h1,h2,h3,h4,h5⟩:=h.2.2 y hy
  exact⟨m,s,h1,h2,h3,h4.less hb.size,h5.less hb.size⟩⟩
theorem aq.grown' {w w':World} {b n c pa:Nat} {vs:List Int} (h:aq w w.heap.size (.slice (some ⟨b,0,none⟩) n c) vs) (hg:w.grownBy w' (some pa)) (hne: ¬b=pa):aq w' w'.heap.size (.slice (some ⟨b,0,none⟩) n c) vs:=by
 obtain⟨⟨A,c',he,h1,h2,h3⟩,hI⟩:=h
 injection he with e1 e2 e3
 subst e1 e2 e3
 refine⟨⟨_,_,rfl,h1,h2,fun hn=> ?_⟩,hI⟩
 obtain⟨b',o',hA,hb,hc⟩:=h3 hn
 injection hA with hA
 injection hA with hb' ho'
 subst hb' ho'
 exact⟨_,_,rfl,aF hb hg.size,fun j u' hu=>(World.grownBy.cell_far hg ⟨_,_,none⟩ hb (fun e=>hne (by injection e))).trans (hc j u' hu)⟩
theorem qW {W w w':World} {b:Nat} (h:W.grownBy w (some b)) (k:w.grownBy w' (some b)):W.grownBy w' (some b):=
 ⟨k.os.trans h.os,k.tape.trans h.tape,k.output.trans h.output,aP h.size k.size,fun i hi hne=>(k.block i (aF hi h.size) hne).trans (h.block i hi hne)⟩
theorem wz {W w:World} {b:Nat} (h:W.grownBy w (some b)):W.grownBy w.drew (some b):=⟨h.os,h.tape,h.output,h.size,h.block⟩
theorem qX {w:World} {b j pa o:Nat} {u:Value} (hne: ¬b=pa):(w.setCell ⟨pa,o,none⟩ u).cell? ⟨b,j,none⟩=w.cell? ⟨b,j,none⟩:=
 World.cell?_of_block (Below.heap_setCell w ⟨pa,o,none⟩ u b (by intro e;exact hne (by rw[e])))
theorem aq.set {w:World} {b n c pa o:Nat} {u:Value} {vs:List Int} (h:aq w w.heap.size (.slice (some ⟨b,0,none⟩) n c) vs) (hne: ¬b=pa):aq (w.setCell ⟨pa,o,none⟩ u) (w.setCell ⟨pa,o,none⟩ u).heap.size (.slice (some ⟨b,0,none⟩) n c) vs:=by
 obtain⟨⟨A,c',he,h1,h2,h3⟩,hI⟩:=h
 injection he with e1 e2 e3
 subst e1 e2 e3
 refine⟨⟨_,_,rfl,h1,h2,fun hn=> ?_⟩,hI⟩
 obtain⟨b',o',hA,hb,hc⟩:=h3 hn
 injection hA with hA
 injection hA with hb' ho'
 subst hb' ho'
 refine⟨_,_,rfl,by simpa[World.setCell] using hb,fun j u' hu=>(qX hne).trans (hc j u' hu)⟩
theorem Ea (A B:Option Addr) (n m c c':Nat) (h:n≠m) (w:World):
 Calls prog 77 #[.slice A n c,.slice B m c'] w fun e w'=>e= .returned (.bool false)∧w'=w:=by
 have h1: ¬((n:Int)=m):=by omega
 go_enter func77,ntmps77
 exact jV
theorem kj (v:Value) (l:List ByteArray) (offs:List Nat) (n bu cu b:Nat) (t:TypeId) (cs:Array Value) (w:World) (hG:aT w) (B:Nat) (ho:n=offs.length)
 (h:aL w B v l) (hB:B≤b) (hBw:B≤w.heap.size) (hsz: ∀s∈l,s.size≤1000000) (hn:l.length≤100000)
 (hu: ∀j,j<offs.length→w.cell? ⟨bu,j,none⟩=some (.pointer (some ⟨b,fI offs j,none⟩))) (hbu:bu≠b) (hbw:bu<w.heap.size) (hb8:8≤b)
 (hblk:w.heap[b]? =some (.cells cs t (0,0))) (hint: ∀j,j<offs.length→fI offs j<cs.size):
 Calls prog 77 #[v,.slice (some ⟨bu,0,none⟩) n cu] w (lE w b t cs offs l):=by
 subst ho
 by_cases hl:l.length=offs.length
 ·refine(vG v l offs bu cu b t cs w hG B h hB hBw hsz hl hn hu hbu hbw hb8 hblk hint).mono fun e w' hp=> ?_
  unfold lE bW
  rw[if_pos hl];exact hp
 ·obtain⟨A,n,c,rfl,hn',_,_⟩:=h.form
  refine(Ea A _ n offs.length c cu (by omega) w).mono ?_
  rintro e w' ⟨rfl,rfl⟩
  unfold lE bW
  rw[if_neg hl]
  exact⟨World.grownBy.refl _ _,rfl,cs,hblk,rfl⟩
def dN (k:Int) (j:Nat) (l:List ByteArray):Option ap:=(bW l j).map fun vs=>{aK k with a:=bd vs 0,b:=bd vs 1,c:=bd vs 2}
theorem kl {l:List ByteArray} {j:Nat} {vs:List Int} (h:bW l j=some vs):vs.length=j:=by
 unfold bW at h
 split at h
 ·rename_i e;rw[jP h,e]
 ·cases h
theorem qY {W w':World} {pa:Nat} {k:Int} {l:List ByteArray} {offs:List Nat} {j:Nat} {e:Ending} (hj:offs=[1]∧j=1∨offs=[1,2]∧j=2∨offs=[1,2,3]∧j=3)
 (h:lE W pa 45 ((aK k).cells aG aG) offs l e w'):dC W pa (dN k j l) e w':=by
 obtain⟨hg,h⟩:=h
 have hj':offs.length=j:=by rcases hj with ⟨rfl,rfl⟩|⟨rfl,rfl⟩|⟨rfl,rfl⟩<;>rfl
 rw[hj'] at h
 cases hq:bW l j with
 |none=>
  rw[hq] at h
  refine⟨hg,?_,?_⟩
  ·rw[h.1];simp[dN,hq]
  ·intro y hy;simp[dN,hq] at hy
 |some vs=>
  rw[hq] at h
  have hl:=kl hq
  refine⟨hg,?_,?_⟩
  ·rw[h.1];simp[dN,hq]
  ·intro y hy
   simp only[dN,hq,Option.map_some,Option.some.injEq] at hy
   subst hy
   refine⟨aG,aG,?_,aq.nil_ _ _,aq.nil_ _ _,da.nil _,da.nil _⟩
   have h2:=h.2
   unfold bB
   rw[h2]
   rcases hj with ⟨rfl,rfl⟩|⟨rfl,rfl⟩|⟨rfl,rfl⟩
   ·match vs,hl with
    |[a],_=>rfl
   ·match vs,hl with
    |[a,b],_=>rfl
   ·match vs,hl with
    |[a,b,c],_=>rfl
theorem iS (k:Int) (v:Value) (l:List ByteArray) (W:World) (pa:Nat) (hG:aT W) (hb:bB W pa (aK k) aG aG) (h8:8≤pa) (h:aL W pa v l) (hsz: ∀s∈l,s.size≤1000000) (hn:l.length≤100000):
 Calls prog 192 #[ptr pa,v] W (dC W pa (dN k 1 l)):=by
 obtain⟨A,n,c,rfl,hl,hc,hm⟩:=h.form
 have hlt:=hb.lt
 have HG:=aa hG;have HB:=aa hb;have H:=aa h;have HSZ:=aa hsz;have HN:=aa hn
 have hne: ¬pa=W.heap.size:=by omega
 have hne2: ¬W.heap.size=pa:=by omega
 clear hG hb h hsz hn
 simp only[ptr]
 go_enter func192,ntmps192
 go_wp2_with(go_at_call 77;refine(kj _ l [1] 1 W.heap.size _ pa 45 _ _ (HG.out.step (ac (B0 W) _)) pa rfl (Sl.below H.out ((ac (B0 W) _).mono (bN hlt))) (ae _) (by simp;omega) HSZ.out HN.out (fun j hj=>by
  match j,hj with
  |0,_=>go_simp;try rfl) hne2 (by simp) h8 (by exact((ac (B0 W) _).block _ hlt |>.trans HB.out)) (fun j hj=>by
  match j,hj with
  |0,_=>show _<10;decide)).mono ?_;rintro e w1 hp;have he:=hp.ret;subst he)
 all_goals
  go_ret
  have hp':=qY (offs:=[1]) (j:=1) (by simp) hp
  exact hp'.from_ (ac (B0 W) _)
theorem Eb (k:Int) (v:Value) (l:List ByteArray) (W:World) (pa:Nat) (hG:aT W) (hb:bB W pa (aK k) aG aG) (h8:8≤pa) (h:aL W pa v l) (hsz: ∀s∈l,s.size≤1000000) (hn:l.length≤100000):
 Calls prog 94 #[ptr pa,v] W (dC W pa (dN k 2 l)):=by
 obtain⟨A,n,c,rfl,hl,hc,hm⟩:=h.form
 have hlt:=hb.lt
 have HG:=aa hG;have HB:=aa hb;have H:=aa h;have HSZ:=aa hsz;have HN:=aa hn
 have hne: ¬pa=W.heap.size:=by omega
 have hne2: ¬W.heap.size=pa:=by omega
 clear hG hb h hsz hn
 simp only[ptr]
 go_enter func94,ntmps94
 go_wp2_with fail
 go_region_with (go_at_call 77;refine(kj _ l [1,2] 2 W.heap.size _ pa 45 _ _ (HG.out.step (au (ac (B0 W) _))) pa rfl (Sl.below H.out ((au (ac (B0 W) _)).mono (bN hlt))) (ae _) (by simp;omega) HSZ.out HN.out (fun j hj=>by
  match j,hj with
  |0,_=>go_simp;try rfl
  |1,_=>go_simp;try rfl) hne2 (by simp) h8 (by exact((au (ac (B0 W) _)).block _ hlt |>.trans HB.out)) (fun j hj=>by
  match j,hj with
  |0,_=>show _<10;decide
  |1,_=>show _<10;decide)).mono ?_;rintro e w1 hp;have he:=hp.ret;subst he)
 all_goals (go_wp2_with fail)
 all_goals
  go_ret
  have hp':=qY (offs:=[1,2]) (j:=2) (by simp) hp
  exact hp'.from_ (au (ac (B0 W) _))
theorem Ec (k:Int) (v:Value) (l:List ByteArray) (W:World) (pa:Nat) (hG:aT W) (hb:bB W pa (aK k) aG aG) (h8:8≤pa) (h:aL W pa v l) (hsz: ∀s∈l,s.size≤1000000) (hn:l.length≤100000):
 Calls prog 112 #[ptr pa,v] W (dC W pa (dN k 3 l)):=by
 obtain⟨A,n,c,rfl,hl,hc,hm⟩:=h.form
 have hlt:=hb.lt
 have HG:=aa hG;have HB:=aa hb;have H:=aa h;have HSZ:=aa hsz;have HN:=aa hn
 have hne: ¬pa=W.heap.size:=by omega
 have hne2: ¬W.heap.size=pa:=by omega
 clear hG hb h hsz hn
 simp only[ptr]
 go_enter func112,ntmps112
 go_wp2_with fail
 go_region_with (go_at_call 77;refine(kj _ l [1,2,3] 3 W.heap.size _ pa 45 _ _ (HG.out.step (au (ac (B0 W) _))) pa rfl (Sl.below H.out ((au (ac (B0 W) _)).mono (bN hlt))) (ae _) (by simp;omega) HSZ.out HN.out (fun j hj=>by
  match j,hj with
  |0,_=>go_simp;try rfl
  |1,_=>go_simp;try rfl
  |2,_=>go_simp;try rfl) hne2 (by simp) h8 (by exact((au (ac (B0 W) _)).block _ hlt |>.trans HB.out)) (fun j hj=>by
  match j,hj with
  |0,_=>show _<10;decide
  |1,_=>show _<10;decide
  |2,_=>show _<10;decide)).mono ?_;rintro e w1 hp;have he:=hp.ret;subst he)
 all_goals (go_wp2_with fail)
 all_goals
  go_ret
  have hp':=qY (offs:=[1,2,3]) (j:=3) (by simp) hp
  exact hp'.from_ (au (ac (B0 W) _))
def jW (k:Int) (l:List ByteArray):Option ap:=if l.length=0 then some (aK k) else none
theorem wA (k:Int) (v:Value) (l:List ByteArray) (W:World) (pa:Nat) (hb:bB W pa (aK k) aG aG) (h:aL W pa v l):
 Calls prog 196 #[ptr pa,v] W (dC W pa (jW k l)):=by
 obtain⟨A,n,c,rfl,hl,hc,hm⟩:=h.form
 have HB:=aa hb
 clear hb h
 simp only[ptr]
 go_enter func196,ntmps196
 go_wp2_with fail
 go_ret
 refine⟨World.grownBy.refl _ _,?_,fun y hy=> ?_⟩
 ·unfold jW
  rw[hl]
  by_cases e:n=0
  ·subst e;rfl
  ·rw[if_neg e];refine aV ?_;simp;omega
 ·unfold jW at hy
  split at hy
  ·injection hy with hy;subst hy
   exact⟨aG,aG,HB.out,aq.nil_ _ _,aq.nil_ _ _,da.nil _,da.nil _⟩
  ·cases hy
theorem Ed (k:Int) (v:Value) (l:List ByteArray) (W:World) (pa:Nat) (hG:aT W) (hb:bB W pa (aK k) aG aG) (h8:8≤pa) (h:aL W pa v l) (hsz: ∀s∈l,s.size≤1000000) (hn:l.length≤100000):
 Calls prog 116 #[ptr pa,v] W (dC W pa ((bi l).map fun vs=>{aK k with ms:=vs})):=by
 have hlt:=hb.lt
 have hL:=ly v l W hG (h.more (bN hlt)) hsz hn
 obtain⟨A,n,c,rfl,hl,hc,hm⟩:=h.form
 have HL:=aa hL
 have HB:=aa hb
 clear hG hb h hsz hn hL
 simp only[ptr]
 go_enter func116,ntmps116
 cases hq:bi l with
 |none=>
  unfold jQ at HL
  rw[hq] at HL
  go_wp2_with(first
  |(go_at_call 78
    refine HL.out.mono ?_
    rintro e w1 ⟨hb1,rfl⟩
    refine jX fun r1=> ?_
    rw[ej] at r1
    have d8:w1.cell? ⟨pa,8,none⟩=some (.slice none 0 0):=by simp[World.cell?,r1,aG]
    have f8:w1.frozen? ⟨pa,8,none⟩=false:=by simp[World.frozen?,r1]))
  go_ret
  exact⟨gy (iR hb1 (World.grownBy.refl _ _)) _ _,rfl,fun y hy=>by simp at hy⟩
 |some vs=>
  unfold jQ at HL
  rw[hq] at HL
  go_wp2_with(first
  |(go_at_call 78
    refine HL.out.mono ?_
    rintro e w1 ⟨hb1,bu,nu,cu,rfl,hu,hfr⟩
    have hfar: ¬bu=pa:=by omega
    have HU:=aa hu
    clear hu
    refine jX fun r1=> ?_
    rw[ej] at r1
    have d8:w1.cell? ⟨pa,8,none⟩=some (.slice none 0 0):=by simp[World.cell?,r1,aG]
    have f8:w1.frozen? ⟨pa,8,none⟩=false:=by simp[World.frozen?,r1]))
  go_ret
  refine⟨gy (iR hb1 (World.grownBy.refl _ _)) _ _,rfl,fun y hy=> ?_⟩
  simp only[Option.map_some,Option.some.injEq] at hy
  subst hy
  exact⟨_,aG,(cU r1 _ _).trans rfl,aq.set HU.out hfar,aq.nil_ _ _,da.mk_ hfr,da.nil _⟩
theorem aL.drop {W:World} {B b o n c:Nat} {l:List ByteArray} (h:aL W B (.slice (some ⟨b,o,none⟩) n c) l) (k:Nat) (hk:k≤n):aL W B (.slice (some ⟨b,o+k,none⟩) (n - k) (c - k)) (l.drop k):=by
 obtain⟨A,c',he,h1,h2,h3⟩:=h
 injection he with e1 e2 e3
 subst e1 e2 e3
 simp only[List.length_map] at h1 hk h3⊢
 refine⟨some ⟨b,o+k,none⟩,c - k,by simp,by simp;omega,by simp only[maxLen] at*;omega,fun hn=> ?_⟩
 have hne:l≠[]:=by intro e;subst e;simp at hn
 obtain⟨b',o',hA,hb,hc⟩:=h3 (by simpa using hne)
 injection hA with hA
 injection hA with hb' ho'
 subst hb' ho'
 refine⟨_,_,rfl,hb,fun j u hu=> ?_⟩
 rw[Nat.add_assoc]
 refine hc (k+j) u ?_
 rw[List.map_drop,List.getElem?_drop] at hu
 exact hu
theorem aL.take_ {W:World} {B b o n c:Nat} {l:List ByteArray} (h:aL W B (.slice (some ⟨b,o,none⟩) n c) l) (k:Nat) (hk:k≤n):aL W B (.slice (some ⟨b,o,none⟩) k c) (l.take k):=by
 obtain⟨A,c',he,h1,h2,h3⟩:=h
 injection he with e1 e2 e3
 subst e1 e2 e3
 simp only[List.length_map] at h1 hk h3⊢
 refine⟨some ⟨b,o,none⟩,c,by simp[hk],by simp;omega,h2,fun hn=> ?_⟩
 have hne:l≠[]:=by intro e;subst e;simp at hn
 obtain⟨b',o',hA,hb,hc⟩:=h3 (by simpa using hne)
 injection hA with hA
 injection hA with hb' ho'
 subst hb' ho'
 refine⟨_,_,rfl,hb,fun j u hu=>hc j u ?_⟩
 rw[List.map_take,List.getElem?_take] at hu
 split at hu
 ·exact hu
 ·cases hu
theorem aL.none_ {W:World} {B c:Nat} {A:Option Addr} (hc:c≤maxLen):aL W B (.slice A 0 c) []:=⟨A,c,rfl,by simp,hc,fun h=>absurd rfl h⟩
def ff (k:Int) (l:List ByteArray):Option ap:=
 if l.length=0 then none else(bi (l.drop 1)).bind fun vs=>(bg (aE l 0)).map fun a=>{aK k with a:=a,ss:=vs}
theorem Ee (k:Int) (v:Value) (l:List ByteArray) (W:World) (pa:Nat) (h:aL W pa v l) (h0:l.length=0):
 Calls prog 90 #[ptr pa,v] W (dC W pa (ff k l)):=by
 obtain⟨A,n,c,rfl,hl,hc,hm⟩:=h.form
 have hr:ff k l=none:=by unfold ff;rw[if_pos h0]
 rw[hr]
 obtain rfl:n=0:=by omega
 clear h
 simp only[ptr]
 go_enter func90,ntmps90
 go_wp2_with fail
 go_ret
 exact⟨World.grownBy.refl _ _,rfl,fun y hy=>by cases hy⟩
theorem Ef (k:Int) (v:Value) (l:List ByteArray) (W:World) (pa:Nat) (hG:aT W) (hb:bB W pa (aK k) aG aG) (h8:8≤pa) (h:aL W pa v l) (hsz: ∀s∈l,s.size≤1000000) (hn:l.length≤100000) (h0:0<l.length) (hq:bi (l.drop 1)=none):
 Calls prog 90 #[ptr pa,v] W (dC W pa (ff k l)):=by
 have hlt:=hb.lt
 have hr:ff k l=none:=by unfold ff;rw[if_neg (by omega),hq];rfl
 rw[hr]
 obtain⟨A,n,c,rfl,hl,hc,hm⟩:=h.form
 obtain⟨bl,ol,rfl,hbl,hcell⟩:=h.at_ 0 (by omega)
 have hsz': ∀s∈l.drop 1,s.size≤1000000:=fun s hs=>hsz s (List.mem_of_mem_drop hs)
 have hn':(l.drop 1).length≤100000:=by simp;omega
 have L1:=ly _ (l.drop 1) W hG ((h.drop 1 (by omega)).more (bN hlt)) hsz' hn'
 have hd:c=1→l.drop 1=[]:=fun e=>by rw[List.drop_eq_nil_iff];omega
 unfold jQ at L1
 rw[hq] at L1
 have HL:=aa L1
 have HB:=aa hb
 have hc1: ¬c=1:=fun e=>by rw[hd e] at hq;cases hq
 have i1:(1:Int)≤n:=by omega
 have g0: ¬((n:Int)=0):=by omega
 have i2:(n:Int)≤c:=by omega
 have n1:1≤n:=by omega
 clear hG hb h hsz hn L1 hcell
 simp only[ptr]
 go_enter func90,ntmps90
 go_wp2_with(first
  |(go_at_call 78
    refine HL.out.mono ?_
    rintro e w1 ⟨hb1,rfl⟩
    refine jX fun r1=> ?_
    rw[ej] at r1
    have d9:w1.cell? ⟨pa,9,none⟩=some (.slice none 0 0):=by simp[World.cell?,r1,aG]
    have f9:w1.frozen? ⟨pa,9,none⟩=false:=by simp[World.frozen?,r1]))
 first|(go_region_with (first|fail))|fail
 all_goals go_wp2_with fail
 all_goals
  go_ret
  exact⟨wz (gy (iR hb1 (World.grownBy.refl _ _)) _ _),rfl,fun y hy=>by cases hy⟩
theorem wB {l:List ByteArray} (h:0<l.length):l.take 1=[aE l 0]:=by
 match l,h with
 |a::r,_=>rfl
theorem wC (s:ByteArray):bW [s] 1=(bg s).map fun a=>[a]:=by
 have e:bW [s] 1=bi [s]:=if_pos rfl
 rw[e]
 cases hs:bg s with
 |none=>simp[bi,hs]
 |some u=>simp[bi,hs]
theorem Eg (k:Int) (v:Value) (l:List ByteArray) (W:World) (pa:Nat) (hG:aT W) (hb:bB W pa (aK k) aG aG) (h8:8≤pa) (h:aL W pa v l) (hsz: ∀s∈l,s.size≤1000000) (hn:l.length≤100000) (h0:0<l.length) (vs:List Int) (hq:bi (l.drop 1)=some vs) (hc1: ∀A n c,v= .slice A n c→¬c=1):
 Calls prog 90 #[ptr pa,v] W (dC W pa (ff k l)):=by
 have hlt:=hb.lt
 have hr:ff k l=(bg (aE l 0)).map fun a=>{aK k with a:=a,ss:=vs}:=by unfold ff;rw[if_neg (by omega),hq];rfl
 rw[hr]
 obtain⟨A,n,c,rfl,hl,hc,hm⟩:=h.form
 obtain⟨bl,ol,rfl,hbl,hcell⟩:=h.at_ 0 (by omega)
 have hsz': ∀s∈l.drop 1,s.size≤1000000:=fun s hs=>hsz s (List.mem_of_mem_drop hs)
 have hn':(l.drop 1).length≤100000:=by simp;omega
 have L1:=ly _ (l.drop 1) W hG ((h.drop 1 (by omega)).more (bN hlt)) hsz' hn'
 unfold jQ at L1
 rw[hq] at L1
 have HL:=aa L1
 have HB:=aa hb
 have hc1': ¬c=1:=hc1 _ _ _ rfl
 have HT:=aa (h.take_ 1 (by omega))
 rw[wB h0] at HT
 have HZ:=aa (hsz _ (jp h0))
 have HG:=aa hG
 have i1:(1:Int)≤n:=by omega
 have g0: ¬((n:Int)=0):=by omega
 have i2:(n:Int)≤c:=by omega
 have i3:(1:Int)≤c:=by omega
 have n1:1≤n:=by omega
 have n2:1≤c:=by omega
 clear hG hb h hsz hn L1 hcell hc1 hsz' hn'
 simp only[ptr]
 go_enter func90,ntmps90
 go_wp2_with(first
  |(go_at_call 78
    refine HL.out.mono ?_
    rintro e w1 ⟨hb1,bu,nu,cu,rfl,hu,hfr⟩
    refine jX fun r1=> ?_
    rw[ej] at r1
    have d9:w1.cell? ⟨pa,9,none⟩=some (.slice none 0 0):=by simp[World.cell?,r1,aG]
    have f9:w1.frozen? ⟨pa,9,none⟩=false:=by simp[World.frozen?,r1]))
 exact wD
theorem Eh (k:Int) (v:Value) (l:List ByteArray) (W:World) (pa:Nat) (hG:aT W) (hb:bB W pa (aK k) aG aG) (h8:8≤pa) (h:aL W pa v l) (hsz: ∀s∈l,s.size≤1000000) (hn:l.length≤100000) (h0:0<l.length) (vs:List Int) (hq:bi (l.drop 1)=some vs) (hc1: ∀A n c,v= .slice A n c→c=1):
 Calls prog 90 #[ptr pa,v] W (dC W pa (ff k l)):=by
 have hlt:=hb.lt
 have hr:ff k l=(bg (aE l 0)).map fun a=>{aK k with a:=a,ss:=vs}:=by unfold ff;rw[if_neg (by omega),hq];rfl
 rw[hr]
 obtain⟨A,n,c,rfl,hl,hc,hm⟩:=h.form
 obtain⟨bl,ol,rfl,hbl,hcell⟩:=h.at_ 0 (by omega)
 have hsz': ∀s∈l.drop 1,s.size≤1000000:=fun s hs=>hsz s (List.mem_of_mem_drop hs)
 have hn':(l.drop 1).length≤100000:=by simp;omega
 obtain rfl:c=1:=hc1 _ _ _ rfl
 obtain rfl:n=1:=by omega
 have hd:l.drop 1=[]:=by rw[List.drop_eq_nil_iff];omega
 have L0:=fun A=>ly (.slice A 0 0) (l.drop 1) W hG (by rw[hd];exact aL.none_ (by simp)) hsz' hn'
 have L1:=fun A=>(L0 A).mono fun e w' h=>h
 unfold jQ at L1
 rw[hq] at L1
 clear L0
 have HL:=aa L1
 have HB:=aa hb
 have HT:=aa (h.take_ 1 (by omega))
 rw[wB h0] at HT
 have HZ:=aa (hsz _ (jp h0))
 have HG:=aa hG
 clear hG hb h hsz hn L1 hcell hc1 hsz' hn'
 simp only[ptr]
 go_enter func90,ntmps90
 go_wp2_with(first
  |(go_at_call 78
    refine(HL.out _).mono ?_
    rintro e w1 ⟨hb1,bu,nu,cu,rfl,hu,hfr⟩
    refine jX fun r1=> ?_
    rw[ej] at r1
    have d9:w1.cell? ⟨pa,9,none⟩=some (.slice none 0 0):=by simp[World.cell?,r1,aG]
    have f9:w1.frozen? ⟨pa,9,none⟩=false:=by simp[World.frozen?,r1]))
 exact wD
theorem Ei (k:Int) (v:Value) (l:List ByteArray) (W:World) (pa:Nat) (hG:aT W) (hb:bB W pa (aK k) aG aG) (h8:8≤pa) (h:aL W pa v l) (hsz: ∀s∈l,s.size≤1000000) (hn:l.length≤100000):
 Calls prog 90 #[ptr pa,v] W (dC W pa (ff k l)):=by
 by_cases h0:l.length=0
 ·exact Ee k v l W pa h h0
 cases hq:bi (l.drop 1) with
 |none=>exact Ef k v l W pa hG hb h8 h hsz hn (by omega) hq
 |some vs=>
  obtain⟨A,n,c,rfl,hl,hc,hm⟩:=h.form
  by_cases hc1:c=1
  ·exact Eh k _ l W pa hG hb h8 h hsz hn (by omega) vs hq (fun A' n' c' e=>by injection e with _ _ e;omega)
  ·exact Eg k _ l W pa hG hb h8 h hsz hn (by omega) vs hq (fun A' n' c' e=>by injection e with _ _ e;omega)
end
section
open Go Go.RowKit Tryz
def fW (k:Int) (l:List ByteArray):Option ap:=
 if l.length=3 then(bW (l.take 2) 2).bind fun vs=>(bg (aE l 2)).map fun u=>{aK k with a:=bd vs 0,b:=bd vs 1,val:=u} else none
def fK (l:List ByteArray):Option (Int×ByteArray×Int×Int):=if l.length<2 then none else gY l
def fg (k:Int) (l:List ByteArray):Option ap:=
 if l.length<2 then none else(fK (l.drop 2)).bind fun q=>(bW (l.take 2) 2).map fun vs=>{aK k with a:=bd vs 0,b:=bd vs 1,ok:=q.1,key:=q.2.1,val:=q.2.2.1,old:=q.2.2.2}
def cr (k:Nat) (l:List ByteArray):Option ap:=
 if k=4∨k=16 then jW k l
 else if k=5 then ff k l
 else if k=7 then dN k 2 l
 else if k=10 then fg k l
 else if k=12 then fW k l
 else if k=14 then dN k 3 l
 else if k=15 then(bi l).map fun vs=>{aK k with ms:=vs}
 else dN k 1 l
def fh (w:ByteArray):Option Nat:=(List.range 18).find? fun k=>decide (bs (bp k)=w)
def el (l:List ByteArray):Option ap:=
 match l with
 |[]=>none
 |w::r=>(fh w).bind fun k=>(cr k r).bind fun y=>if cL y then some y else none
theorem oK (d:Nat) (h:d<10):(UInt8.ofNat (48+d)).toNat=48+d:=by
 rw[UInt8.toNat_ofNat'];omega
theorem wE: ∀(n u:Nat) (r:List UInt8),u≤n→u<18446744073709551616→Lib.parseUint10 0 (Lib.decDigits u++r)=Lib.parseUint10 u r
 |0,u,r,hn,_=>by
  have:u=0:=by omega
  subst this
  rw[Lib.decDigits,dif_pos (by omega)]
  rfl
 |n+1,u,r,hn,hu=>by
  rw[Lib.decDigits]
  by_cases h10:u<10
  ·rw[dif_pos h10]
   show Lib.parseUint10 0 (UInt8.ofNat (48+u)::r)=_
   rw[Lib.parseUint10,oK u h10,if_pos (by omega),if_neg (by omega),if_neg (by omega)]
   congr 1;omega
  ·rw[dif_neg h10,List.append_assoc,wE n (u / 10) _ (by omega) (by omega)]
   show Lib.parseUint10 (u / 10) (UInt8.ofNat (48+u%10)::r)=_
   rw[Lib.parseUint10,oK (u%10) (by omega),if_pos (by omega),if_neg (by omega),if_neg (by omega)]
   congr 1;omega
theorem qZ (u:Nat):Lib.decDigits u≠[]:=by
 rw[Lib.decDigits]
 split<;>simp
theorem wF (u:Nat) (hu:u<18446744073709551616):Lib.parseMag (Lib.decDigits u)= .ok u:=by
 unfold Lib.parseMag
 rw[if_neg (qZ u)]
 have:=wE u u [] (ae _) hu
 rw[List.append_nil] at this
 rw[this];rfl
theorem lF: ∀(n u:Nat),u≤n→∀c∈Lib.decDigits u,48≤c.toNat∧c.toNat≤57
 |0,u,hn,c,hc=>by
  have:u=0:=by omega
  subst this
  rw[Lib.decDigits,dif_pos (by omega)] at hc
  simp at hc;subst hc;decide
 |n+1,u,hn,c,hc=>by
  rw[Lib.decDigits] at hc
  by_cases h10:u<10
  ·rw[dif_pos h10] at hc
   have:c=UInt8.ofNat (48+u):=by simpa using hc
   subst this
   rw[oK u h10];omega
  ·rw[dif_neg h10] at hc
   rcases List.mem_append.1 hc with h|h
   ·exact lF n (u / 10) (by omega) c h
   ·have:c=UInt8.ofNat (48+u%10):=by simpa using h
    subst this
    rw[oK _ (by omega)];omega
theorem Ej (v:Int) (h:aj v):Lib.atoiAll (Lib.itoa v)= .ok v:=by
 obtain⟨h1,h2⟩:=h
 unfold Lib.itoa
 by_cases hv:v<0
 ·rw[if_pos hv,Lib.atoiAll_minus,wF _ (by omega)]
  show Lib.signed (.ok v.natAbs)=_
  unfold Lib.signed
  simp only
  rw[if_neg (by omega)]
  congr 1;omega
 ·rw[if_neg hv]
  cases hd:Lib.decDigits v.toNat with
  |nil=>exact absurd hd (qZ _)
  |cons c r=>
   have hc:=lF v.toNat v.toNat (ae _) c (by rw[hd];simp)
   rw[Lib.atoiAll_plain c r (by omega) (by omega),←hd,wF _ (by omega)]
   show Lib.signless (.ok v.toNat)=_
   unfold Lib.signless
   simp only
   rw[if_neg (by omega)]
   congr 1;omega
theorem lG (v:Int) (h:aj v):bg (bs (Lib.itoa v))=some v:=by
 unfold bg
 rw[bL,Ej v h]
 simp
theorem lH {s:ByteArray} {v:Int} (h:bg s=some v):bs (Lib.itoa v)=s:=by
 unfold bg at h
 split at h
 ·split at h
  ·injection h with h
   subst h
   assumption
  ·cases h
 ·cases h
theorem km: ∀(l:List Int),(∀x∈l,aj x)→bi (l.map fun n=>bs (Lib.itoa n))=some l
 |[],_=>rfl
 |v::r,h=>by
  rw[List.map_cons,bi,lG v (h v (by simp))]
  simp only
  rw[km r fun x hx=>h x (by simp[hx])];rfl
theorem oL: ∀{l:List ByteArray} {vs:List Int},bi l=some vs→vs.map (fun n=>bs (Lib.itoa n))=l
 |[],vs,h=>by simp[bi] at h;subst h;rfl
 |s::r,vs,h=>by
  rw[bi] at h
  split at h
  ·cases h
  ·rename_i v hv
   obtain⟨us,hu,rfl⟩:=Option.map_eq_some_iff.1 h
   rw[List.map_cons,lH hv,oL hu]
def fz (w:List UInt8):Prop:= ∀c∈w,c≠32
theorem mW (v:Int):fz (Lib.itoa v):=by
 intro c hc
 unfold Lib.itoa at hc
 split at hc
 ·rcases List.mem_cons.1 hc with rfl|hc
  ·decide
  ·intro e;subst e
   have:=lF _ _ (ae _) _ hc
   exact absurd this (by decide)
 ·intro e;subst e
  have:=lF _ _ (ae _) _ hc
  exact absurd this (by decide)
theorem Ek {s:ByteArray} (h:iJ s=true):fz s.data.toList:=by
 intro c hc e
 subst e
 rw[iJ,List.all_eq_true] at h
 exact absurd (h _ hc) (by decide)
theorem wG: ∀(w r:List UInt8),fz w→Lib.index (w++32::r) [32]=w.length
 |[],r,_=>by simp[Lib.index]
 |c::w,r,h=>by
  have hc:c≠32:=h c (by simp)
  have ih:=wG w r (fun x hx=>h x (by simp[hx]))
  show Lib.index (c::(w++32::r)) [32]=_
  rw[Lib.index,ih]
  have hp:([32]:List UInt8).isPrefixOf (c::(w++32::r))=false:=by simp[List.isPrefixOf,Ne.symm hc]
  rw[hp]
  have hne:((w.length:Int)== -1)=false:=by simp
  simp[hne]
theorem wH: ∀(w:List UInt8),fz w→Lib.index w [32]= -1
 |[],_=>by simp[Lib.index]
 |c::w,h=>by
  have hc:c≠32:=h c (by simp)
  have ih:=wH w (fun x hx=>h x (by simp[hx]))
  rw[Lib.index,ih]
  have hp:([32]:List UInt8).isPrefixOf (c::w)=false:=by simp[List.isPrefixOf,Ne.symm hc]
  rw[hp]
  simp
theorem wI (w:List UInt8) (h:fz w):Lib.split w [32]=[w]:=by
 unfold Lib.split
 rw[Lib.count_miss (wH w h)];rfl
theorem wJ (w r:List UInt8) (h:fz w):Lib.split (w++32::r) [32]=w::Lib.split r [32]:=by
 have hi:=wG w r h
 have e:(w++32::r).drop (w.length+1)=r:=by
  rw[List.drop_append]
  simp
 unfold Lib.split
 rw[Lib.count_hit (by simp) hi,Nat.add_comm,Lib.splitK,hi]
 have hne:((w.length:Int)== -1)=false:=by simp
 simp only[hne,Bool.false_eq_true,if_false,Int.toNat_natCast,Nat.add_zero,List.length_singleton]
 rw[e]
 simp
theorem wK (w x:List UInt8) (r:List (List UInt8)):Lib.join (w::x::r) [32]=w++32::Lib.join (x::r) [32]:=by
 rw[Lib.join_cons,Lib.join_cons]
 simp[Lib.joinTail]
theorem wL: ∀(w:List UInt8) (r:List (List UInt8)),(∀x∈w::r,fz x)→Lib.split (Lib.join (w::r) [32]) [32]=w::r
 |w,[],h=>by rw[Lib.join_one];exact wI w (h w (by simp))
 |w,x::r,h=>by
  rw[wK,wJ w _ (h w (by simp)),wL x r fun y hy=>h y (by simp at hy⊢;exact .inr hy)]
theorem wM: ∀(l:List UInt8),fz l∨∃w r,l=w++32::r∧fz w
 |[]=> .inl fun c hc=>by simp at hc
 |c::l=>by
  by_cases hc:c=32
  ·subst hc;exact .inr ⟨[],l,rfl,fun c hc=>by simp at hc⟩
  ·rcases wM l with h|⟨w,r,rfl,h⟩
   ·exact .inl fun x hx=>by
     rcases List.mem_cons.1 hx with rfl|hx
     ·exact hc
     ·exact h x hx
   ·exact .inr ⟨c::w,r,rfl,fun x hx=>by
     rcases List.mem_cons.1 hx with rfl|hx
     ·exact hc
     ·exact h x hx⟩
theorem wN: ∀(n:Nat) (l:List UInt8),l.length≤n→∃w r,Lib.split l [32]=w::r∧Lib.join (w::r) [32]=l
 |n,l,hn=>by
  rcases wM l with h|⟨w,r,rfl,h⟩
  ·exact⟨l,[],wI l h,Lib.join_one _ _⟩
  ·match n,hn with
   |0,hn=>simp at hn
   |n+1,hn=>
    obtain⟨x,q,h1,h2⟩:=wN n r (by simp at hn;omega)
    exact⟨w,x::q,by rw[wJ w r h,h1],by rw[wK,h2]⟩
def ba (s:ByteArray):List ByteArray:=Lib.splitB (bs [32]) 0 (Lib.countB s (bs [32])) s
theorem rd (s:ByteArray):(ba s).map (·.data.toList)=Lib.split s.data.toList [32]:=by
 unfold ba Lib.split
 rw[Lib.splitB_data]
 simp[Lib.countB,bL]
theorem El (l:List ByteArray):(l.map (·.data.toList)).map bs=l:=by
 rw[List.map_map]
 conv=>rhs;rw[←List.map_id l]
 exact List.map_congr_left fun x _=>dZ x
theorem Em (s:ByteArray):ba s=(Lib.split s.data.toList [32]).map bs:=by
 rw[←rd,El]
theorem wO (w:List UInt8) (r:List (List UInt8)) (h: ∀x∈w::r,fz x):ba (bs (Lib.join (w::r) [32]))=(w::r).map bs:=by
 rw[Em,bL,wL w r h]
theorem oM (s:ByteArray): ∃w r,ba s=w::r∧bs (Lib.join ((w::r).map (·.data.toList)) [32])=s:=by
 obtain⟨w,r,h1,h2⟩:=wN _ s.data.toList (ae _)
 have h3:=rd s
 rw[h1] at h3
 match hs:ba s with
 |[]=>rw[hs] at h3;simp at h3
 |x::q=>exact⟨x,q,rfl,by rw[←hs,rd,h1,h2,dZ]⟩
theorem Eo {k:Int} (h0:0≤k) (h17:k≤17):k=0∨k=1∨k=2∨k=3∨k=4∨k=5∨k=6∨k=7∨k=8∨k=9∨k=10∨k=11∨k=12∨k=13∨k=14∨k=15∨k=16∨k=17:=by omega
theorem wP {x y:ap} (h:eY x y=true):x.kind=y.kind∧x.a=y.a∧x.b=y.b∧x.c=y.c∧x.ok=y.ok∧x.key=y.key∧x.val=y.val∧x.old=y.old∧x.ms=y.ms∧x.ss=y.ss:=by
 simp only[eY,Bool.and_eq_true,beq_iff_eq] at h
 obtain⟨⟨⟨⟨⟨⟨h1,h2⟩,h3⟩,h4⟩,⟨⟨h5,h6⟩,h7⟩,h8⟩,h9⟩,h10⟩:=h
 exact⟨h1,h2,h3,h4,h5,by rw[←dZ x.key,h6,dZ],h7,h8,h9,h10⟩
theorem Ep {x y:ap} (h:eY x y=true):x=y:=by
 obtain⟨h1,h2,h3,h4,h5,h6,h7,h8,h9,h10⟩:=wP h
 cases x;cases y
 simp only at h1 h2 h3 h4 h5 h6 h7 h8 h9 h10
 subst h1;subst h2;subst h3;subst h4;subst h5;subst h6;subst h7;subst h8;subst h9;subst h10
 rfl
theorem wQ (x:ap):eY x x=true:=by simp[eY]
def oN (x:ap):Bool:=decide (0≤x.kind)&&decide (x.kind≤17)&&eY x (dT x)&&mP x.kind x
theorem Er:gQ []=true:=rfl
theorem wR:jo []=true:=rfl
theorem Es (x:ap) (hs:eY x (dT x)=true):mP x.kind x=(decide (x.ss.length≤20)&&gQ x.ss&&jo x.ms&&fT x):=by
 obtain⟨_,_,_,_,_,_,_,_,h9,h10⟩:=wP hs
 simp only[dT] at h9 h10
 unfold mP
 by_cases h5:x.kind=5
 ·rw[if_pos h5]
  rw[if_neg (by omega)] at h9
  rw[h9,wR]
  have:fT x=bf x.a 1 16:=by
   unfold fT
   rw[if_neg (by omega),if_pos (by omega)]
  rw[this]
  cases bf x.a 1 16<;>cases decide (x.ss.length≤20)<;>cases gQ x.ss<;>rfl
 ·rw[if_neg h5]
  rw[if_neg h5] at h10
  rw[h10,Er]
  by_cases h15:x.kind=15
  ·rw[if_pos h15]
   have:fT x=true:=by
    unfold fT
    rw[if_neg (by omega),if_neg (by omega),if_pos (by omega)]
   rw[this];simp
  ·rw[if_neg h15]
   rw[if_neg h15] at h9
   rw[h9,wR]
   show fT x=_
   simp
theorem Et (x:ap):oN x=cL x:=by
 unfold oN cL
 cases hs:eY x (dT x) with
 |false=>simp
 |true=>
  rw[Es x hs]
  cases hk:fT x with
  |false=>simp
  |true=>
   obtain⟨h0,h17⟩:=ou hk
   simp[h0,h17]
theorem Eu {x:ap} (h:cL x=true):dT x=x:=by
 simp only[cL,Bool.and_eq_true] at h
 exact(Ep h.1.1.1.1).symm
structure ap.Num (x:ap):Prop where
 a:aj x.a
 b:aj x.b
 c:aj x.c
 val:aj x.val
 old:aj x.old
 ms: ∀y∈x.ms,aj y
 ss: ∀y∈x.ss,aj y
theorem ap.In.num {x:ap} {w:World} {B:Nat} {m s:Value} (h:x.In w B m s):x.Num:=⟨h.a,h.b,h.c,h.val,h.old,h.ms.2,h.ss.2⟩
theorem Ev (a:ByteArray) (l:List ByteArray):aE (a::l) 0=a:=rfl
theorem Ew (a:Int) (ha:aj a):bW [bs (Lib.itoa a)] 1=some [a]:=by rw[bW,if_pos (by simp)];exact km [a] (by simpa using ha)
theorem wS (a b:Int) (ha:aj a) (hb:aj b):bW [bs (Lib.itoa a),bs (Lib.itoa b)] 2=some [a,b]:=by rw[bW,if_pos (by simp)];exact km [a,b] (by simpa using⟨ha,hb⟩)
theorem Ex (a b c:Int) (ha:aj a) (hb:aj b) (hc:aj c):bW [bs (Lib.itoa a),bs (Lib.itoa b),bs (Lib.itoa c)] 3=some [a,b,c]:=by rw[bW,if_pos (by simp)];exact km [a,b,c] (by simpa using⟨ha,hb,hc⟩)
theorem Ey (k:Int) (a:Int) (ha:aj a):dN k 1 [bs (Lib.itoa a)]=some {aK k with a:=a}:=by simp[dN,Ew a ha,bd,aK]
theorem Ez (k:Int) (a b:Int) (ha:aj a) (hb:aj b):dN k 2 [bs (Lib.itoa a),bs (Lib.itoa b)]=some {aK k with a:=a,b:=b}:=by simp[dN,wS a b ha hb,bd,aK]
theorem EA (k:Int) (a b c:Int) (ha:aj a) (hb:aj b) (hc:aj c):dN k 3 [bs (Lib.itoa a),bs (Lib.itoa b),bs (Lib.itoa c)]=some {aK k with a:=a,b:=b,c:=c}:=by simp[dN,Ex a b c ha hb hc,bd,aK]
theorem wT (a b:Int) (ha:aj a) (hb:aj b) (r:List ByteArray):bW ((bs (Lib.itoa a)::bs (Lib.itoa b)::r).take 2) 2=some [a,b]:=by
 rw[show(bs (Lib.itoa a)::bs (Lib.itoa b)::r).take 2=[bs (Lib.itoa a),bs (Lib.itoa b)] from rfl];exact wS a b ha hb
theorem EB (x:ap) (hx:x.Num) (hv:jn x=true):fK ((eQ x).map bs)=some (x.ok,x.key,x.val,x.old):=by
 simp only[jn,Bool.and_eq_true,Bool.or_eq_true,decide_eq_true_eq,beq_iff_eq,Bool.not_eq_true',beq_eq_false_iff_ne] at hv
 obtain⟨⟨⟨⟨⟨⟨h0,h3⟩,_⟩,_⟩,ho⟩,hvl⟩,_⟩:=hv
 have hval:=lG x.val hx.val
 have hold:=lG x.old hx.old
 have hkey:=dZ x.key
 unfold eQ
 rcases(show x.ok=0∨x.ok=1∨x.ok=2∨x.ok=3 by omega) with h|h|h|h
 ·have e1:x.old=0:=by omega
  have e2:x.val=0:=by omega
  rw[if_pos h]
  have hk:eF (bs [103,101,116])=some 0:=by rw[eF,if_pos rfl]
  simp[fK,gY,aE,hk,h,e1,e2,hkey]
 ·have e1:x.old=0:=by omega
  rw[if_neg (by omega),if_pos h]
  have hk:eF (bs [112,117,116])=some 1:=by rw[eF,if_neg (by decide),if_pos rfl]
  simp[fK,gY,aE,hk,h,e1,hkey,hval]
 ·rw[if_neg (by omega),if_neg (by omega),if_pos h]
  have hk:eF (bs [99,97,115])=some 2:=by rw[eF,if_neg (by decide),if_neg (by decide),if_pos rfl]
  simp[fK,gY,aE,hk,h,hkey,hval,hold]
 ·have e1:x.old=0:=by omega
  rw[if_neg (by omega),if_neg (by omega),if_neg (by omega)]
  have hk:eF (bs [97,100,100])=some 3:=by rw[eF,if_neg (by decide),if_neg (by decide),if_neg (by decide),if_pos rfl]
  simp[fK,gY,aE,hk,h,e1,hkey,hval]
theorem re {x:ap} (h:cL x=true) (hk:x.kind=10):jn x=true:=by
 have hk':=ow h
 unfold fT at hk'
 rw[if_neg (by omega),if_neg (by omega),if_neg (by omega),if_neg (by omega),if_neg (by omega),if_pos hk,Bool.and_eq_true] at hk'
 exact hk'.2
theorem EC (x:ap) (hx:x.Num) (hv:cL x=true):cr x.kind.toNat ((bF x).map bs)=some x:=by
 obtain⟨h0,h17⟩:=ou (ow hv)
 have hu:=Eu hv
 have single: ∀k:Nat,x.kind=(k:Int)→¬(x.kind=4∨x.kind=16)→¬x.kind=15→¬x.kind=5→¬x.kind=7→¬x.kind=14→¬x.kind=12→¬x.kind=10→cr k ((bF x).map bs)=some x:=by
  intro k hk h1 h2 h3 h4 h5 h6 h7
  have hA:bF x=[Lib.itoa x.a]:=by unfold bF;rw[if_neg h1,if_neg h2,if_neg h3,if_neg h4,if_neg h5,if_neg h6,if_neg h7]
  rw[hA]
  unfold cr
  repeat rw[if_neg (by omega)]
  rw[List.map_cons,List.map_nil,Ey _ _ hx.a]
  conv=>rhs;rw[←hu]
  simp only[dT,aK,Option.some.injEq,ap.mk.injEq]
  refine⟨hk.symm,?_,?_,?_,?_,?_,?_,?_,?_,?_⟩<;>rw[if_neg (by omega)]
 rcases Eo h0 h17 with h|h|h|h|h|h|h|h|h|h|h|h|h|h|h|h|h|h
 ·rw[h]
  exact single 0 h (by omega) (by omega) (by omega) (by omega) (by omega) (by omega) (by omega)
 ·rw[h]
  exact single 1 h (by omega) (by omega) (by omega) (by omega) (by omega) (by omega) (by omega)
 ·rw[h]
  exact single 2 h (by omega) (by omega) (by omega) (by omega) (by omega) (by omega) (by omega)
 ·rw[h]
  exact single 3 h (by omega) (by omega) (by omega) (by omega) (by omega) (by omega) (by omega)
 ·rw[h]
  show cr 4 _=_
  have hA:bF x=[]:=by unfold bF;rw[if_pos (.inl h)]
  rw[hA]
  unfold cr
  rw[if_pos (.inl rfl)]
  conv=>rhs;rw[←hu]
  simp[dT,aK,h,jW]
 ·rw[h]
  show cr 5 _=_
  have hA:bF x=Lib.itoa x.a::x.ss.map Lib.itoa:=by unfold bF;rw[if_neg (by omega),if_neg (by omega),if_pos h]
  rw[hA]
  unfold cr
  rw[if_neg (by decide),if_pos rfl]
  have e1:=km x.ss hx.ss
  have e2:=lG x.a hx.a
  have e3:List.map bs (List.map Lib.itoa x.ss)=x.ss.map fun n=>bs (Lib.itoa n):=by rw[List.map_map];rfl
  rw[List.map_cons,e3]
  unfold ff
  rw[if_neg (by simp),List.drop_succ_cons,List.drop_zero,e1,Ev,e2]
  conv=>rhs;rw[←hu]
  simp[dT,aK,h]
 ·rw[h]
  exact single 6 h (by omega) (by omega) (by omega) (by omega) (by omega) (by omega) (by omega)
 ·rw[h]
  show cr 7 _=_
  have hA:bF x=[Lib.itoa x.a,Lib.itoa x.b]:=by unfold bF;rw[if_neg (by omega),if_neg (by omega),if_neg (by omega),if_pos h]
  rw[hA]
  unfold cr
  rw[if_neg (by decide),if_neg (by decide),if_pos rfl]
  rw[List.map_cons,List.map_cons,List.map_nil,Ez _ _ _ hx.a hx.b]
  conv=>rhs;rw[←hu]
  simp[dT,aK,h]
 ·rw[h]
  exact single 8 h (by omega) (by omega) (by omega) (by omega) (by omega) (by omega) (by omega)
 ·rw[h]
  exact single 9 h (by omega) (by omega) (by omega) (by omega) (by omega) (by omega) (by omega)
 ·rw[h]
  show cr 10 _=_
  have hA:bF x=[Lib.itoa x.a,Lib.itoa x.b]++eQ x:=by unfold bF;rw[if_neg (by omega),if_neg (by omega),if_neg (by omega),if_neg (by omega),if_neg (by omega),if_neg (by omega),if_pos h]
  rw[hA]
  unfold cr
  rw[if_neg (by decide),if_neg (by decide),if_neg (by decide),if_pos rfl]
  have hop:=EB x hx (re hv h)
  rw[List.map_append,List.map_cons,List.map_cons,List.map_nil,List.cons_append,List.cons_append,List.nil_append]
  unfold fg
  rw[if_neg (by simp),wT _ _ hx.a hx.b]
  rw[show(bs (Lib.itoa x.a)::bs (Lib.itoa x.b)::(eQ x).map bs).drop 2=(eQ x).map bs from rfl,hop]
  conv=>rhs;rw[←hu]
  simp[dT,aK,h,bd]
 ·rw[h]
  exact single 11 h (by omega) (by omega) (by omega) (by omega) (by omega) (by omega) (by omega)
 ·rw[h]
  show cr 12 _=_
  have hA:bF x=[Lib.itoa x.a,Lib.itoa x.b,Lib.itoa x.val]:=by unfold bF;rw[if_neg (by omega),if_neg (by omega),if_neg (by omega),if_neg (by omega),if_neg (by omega),if_pos h]
  rw[hA]
  unfold cr
  rw[if_neg (by decide),if_neg (by decide),if_neg (by decide),if_neg (by decide),if_pos rfl]
  rw[List.map_cons,List.map_cons,List.map_cons,List.map_nil]
  unfold fW
  rw[if_pos (by simp),wT _ _ hx.a hx.b]
  have e2:=lG x.val hx.val
  conv=>rhs;rw[←hu]
  simp[dT,aK,h,bd,aE,e2]
 ·rw[h]
  exact single 13 h (by omega) (by omega) (by omega) (by omega) (by omega) (by omega) (by omega)
 ·rw[h]
  show cr 14 _=_
  have hA:bF x=[Lib.itoa x.a,Lib.itoa x.b,Lib.itoa x.c]:=by unfold bF;rw[if_neg (by omega),if_neg (by omega),if_neg (by omega),if_neg (by omega),if_pos h]
  rw[hA]
  unfold cr
  rw[if_neg (by decide),if_neg (by decide),if_neg (by decide),if_neg (by decide),if_neg (by decide),if_pos rfl]
  rw[List.map_cons,List.map_cons,List.map_cons,List.map_nil,EA _ _ _ _ hx.a hx.b hx.c]
  conv=>rhs;rw[←hu]
  simp[dT,aK,h]
 ·rw[h]
  show cr 15 _=_
  have hA:bF x=x.ms.map Lib.itoa:=by unfold bF;rw[if_neg (by omega),if_pos h]
  rw[hA]
  unfold cr
  rw[if_neg (by decide),if_neg (by decide),if_neg (by decide),if_neg (by decide),if_neg (by decide),if_neg (by decide),if_pos rfl]
  have e1:=km x.ms hx.ms
  have e3:List.map bs (List.map Lib.itoa x.ms)=x.ms.map fun n=>bs (Lib.itoa n):=by rw[List.map_map];rfl
  rw[e3,e1]
  conv=>rhs;rw[←hu]
  simp[dT,aK,h]
 ·rw[h]
  show cr 16 _=_
  have hA:bF x=[]:=by unfold bF;rw[if_pos (.inr h)]
  rw[hA]
  unfold cr
  rw[if_pos (.inr rfl)]
  conv=>rhs;rw[←hu]
  simp[dT,aK,h,jW]
 ·rw[h]
  exact single 17 h (by omega) (by omega) (by omega) (by omega) (by omega) (by omega) (by omega)
theorem wU: ∀k,k<18→fz (bp k):=by
 unfold fz
 decide
theorem oO: ∀k,k<18→fh (bs (bp k))=some k:=by
 decide
theorem wV {w:ByteArray} {k:Nat} (h:fh w=some k):k<18∧bs (bp k)=w:=by
 unfold fh at h
 have h1:=List.find?_some h
 have h2:=List.mem_of_find?_eq_some h
 exact⟨by simpa using h2,by simpa using h1⟩
theorem ED (x:ap) (hv:cL x=true): ∀w∈bF x,fz w:=by
 intro w hw
 unfold bF at hw
 have ms: ∀l:List Int,w∈l.map Lib.itoa→fz w:=fun l h=>by
  obtain⟨n,_,rfl⟩:=List.mem_map.1 h
  exact mW n
 have lit: ∀l:List UInt8,l.all (fun c=> !(c==32))=true→fz l:=fun l h c hc e=>by
  rw[List.all_eq_true] at h
  have:=h c hc
  subst e;exact absurd this (by decide)
 split at hw
 ·cases hw
 ·split at hw
  ·exact ms _ hw
  ·split at hw
   ·rcases List.mem_cons.1 hw with rfl|hw
    ·exact mW _
    ·exact ms _ hw
   ·split at hw
    ·exact ms [x.a,x.b] hw
    ·split at hw
     ·exact ms [x.a,x.b,x.c] hw
     ·split at hw
      ·exact ms [x.a,x.b,x.val] hw
      ·split at hw
       ·rename_i h10
        have hop:=re hv h10
        have hkey:fz x.key.data.toList:=by
         simp only[jn,Bool.and_eq_true] at hop
         exact Ek hop.2
        rcases List.mem_append.1 hw with hw|hw
        ·exact ms [x.a,x.b] hw
        ·unfold eQ at hw
         split at hw
         ·simp only[List.mem_cons,List.not_mem_nil,or_false] at hw
          rcases hw with rfl|rfl
          ·exact lit _ (by decide)
          ·exact hkey
         ·split at hw
          ·exact wW
          ·split at hw
           ·simp only[List.mem_cons,List.not_mem_nil,or_false] at hw
            rcases hw with rfl|rfl|rfl|rfl
            ·exact lit _ (by decide)
            ·exact hkey
            ·exact mW _
            ·exact mW _
           ·exact wW
       ·exact ms [x.a] hw
theorem EE (x:ap) (hx:x.Num) (hv:cL x=true):el (ba (bs (gR x)))=some x:=by
 obtain⟨h0,h17⟩:=ou (ow hv)
 unfold gR
 rw[wO _ _ (fun w hw=>by
  rcases List.mem_cons.1 hw with rfl|hw
  ·exact wU _ (by omega)
  ·exact ED x hv w hw),List.map_cons]
 simp only[el]
 rw[oO _ (by omega)]
 simp[EC x hx hv,hv]
theorem oP {l:List ByteArray} {j:Nat} {vs:List Int} (h:bW l j=some vs):l.length=j∧(vs.map fun n=>bs (Lib.itoa n))=l∧∀x∈vs,aj x:=by
 unfold bW at h
 split at h
 ·exact⟨by assumption,oL h,mM h⟩
 ·cases h
theorem EF {l:List ByteArray} {q:Int×ByteArray×Int×Int} (h:fK l=some q) (x:ap) (h1:x.ok=q.1) (h2:x.key=q.2.1) (h3:x.val=q.2.2.1) (h4:x.old=q.2.2.2):
 (eQ x).map bs=l∧aj q.2.2.1∧aj q.2.2.2∧q.2.1∈l∧aj q.1:=by
 unfold fK at h
 split at h
 ·cases h
 ·rename_i hl
  unfold gY at h
  cases hk:eF (aE l 0) with
  |none=>rw[hk] at h;cases h
  |some k=>
   rw[hk] at h
   simp only at h
   have hk2:(k=0∧aE l 0=bs [103,101,116])∨(k=1∧aE l 0=bs [112,117,116])∨(k=2∧aE l 0=bs [99,97,115])∨(k=3∧aE l 0=bs [97,100,100]):=by
    unfold eF at hk
    repeat' split at hk
    all_goals first|(cases hk;done)|(injection hk with hk;simp[←hk];assumption)
   have key:=dZ x.key
   split at h
   ·rename_i hk0
    split at h
    ·rename_i hlen
     injection h with h
     subst h
     match l,hlen with
     |[a,b],_=>
      have e0:a=bs [103,101,116]:=by rcases hk2 with h|h|h|h<;>first|exact h.2|omega
      simp only at h1 h2 h3 h4
      have e1:x.key=b:=h2
      unfold eQ
      rw[if_pos h1]
      refine⟨?_,aj.zero,aj.zero,by simp[aE],aj.zero⟩
      simp[e0,key,e1,dZ]
    ·cases h
   ·rename_i hk0
    split at h
    ·rename_i hk2'
     split at h
     ·rename_i hlen
      obtain⟨o,ho,h⟩:=Option.bind_eq_some_iff.1 h
      obtain⟨v,hv,h⟩:=Option.map_eq_some_iff.1 h
      subst h
      match l,hlen with
      |[a,b,c,d],_=>
       have e0:a=bs [99,97,115]:=by rcases hk2 with h|h|h|h<;>first|exact h.2|omega
       simp only at h1 h2 h3 h4
       have e1:x.key=b:=h2
       have ho':bs (Lib.itoa o)=c:=lH ho
       have hv':bs (Lib.itoa v)=d:=lH hv
       unfold eQ
       rw[if_neg (by omega),if_neg (by omega),if_pos h1]
       refine⟨?_,lw hv,lw ho,by simp[aE],by show aj _;exact⟨by simp,by simp⟩⟩
       simp[e0,e1,h3,h4,ho',hv',dZ]
     ·cases h
    ·rename_i hk2'
     split at h
     ·rename_i hlen
      obtain⟨v,hv,h⟩:=Option.map_eq_some_iff.1 h
      subst h
      match l,hlen with
      |[a,b,c],_=>
       simp only at h1 h2 h3 h4
       have e1:x.key=b:=h2
       have hv':bs (Lib.itoa v)=c:=lH hv
       rcases hk2 with ⟨e,e0⟩|⟨e,e0⟩|⟨e,e0⟩|⟨e,e0⟩
       ·exact absurd e hk0
       ·subst e
        have e0':a=bs [112,117,116]:=e0
        unfold eQ
        rw[if_neg (by omega),if_pos h1]
        exact wX
       ·exact absurd e hk2'
       ·subst e
        have e0':a=bs [97,100,100]:=e0
        unfold eQ
        rw[if_neg (by omega),if_neg (by omega),if_neg (by omega)]
        exact wX
     ·cases h
def oQ (k:Nat) (l:List ByteArray) (y:ap):Prop:=y.kind=k∧(bF y).map bs=l∧y.Num∧aj y.ok∧(y.key=⟨#[]⟩∨y.key∈l)
theorem EG (k:Int):(aK k).Num:=⟨aj.zero,aj.zero,aj.zero,aj.zero,aj.zero,by simp[aK],by simp[aK]⟩
theorem EH {y:ap} (h: ¬(y.kind=4∨y.kind=16∨y.kind=15∨y.kind=5∨y.kind=7∨y.kind=14∨y.kind=12∨y.kind=10)):bF y=[Lib.itoa y.a]:=by
 unfold bF
 repeat rw[if_neg (by omega)]
theorem EI {k:Nat} {l:List ByteArray} {y:ap} (hk: ¬(k=4∨k=16∨k=15∨k=5∨k=7∨k=14∨k=12∨k=10)) (h:dN k 1 l=some y):oQ k l y:=by
 obtain⟨vs,hv,rfl⟩:=Option.map_eq_some_iff.1 h
 obtain⟨hl,ht,hI⟩:=oP hv
 have hvl:=kl hv
 match vs,hvl with
 |[a],_=>
  refine⟨rfl,?_,⟨hI a (by simp),aj.zero,aj.zero,aj.zero,aj.zero,by simp[aK],by simp[aK]⟩,aj.zero,.inl rfl⟩
  rw[EH (by simp only[aK];omega)]
  exact ht
theorem EJ {l:List ByteArray} {y:ap} (h:dN (7:Nat) 2 l=some y):oQ 7 l y:=by
 obtain⟨vs,hv,rfl⟩:=Option.map_eq_some_iff.1 h
 obtain⟨hl,ht,hI⟩:=oP hv
 have hvl:=kl hv
 match vs,hvl with
 |[a,b],_=>
  refine⟨rfl,?_,⟨hI a (by simp),hI b (by simp),aj.zero,aj.zero,aj.zero,by simp[aK],by simp[aK]⟩,aj.zero,.inl rfl⟩
  exact ht
theorem EK {l:List ByteArray} {y:ap} (h:dN (14:Nat) 3 l=some y):oQ 14 l y:=by
 obtain⟨vs,hv,rfl⟩:=Option.map_eq_some_iff.1 h
 obtain⟨hl,ht,hI⟩:=oP hv
 have hvl:=kl hv
 match vs,hvl with
 |[a,b,c],_=>
  refine⟨rfl,?_,⟨hI a (by simp),hI b (by simp),hI c (by simp),aj.zero,aj.zero,by simp[aK],by simp[aK]⟩,aj.zero,.inl rfl⟩
  exact ht
theorem wY {l:List ByteArray} {vs:List Int} (h:bW (l.take 2) 2=some vs): ∃a b,vs=[a,b]∧aj a∧aj b∧l=bs (Lib.itoa a)::bs (Lib.itoa b)::l.drop 2:=by
 obtain⟨hl,ht,hI⟩:=oP h
 have hvl:=kl h
 match vs,hvl with
 |[a,b],_=>
  refine⟨a,b,rfl,hI a (by simp),hI b (by simp),?_⟩
  have:=List.take_append_drop 2 l
  rw[←ht] at this
  exact this.symm
theorem EL {k:Nat} {l:List ByteArray} {y:ap} (h:cr k l=some y):oQ k l y:=by
 unfold cr at h
 split at h
 ·rename_i hk
  unfold jW at h
  split at h
  ·rename_i hl
   injection h with h
   subst h
   have:l=[]:=List.eq_nil_of_length_eq_zero hl
   subst this
   refine⟨rfl,?_,EG _,aj.zero,.inl rfl⟩
   unfold bF
   rw[if_pos (by simp only[aK];omega)];rfl
  ·cases h
 split at h
 ·rename_i _ hk
  subst hk
  unfold ff at h
  split at h
  ·cases h
  ·rename_i hl
   obtain⟨vs,hv,h⟩:=Option.bind_eq_some_iff.1 h
   obtain⟨a,ha,rfl⟩:=Option.map_eq_some_iff.1 h
   match l,hl with
   |s::r,_=>
    refine⟨rfl,?_,⟨lw ha,aj.zero,aj.zero,aj.zero,aj.zero,by simp[aK],mM hv⟩,aj.zero,.inl rfl⟩
    show bs (Lib.itoa a)::(vs.map Lib.itoa).map bs=_
    have e:=oL hv
    rw[List.map_map,lH ha]
    exact congrArg (s:: ·) e
 split at h
 ·rename_i _ _ hk
  subst hk
  exact EJ h
 split at h
 ·rename_i _ _ _ hk
  subst hk
  unfold fg at h
  split at h
  ·cases h
  ·obtain⟨q,hq,h⟩:=Option.bind_eq_some_iff.1 h
   obtain⟨vs,hv,rfl⟩:=Option.map_eq_some_iff.1 h
   obtain⟨a,b,rfl,ha,hb,hl⟩:=wY hv
   have hop:=EF hq {aK ((10:Nat):Int) with a:=bd [a,b] 0,b:=bd [a,b] 1,ok:=q.1,key:=q.2.1,val:=q.2.2.1,old:=q.2.2.2} rfl rfl rfl rfl
   refine⟨rfl,?_,⟨ha,hb,aj.zero,hop.2.1,hop.2.2.1,by simp[aK],by simp[aK]⟩,hop.2.2.2.2,.inr (List.mem_of_mem_drop hop.2.2.2.1)⟩
   rw[hl]
   show bs (Lib.itoa a)::bs (Lib.itoa b)::List.map bs (eQ _)=_
   rw[hop.1]
 split at h
 ·rename_i _ _ _ _ hk
  subst hk
  unfold fW at h
  split at h
  ·rename_i hlen
   obtain⟨vs,hv,h⟩:=Option.bind_eq_some_iff.1 h
   obtain⟨u,hu,rfl⟩:=Option.map_eq_some_iff.1 h
   obtain⟨a,b,rfl,ha,hb,hl⟩:=wY hv
   refine⟨rfl,?_,⟨ha,hb,aj.zero,lw hu,aj.zero,by simp[aK],by simp[aK]⟩,aj.zero,.inl rfl⟩
   match l,hlen with
   |[p,q,r],_=>
    injection hl with h1 h2
    injection h2 with h2 h3
    show[bs (Lib.itoa a),bs (Lib.itoa b),bs (Lib.itoa u)]=_
    rw[h1,h2,lH hu];rfl
  ·cases h
 split at h
 ·rename_i _ _ _ _ _ hk
  subst hk
  exact EK h
 split at h
 ·rename_i _ _ _ _ _ _ hk
  subst hk
  obtain⟨vs,hv,rfl⟩:=Option.map_eq_some_iff.1 h
  refine⟨rfl,?_,⟨aj.zero,aj.zero,aj.zero,aj.zero,aj.zero,mM hv,by simp[aK]⟩,aj.zero,.inl rfl⟩
  show(vs.map Lib.itoa).map bs=l
  rw[List.map_map]
  exact oL hv
 ·exact EI (by omega) h
def fi (sep:ai):List ai→ai
 |[]=>[]
 |[a]=>a
 |a::b::l=>a++sep++fi sep (b::l)
def oR (n:Nat):ai:=if n=2 then bV else if n=3 then ca else if n=4 then dg else[]
def bb (l:List ai):ai:=(l.map fun s=>s++[10]).flatten
structure fX where
 m:aC
 control:List Int
 clients:Int
 acts:List ap
def fj (m:aC) (k:Int):Int:=
 ((m.racks[(((m.machs[(k - 1).toNat]?).map (·.rack)).getD 0 - 1).toNat]?).map (·.site)).getD 0
def jY (s:fX):Bool:=
 dh (fun k b=>aM k s.m.machs.length&&(match b.getLast? with|none=>true|some p=>decide (p<k))&& !decide (fj s.m k=s.m.dark)) [] s.control&&
 (decide (s.control.length=1)||decide (s.control.length=3)||decide (s.control.length=5))
def iT (s:fX):Bool:=dQ s.m&&jY s&&aD s.clients 0 8&&decide (s.acts.length≤1024)&&s.acts.all cL
def fA:ai:=[99,111,110,116,114,111,108,32]
def dV:ai:=[32,99,108,105,101,110,116,115,32]
def dO (s:fX):ai:=fA++fi [44,32] (s.control.map Lib.itoa)++dV++Lib.itoa s.clients
def eR (p:PS) (out:List ar):Except (Nat×Nat) (List ar):=
 if p.head.kind=0 then .ok out
 else
  let q:PS×List ar:=if out.length=1024 then(p.fail p.beyond,out) else(p.decl.1,out++[p.decl.2])
  if q.1.e≠0 then .error (q.1.head.pos,q.1.e)
  else if hlt:q.1.ts.length<p.ts.length then eR q.1 q.2 else .ok q.2
termination_by p.ts.length
def dP (s:ai):Except (Nat×Nat) (List ar):=
 match eK s with
 | .error e=> .error e
 | .ok ts=>eR ⟨ts,0,{}⟩ []
def ju (s:ai) (k:Nat):Nat:=1+(s.take k).count 10
def gC (line:ai):Option (List Int×Int):=
 let c:=Lib.cut (line.drop 8) dV
 if c.2.2 then(bg (bs c.2.1)).bind fun n=>(bi ((Lib.split c.1 [44,32]).map bs)).map fun l=>(l,n) else none
def dD:Nat→List ap→List ai→Except (Nat×Nat) (List ap)
 |_,acc,[]=> .ok acc
 |k,acc,s::r=>
  if s=[]∨s.head?=some 35 then dD (k+1) acc r
  else match el (ba (bs s)) with
   |none=> .error (k,3)
   |some a=>if acc.length=1024 then .error (k,8) else dD (k+1) (acc++[a]) r
def aX (t:ai):List ai:=let l:=Lib.split t [10];if l.getLast?=some [] then l.dropLast else l
def fk (t:ai):Except (Nat×Nat) fX:=
 if 65536<t.length then .error (0,8)
 else match (aX t).findIdx? (fun s=>fA.isPrefixOf s) with
  |none=> .error ((aX t).length+1,3)
  |some i=>match dP (bb ((aX t).take i)) with
   | .error x=> .error (ju (bb ((aX t).take i)) x.1,x.2)
   | .ok ds=>match dL ds with
     | .error x=> .error (0,x.2)
     | .ok m=>match gC ((aX t).getD i []) with
       |none=> .error (i+1,3)
       |some c=>match dD (i+2) [] ((aX t).drop (i+1)) with
        | .error x=> .error x
        | .ok acts=>if iT ⟨m,c.1,c.2,acts⟩ then .ok ⟨m,c.1,c.2,acts⟩ else .error (i+1,1)
abbrev cG:=Nat×ai×Nat
def wZ (x:cG):Prop:=
 (x.2.1.all cT=true∧ew (x.2.1.headD 0)=true∧x.2.1.length≤31∧x.1=(if x.2.1∈cX then 2 else 1)∧x.2.2=0)∨
 (x.1=3∧x.2.1=Lib.decDigits x.2.2∧x.2.2≤1048576)∨(x.1=4∧x.2.2=0∧(x.2.1=[59]∨x.2.1=[44]))
def bU.strip (t:bU):cG:=(t.kind,t.text,t.n)
theorem wZ.head {x:cG} (h:wZ x): ∃c r,x.2.1=c::r∧cK c=false∧c≠35:=by
 rcases h with ⟨_,h,_⟩|⟨_,h,_⟩|⟨_,_,h⟩
 ·cases hx:x.2.1 with
  |nil=>rw[hx] at h;exact absurd h (by decide)
  |cons c r=>
   rw[hx] at h
   have hc:ew c=true:=h
   refine⟨c,r,rfl,?_,?_⟩
   ·unfold ew at hc;unfold cK
    simp at hc⊢
    refine⟨⟨⟨?_,?_⟩,?_⟩,?_⟩<;>rintro rfl<;>revert hc<;>decide
   ·rintro rfl;revert hc;decide
 ·cases hx:Lib.decDigits x.2.2 with
  |nil=>exact absurd hx (qZ _)
  |cons c r=>
   have hc:=lF x.2.2 x.2.2 (ae _) c (by rw[hx];simp)
   refine⟨c,r,by rw[h,hx],?_,?_⟩
   ·unfold cK
    simp
    refine⟨⟨⟨?_,?_⟩,?_⟩,?_⟩<;>rintro rfl<;>revert hc<;>decide
   ·rintro rfl;revert hc;decide
 ·rcases h with h|h
  ·exact⟨59,[],h,by decide,by decide⟩
  ·exact⟨44,[],h,by decide,by decide⟩
def tW (w:ai):cG:=(if w∈cX then 2 else 1,w,0)
def tN (n:Nat):cG:=(3,Lib.decDigits n,n)
def tS (c:UInt8):cG:=(4,[c],0)
def jv:List ai→List cG
 |[]=>[]
 |[a]=>[tW a]
 |a::b::l=>tW a::tS 44::jv (b::l)
def bh (l:List ai):ai:=(l.map fun w=>32::w).flatten
def St (p:PS) (x:List cG) (d:ar):Prop:=p.e=0∧p.ts.map bU.strip=x∧p.d=d
theorem St.cons {p:PS} {x:cG} {r:List cG} {d:ar} (h:St p (x::r) d): ∃t l,p.ts=t::l∧t.kind=x.1∧t.text=x.2.1∧t.n=x.2.2∧l.map bU.strip=r:=by
 obtain⟨_,h,_⟩:=h
 cases hp:p.ts with
 |nil=>rw[hp] at h;cases h
 |cons t l=>
  rw[hp] at h
  injection h with h1 h2
  subst h1
  exact⟨t,l,rfl,rfl,rfl,rfl,h2⟩
theorem St.take {p:PS} {x:cG} {r:List cG} {d:ar} (h:St p (x::r) d) (l:List ai) (hl:l=[]∨x.2.1∈l):
 St (p.take x.1 l).1 r d∧(p.take x.1 l).2.text=x.2.1∧(p.take x.1 l).2.n=x.2.2:=by
 obtain⟨t,q,ht,h1,h2,h3,h4⟩:=h.cons
 obtain⟨he,_,hd⟩:=h
 have hh:p.head=t:=by simp[PS.head,ht]
 unfold PS.take
 rw[if_neg (by
  rw[hh,he,h1,h2]
  rintro (h|h|⟨h,h'⟩)
  ·exact h rfl
  ·exact h rfl
  ·rcases hl with hl|hl
   ·exact h hl
   ·exact h' hl)]
 refine⟨⟨he,?_,hd⟩,?_,?_⟩
 ·show p.ts.tail.map _=_
  rw[ht];exact h4
 ·show p.head.text=_
  rw[hh,h2]
 ·show p.head.n=_
  rw[hh,h3]
theorem xc {w:ai} (h:w∉cX):tW w=(1,w,0):=by unfold tW;rw[if_neg h]
theorem mX {w:ai} (h:w∈cX):tW w=(2,w,0):=by unfold tW;rw[if_pos h]
theorem St.name {p:PS} {w:ai} {r:List cG} {d:ar} (hw:w∉cX) (h:St p (tW w::r) d):St p.name r {d with name:=w}:=by
 rw[xc hw] at h
 obtain⟨⟨a,b,c⟩,h2,_⟩:=h.take [] (.inl rfl)
 exact⟨a,b,by unfold PS.name;dsimp only at h2 c⊢;rw[h2,c]⟩
theorem St.ref {p:PS} {w:ai} {r:List cG} {d:ar} (hw:w∉cX) (h:St p (tW w::r) d):St p.ref r {d with refs:=d.refs++[w]}:=by
 rw[xc hw] at h
 obtain⟨⟨a,b,c⟩,h2,_⟩:=h.take [] (.inl rfl)
 exact⟨a,b,by unfold PS.ref;dsimp only at h2 c⊢;rw[h2,c]⟩
theorem St.number {p:PS} {n:Nat} {r:List cG} {d:ar} (h:St p (tN n::r) d):St p.number r {d with nums:=d.nums++[n]}:=by
 obtain⟨⟨a,b,c⟩,_,h3⟩:=h.take [] (.inl rfl)
 exact⟨a,b,by unfold PS.number;dsimp only[tN] at h3 c⊢;rw[h3,c]⟩
theorem St.word {p:PS} {w:ai} {r:List cG} {d:ar} (hw:w∈cX) (h:St p (tW w::r) d):St (p.part (.word w)) r d:=by
 rw[mX hw] at h
 exact(h.take [w] (.inr (by simp))).1
theorem St.comma {p:PS} {r:List cG} {d:ar} (h:St p (tS 44::r) d):p.comma.2=true∧St p.comma.1 r d:=by
 obtain⟨t,q,ht,h1,h2,h3,h4⟩:=h.cons
 have hh:p.head=t:=by simp[PS.head,ht]
 have e:p.comma=((p.take 4 []).1,true):=by
  unfold PS.comma
  rw[if_neg (by
   rw[hh,h.1,h1,h2]
   rintro (h|h|h)
   ·exact h rfl
   ·exact h rfl
   ·exact h rfl)]
 rw[e]
 exact⟨rfl,(h.take [] (.inl rfl)).1⟩
theorem St.nocomma {p:PS} {x:cG} {r:List cG} {d:ar} (h:St p (x::r) d) (hx:x.1≠4∨x.2.1≠[44]):p.comma=(p,false):=by
 obtain⟨t,q,ht,h1,h2,h3,h4⟩:=h.cons
 have hh:p.head=t:=by simp[PS.head,ht]
 unfold PS.comma
 rw[if_pos (by
  rw[hh,h1,h2]
  exact .inr hx)]
theorem St.listGo: ∀(l:List ai) (n:Nat) (p:PS) (x:cG) (r:List cG) (d:ar),(∀w∈l,w∉cX)→n+l.length≤16→(x.1≠4∨x.2.1≠[44])→
 St p ((l.map fun w=>[tS 44,tW w]).flatten++x::r) d→St (p.listGo n) (x::r) {d with refs:=d.refs++l}
 |[],n,p,x,r,d,_,_,hx,h=>by
  rw[PS.listGo]
  have e:=St.nocomma (p:=p) h hx
  rw[dif_neg (by rw[e];simp),e]
  simpa using h
 |w::l,n,p,x,r,d,hw,hn,hx,h=>by
  simp only[List.map_cons,List.flatten_cons,List.cons_append,List.nil_append] at h
  obtain⟨h1,h2⟩:=h.comma
  rw[PS.listGo,dif_pos h1]
  simp at hn
  rw[if_neg (by omega)]
  have h3:=St.ref (hw w (by simp)) h2
  have:=St.listGo l (n+1) p.comma.1.ref x r _ (fun y hy=>hw y (by simp[hy])) (by omega) hx h3
  simpa using this
theorem xd: ∀(a:ai) (l:List ai),jv (a::l)=tW a::(l.map fun w=>[tS 44,tW w]).flatten
 |a,[]=>rfl
 |a,b::l=>by rw[jv,xd b l];rfl
theorem St.list {p:PS} {l:List ai} {x:cG} {r:List cG} {d:ar} (hl:l≠[]) (hw: ∀w∈l,w∉cX) (hn:l.length≤16) (hx:x.1≠4∨x.2.1≠[44])
 (h:St p (jv l++x::r) d):St p.list (x::r) {d with refs:=d.refs++l}:=by
 cases l with
 |nil=>exact absurd rfl hl
 |cons a l=>
  rw[xd] at h
  have h1:=St.ref (hw a (by simp)) h
  have:=St.listGo l 1 p.ref x r _ (fun y hy=>hw y (by simp[hy])) (by simp at hn;omega) hx h1
  simpa[PS.list] using this
theorem St.domain {p:PS} {n:Nat} {r:List cG} {d:ar} (hn:n=2∨n=3∨n=4) (h:St p (tW (oR n)::r) d):St p.domain r {d with by_:=n}:=by
 have hk:oR n∈cX∧(oR n∈[bV,ca,dg])∧fQ (oR n)=n:=by rcases hn with rfl|rfl|rfl<;>decide
 rw[mX hk.1] at h
 obtain⟨⟨a,b,c⟩,h2,_⟩:=h.take [bV,ca,dg] (.inr hk.2.1)
 exact⟨a,b,by unfold PS.domain;dsimp only at h2 c⊢;rw[h2,c,hk.2.2]⟩
theorem St.alw {p:PS} {r:List cG} {d:ar} (h:St p (tW mA::r) d):St p.alw r {d with always:=true}:=by
 rw[mX (by decide)] at h
 obtain⟨t,q,ht,h1,h2,h3,h4⟩:=h.cons
 have hh:p.head=t:=by simp[PS.head,ht]
 obtain⟨⟨a,b,c⟩,h5,_⟩:=h.take [] (.inl rfl)
 unfold PS.alw
 rw[if_pos (by rw[hh,h1,h2];exact⟨h.1,rfl,rfl⟩)]
 exact⟨a,b,by dsimp only at c⊢;rw[c]⟩
theorem St.classGo: ∀(l left:List ai) (p:PS) (x:cG) (r:List cG) (d:ar),l≠[]→(∀w∈l,w∈cX)→(∀w∈l,w∈left)→l.Nodup→(x.1≠4∨x.2.1≠[44])→
 St p (jv l++x::r) d→St (p.classGo left) (x::r) {d with by_:=d.by_+(l.map eL).sum}
 |[a],left,p,x,r,d,_,hk,hm,hd,hx,h=>by
  have hl:left≠[]:=fun e=>by have:=hm a (by simp);rw[e] at this;cases this
  have h':St p ((2,a,0)::x::r) d:=by have:=h;rw[jv,mX (hk a (by simp))] at this;exact this
  obtain⟨⟨e1,e2,e3⟩,h2,_⟩:=h'.take left (.inr (hm a (by simp)))
  rw[PS.classGo,if_neg hl]
  have hs:St ({(p.take 2 left).1 with d:={(p.take 2 left).1.d with by_:=(p.take 2 left).1.d.by_+eL (p.take 2 left).2.text}}:PS) (x::r) {d with by_:=d.by_+eL a}:=
   ⟨e1,e2,by dsimp only at h2 e3⊢;rw[h2,e3]⟩
  have hc:=St.nocomma hs hx
  simp only
  rw[dif_neg (by rw[hc];simp),hc]
  simpa using hs
 |a::b::l,left,p,x,r,d,_,hk,hm,hd,hx,h=>by
  have hl:left≠[]:=fun e=>by have:=hm a (by simp);rw[e] at this;cases this
  have h':St p ((2,a,0)::tS 44::(jv (b::l)++x::r)) d:=by have:=h;rw[jv,mX (hk a (by simp))] at this;exact this
  obtain⟨⟨e1,e2,e3⟩,h2,_⟩:=h'.take left (.inr (hm a (by simp)))
  rw[PS.classGo,if_neg hl]
  have hs:St ({(p.take 2 left).1 with d:={(p.take 2 left).1.d with by_:=(p.take 2 left).1.d.by_+eL (p.take 2 left).2.text}}:PS) (tS 44::(jv (b::l)++x::r)) {d with by_:=d.by_+eL a}:=
   ⟨e1,e2,by dsimp only at h2 e3⊢;rw[h2,e3]⟩
  obtain⟨hc1,hc2⟩:=hs.comma
  simp only
  rw[dif_pos hc1]
  have hn:=List.nodup_cons.1 hd
  have:=St.classGo (b::l) (left.filter fun s=> !decide (s=(p.take 2 left).2.text)) _ x r _ (by simp) (fun w hw=>hk w (List.mem_cons_of_mem _ hw)) (fun w hw=>by
   rw[List.mem_filter]
   refine⟨hm w (List.mem_cons_of_mem _ hw),?_⟩
   dsimp only at h2
   rw[h2]
   have:w≠a:=fun e=>hn.1 (e▸hw)
   simpa using this) hn.2 hx hc2
  simpa[Nat.add_assoc] using this
theorem St.parts {p:PS} {x:du} {l:List du} {r:List cG} {d:ar} (h:St p r d):p.parts (x::l)=(p.part x).parts l:=by
 show PS.parts (if p.e=0 then p.part x else p) l=_
 rw[if_pos h.1]
theorem St.load {p:PS} {a b c:Nat} {r:List cG} {d:ar} (h:St p ([tW lj,tN a,tW lm,tN b,tW ll,tN c]++r) d):St (p.parts mC) r {d with nums:=d.nums++[a,b,c]}:=by
 have h1:=St.word (by decide) h
 have h2:St (PS.part _ .number) _ _:=St.number h1
 have h3:=St.word (by decide) h2
 have h4:St (PS.part _ .number) _ _:=St.number h3
 have h5:=St.word (by decide) h4
 have h6:St (PS.part _ .number) _ _:=St.number h5
 unfold mC
 rw[h.parts,h1.parts,h2.parts,h3.parts,h4.parts,h5.parts]
 show St (PS.part _ .number) r _
 have e:d.nums++[a,b,c]=d.nums++[a]++[b]++[c]:=by simp
 rw[e]
 exact h6
theorem St.len {p:PS} {x:List cG} {d:ar} (h:St p x d):p.ts.length=x.length:=by rw[←h.2.1,List.length_map]
theorem St.head {p:PS} {x:cG} {r:List cG} {d:ar} (h:St p (x::r) d):p.head.kind=x.1:=by
 obtain⟨t,l,ht,h1,_⟩:=h.cons
 have hh:p.head=t:=by simp[PS.head,ht]
 rw[hh,h1]
theorem rg {α:Type} {c:α→List α→Bool}: ∀{l b:List α} {x:α},dh c b l=true→x∈l→∃b',c x b'=true
 |[],b,x,_,h=>by cases h
 |y::l,b,x,hs,h=>by
  rw[dh,Bool.and_eq_true] at hs
  rcases List.mem_cons.1 h with rfl|h
  ·exact⟨b,hs.1⟩
  ·exact rg hs.2 h
structure EM (m:aC):Prop where
 sn:1≤m.sites.length∧m.sites.length≤4
 fn:m.feeds.length≤16
 rn:m.racks.length≤16
 mn:1≤m.machs.length∧m.machs.length≤16
 ln:m.links.length≤12
 xn:m.items.length≤8
 un:m.rules.length≤40
 racks: ∀x∈m.racks,aM x.site m.sites.length=true∧aM x.feed m.feeds.length=true
 machs: ∀x∈m.machs,aM x.rack m.racks.length=true∧0≤x.cap∧x.cap≤1048576
 links: ∀x∈m.links,aM x.a m.sites.length=true∧aM x.b m.sites.length=true∧x.a<x.b∧0≤x.cap∧x.cap≤1048576
 items: ∀x∈m.items,dj m x=true
 rules: ∀x∈m.rules,cE m x=true
 dark:aM m.dark m.sites.length=true
 slots:1≤m.slots∧m.slots≤16
 reserve:0≤m.reserve∧m.reserve<m.slots
 failures:0≤m.failures∧m.failures≤7
 nodup:(di m).Nodup
 names: ∀s∈di m,bJ s=true
section
variable {m:aC} (hm:EM m)
include hm
end
end
end Go.Proofs.YthnkonlbfogkgaaGreatDoor
