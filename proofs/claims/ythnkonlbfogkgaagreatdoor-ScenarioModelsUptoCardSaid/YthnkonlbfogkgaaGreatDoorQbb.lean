/- A part of the proof. -/
import Derived.Test.YthnkonlbfogkgaaGreatDoorQba
set_option linter.unusedVariables false
set_option linter.unusedSimpArgs false
set_option maxRecDepth 100000
set_option maxHeartbeats 32000000
namespace Go.Proofs.YthnkonlbfogkgaaGreatDoor
section
open Go Go.RowKit Tryz
def bg (s:ByteArray):Option Int:=
 match Lib.atoiAll s.data.toList with
 | .ok v=>if bs (Lib.itoa v)=s then some v else none
 |_=>none
def bi:List ByteArray→Option (List Int)
 |[]=>some []
 |s::r=>match bg s with
  |none=>none
  |some v=>(bi r).map (v:: ·)
def fw (cs:Array Value):List Nat→List Int→Array Value
 |o::os,v::vs=>fw (cs.setIfInBounds o (.int .i64 v)) os vs
 |_,_=>cs
theorem mJ: ∀(os:List Nat) (vs:List Int) (cs:Array Value),(fw cs os vs).size=cs.size
 |[],_,cs=>by simp[fw]
 |_::_,[],cs=>by simp[fw]
 |o::os,v::vs,cs=>by rw[fw,mJ os vs];simp
theorem vD: ∀(os:List Nat) (vs:List Int) (cs:Array Value) (o:Nat) (v:Int),os.length=vs.length→fw cs (os++[o]) (vs++[v])=(fw cs os vs).setIfInBounds o (.int .i64 v)
 |[],[],cs,o,v,_=>rfl
 |[],_::_,_,_,_,h=>by simp at h
 |_::_,[],_,_,_,h=>by simp at h
 |o'::os,v'::vs,cs,o,v,h=>by
  show fw (cs.setIfInBounds o' (.int .i64 v')) (os++[o]) (vs++[v])=_
  rw[vD os vs _ o v (by simpa using h)];rfl
theorem jP: ∀{l:List ByteArray} {vs:List Int},bi l=some vs→vs.length=l.length
 |[],vs,h=>by simp[bi] at h;subst h;rfl
 |s::r,vs,h=>by
  rw[bi] at h
  split at h
  ·cases h
  ·obtain⟨us,hu,rfl⟩:=Option.map_eq_some_iff.1 h
   simp[jP hu]
theorem oz: ∀(l:List ByteArray) (s:ByteArray),bi (l++[s])=(bi l).bind fun vs=>(bg s).map fun v=>vs++[v]
 |[],s=>by cases h:bg s<;>simp[bi,h]
 |x::r,s=>by
  rw[List.cons_append,bi,bi]
  cases hx:bg x with
  |none=>rfl
  |some v=>
   rw[oz r s]
   cases bi r with
   |none=>rfl
   |some vs=>cases bg s<;>simp
theorem vE: ∀(l r:List ByteArray),bi l=none→bi (l++r)=none
 |[],_,h=>by simp[bi] at h
 |x::l,r,h=>by
  rw[List.cons_append,bi]
  rw[bi] at h
  cases hx:bg x with
  |none=>rfl
  |some v=>
   rw[hx] at h
   have:bi l=none:=by simpa using h
   simp[vE l r this]
theorem lw {s:ByteArray} {v:Int} (h:bg s=some v):aj v:=by
 unfold bg at h
 split at h
 ·rename_i v' hv
  split at h
  ·injection h with h
   subst h
   have h64:Lib.parseIntB 64 s.data.toList= .ok v':=by rw[Lib.parseIntB_64];exact hv
   have:=Lib.parseIntB_bounds h64
   exact⟨by omega,by omega⟩
  ·cases h
 ·cases h
def vF (w:World) (b:Nat) (t:TypeId) (cs:Array Value) (offs:List Nat) (l:List ByteArray) (e:Ending) (w':World):Prop:=
 w.grownBy w' (some b)∧match bi l with
  |some vs=>e= .returned (.bool true)∧w'.heap[b]? =some (.cells (fw cs offs vs) t (0,0))
  |none=>e= .returned (.bool false)∧∃cs',w'.heap[b]? =some (.cells cs' t (0,0))∧cs'.size=cs.size
theorem gx {a w w':World} {row:Option Nat} (h:a.grownBy w row) (hb:Below w.heap.size w w'):a.grownBy w' row:=
 ⟨hb.os.trans h.os,hb.tape.trans h.tape,hb.output.trans h.output,aP h.size hb.size,fun i hi hne=>(hb.block i (aF hi h.size)).trans (h.block i hi hne)⟩
theorem mK (w:World) (row:Option Nat):w.grownBy w row:=World.grownBy.refl w row
theorem aL.grown {w w':World} {B b:Nat} {v:Value} {l:List ByteArray} (h:aL w B v l) (hg:w.grownBy w' (some b)) (hB:B≤b) (hw:B≤w.heap.size):aL w' B v l:=
 Sl.keep h fun b' o hb'=>World.cell?_of_block (hg.block b' (by omega) (by intro e;injection e with e;omega))
theorem aT.grown {w w':World} {b:Nat} (h:aT w) (hg:w.grownBy w' (some b)) (hb:8≤b):aT w':=
 h.below (B:=8) ⟨hg.os,hg.tape,hg.output,hg.size,fun k hk=>hg.block k (by have:=h.size;omega) (by intro e;injection e with e;omega)⟩ (ae _)
theorem cU {w:World} {b:Nat} {C:Array Value} {t:TypeId} (h:w.heap[b]? =some (.cells C t (0,0))) (o:Nat) (u:Value):(w.setCell ⟨b,o,none⟩ u).heap[b]? =some (.cells (C.setIfInBounds o u) t (0,0)):=by
 simp[World.setCell,Array.getElem?_modify,h]
theorem gy {a w:World} {b:Nat} (h:a.grownBy w (some b)) (o:Nat) (u:Value):a.grownBy (w.setCell ⟨b,o,none⟩ u) (some b):=
 ⟨h.os,h.tape,h.output,by simpa[World.setCell] using h.size,fun i hi hne=>(Below.heap_setCell w ⟨b,o,none⟩ u i (by intro e;exact hne (by rw[e]))).trans (h.block i hi hne)⟩
theorem dp {w:World} {b:Nat} {C:Array Value} {t:TypeId} (h:w.heap[b]? =some (.cells C t (0,0))) {o:Nat} (ho:o<C.size):w.cell? ⟨b,o,none⟩=some C[o]:=by
 simp[World.cell?,h,ho]
theorem ei {w:World} {b:Nat} {C:Array Value} {t:TypeId} (h:w.heap[b]? =some (.cells C t (0,0))) (o:Nat):w.frozen? ⟨b,o,none⟩=false:=by
 simp[World.frozen?,h]
def fI (l:List Nat) (k:Nat):Nat:=l.getD k 0
theorem qL (l:List ByteArray) (k:Nat) (h:k<l.length):l.take (k+1)=l.take k++[aE l k]:=by
 rw[List.take_succ_eq_append_getElem h,qG h]
theorem Dl (l:List Nat) (k:Nat) (h:k<l.length):l.take (k+1)=l.take k++[fI l k]:=by
 rw[List.take_succ_eq_append_getElem h];simp[fI,List.getD,List.getElem?_eq_getElem h]
theorem jp {l:List ByteArray} {k:Nat} (h:k<l.length):aE l k∈l:=by rw[qG h];exact List.getElem_mem h
theorem Dm (l:List ByteArray) (k:Nat) (h:k<l.length):l=l.take k++(aE l k::l.drop (k+1)):=by
 rw[qG h,←List.drop_eq_getElem_cons h,List.take_append_drop]
theorem vG (v:Value) (l:List ByteArray) (offs:List Nat) (bu cu b:Nat) (t:TypeId) (cs:Array Value) (w:World) (hG:aT w) (B:Nat)
 (h:aL w B v l) (hB:B≤b) (hBw:B≤w.heap.size) (hsz: ∀s∈l,s.size≤1000000) (hlen:l.length=offs.length) (hn:l.length≤100000)
 (hu: ∀j,j<offs.length→w.cell? ⟨bu,j,none⟩=some (.pointer (some ⟨b,fI offs j,none⟩))) (hbu:bu≠b) (hbw:bu<w.heap.size) (hb8:8≤b)
 (hblk:w.heap[b]? =some (.cells cs t (0,0))) (hint: ∀j,j<offs.length→fI offs j<cs.size):
 Calls prog 77 #[v,.slice (some ⟨bu,0,none⟩) offs.length cu] w (vF w b t cs offs l):=by
 obtain⟨A,n,c,rfl,hl,hc,hm⟩:=h.form
 have hbw':b<w.heap.size:=by
  exact oA
 rw[←hlen,hl]
 have HLn:=aa hl;have HLo:=aa (hlen.symm.trans hl)
 have H:=aa h;have HG:=aa hG;have HSZ:=aa hsz;have HU:=aa hu;have HB:=aa hblk;have HI:=aa hint
 have hn':n≤100000:=by omega
 have HBU:=aa hbu
 clear hl hlen h hG hsz hu hblk hint hn hbu
 go_enter func77,ntmps77
 go_wp2_with fail
 go_loopw [16] (fun i wr=> ∃(k:Nat) (vs:List Int),k≤n∧i= .int .i64 k∧bi (l.take k)=some vs∧w.grownBy wr (some b)∧wr.heap[b]? =some (.cells (fw cs (offs.take k) vs) t (0,0))) (fun i _=>n - (intOf i).toNat)
 case atStart=>exact⟨0,[],aY _,rfl,rfl,mK _ _,HB.out⟩
 case round=>
  obtain⟨k,vs,hk,rfl,hvs,hg,hblk⟩:=hrel
  have HV:=aa hvs;have HGr:=aa hg;have HBk:=aa hblk
  clear hvs hg hblk
  by_cases hlt:k<n
  ·obtain⟨bl,ol,rfl,hbl,hcell⟩:=(H.out.grown HGr.out hB hBw).at_ k hlt
   have h1:=hcell k hlt
   have h2:wr.cell? ⟨bu,k,none⟩=some (.pointer (some ⟨b,fI offs k,none⟩)):=by
    exact vH
   clear hcell
   exact vI
  ·exact vJ
theorem Dn {s:ByteArray} {v:Int} (h:Lib.parseIntB 64 s.data.toList= .ok v):bg s=if bs (Lib.itoa v)=s then some v else none:=by
 have:Lib.atoiAll s.data.toList= .ok v:=by rw[←Lib.parseIntB_64];exact h
 simp[bg,this]
theorem Do {s:ByteArray} (h: ∀v,Lib.parseIntB 64 s.data.toList≠ .ok v):bg s=none:=by
 have: ∀v,Lib.atoiAll s.data.toList≠ .ok v:=fun v=>by rw[←Lib.parseIntB_64];exact h v
 unfold bg
 split
 ·rename_i v hv;exact absurd hv (this v)
 ·rfl
def Dp (w:World) (b:Nat) (t:TypeId) (cs:Array Value) (o:Nat) (s:ByteArray) (e:Ending) (w':World):Prop:=
 w.grownBy w' (some b)∧∃v:Int,w'.heap[b]? =some (.cells (cs.setIfInBounds o (.int .i64 v)) t (0,0))∧e= .returned (.bool (bg s).isSome)∧∀u,bg s=some u→v=u
theorem oB (s:ByteArray) (b o:Nat) (t:TypeId) (cs:Array Value) (w:World) (hG:aT w) (hs:s.size≤1000000) (hb8:8≤b)
 (hblk:w.heap[b]? =some (.cells cs t (0,0))) (ho:o<cs.size):
 Calls prog 107 #[.string s,.pointer (some ⟨b,o,none⟩)] w (Dp w b t cs o s):=by
 have hbw:b<w.heap.size:=by
  exact oA
 have HB:=aa hblk
 have HG:=aa hG
 clear hblk hG
 cases hp:Lib.parseIntB 64 s.data.toList with
 |ok v=>
  have hv64:aj v:=by have:=Lib.parseIntB_bounds hp;exact⟨by omega,by omega⟩
  have hat:=fun W=>CY s (by omega) v hp W
  have HAt:=aa hat
  have HP:=aa (Dn hp)
  clear hat hp
  have key: ∀r:Bool,((bs (Lib.itoa v)).toList==s.toList)=r→(bg s).isSome=r∧∀u,bg s=some u→v=u:=fun r hr=>by
   rw[HP.out]
   by_cases he:bs (Lib.itoa v)=s
   ·rw[if_pos he]
    refine⟨?_,fun u h=>by injection h⟩
    rw[←hr,he];simp
   ·rw[if_neg he]
    refine⟨?_,fun u h=>by cases h⟩
    rw[←hr];symm
    show _=false
    rw[beq_eq_false_iff_ne];intro h;exact he (by rw[←dZ s,←cD,←h,cD,bL])
  have KEY:=aa key
  clear key
  go_enter func107,ntmps107
  go_wp2_with(first
   |(go_at_call 201;refine(HAt.out _).mono ?_;rintro e w1 ⟨rfl,hb1⟩;have hbk1:=(hb1.block b hbw).trans HB.out;have hcl1:=dp hbk1 ho;have hfz1:=ei hbk1 o;have hg1:=gy (gx (mK w (some b)) hb1) o (.int .i64 v))
   |(go_at_call 109;refine(oo _ hv64 _ (HG.out.grown hg1 hb8)).mono ?_;rintro e w2 ⟨rfl,hb2⟩))
  go_ret
  exact⟨gx hg1 hb2,v,(hb2.block b (by simp[World.setCell];have:=hb1.size;omega)).trans (cU hbk1 _ _),(aV (KEY.out _ rfl).1.symm),(KEY.out _ rfl).2⟩
 |_=>
  have hno: ∀v,Lib.parseIntB 64 s.data.toList≠ .ok v:=by intro v h;rw[hp] at h;cases h
  have hat:=fun W=>CZ s (by omega) hno W
  have HAt:=aa hat
  have HP:=aa (Do hno)
  clear hat hp hno
  go_enter func107,ntmps107
  go_wp2_with(first
   |(go_at_call 201;refine(HAt.out _ HG.out).mono ?_;rintro e w1 ⟨v1,t1,p1,rfl,hb1⟩;have hbk1:=(hb1.block b hbw).trans HB.out;have hcl1:=dp hbk1 ho;have hfz1:=ei hbk1 o;have hg1:=gy (gx (mK w (some b)) hb1) o (.int .i64 v1)))
  go_ret
  exact⟨hg1,_,cU hbk1 _ _,by rw[HP.out];rfl,by rw[HP.out];intro u h;cases h⟩
theorem Dq (n:Nat) (hn:n≤1000000) (W:World):
 (Instr.makeSlice 30 (.int .i64 (n:Int)) (.int .i64 (n:Int))).run prog W= .ok (.slice (some ⟨W.heap.size,0,none⟩) n n) (W.alloc (.cells (Array.replicate n (.int .i64 0)) 3)):=by
 refine mL fun i0 hi hz0 hz1 hz2=> ?_
 have hb:(i0.bytes:Int)*(n:Int)≤281474976710656:=by rw[hz2];omega
 have hr:=run_make (P:=prog) W 30 3 i0 _ underlying30 hi hz0 .i64 .i64 n n (by omega) (by omega) hb (by omega)
 simp only[Int.toNat_natCast] at hr
 rw[hr,hz1]
 congr 3
 apply Array.ext<;>simp[madeCells,Value.cells,Nat.mod_one]
def jQ (w:World) (l:List ByteArray) (e:Ending) (w':World):Prop:=
 Below w.heap.size w w'∧match bi l with
  |some vs=> ∃b n c,e= .returned (.tuple #[.slice (some ⟨b,0,none⟩) n c,.bool true])∧aq w' w'.heap.size (.slice (some ⟨b,0,none⟩) n c) vs∧w.heap.size≤b
  |none=>e= .returned (.tuple #[.slice none 0 0,.bool false])
theorem mM: ∀{l:List ByteArray} {vs:List Int},bi l=some vs→∀x∈vs,aj x
 |[],vs,h=>by simp[bi] at h;subst h;simp
 |s::r,vs,h=>by
  rw[bi] at h
  split at h
  ·cases h
  ·rename_i v hv
   obtain⟨us,hu,rfl⟩:=Option.map_eq_some_iff.1 h
   intro x hx
   rcases List.mem_cons.1 hx with rfl|hx
   ·exact lw hv
   ·exact mM hu x hx
theorem aL.cut1 {w:World} {B:Nat} {b o n c:Nat} {l:List ByteArray} (h:aL w B (.slice (some ⟨b,o,none⟩) n c) l) (k:Nat) (hk:k<n):
 aL w B (.slice (some ⟨b,o+k,none⟩) 1 (c - k)) [aE l k]:=by
 obtain⟨A,n',c',he,hl,hnc,hm⟩:=h.form
 injection he with e1 e2 e3
 subst e1 e2 e3
 obtain⟨b',o',hA,hb,hcell⟩:=h.at_ k hk
 injection hA with hA
 injection hA with e1 e2
 subst e1 e2
 refine⟨_,c - k,rfl,by simp;omega,by simp[maxLen];omega,fun _=>⟨b,o+k,rfl,hb,fun j u hj=> ?_⟩⟩
 match j,hj with
 |0,hj=>exact(hcell k hk).trans (by simpa using hj)
theorem Dr (v:Value) (s:ByteArray) (o bu cu b:Nat) (t:TypeId) (cs:Array Value) (w:World) (hG:aT w) (B:Nat)
 (h:aL w B v [s]) (hB:B≤b) (hBw:B≤w.heap.size) (hsz:s.size≤1000000)
 (hu:w.cell? ⟨bu,0,none⟩=some (.pointer (some ⟨b,o,none⟩))) (hbu:bu≠b) (hbw:bu<w.heap.size) (hb8:8≤b)
 (hblk:w.heap[b]? =some (.cells cs t (0,0))) (hint:o<cs.size):
 Calls prog 77 #[v,.slice (some ⟨bu,0,none⟩) 1 cu] w fun e w'=>e= .returned (.bool (bg s).isSome)∧w.grownBy w' (some b)∧∃cs',w'.heap[b]? =some (.cells cs' t (0,0))∧cs'.size=cs.size∧∀u,bg s=some u→cs'=cs.setIfInBounds o (.int .i64 u):=by
 refine(vG v [s] [o] bu cu b t cs w hG B h hB hBw (by simpa using hsz) rfl (by simp) (fun j hj=> ?_) hbu hbw hb8 hblk (fun j hj=> ?_)).mono fun e w' ⟨hg,hp⟩=> ?_
 ·have:j=0:=by simpa using hj
  subst this;exact hu
 ·have:j=0:=by simpa using hj
  subst this;exact hint
 ·exact vK
theorem Ds {vs:List Int} {u:Int} {j:Nat} (h:j<vs.length):bd (vs++[u]) j=bd vs j:=by simp[bd,List.getElem?_append_left h]
theorem Dt {vs:List Int} {u:Int}:bd (vs++[u]) vs.length=u:=by simp[bd]
theorem vL {a w w':World} {B:Nat} (h:Below B a w) (hg:w.grownBy w' (some B)) (hB:B≤w.heap.size):Below B a w':=
 h.grown hg hB (fun k hk=>by injection hk with hk;omega)
theorem ly (v:Value) (l:List ByteArray) (w:World) (hG:aT w) (h:aL w w.heap.size v l) (hsz: ∀s∈l,s.size≤1000000) (hn:l.length≤100000):
 Calls prog 78 #[v] w (jQ w l):=by
 obtain⟨A,n,c,rfl,hl,hc,hm⟩:=h.form
 have HLn:=aa hl
 have H:=aa h;have HG:=aa hG;have HSZ:=aa hsz
 have hn':n≤100000:=by omega
 have hmk:=Dq n (by omega)
 clear hl h hG hsz hn
 go_enter func78,ntmps78
 go_wp2_with fail
 clear hmk
 go_loopw [11] (fun i wr=> ∃(k:Nat) (vs:List Int) (C:Array Value),k≤n∧i= .int .i64 k∧bi (l.take k)=some vs∧Below w.heap.size w wr∧wr.heap[w.heap.size]? =some (.cells C 3 (0,0))∧C.size=n∧∀j,j<k→C[j]? =some (.int .i64 (bd vs j))) (fun i _=>n - (intOf i).toNat)
 case atStart=>exact⟨0,[],_,aY _,rfl,rfl,ac (B0 w) _,by rw[heap_alloc_new],by simp,by omega⟩
 case round=>
  obtain⟨k,vs,C,hk,rfl,hvs,hb,hblk,hC,hcs⟩:=hrel
  have HV:=aa hvs;have HBk:=aa hblk;have HC:=aa hC;have HCs:=aa hcs
  clear hvs hblk hC hcs
  by_cases hlt:k<n
  ·obtain⟨bl,ol,rfl,hbl,hcell⟩:=(H.out.below hb (ae _)).at_ k hlt
   have hcut:=(H.out.below hb (ae _)).cut1 k hlt
   have HCu:=aa hcut
   clear hcell hcut
   have i1:(0:Int)≤(k:Int):=by omega
   have i2:(k:Int)<(n:Int):=by omega
   refine oC fun i3=> ?_
   have i4:((k:Int)+1).toNat=k+1:=by omega
   have i5:(0:Int)≤(k:Int)+1:=by omega
   have i6:(k:Int)+1≤(c:Int):=by omega
   have i7:k+1≤c:=by omega
   have hck: ¬c=k:=by omega
   have hbB:=hb
   have hbw:w.heap.size<wr.heap.size:=by
    exact vM
   have HB0:=au (ac hb (.cells #[.pointer (some ⟨w.heap.size,k,none⟩)] 145))
   have call:=Dr (.slice (some ⟨bl,ol+k,none⟩) 1 (c - k)) (aE l k) k wr.heap.size 1 w.heap.size 3 C (wr.alloc (.cells #[.pointer (some ⟨w.heap.size,k,none⟩)] 145)).drew
    (HG.out.step HB0) w.heap.size (Sl.belowM HCu.out (au (ac (B0 wr) _)) (by omega)) (ae _) (by simp;omega) (HSZ.out _ (jp (by rw[HLn.out];exact hlt)))
    (by go_simp) (by omega) (by simp) HG.out.size ((Below.heap_alloc wr _ _ hbw).trans HBk.out) (by rw[HC.out];exact hlt)
   have HCall:=aa call
   have stop:bg (aE l k)=none→bi l=none:=fun h=>by
    exact vN
   have STOP:=aa stop
   clear call stop hbB
   cases hp:bg (aE l k) with
   |some u=>
    have HP:=aa hp
    rw[hp] at HCall
    clear hp
    go_wp2_with fail
    go_region_with (go_at_call 77;refine HCall.out.mono ?_;rintro e w1 ⟨rfl,hg1,C1,hbk1,hC1,hset⟩)
    all_goals go_wp2_with fail
    all_goals
     have hvl:vs.length=k:=by rw[jP HV.out,List.length_take,HLn.out];omega
     have hset':=hset u rfl
     have hstep:bi (l.take (k+1))=some (vs++[u]):=by
      rw[qL l k (by rw[HLn.out];exact hlt),oz,HV.out,HP.out];rfl
     exact⟨⟨k+1,vs++[u],C1,by omega,by go_num,hstep,vL HB0 hg1 HB0.size,hbk1,by rw[hC1,HC.out],fun j hj=>by
      rw[hset']
      by_cases e:j=k
      ·subst e
       rw[Array.getElem?_setIfInBounds_self_of_lt (by rw[HC.out];exact hlt),←hvl,Dt]
      ·rw[Array.getElem?_setIfInBounds_ne (by omega),HCs.out j (by omega),Ds (by omega)]⟩,by simp[intOf];omega⟩
   |none=>
    have HP:=aa hp
    rw[hp] at HCall
    clear hp
    go_wp2_with fail
    go_region_with (go_at_call 77;refine HCall.out.mono ?_;rintro e w1 ⟨rfl,hg1,C1,hbk1,hC1,hset⟩)
    all_goals go_wp2_with fail
    all_goals go_ret2
    all_goals
     refine⟨vL HB0 hg1 HB0.size,?_⟩
     rw[STOP.out HP.out]
     rfl
  ·go_wp2_with fail
   go_ret2
   have hkn:k=n:=by omega
   have hl:bi l=some vs:=by have:=HV.out;rwa [List.take_of_length_le (by rw[HLn.out];omega)] at this
   refine⟨hb,?_⟩
   rw[hl]
   have hvl:vs.length=n:=by rw[jP hl,HLn.out]
   refine⟨w.heap.size,n,n,rfl,⟨⟨_,n,by rw[List.length_map,hvl],by rw[List.length_map,hvl];exact ae _,by simp[maxLen];omega,fun hne=>⟨w.heap.size,0,rfl,?_,fun j u hj=> ?_⟩⟩,mM hl⟩,ae _⟩
   ·exact vM
   ·have hj':j<vs.length:=by
     rcases Nat.lt_or_ge j vs.length with h|h
     ·exact h
     ·rw[List.getElem?_eq_none (by simpa using h)] at hj;cases hj
    have:=HCs.out j (by omega)
    simp only[World.cell?,HBk.out,Nat.zero_add]
    simp only[Option.isSome_none,Bool.false_eq_true,if_false]
    rw[this,←hj,List.getElem?_map,List.getElem?_eq_getElem hj',mD hj'];rfl
end
section
open Go Go.RowKit Go.MapKept Go.ChangeMaps Tryz
def bj:Nat→List (Value×Value)→List MapEntry
 |_,[]=>[]
 |i,p::r=>⟨p.1,p.2,i⟩::bj (i+1) r
theorem vO (p:Value×Value): ∀(l:List (Value×Value)) (i:Nat),bj i (l++[p])=bj i l++[⟨p.1,p.2,i+l.length⟩]
 |[],i=>by simp[bj]
 |a::l,i=>by simp[bj,vO p l (i+1)];omega
theorem jR {x:MapEntry}: ∀{l:List (Value×Value)} {i:Nat},x∈bj i l→∃j,l[j]? =some (x.key,x.val)∧x.born=i+j
 |[],_,h=>by simp[bj] at h
 |a::l,i,h=>by
  simp only[bj,List.mem_cons] at h
  rcases h with rfl|h
  ·exact⟨0,by simp⟩
  ·obtain⟨j,h1,h2⟩:=jR h
   exact⟨j+1,by simpa using h1,by omega⟩
theorem oD: ∀(l:List (Value×Value)) (i j:Nat) (p:Value×Value),l[j]? =some p→⟨p.1,p.2,i+j⟩∈bj i l
 |[],_,_,_,h=>by simp at h
 |a::l,i,0,p,h=>by simp at h;subst h;simp[bj]
 |a::l,i,j+1,p,h=>by
  have:=oD l (i+1) j p (by simpa using h)
  simp only[bj,List.mem_cons]
  right
  have e:i+1+j=i+(j+1):=by omega
  rwa [e] at this
theorem oE: ∀(l:List (Value×Value)) (i j:Nat),(bj i l)[j]? =(l[j]?).map fun p=>⟨p.1,p.2,i+j⟩
 |[],_,_=>by simp[bj]
 |a::l,i,0=>by simp[bj]
 |a::l,i,j+1=>by
  simp only[bj,List.getElem?_cons_succ,oE l (i+1) j]
  have e:i+1+j=i+(j+1):=by omega
  rw[e]
theorem vP: ∀(l:List (Value×Value)) (i:Nat),((bj i l).map (·.born)).Nodup
 |[],_=>by simp[bj]
 |a::l,i=>by
  simp only[bj,List.map_cons,List.nodup_cons]
  refine⟨fun h=> ?_,vP l (i+1)⟩
  obtain⟨x,hx,e⟩:=List.mem_map.1 h
  obtain⟨j,_,hj⟩:=jR hx
  omega
def bG (w:World) (b:Nat) (l:List (Value×Value)):Prop:=w.heap[b]? =some (.map (bj 0 l).toArray l.length)
theorem bG.lt {w:World} {b:Nat} {l:List (Value×Value)} (h:bG w b l):b<w.heap.size:=(Array.getElem?_eq_some_iff.1 h).1
theorem bG.below {B b:Nat} {w w':World} {l:List (Value×Value)} (h:bG w b l) (hb:Below B w w') (hB:b<B):bG w' b l:=(hb.block b hB).trans h
theorem bG.later {b:Nat} {w w':World} {l:List (Value×Value)} (h:bG w b l) (hb:Below w.heap.size w w'):bG w' b l:=h.below hb h.lt
theorem bG.made (w:World):bG (w.alloc (.map #[] 0)) w.heap.size []:=(heap_alloc w _).1
theorem Du {B b:Nat} {w0 w:World} (h:Below B w0 w) (hB:B≤b) {o:Obj}:Below B w0 (setBlock w b o):=
 ⟨h.os,h.tape,h.output,by simpa[setBlock] using h.size,fun i hi=>by
  show(w.heap.setIfInBounds b o)[i]? =_
  rw[Array.getElem?_setIfInBounds_ne (by omega)]
  exact h.block i hi⟩
def cM (w w':World) (b:Nat):Prop:=(∀B w0,Below B w0 w→B≤b→Below B w0 w')∧w'.heap.size=w.heap.size∧∀i,i≠b→w'.heap[i]? =w.heap[i]?
theorem lz (w:World) (b:Nat) (o:Obj):cM w (setBlock w b o) b:=
 ⟨fun _ _ h hB=>Du h hB,by simp[setBlock],fun i hi=>by
  show(w.heap.setIfInBounds b o)[i]? =_
  rw[Array.getElem?_setIfInBounds_ne (by omega)]⟩
theorem cM.cell {w w':World} {b:Nat} (h:cM w w' b) {a:Addr} (ha:a.block≠b):w'.cell? a=w.cell? a:=by unfold World.cell?;rw[h.2.2 _ ha]
section
variable {P:Program} (w:World) {ops:Array Oper} {rest:List Oper} {o:Oper} {a:Act} {Q:Exit→Act→World→Prop}
theorem vQ {P:Program} {w:World} {t k e:TypeId} {d:TypeDesc} {b:Nat} {l:List (Value×Value)} (ht:P.underlying t=some (.map k e)) (hk:P.underlying k=some d) (hb:bG w b l)
 {key:Value} (val:Value) (hkey:IsKey d key) (hkeys: ∀p∈l,IsKey d p.1∧p.1≠key):
 (Instr.mapUpdate t (.map (some b)) key val).run P w= .ok () (setBlock w b (.map (bj 0 (l++[(key,val)])).toArray (l++[(key,val)]).length)):=by
 have hk': ∀x∈bj 0 l,IsKey d x.key∧x.key≠key:=fun x hx=>by
  obtain⟨j,hj,_⟩:=jR hx
  exact hkeys _ (co hj)
 rcases findNow_spec hkey (bj 0 l) 0 (fun x hx=>(hk' x hx).1) with ⟨h1,_⟩|⟨j,x,_,h2,h3⟩
 ·have hb':w.heap[b]? =some (.map (bj 0 l).toArray l.length):=hb
  have h1':Instr.findNow d key (bj 0 l).toArray.toList 0=some none:=h1
  simp only[Instr.mapUpdate,run_underlying ht,MapKept.run_getObj_map hb',MapKept.run_checkKey hk hkey,MapKept.run_findKey hk h1',MapKept.run_setObj_map _ hb',Result.andThen,Sem.run_bind,setBlock,vO,List.length_append,List.length_singleton,Nat.zero_add]
  simp
 ·exact absurd h3 (hk' x (co h2)).2
theorem gS (hg:o.guard=none) (m x v:Operand) (t:TypeId) (hop:o.op=Op.mapUpdate t m x v∨o.op=Op.insert t m x v)
 (k e:TypeId) (d:TypeDesc) (ht:P.underlying t=some (.map k e)) (hk:P.underlying k=some d) (b:Nat) (l:List (Value×Value)) (hm:a.eval m= .map (some b)) (hb:bG w b l)
 (key val:Value) (hx:a.eval x=key) (hv:a.eval v=val) (hkey:IsKey d key) (hkeys: ∀p∈l,IsKey d p.1∧p.1≠key)
 (hK: ∀w',bG w' b (l++[(key,val)])→cM w w' b→wpList P ops Q rest (a.put o.dst undef) w'):
 wpList P ops Q (o::rest) a w:=by
 refine wpList_plain hg fun K' hK'=> ?_
 have hrun:=vQ ht hk hb val hkey hkeys
 have h2:bG (setBlock w b (.map (bj 0 (l++[(key,val)])).toArray (l++[(key,val)]).length)) b (l++[(key,val)]):=heap_setBlock_same hb _
 unfold Oper.wp
 have h3:=hK _ h2 (lz _ _ _)
 have h4:=hK' _ _ h3
 clear h2 h3 hK hK'
 generalize setBlock w b (.map (bj 0 (l++[(key,val)])).toArray (l++[(key,val)]).length)=W at hrun h4
 exact qM
theorem mN {P:Program} {w:World} {t k e:TypeId} {d:TypeDesc} {b:Nat} {l:List (Value×Value)} (ht:P.underlying t=some (.map k e)) (hk:P.underlying k=some d) (hb:bG w b l)
 {key v:Value} (c:Bool) (hkey:IsKey d key) (hkeys: ∀p∈l,IsKey d p.1) (hone: ∀p∈l,p.1=key→p.2=v) (hin: ∃p∈l,p.1=key):
 (Instr.lookup t (.map (some b)) key c).run P w= .ok (if c then .tuple #[v,.bool true] else v) w:=by
 have hk': ∀x∈bj 0 l,IsKey d x.key∧(x.key=key→x.val=v):=fun x hx=>by
  obtain⟨j,hj,_⟩:=jR hx
  exact⟨hkeys _ (co hj),hone _ (co hj)⟩
 have hb':w.heap[b]? =some (.map (bj 0 l).toArray l.length):=hb
 rcases findNow_spec hkey (bj 0 l) 0 (fun x hx=>(hk' x hx).1) with ⟨_,h1⟩|⟨j,x,h1,h2,h3⟩
 ·obtain⟨p,hp,he⟩:=hin
  obtain⟨j,hj⟩:=List.mem_iff_getElem?.1 hp
  exact absurd he (h1 _ (oD l 0 j p hj))
 ·have h1':Instr.findNow d key (bj 0 l).toArray.toList 0=some (some (0+j,x.val)):=h1
  rw[(hk' x (co h2)).2 h3] at h1'
  simp only[Instr.lookup,run_underlying ht,MapKept.run_getObj_map hb',MapKept.run_checkKey hk hkey,MapKept.run_findKey hk h1',Result.andThen,Sem.run_bind]
  rw[(hk' x (co h2)).2 h3] at h1
  cases c<;>simp[MapKept.run_findKey hk h1]
theorem mO {P:Program} {w:World} {t k e:TypeId} {d:TypeDesc} {b:Nat} {l:List (Value×Value)} (ht:P.underlying t=some (.map k e)) (hk:P.underlying k=some d) (hb:bG w b l)
 {key z:Value} (c:Bool) (hkey:IsKey d key) (hkeys: ∀p∈l,IsKey d p.1∧p.1≠key) (hz:(zeroValue e).run P w= .ok z w):
 (Instr.lookup t (.map (some b)) key c).run P w= .ok (if c then .tuple #[z,.bool false] else z) w:=by
 have hk': ∀x∈bj 0 l,IsKey d x.key∧x.key≠key:=fun x hx=>by
  obtain⟨j,hj,_⟩:=jR hx
  exact hkeys _ (co hj)
 have hb':w.heap[b]? =some (.map (bj 0 l).toArray l.length):=hb
 rcases findNow_spec hkey (bj 0 l) 0 (fun x hx=>(hk' x hx).1) with ⟨h1,_⟩|⟨j,x,_,h2,h3⟩
 ·have h1':Instr.findNow d key (bj 0 l).toArray.toList 0=some none:=h1
  simp only[Instr.lookup,run_underlying ht,MapKept.run_getObj_map hb',MapKept.run_checkKey hk hkey,MapKept.run_findKey hk h1',Result.andThen,Sem.run_bind,hz]
  cases c<;>simp[MapKept.run_findKey hk h1,hz]
 ·exact absurd h3 (hk' x (co h2)).2
theorem vR (hg:o.guard=none) (m x:Operand) (t:TypeId) (c:Bool) (hop:o.op=Op.lookup t m x c)
 (k e:TypeId) (d:TypeDesc) (ht:P.underlying t=some (.map k e)) (hk:P.underlying k=some d) (b:Nat) (l:List (Value×Value)) (hm:a.eval m= .map (some b)) (hb:bG w b l)
 (key v:Value) (hx:a.eval x=key) (hkey:IsKey d key) (hkeys: ∀p∈l,IsKey d p.1) (hone: ∀p∈l,p.1=key→p.2=v) (hin: ∃p∈l,p.1=key)
 (hK:wpList P ops Q rest (a.put o.dst (if c then .tuple #[v,.bool true] else v)) w):
 wpList P ops Q (o::rest) a w:=by
 refine wpList_plain hg fun K' hK'=> ?_
 have hrun:=mN ht hk hb c hkey hkeys hone hin
 exact qN
theorem Dv (hg:o.guard=none) (m x:Operand) (t:TypeId) (c:Bool) (hop:o.op=Op.lookup t m x c)
 (k e:TypeId) (d:TypeDesc) (ht:P.underlying t=some (.map k e)) (hk:P.underlying k=some d) (b:Nat) (l:List (Value×Value)) (hm:a.eval m= .map (some b)) (hb:bG w b l)
 (key z:Value) (hx:a.eval x=key) (hkey:IsKey d key) (hkeys: ∀p∈l,IsKey d p.1∧p.1≠key) (hz:(zeroValue e).run P w= .ok z w)
 (hK:wpList P ops Q rest (a.put o.dst (if c then .tuple #[z,.bool false] else z)) w):
 wpList P ops Q (o::rest) a w:=by
 refine wpList_plain hg fun K' hK'=> ?_
 have hrun:=mO ht hk hb c hkey hkeys hz
 exact qN
def gU (w:World) (b r:Nat) (l:List (Value×Value)) (seen:Array Nat):Prop:=
 ∃c0,bG w b l∧w.heap[r]? =some (.mapIter (some b) l.length seen c0)∧l.length≤c0
theorem gU.below {B b r:Nat} {w w':World} {l:List (Value×Value)} {seen:Array Nat} (h:gU w b r l seen) (hb:Below B w w') (h1:b<B) (h2:r<B):gU w' b r l seen:=by
 obtain⟨c0,hm,hr,hc⟩:=h
 exact⟨c0,hm.below hb h1,(hb.block r h2).trans hr,hc⟩
theorem gU.lt {w:World} {b r:Nat} {l:List (Value×Value)} {seen:Array Nat} (h:gU w b r l seen):b<w.heap.size∧r<w.heap.size:=by
 obtain⟨c0,hm,hr,_⟩:=h
 exact⟨hm.lt,(Array.getElem?_eq_some_iff.1 hr).1⟩
theorem gU.left {w:World} {b r:Nat} {l:List (Value×Value)} {seen:Array Nat} (h:gU w b r l seen):w.rangeLeft b r=(leftOf (bj 0 l).toArray seen).size:=by
 obtain⟨c0,hm,hr,_⟩:=h
 have hm':w.heap[b]? =some (.map (bj 0 l).toArray l.length):=hm
 simp only[World.rangeLeft,hm',hr]
theorem Dw (hg:o.guard=none) (m:Operand) (t:TypeId) (hop:o.op=Op.range t m) (k e:TypeId) (ht:P.underlying t=some (.map k e)) (b:Nat) (l:List (Value×Value))
 (hm:a.eval m= .map (some b)) (hb:bG w b l)
 (hK: ∀w',gU w' b w.heap.size l #[]→Below w.heap.size w w'→w'.heap.size=w.heap.size+1→wpList P ops Q rest (a.put o.dst (.pointer (some ⟨w.heap.size,0,none⟩))) w'):
 wpList P ops Q (o::rest) a w:=by
 refine wpList_plain hg fun K' hK'=> ?_
 have hrun:=run_range_map w t k e b _ _ ht hb
 unfold Oper.wp
 simp[execOp,hop,hm,hrun,Result.andThen]
 refine hK' _ _ (hK _ ⟨l.length,hb.later (ac (B0 w) _),(heap_alloc w _).1,ae _⟩ (ac (B0 w) _) (by simp))
theorem Dx (hg:o.guard=none) (it:Operand) (hop:o.op=Op.next it false) (b r:Nat) (l:List (Value×Value)) (seen:Array Nat)
 (hit:a.eval it= .pointer (some ⟨r,0,none⟩)) (h:gU w b r l seen)
 (hDone:(∀i,i<l.length→seen.contains i=true)→wpList P ops Q rest (a.put o.dst (.tuple #[.bool false])) w)
 (hMore: ∀(i:Nat) (k v:Value) (w':World),l[i]? =some (k,v)→seen.contains i=false→gU w' b r l (seen.push i)→w'.rangeLeft b r<w.rangeLeft b r→cM w w' r→
   (Instr.entry (.pointer (some ⟨r,0,none⟩))).run P w'= .ok (.tuple #[k,v]) w'→wpList P ops Q rest (a.put o.dst (.tuple #[.bool true,k,v])) w'):
 wpList P ops Q (o::rest) a w:=by
 refine wpList_plain hg fun K' hK'=> ?_
 have hleft:=h.left
 have h':=h
 obtain⟨c0,hm,hr,hc⟩:=h
 have hold: ∀x∈(bj 0 l).toArray.toList,x.born<l.length:=fun x hx=>by
  obtain⟨j,hj,e⟩:=jR hx
  have:=(List.getElem?_eq_some_iff.1 hj).1
  omega
 have hne:b≠r:=by
  intro e
  subst e
  have hm':w.heap[b]? =some (.map (bj 0 l).toArray l.length):=hm
  rw[hm'] at hr
  cases hr
 unfold Oper.wp
 rcases run_next_at (P:=P) w o.type r b l.length c0 seen _ _ hr hm hold hc with ⟨h0,hrun⟩|⟨x,hx,w1,hal,hrun⟩
 ·simp[execOp,hop,hit,hrun,Result.andThen]
  refine hK' _ _ (hDone fun i hi=> ?_)
  have:=all_seen _ seen h0 _ (oD l 0 i l[i] (List.getElem?_eq_getElem hi))
  simpa using this
 ·obtain⟨hxm,hxs⟩:=mem_left hx
  obtain⟨j,hj,hb⟩:=jR hxm
  rw[Nat.zero_add] at hb
  have hsh:=left_shrinks _ seen x hx
  have hm1:w1.heap[b]? =some (.map (bj 0 l).toArray l.length):=by rcases hal with rfl|rfl<;>exact hm
  have hr1:w1.heap[r]? =some (.mapIter (some b) l.length seen c0):=by rcases hal with rfl|rfl<;>exact hr
  have hset:=heap_set (o':= .mapIter (some b) l.length (seen.push x.born) l.length) hr1
  have hb2:(setBlock w1 r (.mapIter (some b) l.length (seen.push x.born) l.length)).heap[b]? =some (.map (bj 0 l).toArray l.length):=(hset.2 b hne).trans hm1
  have hI:gU (setBlock w1 r (.mapIter (some b) l.length (seen.push x.born) l.length)) b r l (seen.push x.born):=⟨l.length,hb2,hset.1,ae _⟩
  have hlt:(setBlock w1 r (.mapIter (some b) l.length (seen.push x.born) l.length)).rangeLeft b r<w.rangeLeft b r:=by rw[hI.left,hleft];exact hsh
  have hT1:=lz w1 r (.mapIter (some b) l.length (seen.push x.born) l.length)
  have hT:cM w (setBlock w1 r (.mapIter (some b) l.length (seen.push x.born) l.length)) r:=by
   rcases hal with rfl|rfl
   ·exact hT1
   ·exact⟨fun B w0 hB hle=>hT1.1 B w0 ⟨hB.os,hB.tape,hB.output,hB.size,hB.block⟩ hle,hT1.2.1,hT1.2.2⟩
  have hen:=run_entry_at (P:=P) (setBlock w1 r (.mapIter (some b) l.length (seen.push x.born) l.length)) r b l.length seen _ _ x hset.1 hb2 hxm (vP l 0)
  simp[execOp,hop,hit,hrun,Result.andThen]
  rw[hb] at hxs hI hlt hT hen⊢
  exact hK' _ _ (hMore j x.key x.val _ hj hxs hI hlt hT hen)
end
def jq (r:Nat):Bool:=decide (r<33)||decide (126<r)
theorem Dy {s:ByteArray} {i:Nat} (h:iI (s.get! i)=true):Utf8.decode s i=((s.get! i).toNat,1):=by
 have:=(qH _).1 h
 unfold Utf8.decode
 simp only[Nat.add_zero]
 rw[if_pos (by omega)]
theorem Dz {s:ByteArray} {i:Nat} (h:iI (s.get! i)=false):jq (Utf8.decode s i).1=true:=by
 have h': ¬(33≤(s.get! i).toNat∧(s.get! i).toNat≤126):=by rw[←qH,h];simp
 unfold Utf8.decode jq
 simp only[Nat.add_zero,Utf8.runeError]
 split
 ·simp;omega
 ·exact vS
theorem vT (s:ByteArray): ∀(f pos:Nat),s.size≤pos+f→(0≤Lib.idxFuncFrom jq true s f pos↔∃k,pos≤k∧k<s.size∧iI (s.get! k)=false)
 |0,pos,h=>by
  simp only[Lib.idxFuncFrom]
  exact oF
 |f+1,pos,h=>by
  simp only[Lib.idxFuncFrom]
  by_cases hp:pos<s.size
  ·rw[if_pos hp]
   cases ho:iI (s.get! pos) with
   |true=>
    have hd:=Dy ho
    have hn:jq (s.get! pos).toNat=false:=by have:=(qH _).1 ho;simp[jq];omega
    rw[hd]
    simp only[hn,Bool.false_eq_true,if_false]
    rw[vT s f (pos+1) (by omega)]
    exact vU
   |false=>
    rw[if_pos (Dz ho)]
    exact⟨fun _=>⟨pos,ae _,hp,ho⟩,fun _=>by omega⟩
  ·rw[if_neg hp]
   exact oF
theorem qO (s:ByteArray) (k:Nat) (h:k<s.size):s.get! k=s[k]:=by
 rw[ByteArray.getElem_eq_getElem_data]
 exact getElem!_pos s.data k h
theorem DA (s:ByteArray):decide (0≤Lib.idxFunc jq true s)= !iJ s:=by
 have h:=vT s s.size 0 (by omega)
 cases hk:iJ s with
 |true=>
  simp only[Bool.not_true,decide_eq_false_iff_not]
  rw[Lib.idxFunc,h]
  rintro ⟨k,_,h2,h3⟩
  rw[qO s k h2] at h3
  rw[Da h2 (by simp[h3])] at hk;cases hk
 |false=>
  simp only[Bool.not_false,decide_eq_true_eq]
  rw[Lib.idxFunc,h]
  apply Classical.byContradiction
  intro hn
  rw[C9 (fun k hk=>by
   cases ho:iI s[k] with
   |true=>rfl
   |false=>exact absurd ⟨k,aY _,hk,by rw[qO s k hk];exact ho⟩ hn)] at hk
  cases hk
theorem DB (w:World):PredAt prog 199 #[] Go.Proofs.encR jq w:=by
 intro W r _
 show Calls _ _ _ _ _
 go_enter func199,ntmps199
 go_wp2
 ·go_ret
  refine⟨?_,0,rfl⟩
  have e1:decide ((r:Int)<33)=decide (r<33):=decide_eq_decide.2 (by omega)
  have e2:decide ((126:Int)<r)=decide (126<r):=decide_eq_decide.2 (by omega)
  show Ending.returned (.bool (decide ((r:Int)<33)||decide ((126:Int)<r)))=_
  rw[e1,e2];rfl
 ·go_ret
  refine⟨?_,0,rfl⟩
  show Ending.returned (.bool true)=_
  simp only[jq,Ending.returned.injEq,Value.bool.injEq]
  simp;omega
theorem vV {s:ByteArray}:s.toList=[]↔s.size=0:=by
 rw[cD]
 have e:s.size=s.data.toList.length:=by rw[Array.length_toList];rfl
 rw[e]
 exact List.length_eq_zero_iff.symm
theorem DC (x:ap) (w:World):
 am 99 #[.agg (mG x)] w (.bool (jn x)):=by
 have CF:=fun W=>strings_ContainsFunc 199 #[] (enters_of func199 (by kernel_rfl) rfl) jq x.key W (DB W)
 simp only[DA] at CF
 have HCF:=aa CF
 clear CF
 rw[mG]
 go_enter func99,ntmps99
 go_wp2_with(go_at_call 200;refine(HCF.out _).mono ?_;rintro e w1 ⟨rfl,hb1⟩;have hB1:=ag (ac (B0 w) _) hb1;have hz1:w.heap.size<w1.heap.size:=dJ hb1 (by simp);obtain⟨hc1,hf1⟩:=ck hb1)
 all_goals
  go_ret
  refine⟨aV ?_,by first|exact hB1|exact ac (B0 w) _⟩
  clear HCF
  rw[Bool.eq_iff_iff]
  simp_all only[jn,vV,List.isEmpty_iff,Bool.and_eq_true,Bool.or_eq_true,decide_eq_true_eq,beq_iff_eq,Bool.not_eq_true',bne_iff_ne,beq_eq_false_iff_ne,not_or,Bool.false_eq_true,false_iff,ne_eq,true_iff,not_true,not_false_iff,Bool.not_eq_false,Bool.not_eq_true]
  try clear hb1
  try clear hc1
  try clear hf1
  try clear hB1
  try clear hz1
  try(cases hk:iJ x.key<;>simp only[hk,false_and,or_self,List.isEmpty_eq_false_iff,vV,ne_eq,Bool.not_eq_false',Bool.not_true,Bool.not_false,Bool.false_eq_true,and_false,not_false_iff,and_true,or_true,or_false,Bool.true_eq_false,reduceCtorEq,false_or,true_and,not_true_eq_false,not_false_eq_true] at* <;>omega)
def gV (x:ap):List ByteArray:=
 if x.ok=0 then[bs [103,101,116],x.key] else if x.ok=1 then[bs [112,117,116],x.key,bs (Lib.itoa x.val)] else
 if x.ok=2 then[bs [99,97,115],x.key,bs (Lib.itoa x.old),bs (Lib.itoa x.val)] else[bs [97,100,100],x.key,bs (Lib.itoa x.val)]
theorem jr {k:Int}:IsKey (.int .i64) (.int .i64 k):=rfl
def ip (W:World) (k:Nat) (l:List ByteArray):Prop:=k<W.heap.size∧∀j u,(l.map Value.string)[j]? =some u→W.cell? ⟨k,j,none⟩=some u
theorem jS {W W':World} {b k j:Nat} {o:Obj} (hT:cM (W.alloc o) W' b) (hk:k<W.heap.size) (hne:k≠b):W'.cell? ⟨k,j,none⟩=W.cell? ⟨k,j,none⟩:=
 (hT.cell (by simpa using hne)).trans ((ac (B0 W) o).cell (p:=⟨k,j,none⟩) hk)
theorem js {W W':World} {b k:Nat} {o:Obj} (hT:cM (W.alloc o) W' b) (h:k<W.heap.size):k<W'.heap.size:=by
 rw[hT.2.1];simp;omega
theorem ip.put {W W':World} {b k:Nat} {o:Obj} {l:List ByteArray} (h:ip W k l) (hT:cM (W.alloc o) W' b) (hne:k≠b):ip W' k l:=
 ⟨js hT h.1,fun j u hu=>(jS hT h.1 hne).trans (h.2 j u hu)⟩
theorem ip.new_ {W W':World} {b t:Nat} {C:Array Value} {l:List ByteArray} (hT:cM (W.alloc (.cells C t)) W' b) (hb:b<W.heap.size) (hC:C=(l.map Value.string).toArray):ip W' W.heap.size l:=
 ⟨by rw[hT.2.1];simp,fun j u hu=>by
  rw[hT.cell (by simp;omega),hC]
  simp only[World.cell?,heap_alloc_new]
  simpa using hu⟩
theorem ip.slS {W:World} {k n:Nat} {l:List ByteArray} (h:ip W k l) (hn:n=l.length) (hl:l.length≤100):aL W W.heap.size (.slice (some ⟨k,0,none⟩) n n) l:=by
 subst hn
 exact⟨_,l.length,by simp,by simp,by simp[maxLen];omega,fun _=>⟨k,0,rfl,h.1,fun j u hu=>by rw[Nat.zero_add];exact h.2 j u hu⟩⟩
theorem DD (x:ap) (w:World) (hG:aT w) (h0:0≤x.ok) (h3:x.ok≤3) (hv:aj x.val) (ho:aj x.old):
 Calls prog 103 #[.agg (mG x)] w fun e w'=> ∃u,e= .returned u∧aL w' w'.heap.size u (gV x)∧Below w.heap.size w w':=by
 have H0:=aa h0;have H3:=aa h3
 have HF1:=aa (fun W (hg:aT W)=>oo x.val hv W hg)
 have HF2:=aa (fun W (hg:aT W)=>oo x.old ho W hg)
 have HG:=aa hG
 refine fU fun hmm=> ?_
 clear h0 h3 hG hv ho
 rw[mG]
 go_enter func103,ntmps103
 go_wp2_with fail
 go_region_held3 (fun w'=>w'.cell? ⟨w.heap.size,2,none⟩=some (.int .i64 x.val)∧w'.cell? ⟨w.heap.size,3,none⟩=some (.int .i64 x.old)) (go_simp)
  (first
    |(go_at_call_of 109 (Value.int IntKind.i64 x.val);refine(HF1.out _ (HG.out.step (au (ac (B0 w) _)))).mono ?_;rintro e w1 ⟨rfl,hb1⟩;have hB1:=ag (au (ac (B0 w) _)) hb1;have hz1:w.heap.size<w1.heap.size:=dJ hb1 (by simp);obtain⟨hc1,hf1⟩:=lv hb1)
    |(go_at_call_of 109 (Value.int IntKind.i64 x.old);refine(HF2.out _ (HG.out.step hB1)).mono ?_;rintro e w2 ⟨rfl,hb2⟩;have hB2:=ag hB1 hb2;have hz2:w.heap.size<w2.heap.size:=dJ hb2 hz1;obtain⟨hc2,hf2⟩:=ck hb2))
 have hL0:=bG.made w2
 have hne: ¬w.heap.size=w2.heap.size:=by omega
 have hz2a:w.heap.size<w2.heap.size+1:=by omega
 have hz2b:w.heap.size<w2.heap.size+1+1:=by omega
 have k1:w2.cell? ⟨w.heap.size,1,none⟩=some (.string x.key):=by go_simp
 have k0:w2.cell? ⟨w.heap.size,0,none⟩=some (.int .i64 x.ok):=by go_simp
 have hB2':=ac hB2 (.map #[] 0)
 clear hc1 hf1 hc2 hf2 hb1 hb2 hB1 hB2
 go_wp2_with(first
  |(refine gS _ rfl (.tmp 11) (.const (.int .i64 0)) (.tmp 14) 186 (.inr rfl) 3 22 _ underlying186 underlying3 w2.heap.size _ rfl (hL0.later (ac (B0 _) _)) (.int .i64 0) (.slice (some ⟨w2.heap.size+1,0,none⟩) 2 2) rfl rfl jr (by simp) ?_;intro w3 hL1 hT1
    have m3:w2.heap.size<w3.heap.size:=js hT1 (by simp)
    have z3:w.heap.size<w3.heap.size:=js hT1 (by simp;omega)
    have z3a:w.heap.size<w3.heap.size+1:=by omega
    have k3:w3.cell? ⟨w.heap.size,1,none⟩=some (.string x.key):=(jS hT1 (by simp;omega) hne).trans (by go_simp)
    have o3:w3.cell? ⟨w.heap.size,0,none⟩=some (.int .i64 x.ok):=(jS hT1 (by simp;omega) hne).trans (by go_simp)
    have s3:=ip.new_ (l:=[bs [103,101,116],x.key]) hT1 (by simp) rfl
    have hB3:=hT1.1 w.heap.size w (ac hB2' _) (by omega))
  |(refine gS _ rfl (.tmp 11) (.const (.int .i64 1)) (.tmp 18) 186 (.inr rfl) 3 22 _ underlying186 underlying3 w2.heap.size _ rfl (hL1.later (ac (B0 _) _)) (.int .i64 1) (.slice (some ⟨w3.heap.size,0,none⟩) 3 3) rfl rfl jr (by simp[jr]) ?_;intro w4 hL2 hT2
    have m4:w2.heap.size<w4.heap.size:=js hT2 m3
    have z4:w.heap.size<w4.heap.size:=js hT2 z3
    have z4a:w.heap.size<w4.heap.size+1:=by omega
    have k4:w4.cell? ⟨w.heap.size,1,none⟩=some (.string x.key):=(jS hT2 z3 hne).trans k3
    have o4:w4.cell? ⟨w.heap.size,0,none⟩=some (.int .i64 x.ok):=(jS hT2 z3 hne).trans o3
    have s4:=ip.new_ (l:=[bs [112,117,116],x.key,bs (Lib.itoa x.val)]) hT2 m3 rfl
    have s34:=s3.put hT2 (by simp)
    have hB4:=hT2.1 w.heap.size w (ac hB3 _) (by omega))
  |(refine gS _ rfl (.tmp 11) (.const (.int .i64 2)) (.tmp 23) 186 (.inr rfl) 3 22 _ underlying186 underlying3 w2.heap.size _ rfl (hL2.later (ac (B0 _) _)) (.int .i64 2) (.slice (some ⟨w4.heap.size,0,none⟩) 4 4) rfl rfl jr (by simp[jr]) ?_;intro w5 hL3 hT3
    have m5:w2.heap.size<w5.heap.size:=js hT3 m4
    have z5:w.heap.size<w5.heap.size:=js hT3 z4
    have z5a:w.heap.size<w5.heap.size+1:=by omega
    have k5:w5.cell? ⟨w.heap.size,1,none⟩=some (.string x.key):=(jS hT3 z4 hne).trans k4
    have o5:w5.cell? ⟨w.heap.size,0,none⟩=some (.int .i64 x.ok):=(jS hT3 z4 hne).trans o4
    have s5:=ip.new_ (l:=[bs [99,97,115],x.key,bs (Lib.itoa x.old),bs (Lib.itoa x.val)]) hT3 m4 rfl
    have s35:=s34.put hT3 (by simp)
    have s45:=s4.put hT3 (by omega)
    have hB5:=hT3.1 w.heap.size w (ac hB4 _) (by omega))
  |(refine gS _ rfl (.tmp 11) (.const (.int .i64 3)) (.tmp 27) 186 (.inr rfl) 3 22 _ underlying186 underlying3 w2.heap.size _ rfl (hL3.later (ac (B0 _) _)) (.int .i64 3) (.slice (some ⟨w5.heap.size,0,none⟩) 3 3) rfl rfl jr (by simp[jr]) ?_;intro w6 hL4 hT4
    have m6:w2.heap.size<w6.heap.size:=js hT4 m5
    have z6:w.heap.size<w6.heap.size:=js hT4 z5
    have o6:w6.cell? ⟨w.heap.size,0,none⟩=some (.int .i64 x.ok):=(jS hT4 z5 hne).trans o5
    have s6:=ip.new_ (l:=[bs [97,100,100],x.key,bs (Lib.itoa x.val)]) hT4 m5 rfl
    have s36:=s35.put hT4 (by simp)
    have s46:=s45.put hT4 (by omega)
    have s56:=s5.put hT4 (by omega)
    have hB6:=hT4.1 w.heap.size w (ac hB5 _) (by omega))
  |(refine vR _ rfl (.tmp 28) (.tmp 30) 186 false rfl 3 22 _ underlying186 underlying3 w2.heap.size _ rfl hL4 (.int .i64 x.ok)
     (if x.ok=0 then .slice (some ⟨w2.heap.size+1,0,none⟩) 2 2 else if x.ok=1 then .slice (some ⟨w3.heap.size,0,none⟩) 3 3 else if x.ok=2 then .slice (some ⟨w4.heap.size,0,none⟩) 4 4 else .slice (some ⟨w5.heap.size,0,none⟩) 3 3) rfl jr (by simp[jr])
     (fun p hp he=>by simp only[List.nil_append,List.cons_append,List.mem_cons,List.not_mem_nil,or_false] at hp;rcases hp with rfl|rfl|rfl|rfl<;>simp only[Value.int.injEq,true_and] at he<;>simp[←he])
     (by have h0:=H0.out;have h3:=H3.out;rcases(show x.ok=0∨x.ok=1∨x.ok=2∨x.ok=3 by omega) with h|h|h|h<;>simp[h]) ?_))
 ·go_ret
  refine⟨_,rfl,?_,hB6⟩
  rw[gV,if_pos (by assumption)]
  have h:=s36.slS (n:=2) rfl (by simp)
  rw[show(w2.alloc (Obj.map #[] 0)).heap.size=w2.heap.size+1 by simp] at h
  exact h
 ·go_ret
  refine⟨_,rfl,?_,hB6⟩
  rw[gV,if_neg (by assumption),if_pos (by assumption)]
  exact s46.slS rfl (by simp)
 ·go_ret
  refine⟨_,rfl,?_,hB6⟩
  rw[gV,if_neg (by assumption),if_neg (by assumption),if_pos (by assumption)]
  exact s56.slS rfl (by simp)
 ·go_ret
  refine⟨_,rfl,?_,hB6⟩
  rw[gV,if_neg (by assumption),if_neg (by assumption),if_neg (by assumption)]
  exact s6.slS rfl (by simp)
def mP (k:Int) (x:ap):Bool:=
 if k=5 then bf x.a 1 16&&decide (x.ss.length≤20)&&gQ x.ss else if k=15 then jo x.ms else fT {x with kind:=k}
theorem vW {n:Int}:jN n↔bf n 0 128=true:=by simp[jN,bf]
theorem DE (v:Value) (l:List Int) (w:World) (h:aq w w.heap.size v l) (hl:l.length≤1000000):
 Calls prog 198 #[v,.func (.func 88) #[] #[]] w fun e w'=> ∃r,e= .returned (.int .i64 r)∧decide (0≤r)= !gQ l∧Below w.heap.size w w':=by
 obtain⟨A,n,c,rfl,hn,hc,hm⟩:=h.form
 have HL:=aa hn
 have H:=aa h
 have eg:=enters_of func88 (by kernel_rfl) rfl
 have hn':n≤1000000:=by omega
 clear h hn hl
 go_enter func198,ntmps198
 go_wp2_with fail
 go_loopw [8] (fun i wr=> ∃k:Nat,k≤n∧i= .int .i64 k∧Below w.heap.size w wr∧∀j,j<k→jN (bd l j)) (fun i _=>n - (intOf i).toNat)
 case atStart=>exact⟨0,aY _,rfl,B0 w,by omega⟩
 case round=>
  obtain⟨k,hk,rfl,hb,hgood⟩:=hrel
  have HGd:=aa hgood
  clear hgood
  by_cases hlt:k<n
  ·obtain⟨b,o,rfl,hbB,hcell⟩:=(H.out.below hb (ae _)).at_ k hlt
   have h1:=hcell k hlt
   clear hcell
   refine oC fun i3=> ?_
   have oc:=fun W=>Di (bd l k) W
   cases hg:bf (bd l k) 0 128 with
   |true=>
    rw[hg] at oc
    have HO:=aa oc
    clear oc
    go_wp2_with(go_at_call 88;refine(HO.out _).mono ?_;rintro e w1 ⟨rfl,rfl⟩)
    exact⟨⟨k+1,by omega,by go_num,hb,fun j hj=>by
     by_cases e:j=k
     ·subst e;exact vW.2 hg
     ·exact HGd.out j (by omega)⟩,by simp[intOf];omega⟩
   |false=>
    rw[hg] at oc
    have HO:=aa oc
    clear oc
    go_wp2_with(go_at_call 88;refine(HO.out _).mono ?_;rintro e w1 ⟨rfl,rfl⟩)
    go_ret
    refine⟨_,rfl,?_,hb⟩
    rw[De (k:=k) (by rw[HL.out];exact hlt) (fun h=>by rw[vW,hg] at h;cases h)]
    simp
  ·go_wp2_with fail
   go_ret
   refine⟨_,rfl,?_,hb⟩
   rw[Dd (fun j hj=>HGd.out j (by rw[HL.out] at hj;omega))]
   rfl
theorem DF (v:Value) (l:List Int) (w:World) (h:aq w w.heap.size v l) (hl:l.length≤1000000):
 am 89 #[v,.func (.func 88) #[] #[]] w (.bool (!gQ l)):=by
 obtain⟨A,n,c,rfl,hn,hc,hm⟩:=h.form
 have HI:=aa (DE _ l w h hl)
 clear h hn hl
 go_enter func89,ntmps89
 go_wp2_with(go_at_call 198;refine HI.out.mono ?_;rintro e w1 ⟨r,rfl,hr,hb1⟩)
 exact ik
theorem vX (x:ap) (m s:Value) (w:World):
 am 195 #[.agg (x.cells m s)] w (.bool true):=by
 rw[ap.cells_def]
 go_enter func195,ntmps195
 go_wp2_with fail
 go_ret
 exact⟨rfl,ac (B0 w) _⟩
theorem iK (x:ap) (m s:Value) (w:World) (g box:Nat) (p:Bool) (eg: ∀args w,(callFunc g args).run prog w= .ok (.enter g args) w)
 (hg: ∀W,Calls prog g #[.int .i64 x.a] W fun e w'=>e= .returned (.bool p)∧w'=W) (hb:w.cell? ⟨box,0,none⟩=some (.func (.func g) #[] #[])) (hbox:box<w.heap.size):
 am 191 #[.agg (x.cells m s),.pointer (some ⟨box,0,none⟩)] w (.bool p):=by
 have HG:=aa hg
 clear hg
 have hne: ¬box=w.heap.size:=by omega
 rw[ap.cells_def]
 go_enter func191,ntmps191
 go_wp2_with(go_at_fn g;refine(HG.out _).mono ?_;rintro e w1 ⟨rfl,rfl⟩)
 go_ret
 exact⟨rfl,ac (B0 w) _⟩
theorem DG (x:ap) (m s:Value) (w:World):
 am 93 #[.agg (x.cells m s)] w (.bool (bf x.a 1 16&&bf x.b 0 1048576)):=by
 rw[ap.cells_def]
 go_enter func93,ntmps93
 go_wp2_with(first
  |(go_at_call 80;refine(io x.a _).mono ?_;rintro e w1 ⟨rfl,rfl⟩)
  |(go_at_call 83;refine(oy x.b _).mono ?_;rintro e w2 ⟨rfl,rfl⟩)
)
 all_goals
  go_ret
  refine⟨aV ?_,by first|exact hB|exact ac (B0 w) _⟩
  simp_all
theorem DH (x:ap) (m s:Value) (w:World):
 am 105 #[.agg (x.cells m s)] w (.bool (bf x.a 1 8&&bf x.b 1 8)):=by
 rw[ap.cells_def]
 go_enter func105,ntmps105
 go_wp2_with(first
  |(go_at_call 81;refine(mH x.a _).mono ?_;rintro e w1 ⟨rfl,rfl⟩)
  |(go_at_call 98;refine(qJ x.b _).mono ?_;rintro e w2 ⟨rfl,rfl⟩)
)
 all_goals
  go_ret
  refine⟨aV ?_,by first|exact hB|exact ac (B0 w) _⟩
  simp_all[bf]
  try omega
theorem DI (x:ap) (m s:Value) (w:World):
 am 111 #[.agg (x.cells m s)] w (.bool (bf x.a 1 16&&bf x.c 1 16&&bf x.b 0 8)):=by
 rw[ap.cells_def]
 go_enter func111,ntmps111
 go_wp2_with(first
  |(go_at_call_of 80 (Value.int IntKind.i64 x.a);refine(io x.a _).mono ?_;rintro e w1 ⟨rfl,rfl⟩)
  |(go_at_call 98;refine(qJ x.b _).mono ?_;rintro e w2 ⟨rfl,rfl⟩)
  |(go_at_call_of 80 (Value.int IntKind.i64 x.c);refine(io x.c _).mono ?_;rintro e w3 ⟨rfl,rfl⟩)
)
 all_goals
  go_ret
  refine⟨aV ?_,by first|exact hB|exact ac (B0 w) _⟩
  simp_all
theorem DJ (x:ap) (m s:Value) (w:World):
 am 97 #[.agg (x.cells m s)] w (.bool (bf x.a 1 8&&bf x.b 0 8&&jn x)):=by
 rw[ap.cells_def]
 go_enter func97,ntmps97
 go_wp2_with(first
  |(go_at_call 81;refine(mH x.a _).mono ?_;rintro e w1 ⟨rfl,rfl⟩)
  |(go_at_call 98;refine(qJ x.b _).mono ?_;rintro e w2 ⟨rfl,rfl⟩)
  |(go_at_call 99;refine(DC x _).mono ?_;rintro e w3 ⟨rfl,hb3⟩;have hB:=ag (ac (B0 w) _) hb3)
)
 all_goals
  go_ret
  refine⟨aV ?_,by first|exact hB|exact ac (B0 w) _⟩
  simp_all
theorem DK (x:ap) (m s:Value) (w:World) (hs:aq w w.heap.size s x.ss) (hl:x.ss.length≤1000000):
 am 87 #[.agg (x.cells m s)] w (.bool (bf x.a 1 16&&decide (x.ss.length≤20)&&gQ x.ss)):=by
 obtain⟨As,ns,cs,rfl,hns,hcs,hms⟩:=hs.form
 have HS:=aa hs
 have HN:=aa hns
 have HLs:=aa hl
 clear hs hns hl
 rw[ap.cells_def]
 go_enter func87,ntmps87
 go_wp2_with(first
  |(go_at_call 80;refine(io x.a _).mono ?_;rintro e w1 ⟨rfl,rfl⟩)
  |(go_at_call 89;go_loud (refine(DF _ x.ss _ ((HS.out.below (ac (B0 w) _) (ae _)).more (Below.size (ac (B0 w) _))) (by have:=HLs.out;omega)).mono ?_;rintro e w3 ⟨rfl,hb3⟩;have hB:=ag (ac (B0 w) _) hb3))
)
 all_goals
  go_ret
  refine⟨aV ?_,by first|exact hB|exact ac (B0 w) _⟩
  have hn:=HN.out
  clear HS
  cases h1:bf x.a 1 16<;>by_cases h2:x.ss.length≤20<;>first|(simp[h2] at*;done)|(simp_all;done)|(exfalso;omega)
def aK (k:Int):ap:={kind:=k,a:=0,b:=0,c:=0,ok:=0,key:=⟨#[]⟩,val:=0,old:=0,ms:=[],ss:=[]}
def aG:Value:= .slice none 0 0
def bB (w:World) (b:Nat) (x:ap) (m s:Value):Prop:=w.heap[b]? =some (.cells (x.cells m s) 45 (0,0))
theorem bB.lies {w:World} {b:Nat} {x:ap} {m s:Value} (h:bB w b x m s):cY w b x m s:=by
 refine⟨?_,?_,?_,?_,?_,?_,?_,?_,?_,?_⟩<;>exact dp h (by show _<10;decide)
theorem bB.lt {w:World} {b:Nat} {x:ap} {m s:Value} (h:bB w b x m s):b<w.heap.size:=(Array.getElem?_eq_some_iff.1 h).1
theorem bB.turns {w w':World} {b c:Nat} {x:ap} {m s:Value} (h:bB w b x m s) (hT:cM w w' c) (hne:b≠c):bB w' b x m s:=(hT.2.2 b hne).trans h
theorem mQ (w:World) (b:Nat):cM w w b:=⟨fun _ _ h _=>h,rfl,fun _ _=>rfl⟩
theorem mR {w w':World} {b:Nat} (h:cM w w' b):cM w w'.drew b:=⟨fun B w0 hB hle=>by have:=h.1 B w0 hB hle;exact⟨this.os,this.tape,this.output,this.size,this.block⟩,h.2.1,h.2.2⟩
theorem mS {w w':World} {b:Nat} (h:cM w w' b) (o:Nat) (u:Value):cM w (w'.setCell ⟨b,o,none⟩ u) b:=
 ⟨fun B w0 hB hle=>(h.1 B w0 hB hle).setCell hle u,by rw[←h.2.1];simp[World.setCell],fun i hi=>(Below.heap_setCell w' ⟨b,o,none⟩ u i (by intro e;exact hi e)).trans (h.2.2 i hi)⟩
theorem ej (k:Int):(aK k).cells aG aG= #[.int .i64 k,.int .i64 0,.int .i64 0,.int .i64 0,.int .i64 0,.string ⟨#[]⟩,.int .i64 0,.int .i64 0,aG,aG]:=rfl
theorem mT (w:World):w.drew.heap=w.heap:=rfl
def iL (W:World) (px:Nat) (y:ap) (m s:Value) (e:Ending) (w':World):Prop:=(∃v,e= .returned v)∧cM W w' px∧bB w' px y m s
theorem iM (k:Int) (x:ap) (m s:Value) (W:World) (px pa:Nat) (hm: ∃A n c,m= .slice A n c) (hs: ∃A n c,s= .slice A n c) (hp:bB W px (aK k) aG aG) (ha:cY W pa x m s) (hne:px≠pa):
 Calls prog 190 #[ptr px,ptr pa] W (iL W px ({aK k with a:=x.a}) aG aG):=by
 obtain⟨Am,nm,cm,rfl⟩:=hm
 obtain⟨As,ns,cs,rfl⟩:=hs
 have z1:W.cell? ⟨px,1,none⟩=some (.int .i64 0):=dp hp (o:=1) (by show _<10;decide)
 have f1:W.frozen? ⟨px,1,none⟩=false:=ei hp 1
 refine jT fun l0 l1 l2 l3 l4 l5 l6 l7 l8 l9 hne1 hne2 HP=> ?_
 clear ha
 clear hp hne
 simp only[ptr]
 go_enter func190,ntmps190
 exact vY
theorem vZ (k:Int) (x:ap) (m s:Value) (W:World) (px pa:Nat) (hm: ∃A n c,m= .slice A n c) (hs: ∃A n c,s= .slice A n c) (hp:bB W px (aK k) aG aG) (ha:cY W pa x m s) (hne:px≠pa):
 Calls prog 194 #[ptr px,ptr pa] W (iL W px (aK k) aG aG):=by
 obtain⟨Am,nm,cm,rfl⟩:=hm
 obtain⟨As,ns,cs,rfl⟩:=hs
 refine jT fun l0 l1 l2 l3 l4 l5 l6 l7 l8 l9 hne1 hne2 HP=> ?_
 clear ha
 clear hp hne
 simp only[ptr]
 go_enter func194,ntmps194
 go_wp2_with fail
 all_goals
  go_end0
  refine⟨⟨_,rfl⟩,?_,?_⟩
  ·repeat' first|with_reducible refine mS ?_ _ _|with_reducible refine mR ?_ |with_reducible exact mQ _ _
  ·have h:=HP.out
   clear HP
   unfold bB at h⊢
   rw[ej] at h
   try rw[mT]
   exact h
theorem DL (k:Int) (x:ap) (m s:Value) (W:World) (px pa:Nat) (hm: ∃A n c,m= .slice A n c) (hs: ∃A n c,s= .slice A n c) (hp:bB W px (aK k) aG aG) (ha:cY W pa x m s) (hne:px≠pa):
 Calls prog 86 #[ptr px,ptr pa] W (iL W px ({aK k with a:=x.a,ss:=x.ss}) aG s):=by
 obtain⟨Am,nm,cm,rfl⟩:=hm
 obtain⟨As,ns,cs,rfl⟩:=hs
 have z1:W.cell? ⟨px,1,none⟩=some (.int .i64 0):=dp hp (o:=1) (by show _<10;decide)
 have f1:W.frozen? ⟨px,1,none⟩=false:=ei hp 1
 have z9:W.cell? ⟨px,9,none⟩=some aG:=dp hp (o:=9) (by show _<10;decide)
 have f9:W.frozen? ⟨px,9,none⟩=false:=ei hp 9
 refine jT fun l0 l1 l2 l3 l4 l5 l6 l7 l8 l9 hne1 hne2 HP=> ?_
 clear ha
 clear hp hne
 simp only[ptr]
 go_enter func86,ntmps86
 exact we
theorem DM (k:Int) (x:ap) (m s:Value) (W:World) (px pa:Nat) (hm: ∃A n c,m= .slice A n c) (hs: ∃A n c,s= .slice A n c) (hp:bB W px (aK k) aG aG) (ha:cY W pa x m s) (hne:px≠pa):
 Calls prog 92 #[ptr px,ptr pa] W (iL W px ({aK k with a:=x.a,b:=x.b}) aG aG):=by
 obtain⟨Am,nm,cm,rfl⟩:=hm
 obtain⟨As,ns,cs,rfl⟩:=hs
 refine oG fun z1 f1 z2 f2=> ?_
 refine jT fun l0 l1 l2 l3 l4 l5 l6 l7 l8 l9 hne1 hne2 HP=> ?_
 clear ha
 clear hp hne
 simp only[ptr]
 go_enter func92,ntmps92
 exact we
theorem DN (k:Int) (x:ap) (m s:Value) (W:World) (px pa:Nat) (hm: ∃A n c,m= .slice A n c) (hs: ∃A n c,s= .slice A n c) (hp:bB W px (aK k) aG aG) (ha:cY W pa x m s) (hne:px≠pa):
 Calls prog 96 #[ptr px,ptr pa] W (iL W px ({aK k with a:=x.a,b:=x.b,ok:=x.ok,key:=x.key,val:=x.val,old:=x.old}) aG aG):=by
 obtain⟨Am,nm,cm,rfl⟩:=hm
 obtain⟨As,ns,cs,rfl⟩:=hs
 refine oG fun z1 f1 z2 f2=> ?_
 have z4:W.cell? ⟨px,4,none⟩=some (.int .i64 0):=dp hp (o:=4) (by show _<10;decide)
 have f4:W.frozen? ⟨px,4,none⟩=false:=ei hp 4
 have z5:W.cell? ⟨px,5,none⟩=some (.string ⟨#[]⟩):=dp hp (o:=5) (by show _<10;decide)
 have f5:W.frozen? ⟨px,5,none⟩=false:=ei hp 5
 have z6:W.cell? ⟨px,6,none⟩=some (.int .i64 0):=dp hp (o:=6) (by show _<10;decide)
 have f6:W.frozen? ⟨px,6,none⟩=false:=ei hp 6
 have z7:W.cell? ⟨px,7,none⟩=some (.int .i64 0):=dp hp (o:=7) (by show _<10;decide)
 have f7:W.frozen? ⟨px,7,none⟩=false:=ei hp 7
 refine jT fun l0 l1 l2 l3 l4 l5 l6 l7 l8 l9 hne1 hne2 HP=> ?_
 clear ha
 clear hp hne
 simp only[ptr]
 go_enter func96,ntmps96
 go_wp2_with fail
 go_region
 all_goals
  go_end0
  refine⟨⟨_,rfl⟩,?_,?_⟩
  ·repeat' first|with_reducible refine mS ?_ _ _|with_reducible refine mR ?_ |with_reducible exact mQ _ _
  ·have h:=HP.out
   clear HP
   unfold bB at h⊢
   rw[ej] at h
   try rw[mT]
   refine(cU (cU (cU (cU (cU (cU (h) _ _) _ _) _ _) _ _) _ _) _ _).trans ?_
   exact oH
theorem DO (k:Int) (x:ap) (m s:Value) (W:World) (px pa:Nat) (hm: ∃A n c,m= .slice A n c) (hs: ∃A n c,s= .slice A n c) (hp:bB W px (aK k) aG aG) (ha:cY W pa x m s) (hne:px≠pa):
 Calls prog 104 #[ptr px,ptr pa] W (iL W px ({aK k with a:=x.a,b:=x.b,val:=x.val}) aG aG):=by
 obtain⟨Am,nm,cm,rfl⟩:=hm
 obtain⟨As,ns,cs,rfl⟩:=hs
 refine oG fun z1 f1 z2 f2=> ?_
 have z6:W.cell? ⟨px,6,none⟩=some (.int .i64 0):=dp hp (o:=6) (by show _<10;decide)
 have f6:W.frozen? ⟨px,6,none⟩=false:=ei hp 6
 refine jT fun l0 l1 l2 l3 l4 l5 l6 l7 l8 l9 hne1 hne2 HP=> ?_
 clear ha
 clear hp hne
 simp only[ptr]
 go_enter func104,ntmps104
 exact wg
theorem DP (k:Int) (x:ap) (m s:Value) (W:World) (px pa:Nat) (hm: ∃A n c,m= .slice A n c) (hs: ∃A n c,s= .slice A n c) (hp:bB W px (aK k) aG aG) (ha:cY W pa x m s) (hne:px≠pa):
 Calls prog 110 #[ptr px,ptr pa] W (iL W px ({aK k with a:=x.a,b:=x.b,c:=x.c}) aG aG):=by
 obtain⟨Am,nm,cm,rfl⟩:=hm
 obtain⟨As,ns,cs,rfl⟩:=hs
 refine oG fun z1 f1 z2 f2=> ?_
 have z3:W.cell? ⟨px,3,none⟩=some (.int .i64 0):=dp hp (o:=3) (by show _<10;decide)
 have f3:W.frozen? ⟨px,3,none⟩=false:=ei hp 3
 refine jT fun l0 l1 l2 l3 l4 l5 l6 l7 l8 l9 hne1 hne2 HP=> ?_
 clear ha
 clear hp hne
 simp only[ptr]
 go_enter func110,ntmps110
 exact wg
theorem DQ (k:Int) (x:ap) (m s:Value) (W:World) (px pa:Nat) (hm: ∃A n c,m= .slice A n c) (hs: ∃A n c,s= .slice A n c) (hp:bB W px (aK k) aG aG) (ha:cY W pa x m s) (hne:px≠pa):
 Calls prog 114 #[ptr px,ptr pa] W (iL W px ({aK k with ms:=x.ms}) m aG):=by
 obtain⟨Am,nm,cm,rfl⟩:=hm
 obtain⟨As,ns,cs,rfl⟩:=hs
 have z8:W.cell? ⟨px,8,none⟩=some aG:=dp hp (o:=8) (by show _<10;decide)
 have f8:W.frozen? ⟨px,8,none⟩=false:=ei hp 8
 refine jT fun l0 l1 l2 l3 l4 l5 l6 l7 l8 l9 hne1 hne2 HP=> ?_
 clear ha
 clear hp hne
 simp only[ptr]
 go_enter func114,ntmps114
 exact vY
end
end Go.Proofs.YthnkonlbfogkgaaGreatDoor
