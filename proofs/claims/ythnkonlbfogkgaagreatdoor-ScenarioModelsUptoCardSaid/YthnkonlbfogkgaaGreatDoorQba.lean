/- A part of the proof. -/
import Derived.Test.YthnkonlbfogkgaaGreatDoorQa
import Derived.Test.YthnkonlbfogkgaaGreatDoorQz
set_option linter.unusedVariables false
set_option linter.unusedSimpArgs false
set_option maxRecDepth 100000
set_option maxHeartbeats 32000000
namespace Go.Proofs.YthnkonlbfogkgaaGreatDoor
section
open Go Go.RowKit Tryz
def Sl (w:World) (B:Nat) (v:Value) (xs:List Value):Prop:=
 ∃A c,v= .slice A xs.length c∧xs.length≤c∧c≤maxLen∧(xs≠[]→∃b o,A=some ⟨b,o,none⟩∧b<B∧∀(j:Nat) u,xs[j]? =some u→w.cell? ⟨b,o+j,none⟩=some u)
section
variable {w w':World} {B B':Nat} {v:Value} {xs:List Value}
theorem Sl.keep (h:Sl w B v xs) (hk: ∀b o,b<B→w'.cell? ⟨b,o,none⟩=w.cell? ⟨b,o,none⟩):Sl w' B v xs:=by
 obtain⟨A,c,rfl,h1,h2,h3⟩:=h
 refine⟨A,c,rfl,h1,h2,fun hn=> ?_⟩
 obtain⟨b,o,rfl,hb,hc⟩:=h3 hn
 exact⟨b,o,rfl,hb,fun j u hu=>(hk _ _ hb).trans (hc j u hu)⟩
theorem Sl.more (h:Sl w B v xs) (hB:B≤B'):Sl w B' v xs:=by
 obtain⟨A,c,rfl,h1,h2,h3⟩:=h
 refine⟨A,c,rfl,h1,h2,fun hn=> ?_⟩
 obtain⟨b,o,rfl,hb,hc⟩:=h3 hn
 exact⟨b,o,rfl,by omega,hc⟩
theorem Sl.below (h:Sl w B v xs) (hb:Below B w w'):Sl w' B v xs:=h.keep fun b o hp=>hb.cell (p:=⟨b,o,none⟩) hp
theorem Sl.belowM {B₂:Nat} (h:Sl w B v xs) (hb:Below B₂ w w') (hB:B≤B₂):Sl w' B v xs:=h.keep fun b o hp=>hb.cell (p:=⟨b,o,none⟩) (aF hp hB)
theorem Sl.nil_ (w:World) (B:Nat):Sl w B (.slice none 0 0) []:=⟨none,0,rfl,by simp,by simp,fun h=>absurd rfl h⟩
theorem Sl.cases_ (h:Sl w B v xs):(xs=[]∧∃A c,v= .slice A 0 c∧c≤maxLen)∨
 (0<xs.length∧∃b o c,v= .slice (some ⟨b,o,none⟩) xs.length c∧xs.length≤c∧c≤maxLen∧b<B∧∀(j:Nat) u,xs[j]? =some u→w.cell? ⟨b,o+j,none⟩=some u):=by
 obtain⟨A,c,rfl,h1,h2,h3⟩:=h
 by_cases hn:xs=[]
 ·subst hn;exact .inl ⟨rfl,A,c,rfl,h2⟩
 ·obtain⟨b,o,rfl,hb,hc⟩:=h3 hn
  exact .inr ⟨List.length_pos_iff.2 hn,b,o,c,rfl,h1,h2,hb,hc⟩
theorem Sl.of_own {base:Nat} {e:TypeId} {n:Nat} (h:w.ownsRow base e 1 v n xs):Sl w w.heap.size v xs:=by
 have hl:xs.length=n:=by simpa using h.1
 by_cases hn:0<n
 ·obtain⟨g,cap,hv,_,hlt⟩:=h.form hn
  have hc:n≤cap∧cap≤maxLen:=by
   exact uV
  subst hv
  refine⟨_,cap,by rw[hl],by omega,hc.2,fun _=>⟨g,0,rfl,hlt,fun j u hu=> ?_⟩⟩
  have:=h.cells (g:=g) rfl j u hu
  by_cases hj:j=0
  ·subst hj;simpa[Addr.add] using this
  ·simpa[Addr.add,hj] using this
 ·have h0:n=0:=by omega
  subst h0
  have hx:xs=[]:=List.eq_nil_of_length_eq_zero hl
  subst hx
  rcases h.2 with ⟨rfl,_⟩|⟨g,cap,_,rfl,_,_,h1,h2,_⟩
  ·exact Sl.nil_ _ _
  ·exact⟨_,cap,rfl,by simp,h2,fun h=>absurd rfl h⟩
end
theorem ck {W w1:World} (hb:Below W.heap.size W w1):(∀b o,b<W.heap.size→w1.cell? ⟨b,o,none⟩=W.cell? ⟨b,o,none⟩)∧(∀b o,b<W.heap.size→w1.frozen? ⟨b,o,none⟩=W.frozen? ⟨b,o,none⟩):=
 ⟨fun b o h=>hb.cell (p:=⟨b,o,none⟩) h,fun b o h=>hb.frozen (p:=⟨b,o,none⟩) h⟩
theorem jl {B:Nat} {a w:World} (h:Below B a w) (n:Nat):Below B a (w.drewN n):=⟨h.os,h.tape,h.output,h.size,h.block⟩
theorem my {B:Nat} {a w:World} (h:Below B a w):Below B a w.drew:=⟨h.os,h.tape,h.output,h.size,h.block⟩
theorem B0 (w:World):Below w.heap.size w w:=Below.refl _ _
theorem ac {a w:World} (h:Below a.heap.size a w) (o:Obj):Below a.heap.size a (w.alloc o):=h.alloc h.size o
theorem aR {a w:World} (h:Below a.heap.size a w) {p:Addr} (hp:a.heap.size≤p.block) (u:Value):Below a.heap.size a (w.setCell p u):=h.setCell hp u
theorem au {a w:World} (h:Below a.heap.size a w):Below a.heap.size a w.drew:=⟨h.os,h.tape,h.output,h.size,h.block⟩
theorem CR {a w:World} (h:Below a.heap.size a w) (n:Nat):Below a.heap.size a (w.drewN n):=jl h n
theorem ag {a w w':World} (h:Below a.heap.size a w) (k:Below w.heap.size w w'):Below a.heap.size a w':=h.trans (k.mono h.size)
theorem kc {w W:World} {p:Addr} {v:Value} (h:Below w.heap.size w W) (e:w.cell? p=some v):W.cell? p=some v:=(h.cell (aH _ _ e)).trans e
theorem dJ {W W':World} {n:Nat} (hb:Below W.heap.size W W') (h:n<W.heap.size):n<W'.heap.size:=aF h hb.size
def aj (n:Int):Prop:= -9223372036854775808≤n∧n≤9223372036854775807
def aq (w:World) (B:Nat) (v:Value) (l:List Int):Prop:=Sl w B v (l.map (Value.int .i64))∧∀x∈l,aj x
def aL (w:World) (B:Nat) (v:Value) (l:List ByteArray):Prop:=Sl w B v (l.map Value.string)
theorem aq.below {w w':World} {B B₂:Nat} {v:Value} {l:List Int} (h:aq w B v l) (hb:Below B₂ w w') (hB:B≤B₂):aq w' B v l:=⟨h.1.belowM hb hB,h.2⟩
theorem aq.more {w:World} {B B':Nat} {v:Value} {l:List Int} (h:aq w B v l) (hB:B≤B'):aq w B' v l:=⟨h.1.more hB,h.2⟩
theorem aL.below {w w':World} {B B₂:Nat} {v:Value} {l:List ByteArray} (h:aL w B v l) (hb:Below B₂ w w') (hB:B≤B₂):aL w' B v l:=Sl.belowM h hb hB
theorem aL.more {w:World} {B B':Nat} {v:Value} {l:List ByteArray} (h:aL w B v l) (hB:B≤B'):aL w B' v l:=Sl.more h hB
def bs (l:List UInt8):ByteArray:=⟨l.toArray⟩
theorem bL (l:List UInt8):(bs l).data.toList=l:=by simp[bs]
theorem bq (l:List UInt8):(bs l).size=l.length:=by simp[bs,ByteArray.size]
theorem dZ (s:ByteArray):bs s.data.toList=s:=by cases s;simp[bs]
theorem cD (s:ByteArray):s.toList=s.data.toList:=by
 exact ByteArray.toList_eq s
theorem fP (a b:List UInt8):bs a++bs b=bs (a++b):=by
 exact ByteArray.ext rfl
theorem og {a b:ByteArray} (h:a=b):Ending.returned (.string a)= .returned (.string b):=by rw[h]
theorem aV {a b:Bool} (h:a=b):Ending.returned (.bool a)= .returned (.bool b):=by rw[h]
def iH (n:Int) (l:List UInt8) (k:Int):Prop:=
 (l=[]∧k=n)∨(l≠[]∧Lib.decDigits n.natAbs=(if k=0 then[] else Lib.decDigits k.natAbs)++l)
theorem iH.len {n k:Int} {l:List UInt8} (hn:aj n) (h:iH n l k):l.length≤20:=by
 have h20:(Lib.decDigits n.natAbs).length≤20:=by
  rw[Lib.decDigits_length];exact Lib.nDigits_le20 _ (by obtain⟨h1,h2⟩:=hn;omega)
 rcases h with ⟨rfl,_⟩|⟨_,h⟩
 ·simp
 ·rw[h] at h20;simp at h20;omega
theorem iH.step {n k:Int} {l:List UInt8} (h:iH n l k) (hk:l=[]∨k≠0):
 iH n (UInt8.ofNat (48+k.natAbs%10)::l) (k.tdiv 10):=by
 have key:Lib.decDigits k.natAbs=(if k.tdiv 10=0 then[] else Lib.decDigits (k.tdiv 10).natAbs)++[UInt8.ofNat (48+k.natAbs%10)]:=by
  have e:(k.tdiv 10).natAbs=k.natAbs / 10:=by rw[Int.natAbs_tdiv];rfl
  have e0:k.tdiv 10=0↔k.natAbs<10:=by
   rw[←Int.natAbs_eq_zero,e];omega
  rw[e,Lib.decDigits]
  by_cases h10:k.natAbs<10
  ·rw[dif_pos h10,if_pos (e0.2 h10),Nat.mod_eq_of_lt h10];rfl
  ·rw[dif_neg h10,if_neg (fun h=>h10 (e0.1 h))]
 refine .inr ⟨by simp,?_⟩
 rcases h with ⟨rfl,rfl⟩|⟨hl,h⟩
 ·exact key
 ·have hk0:k≠0:=hk.resolve_left hl
  rw[h,if_neg hk0,key];simp
theorem iH.done {n k:Int} {l:List UInt8} (h:iH n l k) (hl:l≠[]) (hk:k=0):Lib.decDigits n.natAbs=l:=by
 rcases h with ⟨rfl,_⟩|⟨_,h⟩
 ·exact absurd rfl hl
 ·rw[h,if_pos hk];rfl
theorem CS (x:Int) (W:World):(convert 114 9 (.slice (some ⟨W.heap.size,0,none⟩) 1 1)).run prog (W.alloc (.cells #[.int .u8 x] 5))= .ok (.string (bs [UInt8.ofNat x.toNat])) (W.alloc (.cells #[.int .u8 x] 5)):=by
 rw[run_convert_bytes_string _ 114 9 5 _ _ _ underlying114 underlying5 underlying9]
 have h:=run_loadCells_list (P:=prog) (w:=W.alloc (.cells #[.int .u8 x] 5)) ⟨W.heap.size,0,none⟩ [Value.int .u8 x] (by
  intro j v hj
  match j,hj with
  |0,hj=>
   injection hj with hj
   subst hj
   simp[Addr.add])
 exact run_bytesToString _ _ 1 1 [x] h
theorem CT (l:List UInt8) (h:l≠[]):((bs l).toList==[])=false:=by
 rw[cD,bL];simpa using h
def oh (s m:Value):Nat:=(intOf m).natAbs+match s with| .string s=>if s.size=0 then 1 else 0|_=>0
theorem qw {n k d q:Int} {l:List UInt8} {w W:World} (hk:aj k) (hD:iH n l k) (hC:l=[]∨k≠0) (hd:d=k.natAbs%10) (hq:q=k.tdiv 10) (hb:Below w.heap.size w W):
 (∃(l1:List UInt8) (k1:Int),Value.string (bs [UInt8.ofNat (48+d).toNat]++bs l)= .string (bs l1)∧Value.int .i64 q= .int .i64 k1∧aj k1∧iH n l1 k1∧Below w.heap.size w W)∧
   oh (.string (bs [UInt8.ofNat (48+d).toNat]++bs l)) (.int .i64 q)<oh (.string (bs l)) (.int .i64 k):=by
 have e:q.natAbs=k.natAbs / 10:=by rw[hq,Int.natAbs_tdiv];rfl
 have ed:(48+d).toNat=48+k.natAbs%10:=by omega
 rw[ed,fP]
 refine⟨⟨_,q,rfl,rfl,?_,hq▸hD.step hC,hb⟩,?_⟩
 ·obtain⟨h1,h2⟩:=hk
  have:q≤q.natAbs:=Int.le_natAbs
  have: -(q.natAbs:Int)≤q:=by omega
  constructor<;>omega
 ·simp only[oh,bq,intOf,e]
  rcases hC with rfl|hC
  ·simp;omega
  ·simp;split<;>omega
theorem CU (n:Int) (hn:aj n) (w:World):
 am 71 #[.int .i64 n] w (.string (bs (Lib.itoa n))):=by
 have HN:=aa hn
 clear hn
 have hconv:=CS
 go_enter func71,ntmps71
 go_wp2
 go_loopw [3,4] (fun s m wr=> ∃(l:List UInt8) (k:Int),s= .string (bs l)∧m= .int .i64 k∧aj k∧iH n l k∧Below w.heap.size w wr) (fun s m _=>oh s m)
 case atStart=>exact⟨[],n,rfl,rfl,HN.out,.inl ⟨rfl,rfl⟩,Below.refl _ _⟩
 case round=>
  obtain⟨l,k,rfl,rfl,⟨hk1,hk2⟩,hd,hb⟩:=hrel
  have hlen:=hd.len HN.out
  have hsz:(bs l).size≤20:=by rw[bq];exact hlen
  have HD:=aa hd
  clear hd hlen
  by_cases hc:l=[]∨k≠0
  ·have HC:=aa hc
   have hl1:(((bs l).toList==[])=true∨((bs l).toList==[])=false):=by cases ((bs l).toList==[])<;>simp
   have hk':((bs l).toList==[])=false→(k !=0)=true:=fun h=>by
    rcases hc with rfl|hc
    ·rw[cD] at h;simp[bs] at h
    ·simp[hc]
   clear hc
   have hs0: ∀x,(bs [x]).size≤1:=fun x=>by rw[bq];exact ae _
   by_cases hpos:0≤k
   ·have m1:0≤k%10:=by omega
    have m2:k%10≤9:=by omega
    have hs1:=hs0 (UInt8.ofNat (48+k%10).toNat)
    clear hs0
    have fin:=fun(W:World) (hW:Below w.heap.size w W)=>qw (W:=W) ⟨hk1,hk2⟩ HD.out HC.out (show k%10=k.natAbs%10 by omega) (show k / 10=k.tdiv 10 by rw[Int.tdiv_eq_ediv_of_nonneg hpos]) hW
    rcases hl1 with hl|hl
    ·clear hk'
     go_wp2
     exact fin _ (hb.alloc hb.size _)
    ·have hk:=hk' hl
     clear hk'
     go_wp2
     exact fin _ (hb.alloc hb.size _)
   ·have m1:k.tmod 10≤0:=by
     have:=Int.tmod_nonneg (a:= -k) 10 (by omega)
     rw[Int.neg_tmod] at this;omega
    have m2: -9≤k.tmod 10:=by
     have:=Int.tmod_lt_of_pos (-k) (b:=10) (by omega)
     rw[Int.neg_tmod] at this;omega
    have hs1:=hs0 (UInt8.ofNat (48+ -k.tmod 10).toNat)
    have hs2:=hs0 (UInt8.ofNat (48+k.tmod 10).toNat)
    clear hs0
    have ed: -k.tmod 10=k.natAbs%10:=by
     have h1:=Int.tmod_eq_emod_of_nonneg (a:= -k) (b:=10) (by omega)
     rw[Int.neg_tmod] at h1;omega
    have fin:=fun(W:World) (hW:Below w.heap.size w W)=>qw (W:=W) ⟨hk1,hk2⟩ HD.out HC.out ed rfl hW
    have ed0:0≤k.tmod 10→k.tmod 10=k.natAbs%10:=fun h=>by omega
    have fin0:=fun(W:World) (h:0≤k.tmod 10) (hW:Below w.heap.size w W)=>qw (W:=W) ⟨hk1,hk2⟩ HD.out HC.out (ed0 h) rfl hW
    clear ed ed0
    have Fin:=aa fin
    have Fin0:=aa fin0
    clear fin fin0
    rcases hl1 with hl|hl
    ·clear hk'
     go_wp2
     all_goals first|exact Fin.out _ (hb.alloc hb.size _)|exact Fin0.out _ ‹_› (hb.alloc hb.size _)
    ·have hk:=hk' hl
     clear hk'
     go_wp2
     all_goals first|exact Fin.out _ (hb.alloc hb.size _)|exact Fin0.out _ ‹_› (hb.alloc hb.size _)
  ·have h1:l≠[]:=fun h=>hc (.inl h)
   have h2:k=0:=Classical.byContradiction fun h=>hc (.inr h)
   clear hc
   have hl:=CT l h1
   have hfin:Lib.decDigits n.natAbs=l:=HD.out.done h1 h2
   have HF:=aa hfin
   have hk':(k !=0)=false:=by simp[h2]
   have hs1:(bs [45]).size≤1:=by rw[bq];exact ae _
   clear hfin h1 h2
   go_wp2
   all_goals go_ret
   ·refine⟨?_,hb⟩
    refine og (a:=bs [45]++bs l) ?_
    rw[←HF.out,Lib.itoa,if_pos ‹_›,fP];rfl
   ·refine⟨?_,hb⟩
    have: ¬n<0:=by omega
    refine og (a:=bs l) ?_
    rw[←HF.out,Lib.itoa,if_neg this]
    congr 2;omega
theorem uW (n:Int) (hn:aj n) (w:World):
 am 38 #[.int .i64 n] w (.string (bs (Lib.itoa n))):=by
 obtain⟨h1,h2⟩:=hn
 go_enter func38,ntmps38
 go_wp2_with(go_at_call 71;refine(CU _ ⟨‹_›,‹_›⟩ _).mono ?_;rintro e w1 ⟨rfl,hb1⟩)
 exact ik
def ptr (b:Nat):Value:= .pointer (some ⟨b,0,none⟩)
def az (g:Nat) (caps:Array Value):Value:= .func (.func g) #[] caps
def bc (g:Nat):Prop:= ∀args w,(callFunc g args).run prog w= .ok (.enter g args) w
abbrev ai:=List UInt8
def cK (c:UInt8):Bool:=c==32||c==9||c==10||c==13
def ew (c:UInt8):Bool:=decide (97≤c.toNat)&&decide (c.toNat≤122)
def bD (c:UInt8):Bool:=decide (48≤c.toNat)&&decide (c.toNat≤57)
def cT (c:UInt8):Bool:=ew c||bD c||c==95
def fG (c:UInt8):Bool:=ew c||c==95
def ea (c:UInt8):Bool:= !(c==10)
theorem mz (p:UInt8→Bool) (s:ai):(s.dropWhile p).length≤s.length:=by
 induction s with
 |nil=>simp
 |cons c r ih=>rw[List.dropWhile_cons];split<;>simp<;>omega
def bZ (s:ai):ai:=
 match h:s.dropWhile cK with
 |[]=>[]
 |c::r=>if c=35 then bZ (r.dropWhile ea) else c::r
termination_by s.length
decreasing_by
 have h1:=mz cK s
 have h2:=mz ea r
 rw[h] at h1
 simp at h1⊢
 omega
def cX:List ai:=[
 [97,108,119,97,121,115],
 [98,101,102,111,114,101],
 [98,121],
 [99,97,112,97,99,105,116,121],
 [100,97,114,107],
 [100,105,115,116,117,114,98],
 [102,97,105,108,117,114,101,115],
 [102,101,101,100],
 [103,114,111,117,112],
 [105,110],
 [106,111,98],
 [107,101,101,112],
 [108,105,110,107],
 [108,111,97,100],
 [109,97,99,104,105,110,101],
 [111,110],
 [111,110,108,121],
 [111,114,100,101,114],
 [112,111,111,108],
 [113,117,111,114,117,109],
 [114,97,99,107],
 [114,101,115,101,114,118,101],
 [115,104,97,114,101],
 [115,105,108,101,110,99,101],
 [115,105,116,101],
 [115,105,122,101],
 [115,108,111,116,115],
 [115,112,114,101,97,100]]
structure bU where
 kind:Nat
 text:ai
 n:Nat
 pos:Nat
def il:Nat→ai→Option Nat
 |a,[]=>some a
 |a,c::r=>let b:=10*a+(c.toNat - 48);if 1048576<b then none else il b r
def jL (s:ai):Except Nat (Nat×ai×Nat):=
 let t:=s.takeWhile cT
 if 31<t.length then .error 8 else if t∈cX then .ok (2,t,0) else .ok (1,t,0)
def jm (s:ai):Except Nat (Nat×ai×Nat):=
 let t:=s.takeWhile bD
 if(1<t.length∧s.head?=some 48)∨((s.drop t.length).takeWhile fG)≠[] then .error 3
 else match il 0 t with
  |none=> .error 2
  |some n=> .ok (3,t,n)
def eX (s:ai):Except Nat (Nat×ai×Nat):=
 match s with
 |[]=> .error 3
 |c::r=>if ew c then jL (c::r) else if bD c then jm (c::r) else if c=59∨c=44 then .ok (4,[c],0) else .error 3
theorem lh (s:ai):(bZ s).length≤s.length:=by
 fun_induction bZ s with
 |case1 s h=>simp
 |case2 s r h ih=>
  have h1:=mz cK s
  have h2:=mz ea r
  rw[h] at h1
  simp at h1
  omega
 |case3 s c r h hc=>
  have h1:=mz cK s
  rw[h] at h1
  exact h1
def dB (len:Nat) (s:ai):Except (Nat×Nat) (List bU):=
 match s with
 |[]=> .ok [⟨0,[],0,len⟩]
 |c::r=>match eX (c::r) with
  | .error e=> .error (len - (r.length+1),e)
  | .ok (k,t,n)=>(dB len (bZ (r.drop (t.length - 1)))).map (⟨k,t,n,len - (r.length+1)⟩:: ·)
termination_by s.length
decreasing_by
 have h1:=lh (r.drop (t.length - 1))
 simp at h1⊢
 omega
def eK (s:ai):Except (Nat×Nat) (List bU):=if 16384<s.length then .error (0,8) else dB s.length (bZ s)
structure ar where
 kind:Nat:=0
 name:ai:=[]
 refs:List ai:=[]
 nums:List Nat:=[]
 by_:Nat:=0
 always:Bool:=false
structure PS where
 ts:List bU
 e:Nat
 d:ar
def PS.head (p:PS):bU:=p.ts.headD ⟨0,[],0,0⟩
def PS.fail (p:PS) (e:Nat):PS:=if p.e=0 then {p with e:=e} else p
def PS.take (p:PS) (k:Nat) (l:List ai):PS×bU:=
 if p.e≠0∨p.head.kind≠k∨(l≠[]∧p.head.text∉l) then(p.fail 3,⟨0,[],0,0⟩) else({p with ts:=p.ts.tail},p.head)
def PS.comma (p:PS):PS×Bool:=
 if p.e≠0∨p.head.kind≠4∨p.head.text≠[44] then(p,false) else((p.take 4 []).1,true)
def PS.ref (p:PS):PS:=let q:=p.take 1 [];{q.1 with d:={q.1.d with refs:=q.1.d.refs++[q.2.text]}}
def PS.number (p:PS):PS:=let q:=p.take 3 [];{q.1 with d:={q.1.d with nums:=q.1.d.nums++[q.2.n]}}
def mA:ai:=[97,108,119,97,121,115]
def qx:ai:=[98,101,102,111,114,101]
def qy:ai:=[98,121]
def qz:ai:=[99,97,112,97,99,105,116,121]
def uX:ai:=[100,97,114,107]
def uY:ai:=[100,105,115,116,117,114,98]
def uZ:ai:=[102,97,105,108,117,114,101,115]
def ca:ai:=[102,101,101,100]
def va:ai:=[103,114,111,117,112]
def li:ai:=[105,110]
def vb:ai:=[106,111,98]
def ve:ai:=[107,101,101,112]
def vg:ai:=[108,105,110,107]
def lj:ai:=[108,111,97,100]
def gM:ai:=[109,97,99,104,105,110,101]
def im:ai:=[111,110]
def vh:ai:=[111,110,108,121]
def vj:ai:=[111,114,100,101,114]
def vk:ai:=[112,111,111,108]
def vp:ai:=[113,117,111,114,117,109]
def bV:ai:=[114,97,99,107]
def qA:ai:=[114,101,115,101,114,118,101]
def ll:ai:=[115,104,97,114,101]
def vq:ai:=[115,105,108,101,110,99,101]
def dg:ai:=[115,105,116,101]
def lm:ai:=[115,105,122,101]
def qC:ai:=[115,108,111,116,115]
def vt:ai:=[115,112,114,101,97,100]
theorem PS.comma_lt (p:PS) (h:p.comma.2=true):p.comma.1.ts.length<p.ts.length:=by
 unfold PS.comma at*
 split at h
 ·cases h
 ·rename_i hn
  rw[if_neg hn]
  unfold PS.take
  rw[if_neg (by simp;simp at hn;exact⟨hn.1,hn.2.1⟩)]
  cases hts:p.ts with
  |nil=>simp[PS.head,hts] at hn
  |cons a l=>simp
theorem PS.take_le (p:PS) (k:Nat) (l:List ai):(p.take k l).1.ts.length≤p.ts.length:=by
 unfold PS.take PS.fail
 split
 ·dsimp only;split<;>simp
 ·simp
theorem PS.ref_le (p:PS):p.ref.ts.length≤p.ts.length:=by
 unfold PS.ref
 exact PS.take_le p 1 []
theorem PS.fail_ts (p:PS) (e:Nat):(p.fail e).ts=p.ts:=by
 unfold PS.fail
 split<;>rfl
def PS.listGo (n:Nat) (p:PS):PS:=
 if h:p.comma.2=true then
  PS.listGo (n+1) (if n=16∧p.comma.1.head.kind=1 then p.comma.1.fail 8 else p.comma.1).ref
 else p.comma.1
termination_by p.ts.length
decreasing_by
 have h1:=PS.comma_lt p h
 refine Nat.lt_of_le_of_lt (PS.ref_le _) ?_
 split
 ·rw[PS.fail_ts];exact h1
 ·exact h1
def PS.list (p:PS):PS:=PS.listGo 1 p.ref
def eL (s:ai):Nat:=if s=gM then 1 else if s=bV then 2 else if s=ca then 4 else 0
def PS.classGo (left:List ai) (p:PS):PS:=
 if left=[] then p.fail 3
 else
  let q:=p.take 2 left
  let r:PS:={q.1 with d:={q.1.d with by_:=q.1.d.by_+eL q.2.text}}
  if h:r.comma.2=true then PS.classGo (left.filter fun s=> !decide (s=q.2.text)) r.comma.1 else r.comma.1
termination_by p.ts.length
decreasing_by
 have h1:=PS.comma_lt _ h
 have h2:=PS.take_le p 2 left
 exact aF h1 h2
def PS.classes (p:PS):PS:=p.classGo [gM,bV,ca]
def fQ (s:ai):Nat:=if s=bV then 2 else if s=ca then 3 else if s=dg then 4 else 0
def PS.domain (p:PS):PS:=let q:=p.take 2 [bV,ca,dg];{q.1 with d:={q.1.d with by_:=fQ q.2.text}}
def PS.alw (p:PS):PS:=if p.e=0∧p.head.kind=2∧p.head.text=mA then let q:=p.take 2 [];{q.1 with d:={q.1.d with always:=true}} else p
def PS.name (p:PS):PS:=let q:=p.take 1 [];{q.1 with d:={q.1.d with name:=q.2.text}}
inductive du where
 |name|ref|number|list|classes|domain|alw
 |word (s:ai)
def PS.part (p:PS):du→PS
 | .name=>p.name
 | .ref=>p.ref
 | .number=>p.number
 | .list=>p.list
 | .classes=>p.classes
 | .domain=>p.domain
 | .alw=>p.alw
 | .word s=>(p.take 2 [s]).1
def mC:List du:=[.word lj,.number,.word lm,.number,.word ll,.number]
def rules:List (ai×List du):=[
 (dg,[.name]),
 (ca,[.name]),
 (bV,[.name,.word li,.ref,.word im,.ref]),
 (gM,[.name,.word li,.ref,.word qz,.number]),
 (vg,[.ref,.ref,.number]),
 (va,[.name,.word im,.list]++mC),
 (vk,[.name,.number,.word im,.list]++mC),
 (vb,[.name,.word im,.ref]++mC),
 (uX,[.ref,.word qC,.number,.word qA,.number]),
 (uZ,[.classes]),
 (vp,[.ref]),
 (ve,[.ref,.number,.alw]),
 (vt,[.ref,.word qy,.domain,.number]),
 (vh,[.ref,.word im,.list]),
 (vj,[.ref,.word qx,.ref]),
 (uY,[.number]),
 (vq,[.ref,.number])]
def eM (t:bU):Option Nat:=if t.kind=2 then rules.findIdx? (fun x=>decide (x.1=t.text)) else none
def PS.parts (p:PS):List du→PS
 |[]=>p
 |x::l=>PS.parts (if p.e=0 then p.part x else p) l
def PS.decl (p:PS):PS×ar:=
 match eM p.head with
 |none=>(p.fail 3,{})
 |some i=>
  let q:PS:={(p.take 2 []).1 with d:={kind:=i}}
  let r:=((q.parts (rules.getD i ([],[])).2).take 4 [[59]]).1
  (r,r.d)
def PS.beyond (p:PS):Nat:=if(eM p.head).isSome then 8 else 3
def CV:ai→ai
 |[]=>[]
 |c::r=>if c=35 then bZ (r.dropWhile ea) else c::r
theorem qD {s l:ai} (h:s.dropWhile cK=l):bZ s=CV l:=by
 rw[bZ]
 split<;>(rename_i h';rw[h] at h';subst h';rfl)
structure eN where
 name:ai
 site:Int
 feed:Int
structure fR where
 name:ai
 rack:Int
 cap:Int
structure gq where
 a:Int
 b:Int
 cap:Int
structure bQ where
 name:ai
 kind:Int
 count:Int
 load:Int
 size:Int
 share:Int
 on:List Int
structure aU where
 kind:Int
 item:Int
 other:Int
 n:Int
 by_:Int
 always:Bool
 ms:List Int
structure aC where
 sites:List ai:=[]
 feeds:List ai:=[]
 racks:List eN:=[]
 machs:List fR:=[]
 links:List gq:=[]
 items:List bQ:=[]
 dark:Int:=0
 slots:Int:=0
 reserve:Int:=0
 failures:Int:=0
 rules:List aU:=[]
def aD (n low high:Int):Bool:=decide (low≤n)&&decide (n≤high)
def aM (n:Int) (k:Nat):Bool:=aD n 1 k
def dh {α:Type} (c:α→List α→Bool):List α→List α→Bool
 |_,[]=>true
 |b,x::r=>c x b&&dh c (b++[x]) r
def gv (m:aC) (x:eN) (b:List eN):Bool:=aM x.site m.sites.length&&aM x.feed m.feeds.length&& !b.any fun y=>decide (y.feed=x.feed)&& !decide (y.site=x.site)
def gN (m:aC) (x:fR) (_:List fR):Bool:=aM x.rack m.racks.length&&aD x.cap 0 1048576
def gw (m:aC) (x:gq) (b:List gq):Bool:=decide (1≤x.a)&&decide (x.a<x.b)&&decide (x.b≤m.sites.length)&&aD x.cap 0 1048576&& !b.any fun y=>decide (y.a=x.a)&&decide (y.b=x.b)
def dK (m:aC):Bool:=
 aM m.sites.length 4&&decide (m.feeds.length≤16)&&decide (m.racks.length≤16)&&aM m.machs.length 16&&decide (m.links.length≤12)&&
 dh (gv m) [] m.racks&&dh (gN m) [] m.machs&&dh (gw m) [] m.links
def bJ (s:ai):Bool:=decide (1≤s.length)&&decide (s.length≤31)&&ew (s.headD 0)&&s.all cT&& !decide (s∈cX)
def di (m:aC):List ai:=m.sites++m.feeds++m.racks.map (·.name)++m.machs.map (·.name)++m.items.map (·.name)
def lo (l:List ai):Bool:=dh (fun s b=>bJ s&& !decide (s∈b)) [] l
def vv (k:Nat) (l:List Int):Bool:=dh (fun n b=>aM n k&&(match b.getLast? with|none=>true|some p=>decide (p<n))) [] l
def eO (m:aC) (l:List Int):Bool:=vv m.machs.length l&&decide (0<l.length)
def dj (m:aC) (x:bQ):Bool:=
 (if x.kind=0 then(decide (x.count=1)||decide (x.count=3)||decide (x.count=5))&&decide (x.count=x.on.length)
  else if x.kind=1 then aD x.count 1 8
  else if x.kind=2 then decide (x.count=1)&&decide (x.on.length=1) else false)&&
 eO m x.on&&aD x.load 0 1048576&&aD x.size 0 1048576&&aD x.share 1 1048576
def jM (m:aC) (n:Int):Int:=((m.items[(n - 1).toNat]?).map (·.kind)).getD 0
def cE (m:aC) (x:aU):Bool:=
 let it:=aM x.item m.items.length
 let z (a b c d:Bool):Bool:=(a||decide (x.other=0))&&(b||decide (x.by_=0))&&(c|| !x.always)&&(d||decide (x.ms=[]))
 if x.kind=0 then it&&decide (jM m x.item=0)&&decide (x.n=0)&&z false false false false
 else if x.kind=1 then it&&aD x.n 0 16&&z false false true false
 else if x.kind=2 then it&&aD x.n 0 16&&aD x.by_ 2 4&&z false true false false
 else if x.kind=3 then it&&eO m x.ms&&decide (x.n=0)&&z false false false true
 else if x.kind=4 then it&&aM x.other m.items.length&& !decide (x.item=x.other)&&decide (x.n=0)&&z true false false false
 else if x.kind=5 then decide (x.item=0)&&aD x.n 0 200&&z false false false false
 else if x.kind=6 then it&&aD x.n 0 16&&z false false false false
 else false
def dQ (m:aC):Bool:=
 dK m&&decide (m.items.length≤8)&&decide (m.rules.length≤40)&&aM m.dark m.sites.length&&aD m.slots 1 16&&aD m.reserve 0 (m.slots - 1)&&aD m.failures 0 7&&
 lo (di m)&&m.items.all (dj m)&&m.rules.all (cE m)
def ee (d:ar) (name:Bool) (least most nums:Nat) (by_ always:Bool):Bool:=
 decide (least≤d.refs.length)&&decide (d.refs.length≤most)&&decide (d.nums.length=nums)&&(by_||decide (d.by_=0))&&(always|| !d.always)&&
 (if name then bJ d.name else decide (d.name=[]))
def lq (d:ar):Bool:=
 match d.kind with
 |0=>ee d true 0 0 0 false false
 |1=>ee d true 0 0 0 false false
 |2=>ee d true 2 2 0 false false
 |3=>ee d true 1 1 1 false false
 |4=>ee d false 2 2 1 false false
 |5=>ee d true 1 16 3 false false
 |6=>ee d true 1 16 4 false false
 |7=>ee d true 1 1 3 false false
 |8=>ee d false 1 1 2 false false
 |9=>ee d false 0 0 0 true false&&decide (1≤d.by_)&&decide (d.by_≤7)
 |10=>ee d false 1 1 0 false false
 |11=>ee d false 1 1 1 false true
 |12=>ee d false 1 1 1 true false&&decide (2≤d.by_)&&decide (d.by_≤4)
 |13=>ee d false 2 17 0 false false
 |14=>ee d false 2 2 0 false false
 |15=>ee d false 0 0 1 false false
 |16=>ee d false 1 1 1 false false
 |_=>false
def dF (d:ar):Bool:=lq d&&d.refs.all bJ&&d.nums.all fun n=>decide (n≤1048576)
abbrev br:=List (ai×Nat×Nat)
def bM (k:Nat):Nat:=if 5≤k∧k≤7 then 5 else if 10≤k then 10 else k
def dR (t:br) (s:ai):Option (Nat×Nat):=(t.find? fun x=>decide (x.1=s)).map (·.2)
def dm:List ar→br→List ar→Except (Nat×Nat) br
 |_,t,[]=> .ok t
 |b,t,d::r=>
  if !dF d then .error (b.length,1)
  else if(!decide (d.name=[])&&(dR t d.name).isSome)||((decide (d.kind=8)||decide (d.kind=9))&&b.any fun x=>decide (x.kind=d.kind)) then .error (b.length,5)
  else dm (b++[d]) (if d.name=[] then t else t++[(d.name,d.kind,((b++[d]).filter fun x=>decide (bM x.kind=bM d.kind)).length)]) r
def lr (d:ar) (i:Nat) (k:Nat):Bool:=
 match d.kind,i with
 |2,0=>decide (k=0)
 |2,1=>decide (k=1)
 |3,0=>decide (k=2)
 |4,0=>decide (k=0)
 |4,1=>decide (k=0)
 |8,0=>decide (k=0)
 |10,0=>decide (k=5)
 |11,0=>decide (bM k=5)
 |12,0=>decide (bM k=5)
 |13,0=>decide (bM k=5)
 |14,0=>decide (bM k=5)
 |14,1=>decide (bM k=5)
 |16,0=>decide (bM k=5)
 |_,_=>decide (k=3)
def fv (t:br) (d:ar):Nat→List ai→Nat
 |_,[]=>0
 |i,s::r=>match dR t s with
  |none=>4
  |some x=>if lr d i x.1 then fv t d (i+1) r else 7
def eh (d:ar):List ai:=if d.kind=5∨d.kind=6 then d.refs else if d.kind=13 then d.refs.drop 1 else[]
def ez (t:br) (d:ar):Nat:=
 let e:=fv t d 0 d.refs
 if e≠0 then e else if !decide (eh d).Nodup then 5 else if(d.kind=4∨d.kind=14)∧d.refs[0]? =d.refs[1]? then 2 else 0
def bE (t:br) (s:ai):Int:=(((dR t s).map (·.2)).getD 0:Nat)
def kf (n:Int):List Int→List Int
 |[]=>[n]
 |a::l=>if n≤a then n::a::l else a::kf n l
def fS (l:List Int):List Int:=l.foldr kf []
def cS (l:List Nat) (k:Nat):Int:=(l.getD k 0:Nat)
def dS (t:br) (d:ar) (kind count:Int):bQ:=
 let n:=d.nums.drop (d.nums.length - 3)
 ⟨d.name,kind,count,cS n 0,cS n 1,cS n 2,fS (d.refs.map (bE t))⟩
def cF (l:List Int) (k:Nat):Int:=l.getD k 0
def gO (t:br) (d:ar):aU:=
 let n:=d.refs.map (bE t)
 ⟨(d.kind:Int) - 10,cF n 0,if d.kind=14 then cF n 1 else 0,cS (d.nums.drop (d.nums.length - 1)) 0,d.by_,d.always,if d.kind=13 then fS (n.drop 1) else[]⟩
def cb (t:br) (m:aC) (d:ar):aC:=
 let n:=d.refs.map (bE t)
 match d.kind with
 |0=>{m with sites:=m.sites++[d.name]}
 |1=>{m with feeds:=m.feeds++[d.name]}
 |2=>{m with racks:=m.racks++[⟨d.name,cF n 0,cF n 1⟩]}
 |3=>{m with machs:=m.machs++[⟨d.name,cF n 0,cS d.nums 0⟩]}
 |4=>{m with links:=m.links++[⟨min (cF n 0) (cF n 1),max (cF n 0) (cF n 1),cS d.nums 0⟩]}
 |5=>{m with items:=m.items++[dS t d 0 n.length]}
 |6=>{m with items:=m.items++[dS t d 1 (cS d.nums 0)]}
 |7=>{m with items:=m.items++[dS t d 2 1]}
 |8=>{m with dark:=cF n 0,slots:=cS d.nums 0,reserve:=cS d.nums 1}
 |9=>{m with failures:=d.by_}
 |_=>{m with rules:=m.rules++[gO t d]}
def fH (t:br):Nat→aC→List ar→Except (Nat×Nat) aC
 |_,m,[]=> .ok m
 |i,m,d::r=>if ez t d≠0 then .error (i,ez t d) else fH t (i+1) (cb t m d) r
def dL (l:List ar):Except (Nat×Nat) aC:=
 match dm [] [] l with
 | .error e=> .error e
 | .ok t=>match fH t 0 {} l with
   | .error e=> .error e
   | .ok m=>if !l.any fun d=>decide (d.kind=8) then .error (l.length,6) else if dQ m then .ok m else .error (l.length,2)
structure aT (w:World):Prop where
 tab:Lib.TabIs prog w "internal/strconv.uint64pow10" .u64 Lib.pow10Tab
 most: ∃m,w.cell? ⟨0,0,none⟩=some (.int .i64 m)
 esyn: ∃tp p,w.cell? ⟨5,0,none⟩=some (.iface tp p)
 erng: ∃tp p,w.cell? ⟨6,0,none⟩=some (.iface tp p)
 size:8≤w.heap.size
theorem aT.below {w w':World} {B:Nat} (h:aT w) (hb:Below B w w') (hB:8≤B):aT w' where
 tab:=by
  have e:w'.var? prog "internal/strconv.uint64pow10" =w.var? prog "internal/strconv.uint64pow10" :=by
   have hg:Tryz.prog.globalNamed "internal/strconv.uint64pow10" =some 1:=by kernel_rfl
   unfold World.var?
   rw[hg]
   simp only[Option.bind_some]
   rw[hb.block _ (by omega)]
  exact e.trans h.tab
 most:=by obtain⟨m,hm⟩:=h.most;exact⟨m,(hb.cell (aF (by decide) hB)).trans hm⟩
 esyn:=by obtain⟨t,p,hm⟩:=h.esyn;exact⟨t,p,(hb.cell (aF (by decide) hB)).trans hm⟩
 erng:=by obtain⟨t,p,hm⟩:=h.erng;exact⟨t,p,(hb.cell (aF (by decide) hB)).trans hm⟩
 size:=aP h.size hb.size
theorem aT.step {w w':World} (h:aT w) (hb:Below w.heap.size w w'):aT w':=h.below hb h.size
theorem qE (n:Int) (hn:aj n) (w:World) (hG:aT w):
 am 59 #[.int .i64 n] w (.string (bs (Lib.itoa n))):=
 (strconv_Itoa n hn.1 hn.2 w hG.tab).mono fun e w' ⟨he,k,os,hw⟩=>⟨he,hw▸Lib.below_grow _ _ (ae _) _ _⟩
theorem oo (n:Int) (hn:aj n) (w:World) (hG:aT w):
 am 109 #[.int .i64 n,.int .i64 10] w (.string (bs (Lib.itoa n))):=
 (strconv_FormatInt_10 n hn.1 hn.2 w hG.tab).mono fun e w' ⟨he,k,os,hw⟩=>⟨he,hw▸Lib.below_grow _ _ (ae _) _ _⟩
theorem CW (s:ByteArray) (hs:s.size≤281474976710656) (v:Int) (h:Lib.atoiAll s.data.toList= .ok v) (w:World):
 am 189 #[.string s] w (.tuple #[.int .i64 v,.nilIface]):=
 (strconv_Atoi_ok s (by omega) v h w).mono fun e w' ⟨he,hw⟩=>⟨he,by
   rcases hw with rfl|⟨t,rfl⟩
   ·exact Below.refl _ _
   ·exact Lib.bytesWorld_below _ _ _⟩
theorem CX (s:ByteArray) (hs:s.size≤281474976710656) (h: ∀v,Lib.atoiAll s.data.toList≠ .ok v) (w:World) (hG:aT w):
 Calls prog 189 #[.string s] w fun e w'=> ∃(v:Int) (t:TypeId) (p:Value),e= .returned (.tuple #[.int .i64 v,.iface t p])∧Below w.heap.size w w':=by
 obtain⟨t1,p1,h1⟩:=hG.esyn
 obtain⟨t2,p2,h2⟩:=hG.erng
 cases hr:Lib.atoiAll s.data.toList with
 |ok v=>exact absurd hr (h v)
 |range=>exact(strconv_Atoi_range s hs hr _ w h2 (.inr ⟨_,_,rfl⟩)).mono fun e w' ⟨N,he,_,_,hb⟩=>⟨_,_,_,he,hb⟩
 |_=>exact(strconv_Atoi_syntax s hs hr _ w h1 (.inr ⟨_,_,rfl⟩)).mono fun e w' ⟨N,he,_,_,hb⟩=>⟨_,_,_,he,hb⟩
theorem CY (s:ByteArray) (hs:s.size≤281474976710656) (v:Int) (h:Lib.parseIntB 64 s.data.toList= .ok v) (w:World):
 am 201 #[.string s,.int .i64 10,.int .i64 64] w (.tuple #[.int .i64 v,.nilIface]):=
 (strconv_ParseInt_10_at64_ok s (by omega) v h w).mono fun e w' ⟨he,hw⟩=>⟨he,by
   rcases hw with rfl|⟨t,rfl⟩
   ·exact Below.refl _ _
   ·exact Lib.bytesWorld_below _ _ _⟩
theorem CZ (s:ByteArray) (hs:s.size≤281474976710656) (h: ∀v,Lib.parseIntB 64 s.data.toList≠ .ok v) (w:World) (hG:aT w):
 Calls prog 201 #[.string s,.int .i64 10,.int .i64 64] w fun e w'=> ∃(v:Int) (t:TypeId) (p:Value),e= .returned (.tuple #[.int .i64 v,.iface t p])∧Below w.heap.size w w':=by
 obtain⟨t1,p1,h1⟩:=hG.esyn
 obtain⟨t2,p2,h2⟩:=hG.erng
 cases hr:Lib.parseIntB 64 s.data.toList with
 |ok v=>exact absurd hr (h v)
 |range=>exact(strconv_ParseInt_10_at64_range s hs hr _ w h2 (.inr ⟨_,_,rfl⟩)).mono fun e w' ⟨N,he,_,_,hb⟩=>⟨_,_,_,he,hb⟩
 |_=>exact(strconv_ParseInt_10_at64_syntax s hs hr _ w h1 (.inr ⟨_,_,rfl⟩)).mono fun e w' ⟨N,he,_,_,hb⟩=>⟨_,_,_,he,hb⟩
theorem oq (s:ByteArray) (w:World) (hG:aT w) (hs:s.size<4294967281):
 Calls prog 29 #[.string s,.string (bs [32])] w fun e w'=> ∃v,e= .returned v∧aL w' w'.heap.size v (Lib.splitB (bs [32]) 0 (Lib.countB s (bs [32])) s)∧(Lib.splitB (bs [32]) 0 (Lib.countB s (bs [32])) s).length=Lib.countB s (bs [32])+1∧Below w.heap.size w w':=by
 obtain⟨m,hm⟩:=hG.most
 refine(strings_Split s (bs [32]) m w hs hm (by decide)).mono fun e w' ⟨he,hw⟩=> ?_
 have hlen:(Lib.splitB (bs [32]) 0 (Lib.countB s (bs [32])) s).length=Lib.countB s (bs [32])+1:=Lib.splitB_all (bs [32]) (by decide) 0 _ s rfl
 have hle:=Lib.countB_le (bs [32]) (by decide) s.size s (ae _)
 exact vw
theorem C0 (v:Value) (xs:List ByteArray) (w:World) (h:aL w w.heap.size v xs) (hN:xs.length≤140737488355328)
 (hlen:(Lib.join (xs.map (·.data.toList)) [32]).length≤140737488355328):
 am 57 #[v,.string (bs [32])] w (.string (bs (Lib.join (xs.map (·.data.toList)) [32]))):=by
 rcases Sl.cases_ h with ⟨h0,A,c,rfl,_⟩|⟨hpos,b,o,c,rfl,h1,h2,hb,hc⟩
 ·have:xs=[]:=by simpa using h0
  subst this
  exact(strings_Join_none A c _ w).mono fun e w' ⟨he,hw⟩=>⟨he,hw▸Below.refl _ _⟩
 ·rw[List.length_map] at h1⊢
  exact strings_Join b o c xs (bs [32]) w (fun j x hj=>hc j _ (by simp[hj])) hb hN h1 hlen
theorem qF (v u:Value) (xs ys:List Int) (w:World) (B:Nat) (hx:aq w B v xs) (hy:aq w B u ys):
 am 203 #[v,u] w (.bool (xs==ys)):=by
 by_cases hnm:xs.length=ys.length
 ·rcases Sl.cases_ hx.1 with ⟨h0,A,c,rfl,_⟩|⟨hpos,b,o,c,rfl,h1,h2,hb,hc⟩
  ·have:xs=[]:=by simpa using h0
   subst this
   obtain⟨A2,c2,rfl,_,_⟩:=hy.1
   have hy0:ys=[]:=List.eq_nil_of_length_eq_zero (by simpa using hnm.symm)
   subst hy0
   exact(slices_Equal_int_empty A A2 c 0 c2 w (by omega)).mono fun e w' ⟨he,hw⟩=>⟨he,hw▸Below.refl _ _⟩
  ·rcases Sl.cases_ hy.1 with ⟨h0,_⟩|⟨hpos',b',o',c',rfl,h1',h2',hb',hc'⟩
   ·simp at h0 hpos;simp[h0] at hnm;simp[hnm] at hpos
   ·rw[List.length_map] at h1 h1'⊢
    rw[List.length_map]
    refine(slices_Equal_int b o xs.length c b' o' ys.length c' xs ys w (ae _) (ae _) (by simp[maxLen] at h2;omega) (by simp[maxLen] at h2';omega) (fun j hj=>hc j _ (by simp[hj])) (fun j hj=>hc' j _ (by simp[hj]))).mono fun e w' ⟨he,q,hw⟩=>⟨?_,hw▸jl (Below.refl _ _) q⟩
    rw[he];simp
 ·obtain⟨A,c,rfl,_,_⟩:=hx.1
  obtain⟨A2,c2,rfl,_,_⟩:=hy.1
  refine(slices_Equal_int_lens A A2 _ c _ c2 w (by simpa using hnm)).mono fun e w' ⟨he,hw⟩=>⟨?_,hw▸Below.refl _ _⟩
  rw[he]
  exact aV (by simp;intro h;exact hnm (by rw[h]))
theorem Sl.form {w:World} {B:Nat} {v:Value} {xs:List Value} (h:Sl w B v xs): ∃A n c,v= .slice A n c∧xs.length=n∧n≤c∧c≤maxLen:=by
 obtain⟨A,c,rfl,h1,h2,_⟩:=h
 exact⟨A,_,c,rfl,rfl,h1,h2⟩
theorem aq.form {w:World} {B:Nat} {v:Value} {l:List Int} (h:aq w B v l): ∃A n c,v= .slice A n c∧l.length=n∧n≤c∧c≤9223372036854775807:=by
 obtain⟨A,n,c,h1,h2,h3,h4⟩:=h.1.form
 exact⟨A,n,c,h1,by simpa using h2,h3,h4⟩
theorem aq.nil_ (w:World) (B:Nat):aq w B (.slice none 0 0) []:=⟨Sl.nil_ w B,by simp⟩
theorem aj.zero:aj 0:=⟨by decide,by decide⟩
theorem aL.form {w:World} {B:Nat} {v:Value} {l:List ByteArray} (h:aL w B v l): ∃A n c,v= .slice A n c∧l.length=n∧n≤c∧c≤9223372036854775807:=by
 obtain⟨A,n,c,h1,h2,h3,h4⟩:=Sl.form h
 exact⟨A,n,c,h1,by simpa using h2,h3,h4⟩
def bd (l:List Int) (k:Nat):Int:=l.getD k 0
def aE (l:List ByteArray) (k:Nat):ByteArray:=l.getD k ByteArray.empty
theorem mD {l:List Int} {k:Nat} (h:k<l.length):bd l k=l[k]:=by simp[bd,List.getD,List.getElem?_eq_getElem h]
theorem qG {l:List ByteArray} {k:Nat} (h:k<l.length):aE l k=l[k]:=by simp[aE,List.getD,List.getElem?_eq_getElem h]
theorem C5 {l l':List Int} (h:l.length=l'.length) (hk: ∀k,k<l.length→bd l k=bd l' k):l=l':=
 List.ext_getElem h fun j h1 h2=>by rw[←mD h1,←mD h2];exact hk j h1
theorem aq.at_ {w:World} {B:Nat} {A:Option Addr} {n c:Nat} {l:List Int} (h:aq w B (.slice A n c) l) (k:Nat) (hk:k<n):
 ∃b o,A=some ⟨b,o,none⟩∧b<B∧(∀j,j<n→w.cell? ⟨b,o+j,none⟩=some (.int .i64 (bd l j))):=by
 obtain⟨A',c',he,h1,h2,h3⟩:=h.1
 exact vy
theorem aL.at_ {w:World} {B:Nat} {A:Option Addr} {n c:Nat} {l:List ByteArray} (h:aL w B (.slice A n c) l) (k:Nat) (hk:k<n):
 ∃b o,A=some ⟨b,o,none⟩∧b<B∧(∀j,j<n→w.cell? ⟨b,o+j,none⟩=some (.string (aE l j))):=by
 obtain⟨A',c',he,h1,h2,h3⟩:=id h
 exact vy
theorem mE (v u:Value) (xs ys:List Int) (w:World) (B:Nat) (hx:aq w B v xs) (hy:aq w B u ys):
 am 37 #[v,u] w (.bool (xs==ys)):=by
 obtain⟨A,n,c,rfl,hl,hc,hm⟩:=hx.form
 obtain⟨A',n',c',rfl,hl',hc',hm'⟩:=hy.form
 by_cases hnn:n=n'
 ·obtain rfl:n=n':=hnn
  have HX:=aa hx;have HY:=aa hy;have HL:=aa hl;have HL':=aa hl'
  clear hx hy hl hl'
  go_enter func37,ntmps37
  go_wp2
  go_loopw [5] (fun i wr=> ∃k:Nat,k≤n∧i= .int .i64 k∧(∀j,j<k→bd xs j=bd ys j)∧∃q,wr=w.drewN q) (fun i _=>n - (intOf i).toNat)
  case atStart=>exact⟨0,aY _,rfl,by omega,0,rfl⟩
  case round=>
   obtain⟨k,hk,rfl,heq,q,rfl⟩:=hrel
   have HE:=aa heq
   clear heq
   by_cases hlt:k<n
   ·obtain⟨b,o,rfl,hb,hcell⟩:=HX.out.at_ k hlt
    obtain⟨b',o',rfl,hb',hcell'⟩:=HY.out.at_ k hlt
    have h1:=hcell k hlt
    have h2:=hcell' k hlt
    clear hcell hcell'
    refine mF fun hI1 hI2=> ?_
    by_cases hv:bd xs k=bd ys k
    ·have hb1:(bd xs k !=bd ys k)=false:=by simp[hv]
     have hstep: ∀j,j<k+1→bd xs j=bd ys j:=fun j hj=>by
      by_cases e:j=k
      ·rw[e];exact hv
      ·exact HE.out j (by omega)
     have HS:=aa hstep
     clear hv hstep
     generalize bd xs k=x at*
     generalize bd ys k=y at*
     go_wp2_with fail
     go_quiet (fail)
     go_wp2
     exact⟨⟨k+1,by omega,by go_num,HS.out,_,rfl⟩,by simp[intOf];omega⟩
    ·have hb1:(bd xs k !=bd ys k)=true:=by simp[hv]
     have HN:Hid (xs≠ys):=fun h=>hv (by rw[h])
     clear hv
     generalize bd xs k=x at*
     generalize bd ys k=y at*
     go_wp2_with fail
     go_quiet (fail)
     go_wp2
     go_ret
     exact⟨aV (by simpa using HN.out),by first|exact jl (Below.refl _ _) _|exact jl (jl (Below.refl _ _) _) _⟩
   ·go_wp2
    go_ret
    refine⟨aV ?_,jl (Below.refl _ _) q⟩
    have hkn:k=n:=by omega
    have:xs=ys:=C5 (by rw[HL.out,HL'.out]) (fun j h1=>HE.out j (by rw[HL.out] at h1;omega))
    simp[this]
 ·have hne:((n:Int)!=n')=true:=by simp;omega
  go_enter func37,ntmps37
  go_wp2
  go_ret
  refine⟨aV ?_,Below.refl _ _⟩
  simp;intro h;subst h;omega
structure ap where
 kind:Int
 a:Int
 b:Int
 c:Int
 ok:Int
 key:ByteArray
 val:Int
 old:Int
 ms:List Int
 ss:List Int
def ap.cells (x:ap) (m s:Value):Array Value:= #[.int .i64 x.kind,.int .i64 x.a,.int .i64 x.b,.int .i64 x.c,.int .i64 x.ok,.string x.key,.int .i64 x.val,.int .i64 x.old,m,s]
theorem ap.cells_def (x:ap) (m s:Value):x.cells m s= #[.int .i64 x.kind,.int .i64 x.a,.int .i64 x.b,.int .i64 x.c,.int .i64 x.ok,.string x.key,.int .i64 x.val,.int .i64 x.old,m,s]:=rfl
structure ap.In (x:ap) (w:World) (B:Nat) (m s:Value):Prop where
 kind:aj x.kind
 a:aj x.a
 b:aj x.b
 c:aj x.c
 ok:aj x.ok
 key:x.key.size≤1000000
 val:aj x.val
 old:aj x.old
 ms:aq w B m x.ms
 ss:aq w B s x.ss
theorem ap.In.below {x:ap} {w w':World} {B B':Nat} {m s:Value} (h:x.In w B m s) (hb:Below B' w w') (hB:B≤B'):x.In w' B m s:=
 ⟨h.kind,h.a,h.b,h.c,h.ok,h.key,h.val,h.old,h.ms.below hb hB,h.ss.below hb hB⟩
theorem ap.In.more {x:ap} {w:World} {B B':Nat} {m s:Value} (h:x.In w B m s) (hB:B≤B'):x.In w B' m s:=
 ⟨h.kind,h.a,h.b,h.c,h.ok,h.key,h.val,h.old,h.ms.more hB,h.ss.more hB⟩
def eY (x y:ap):Bool:=
 (x.kind==y.kind)&&(x.a==y.a)&&(x.b==y.b)&&(x.c==y.c)&&((x.ok==y.ok)&&(x.key.data.toList==y.key.data.toList)&&(x.val==y.val)&&(x.old==y.old))&&(x.ms==y.ms)&&(x.ss==y.ss)
theorem vz (x y:ap) (m s m' s':Value) (w:World) (hx:x.In w w.heap.size m s) (hy:y.In w w.heap.size m' s'):
 am 28 #[.agg (x.cells m s),.agg (y.cells m' s')] w (.bool (eY x y)):=by
 obtain⟨Am,nm,cm,rfl,_,_,_⟩:=hx.ms.form
 obtain⟨As,ns,cs,rfl,_,_,_⟩:=hx.ss.form
 obtain⟨Am',nm',cm',rfl,_,_,_⟩:=hy.ms.form
 obtain⟨As',ns',cs',rfl,_,_,_⟩:=hy.ss.form
 have HX:=aa hx;have HY:=aa hy
 clear hx hy
 unfold ap.cells
 go_enter func28,ntmps28
 have hB0:Below w.heap.size w w:=B0 w
 go_wp2_with(first
  |(go_at_call_of 37 (Value.slice Am nm cm);refine(mE _ _ x.ms y.ms _ w.heap.size (HX.out.ms.below (ac (ac (B0 w) _) _) (ae _)) (HY.out.ms.below (ac (ac (B0 w) _) _) (ae _))).mono ?_;rintro e w1 ⟨rfl,hb1⟩;have hB1:=ag (ac (ac (B0 w) _) _) hb1;obtain⟨hc1,hf1⟩:=ck hb1)
  |(go_at_call_of 37 (Value.slice As ns cs);refine(mE _ _ x.ss y.ss _ w.heap.size (HX.out.ss.below hB1 (ae _)) (HY.out.ss.below hB1 (ae _))).mono ?_;rintro e w2 ⟨rfl,hb2⟩;have hB2:=ag hB1 hb2))
 all_goals go_ret
 all_goals refine⟨aV ?_,?_⟩
 all_goals first
  |exact hB2
  |exact hB1
  |exact ac (ac (B0 w) _) _
  |(simp only[eY,←cD];simp[*])
theorem C6 (x y:ap) (m s m' s':Value) (w:World) (hx:x.In w w.heap.size m s) (hy:y.In w w.heap.size m' s'):
 am 118 #[.agg (x.cells m s),.agg (y.cells m' s')] w (.bool (eY x y)):=by
 obtain⟨Am,nm,cm,rfl,_,_,_⟩:=hx.ms.form
 obtain⟨As,ns,cs,rfl,_,_,_⟩:=hx.ss.form
 obtain⟨Am',nm',cm',rfl,_,_,_⟩:=hy.ms.form
 obtain⟨As',ns',cs',rfl,_,_,_⟩:=hy.ss.form
 have HX:=aa hx;have HY:=aa hy
 clear hx hy
 unfold ap.cells
 go_enter func118,ntmps118
 have hB0:Below w.heap.size w w:=B0 w
 go_wp2_with(first
  |(go_at_call_of 203 (Value.slice Am nm cm);refine(qF _ _ x.ms y.ms _ w.heap.size (HX.out.ms.below (ac (ac (B0 w) _) _) (ae _)) (HY.out.ms.below (ac (ac (B0 w) _) _) (ae _))).mono ?_;rintro e w1 ⟨rfl,hb1⟩;have hB1:=ag (ac (ac (B0 w) _) _) hb1;obtain⟨hc1,hf1⟩:=ck hb1)
  |(go_at_call_of 203 (Value.slice As ns cs);refine(qF _ _ x.ss y.ss _ w.heap.size (HX.out.ss.below hB1 (ae _)) (HY.out.ss.below hB1 (ae _))).mono ?_;rintro e w2 ⟨rfl,hb2⟩;have hB2:=ag hB1 hb2))
 all_goals go_ret
 all_goals refine⟨aV ?_,?_⟩
 all_goals first
  |exact hB2
  |exact hB1
  |exact ac (ac (B0 w) _) _
  |(simp only[eY,←cD];simp[*])
def dT (x:ap):ap:=
 {kind:=x.kind
  a:=if x.kind=4∨x.kind=16∨x.kind=15 then 0 else x.a
  b:=if x.kind=7∨x.kind=10∨x.kind=12∨x.kind=14 then x.b else 0
  c:=if x.kind=14 then x.c else 0
  ok:=if x.kind=10 then x.ok else 0
  key:=if x.kind=10 then x.key else⟨#[]⟩
  val:=if x.kind=10∨x.kind=12 then x.val else 0
  old:=if x.kind=10 then x.old else 0
  ms:=if x.kind=15 then x.ms else[]
  ss:=if x.kind=5 then x.ss else[]}
theorem C8 {x:ap} {w:World} {B:Nat} {m s:Value} (h:x.In w B m s):
 (dT x).In w B (if x.kind=15 then m else .slice none 0 0) (if x.kind=5 then s else .slice none 0 0):=by
 refine⟨h.kind,?_,?_,?_,?_,?_,?_,?_,?_,?_⟩<;>simp only[dT]<;>split<;>first|exact aj.zero|exact h.a|exact h.b|exact h.c|exact h.ok|exact h.key|exact h.val|exact h.old|exact h.ms|exact h.ss|exact aq.nil_ _ _|exact aY _
def iI (c:UInt8):Bool:=decide (33≤c.toNat)&&decide (c.toNat≤126)
def mG (x:ap):Array Value:= #[.int .i64 x.ok,.string x.key,.int .i64 x.val,.int .i64 x.old]
def iJ (s:ByteArray):Bool:=s.data.toList.all iI
theorem C9 {s:ByteArray} (h: ∀k (hk:k<s.size),iI s[k]=true):iJ s=true:=by
 rw[iJ,List.all_eq_true]
 intro c hc
 obtain⟨i,hi,rfl⟩:=List.getElem_of_mem hc
 exact h i (by rw[Array.length_toList] at hi;exact hi)
theorem Da {s:ByteArray} {k:Nat} (hk:k<s.size) (h: ¬iI s[k]=true):iJ s=false:=by
 rw[Bool.eq_false_iff]
 intro ha
 rw[iJ,List.all_eq_true] at ha
 exact h (ha _ (Array.mem_toList_iff.2 (Array.getElem_mem hk)))
theorem qH (c:UInt8):iI c=true↔33≤c.toNat∧c.toNat≤126:=by simp[iI]
def jn (x:ap):Bool:=
 decide (0≤x.ok)&&decide (x.ok≤3)&&decide (1≤x.key.size)&&decide (x.key.size≤31)&&((x.old==0)||(x.ok==2))&&((x.val==0)|| !(x.ok==0))&&iJ x.key
def bp:Nat→List UInt8
 |0=>[100,101,108,105,118,101,114]
 |1=>[100,114,111,112]
 |2=>[100,111,117,98,108,101]
 |3=>[116,105,99,107]
 |4=>[115,108,111,116]
 |5=>[99,114,97,115,104]
 |6=>[114,101,115,116,97,114,116]
 |7=>[102,97,105,108]
 |8=>[105,115,111,108,97,116,101]
 |9=>[106,111,105,110]
 |10=>[114,101,113,117,101,115,116]
 |11=>[114,101,116,114,121]
 |12=>[99,97,108,108]
 |13=>[99,111,109,112,97,99,116]
 |14=>[116,114,97,110,115,102,101,114]
 |15=>[114,101,112,108,97,110]
 |16=>[100,97,114,107]
 |17=>[99,97,108,109]
 |_=>[]
theorem Db (l:List Int) (k:Nat) (h:k<l.length):l.take (k+1)=l.take k++[bd l k]:=by
 rw[List.take_succ_eq_append_getElem h,mD h]
theorem Dc {l:List Int} {k:Nat} (h:k<l.length):bd l k∈l:=by rw[mD h];exact List.getElem_mem h
def cY (w:World) (b:Nat) (x:ap) (m s:Value):Prop:=
 w.cell? ⟨b,0,none⟩=some (.int .i64 x.kind)∧w.cell? ⟨b,1,none⟩=some (.int .i64 x.a)∧w.cell? ⟨b,2,none⟩=some (.int .i64 x.b)∧w.cell? ⟨b,3,none⟩=some (.int .i64 x.c)∧w.cell? ⟨b,4,none⟩=some (.int .i64 x.ok)∧w.cell? ⟨b,5,none⟩=some (.string x.key)∧w.cell? ⟨b,6,none⟩=some (.int .i64 x.val)∧w.cell? ⟨b,7,none⟩=some (.int .i64 x.old)∧w.cell? ⟨b,8,none⟩=some m∧w.cell? ⟨b,9,none⟩=some s
theorem cY.keep {w w':World} {b:Nat} {x:ap} {m s:Value} (h:cY w b x m s) (hk: ∀o,w'.cell? ⟨b,o,none⟩=w.cell? ⟨b,o,none⟩):cY w' b x m s:=by
 unfold cY at h⊢
 simp only[hk]
 exact h
theorem cY.below {w w':World} {b B:Nat} {x:ap} {m s:Value} (h:cY w b x m s) (hb:Below B w w') (hB:b<B):cY w' b x m s:=
 h.keep fun _=>hb.cell hB
theorem cY.new (w:World) (t:TypeId) (x:ap) (m s:Value):cY (w.alloc (.cells (x.cells m s) t)) w.heap.size x m s:=by
 simp[cY,ap.cells]
def jN (n:Int):Prop:=0≤n∧n≤128
def lu (l:List Int) (j:Nat):Prop:=(1≤bd l j∧bd l j≤16)∧(0<j→bd l (j - 1)<bd l j)
instance (n:Int):Decidable (jN n):=by unfold jN;infer_instance
instance (l:List Int) (j:Nat):Decidable (lu l j):=by unfold lu;infer_instance
def gQ (l:List Int):Bool:=(List.range l.length).all fun j=>decide (jN (bd l j))
def jo (l:List Int):Bool:=(List.range l.length).all fun j=>decide (lu l j)
theorem Dd {l:List Int} (h: ∀j,j<l.length→jN (bd l j)):gQ l=true:=by
 rw[gQ,List.all_eq_true];intro j hj;exact decide_eq_true (h j (by simpa using hj))
theorem De {l:List Int} {k:Nat} (hk:k<l.length) (h: ¬jN (bd l k)):gQ l=false:=by
 rw[Bool.eq_false_iff,gQ];intro ha;rw[List.all_eq_true] at ha
 exact h (of_decide_eq_true (ha k (by simpa using hk)))
theorem Df {l:List Int} (h: ∀j,j<l.length→lu l j):jo l=true:=by
 rw[jo,List.all_eq_true];intro j hj;exact decide_eq_true (h j (by simpa using hj))
theorem qI {l:List Int} {k:Nat} (hk:k<l.length) (h: ¬lu l k):jo l=false:=by
 rw[Bool.eq_false_iff,jo];intro ha;rw[List.all_eq_true] at ha
 exact h (of_decide_eq_true (ha k (by simpa using hk)))
def bf (n a b:Int):Bool:=decide (a≤n)&&decide (n≤b)
def fT (x:ap):Bool:=
 if x.kind=0∨x.kind=1∨x.kind=2 then bf x.a 0 1048576
 else if x.kind=3∨x.kind=6∨x.kind=13∨x.kind=5 then bf x.a 1 16
 else if x.kind=4∨x.kind=16∨x.kind=15 then true
 else if x.kind=7 then bf x.a 1 16&&bf x.b 0 1048576
 else if x.kind=8∨x.kind=9 then bf x.a 1 16||bf x.a 101 108
 else if x.kind=10 then bf x.a 1 8&&bf x.b 0 8&&jn x
 else if x.kind=11 then bf x.a 1 8
 else if x.kind=12 then bf x.a 1 8&&bf x.b 1 8
 else if x.kind=14 then bf x.a 1 16&&bf x.c 1 16&&bf x.b 0 8
 else if x.kind=17 then bf x.a 1 200
 else false
def cL (x:ap):Bool:=eY x (dT x)&&decide (x.ss.length≤20)&&gQ x.ss&&jo x.ms&&fT x
def eQ (x:ap):List (List UInt8):=
 if x.ok=0 then[[103,101,116],x.key.data.toList]
 else if x.ok=1 then[[112,117,116],x.key.data.toList,Lib.itoa x.val]
 else if x.ok=2 then[[99,97,115],x.key.data.toList,Lib.itoa x.old,Lib.itoa x.val]
 else[[97,100,100],x.key.data.toList,Lib.itoa x.val]
def bF (x:ap):List (List UInt8):=
 if x.kind=4∨x.kind=16 then[]
 else if x.kind=15 then x.ms.map Lib.itoa
 else if x.kind=5 then Lib.itoa x.a::x.ss.map Lib.itoa
 else if x.kind=7 then[Lib.itoa x.a,Lib.itoa x.b]
 else if x.kind=14 then[Lib.itoa x.a,Lib.itoa x.b,Lib.itoa x.c]
 else if x.kind=12 then[Lib.itoa x.a,Lib.itoa x.b,Lib.itoa x.val]
 else if x.kind=10 then[Lib.itoa x.a,Lib.itoa x.b]++eQ x
 else[Lib.itoa x.a]
def gR (x:ap):List UInt8:=Lib.join (bp x.kind.toNat::bF x) [32]
theorem aq.lit (W:World) (l:List Int) (hl: ∀x∈l,aj x) (hn:l.length≤1000) (t:TypeId):
 aq (W.alloc (.cells (l.map (Value.int .i64)).toArray t)) (W.alloc (.cells (l.map (Value.int .i64)).toArray t)).heap.size (.slice (some ⟨W.heap.size,0,none⟩) l.length l.length) l:=by
 exact vB
theorem aq.of1 {W:World} {h:Nat} {a:Int} (hc:W.cell? ⟨h,0,none⟩=some (.int .i64 a)) (hh:h<W.heap.size) (ha:aj a):aq W W.heap.size (.slice (some ⟨h,0,none⟩) 1 1) [a]:=
 ⟨⟨_,1,rfl,ae _,by simp[maxLen],fun _=>⟨h,0,rfl,hh,fun j u hj=>by
   match j,hj with
   |0,hj=>simpa using(hc.trans (by simpa using hj))⟩⟩,by simpa using ha⟩
theorem aq.of2 {W:World} {h:Nat} {a b:Int} (hc:W.cell? ⟨h,0,none⟩=some (.int .i64 a)) (hc1:W.cell? ⟨h,1,none⟩=some (.int .i64 b)) (hh:h<W.heap.size) (ha:aj a) (hb:aj b):aq W W.heap.size (.slice (some ⟨h,0,none⟩) 2 2) [a,b]:=
 ⟨⟨_,2,rfl,ae _,by simp[maxLen],fun _=>⟨h,0,rfl,hh,fun j u hj=>by
   match j,hj with
   |0,hj=>simpa using(hc.trans (by simpa using hj))
   |1,hj=>simpa using(hc1.trans (by simpa using hj))⟩⟩,by simpa using⟨ha,hb⟩⟩
theorem lv {W w1:World} (hb:Below W.drew.heap.size W.drew w1):(∀b o,b<W.heap.size→w1.cell? ⟨b,o,none⟩=W.cell? ⟨b,o,none⟩)∧(∀b o,b<W.heap.size→w1.frozen? ⟨b,o,none⟩=W.frozen? ⟨b,o,none⟩):=
 ⟨fun b o h=>hb.cell (p:=⟨b,o,none⟩) h,fun b o h=>hb.frozen (p:=⟨b,o,none⟩) h⟩
def ot (x:ap):List UInt8:=if cL x then gR x else[]
theorem ou {x:ap} (h:fT x=true):0≤x.kind∧x.kind≤17:=by
 by_cases hk:0≤x.kind∧x.kind≤17
 ·exact hk
 ·exfalso
  have:fT x=false:=by
   unfold fT
   repeat rw[if_neg (by omega)]
  rw[this] at h;cases h
theorem ow {x:ap} (h:cL x=true):fT x=true:=by
 simp only[cL,Bool.and_eq_true] at h;exact h.2
theorem Dg {n a b:Int} (h:n<a):bf n a b=false:=by simp[bf];omega
theorem ox {n a b:Int}:bf n a b=true↔a≤n∧n≤b:=by simp[bf]
theorem io (n:Int) (w:World):Calls prog 80 #[.int .i64 n] w fun e w'=>e= .returned (.bool (bf n 1 16))∧w'=w:=by
 go_enter func80,ntmps80
 go_wp2
 all_goals (go_ret;exact⟨aV (by simp[bf];try omega),rfl⟩)
theorem mH (n:Int) (w:World):Calls prog 81 #[.int .i64 n] w fun e w'=>e= .returned (.bool (bf n 1 8))∧w'=w:=by
 go_enter func81,ntmps81
 go_wp2
 all_goals (go_ret;exact⟨aV (by simp[bf];try omega),rfl⟩)
theorem qJ (n:Int) (w:World):Calls prog 98 #[.int .i64 n] w fun e w'=>e= .returned (.bool (bf n 0 8))∧w'=w:=by
 go_enter func98,ntmps98
 go_wp2
 all_goals (go_ret;exact⟨aV (by simp[bf];try omega),rfl⟩)
theorem oy (n:Int) (w:World):Calls prog 83 #[.int .i64 n] w fun e w'=>e= .returned (.bool (bf n 0 1048576))∧w'=w:=by
 go_enter func83,ntmps83
 go_wp2
 all_goals (go_ret;exact⟨aV (by simp[bf];try omega),rfl⟩)
theorem Dh (n:Int) (w:World):Calls prog 85 #[.int .i64 n] w fun e w'=>e= .returned (.bool (bf n 1 200))∧w'=w:=by
 go_enter func85,ntmps85
 go_wp2
 all_goals (go_ret;exact⟨aV (by simp[bf];try omega),rfl⟩)
theorem Di (n:Int) (w:World):Calls prog 88 #[.int .i64 n] w fun e w'=>e= .returned (.bool (!bf n 0 128))∧w'=w:=by
 go_enter func88,ntmps88
 go_wp2
 all_goals (go_ret;exact⟨aV (by rw[Bool.eq_iff_iff];simp[bf];try omega),rfl⟩)
theorem vC (n:Int) (hn:aj n) (w:World):Calls prog 79 #[.int .i64 n] w fun e w'=>e= .returned (.bool (bf n 1 16||bf n 101 108))∧w'=w:=by
 have hcl:bf (n - 100) 1 8=bf n 101 108:=by simp only[bf];congr 1<;>exact decide_eq_decide.2 (by omega)
 obtain⟨h1,h2⟩:=hn
 by_cases hm:bf n 1 16=true
 ·go_enter func79,ntmps79
  go_wp2_with(go_at_call 80;refine(io _ _).mono ?_;rintro e w1 ⟨rfl,rfl⟩)
  go_ret
  exact⟨aV (by simp[hm]),rfl⟩
 ·have hm':bf n 1 16=false:=by simpa using hm
  clear hm
  by_cases hs: -9223372036854775808≤n - 100
  ·go_enter func79,ntmps79
   go_wp2_with(first|(go_at_call 80;refine(io _ _).mono ?_;rintro e w1 ⟨rfl,rfl⟩)|(go_at_call 81;refine(mH _ _).mono ?_;rintro e w2 ⟨rfl,rfl⟩))
   go_ret
   exact⟨aV (by simp[hm',hcl]),rfl⟩
  ·have hf:bf (n - 100) 1 8=false:=Dg (by omega)
   have hf2:bf (wrap64 (n - 100)) 1 8=false:=by
    have:wrap64 (n - 100)=n - 100+18446744073709551616:=by unfold wrap64;omega
    rw[this];simp[bf];omega
   go_enter func79,ntmps79
   go_wp2_with(first|(go_at_call 80;refine(io _ _).mono ?_;rintro e w1 ⟨rfl,rfl⟩)|(go_at_call 81;refine(mH _ _).mono ?_;rintro e w2 ⟨rfl,rfl⟩))
   go_ret
   exact⟨aV (by simp[hm',←hcl,hf,hf2]),rfl⟩
theorem Dj {w w':World} {base:Nat} {e:TypeId} {sz:Nat} {v:Value} {n:Nat} {xs:List Value} (h:w.ownsRow base e sz v n xs) (hb:Below w.heap.size w w'):w'.ownsRow base e sz v n xs:=by
 obtain⟨hl,h⟩:=h
 refine⟨hl,?_⟩
 rcases h with h|⟨g,cap,cur,hv,hg,hh,hrest⟩
 ·exact .inl h
 ·refine .inr ⟨g,cap,cur,hv,hg,?_,hrest⟩
  have hlt:g<w.heap.size:=by
   rcases Nat.lt_or_ge g w.heap.size with h|h
   ·exact h
   ·rw[Array.getElem?_eq_none h] at hh;cases hh
  rw[hb.block g hlt];exact hh
theorem qK:(Tryz.prog.info? 9).map (fun i=>(i.zero,i.size,i.bytes))=some (some (.string ⟨#[]⟩),1,16):=by kernel_rfl
def bo (w:World) (base:Nat) (v:Value) (l:List ByteArray):Prop:=w.ownsRow base 9 1 v l.length (l.map Value.string)
theorem bo.below {w w':World} {base:Nat} {v:Value} {l:List ByteArray} (h:bo w base v l) (hb:Below w.heap.size w w'):bo w' base v l:=Dj h hb
theorem bo.slS {w:World} {base:Nat} {v:Value} {l:List ByteArray} (h:bo w base v l):aL w w.heap.size v l:=Sl.of_own h
theorem bo.nil_ (w:World) (base:Nat):bo w base (.slice none 0 0) []:=⟨rfl,.inl ⟨rfl,rfl⟩⟩
theorem bo.alloc {w:World} {base:Nat} {v:Value} {l:List ByteArray} (h:bo w base v l) (o:Obj):(w.alloc o).ownsRow base 9 1 v l.length (l.map Value.string):=World.ownsRow.alloc h o
theorem bo.snoc {w:World} {base:Nat} {v:Value} {l:List ByteArray} {x:ByteArray} (h:w.ownsRow base 9 1 v (l.length+1) (l.map Value.string++[Value.string x])):bo w base v (l++[x]):=by
 unfold bo;rw[List.length_append,List.map_append];exact h
theorem bo.grown {a w w':World} {v:Value} {l:List ByteArray} (h:bo w a.heap.size v l) (hb:Below a.heap.size a w) (hg:w.grownBy w' v.ownBlock):Below a.heap.size a w':=
 hb.grown hg hb.size fun k hk=>(World.ownsRow.lt h k hk).1
theorem Dk (x:ByteArray): ∀u∈[Value.string x],u.oneCell'=true:=by simp[Value.oneCell']
def eZ (n:Int):ByteArray:=bs (Lib.itoa n)
theorem jO (v:Value) (l:List Int) (w:World) (hG:aT w) (h:aq w w.heap.size v l) (hl:l.length≤100000):
 Calls prog 58 #[v] w fun e w'=> ∃u,e= .returned u∧bo w' w.heap.size u (l.map eZ)∧Below w.heap.size w w':=by
 obtain⟨A,n,c,rfl,hn,hc,hm⟩:=h.form
 obtain⟨i0,hi,hz0,hz1,hz2⟩:=info_parts qK
 have HL:=aa hn
 have H:=aa h
 have HG:=aa hG
 have hn':n≤100000:=by omega
 clear h hn hl hG
 go_enter func58,ntmps58
 go_wp2_with fail
 go_loopw [3,8] (fun s i wr=> ∃k:Nat,k≤n∧i= .int .i64 k∧bo wr w.heap.size s ((l.take k).map eZ)∧Below w.heap.size w wr) (fun _ i _=>n - (intOf i).toNat)
 case atStart=>exact⟨0,aY _,rfl,bo.nil_ _ _,B0 w⟩
 case round=>
  obtain⟨k,hk,rfl,hown,hb⟩:=hrel
  have HO:=aa hown
  clear hown
  by_cases hlt:k<n
  ·obtain⟨b,o,rfl,hbB,hcell⟩:=(H.out.below hb (ae _)).at_ k hlt
   have h1:=hcell k hlt
   clear hcell
   have hI:aj (bd l k):=H.out.2 _ (Dc (by rw[HL.out];exact hlt))
   go_wp2_with(first
    |(go_at_call 59;refine(qE _ hI _ (HG.out.step hb)).mono ?_;rintro e w1 ⟨rfl,hb1⟩;have hO1:=HO.out.below hb1)
    |(at_builtin;refine wpList_append_own _ rfl (.tmp 12) (.tmp 15) _ rfl w.heap.size 9 i0 _ 1 16 underlying22 hi hz0 hz1 hz2 rfl (by decide) _ _ _ rfl (hO1.alloc _) ⟨w1.heap.size,0,none⟩ 1 1 [.string (bs (Lib.itoa (bd l k)))] rfl rfl (cell_one_new _ _ _) (Dk _) (by simp[maxLen];omega) (by simp;omega) (aP hb.size (by have:=hb1.size;simp;omega)) ?_;intro v' w2 hown' hgrow _))
   refine⟨⟨k+1,by omega,by go_num,?_,(hO1.below (ac (B0 _) _)).grown (ac (ag hb hb1) _) hgrow⟩,by simp[intOf];omega⟩
   rw[Db l k (by rw[HL.out];exact hlt),List.map_append]
   exact bo.snoc hown'
  ·go_wp2_with fail
   go_ret
   exact⟨_,rfl,by rw[List.take_of_length_le (by rw[HL.out];omega)] at HO;exact HO.out,hb⟩
end
end Go.Proofs.YthnkonlbfogkgaaGreatDoor
