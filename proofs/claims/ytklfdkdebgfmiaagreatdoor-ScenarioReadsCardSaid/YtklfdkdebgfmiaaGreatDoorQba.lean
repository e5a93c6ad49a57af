/- A part of the proof. -/
import Derived.Test.YtklfdkdebgfmiaaGreatDoorQa
set_option linter.defProp false
set_option linter.unusedVariables false
set_option linter.unusedSimpArgs false
set_option maxRecDepth 100000
set_option maxHeartbeats 32000000
open Option renaming none->Wr,some->Ws
open Decidable renaming decide->Wt
open Go renaming World->Wu,Value->Wv,Calls->WJ,TypeId->WQ,maxLen->Xe,undef->XE,Oper->XH,Ending->X0,Addr->X8
open Bool renaming false->Ww,true->Wz
open List renaming range->Xs
open Go.RowKit renaming Hid->WA
open Go.Lib renaming itoa->WB,decDigits->WV,countB->XM
open Go.Proofs renaming intOf->WS
open Go.Proofs.Tryz renaming prog->WH
open Go.Value renaming int->WK,string->WM,slice->Yb,bool->Yc,agg->Ye,pointer->Yf
open Go.World renaming setCell->XD,cell?->X3
open Go.IntKind renaming i64->Xr
open Go.Region renaming Mode->X6
open Go.Ending renaming returned->Xz
open Go.Obj renaming cells->Yd
namespace Go.Proofs.YtklfdkdebgfmiaaGreatDoor
section
open Go Go.RowKit Go.Proofs.Tryz
def Sl (w:Wu) (B:Nat) (v:Wv) (xs:List Wv):Prop:=
 ∃A c,v=Yb A xs.length c/\xs.length<=c/\c<=Xe/\(xs≠[]->∃b o,A=Ws ⟨b,o,Wr⟩/\b<B/\∀(j:Nat) u,xs[j]? =Ws u->w.cell? ⟨b,o+j,Wr⟩=Ws u)
section
variable {w w':Wu} {B B':Nat} {v:Wv} {xs:List Wv}
def Sl.keep (h:Sl w B v xs) (g: ∀b o,b<B->w'.cell? ⟨b,o,Wr⟩=w.cell? ⟨b,o,Wr⟩):Sl w' B v xs:=by obtain⟨A,c,rfl,h1,h2,h3⟩:=h;refine⟨A,c,rfl,h1,h2,λy=> ?_⟩;obtain⟨b,o,rfl,hb,hc⟩:=h3 y;exact⟨b,o,rfl,hb,λj u z=>(g _ _ hb).trans (hc j u z)⟩
def Sl.more (h:Sl w B v xs) (j:B<=B'):Sl w B' v xs:=by obtain⟨A,c,rfl,h1,h2,h3⟩:=h;refine⟨A,c,rfl,h1,h2,λg=> ?_⟩;obtain⟨b,o,rfl,hb,hc⟩:=h3 g;exact⟨b,o,rfl,by omega,hc⟩
def Sl.below (h:Sl w B v xs) (c:Below B w w'):Sl w' B v xs:=h.keep λb o g=>c.cell (p:=b o Wr) g
def Sl.belowM {B₂:Nat} (h:Sl w B v xs) (j:Below B₂ w w') (g:B<=B₂):Sl w' B v xs:=h.keep λb o y=>j.cell (p:=b o Wr) (bq y g)
def Sl.nil_ (w:Wu) (B:Nat):Sl w B (Yb Wr 0 0) []:=⟨Wr,0,rfl,by simp,by simp,λh=>absurd rfl h⟩
def Sl.cases_ (h:Sl w B v xs):(xs=[]/\∃A c,v=Yb A 0 c/\c<=Xe)\/
 (0<xs.length/\∃b o c,v=Yb (Ws ⟨b,o,Wr⟩) xs.length c/\xs.length<=c/\c<=Xe/\b<B/\∀(j:Nat) u,xs[j]? =Ws u->w.cell? ⟨b,o+j,Wr⟩=Ws u):=by
 obtain⟨A,c,rfl,h1,h2,h3⟩:=h;by_cases g:xs=[]
 .subst g;exact .inl ⟨rfl,A,c,rfl,h2⟩
 .obtain⟨b,o,rfl,hb,hc⟩:=h3 g;exact .inr ⟨List.length_pos_iff.2 g,b,o,c,rfl,h1,h2,hb,hc⟩
def Sl.of_own {base:Nat} {e:WQ} {n:Nat} (h:w.ownsRow base e 1 v n xs):Sl w w v xs:=by
 have y:xs.length=n:=by simpa using h.1
 by_cases C:0<n
 .obtain⟨g,cap,hv,_,ar⟩:=h.form C;have A:n<=cap/\cap<=maxLen:=by
   exact ab0
  subst hv;refine⟨_,cap,by rw[y],by omega,A.2,λ_=>⟨g,0,rfl,ar,λj u D=> ?_⟩⟩;have:=h.cells (g:=g) rfl j u D;by_cases c:j=0
  .subst c;simpa[Addr.add] using this
  .simpa[Addr.add,c] using this
 .have z:n=0:=by omega
  subst z;have hx:xs=[]:=X7 y;subst hx;rcases h.2 with ⟨rfl,_⟩|⟨g,cap,_,rfl,_,_,h1,h2,_⟩
  .exact Sl.nil_ _ _
  .exact⟨_,cap,rfl,by simp,h2,λh=>absurd rfl h⟩
end
def gw {W c:Wu} (g:Below W W c):(∀b o,b<W.heap.size->c.cell? ⟨b,o,Wr⟩=W.cell? ⟨b,o,Wr⟩)/\(∀b o,b<W.heap.size->c.frozen? ⟨b,o,Wr⟩=W.frozen? ⟨b,o,Wr⟩):=
 ⟨λb o h=>g.cell (p:=⟨b,o,Wr⟩) h,λb o h=>g.frozen (p:=⟨b,o,Wr⟩) h⟩
def BD {B:Nat} {a w:Wu} (h:Below B a w) (n:Nat):Below B a (w.drewN n):=⟨h.os,h.tape,h.output,h.size,h.block⟩
def L' {B:Nat} {a w:Wu} (h:Below B a w):Below B a w.drew:=⟨h.os,h.tape,h.output,h.size,h.block⟩
def af (w:Wu):Below w w w:=XA _ _
def ae {a w:Wu} (h:Below a a w) (o:Obj):Below a a (w.alloc o):=h.alloc h.size o
def cF {a w:Wu} (h:Below a a w) {p:X8} (c:a.heap.size<=p.block) (u:Wv):Below a a (w.setCell p u):=h.setCell c u
def aX {a w:Wu} (h:Below a a w):Below a a w.drew:=⟨h.os,h.tape,h.output,h.size,h.block⟩
def zw {a w:Wu} (h:Below a a w) (n:Nat):Below a a (w.drewN n):=BD h n
def ai {a w w':Wu} (h:Below a a w) (k:Below w w w'):Below a a w':=h.trans (k.mono h.size)
def kc {w W:Wu} {p:X8} {v:Wv} (h:Below w w W) (e:w.cell? p=Ws v):W.cell? p=Ws v:=(h.cell (bP _ _ e)).trans e
def jM {W g:Wu} {n:Nat} (j:Below W W g) (h:n<W.heap.size):n<g.heap.size:=bq h j.size
def aK (n:Int):Prop:= -9223372036854775808<=n/\n<=9223372036854775807
def aW (w:Wu) (B:Nat) (v:Wv) (l:List Int):Prop:=Sl w B v (l.map (WK .i64))/\∀x∈l,aK x
def cD (w:Wu) (B:Nat) (v:Wv) (l:List ByteArray):Prop:=Sl w B v (l.map WM)
def aW.below {w w':Wu} {B B₂:Nat} {v:Wv} {l:List Int} (h:aW w B v l) (g:Below B₂ w w') (c:B<=B₂):aW w' B v l:=⟨h.1.belowM g c,h.2⟩
def aW.more {w:Wu} {B B':Nat} {v:Wv} {l:List Int} (h:aW w B v l) (c:B<=B'):aW w B' v l:=⟨h.1.more c,h.2⟩
def cD.below {w w':Wu} {B B₂:Nat} {v:Wv} {l:List ByteArray} (h:cD w B v l) (g:Below B₂ w w') (c:B<=B₂):cD w' B v l:=Sl.belowM h g c
def cD.more {w:Wu} {B B':Nat} {v:Wv} {l:List ByteArray} (h:cD w B v l) (c:B<=B'):cD w B' v l:=Sl.more h c
def Mc {P:Program} {f:FuncId} {args:Array Wv} {w:Wu} {a n:Nat} {v:Wv}
 (h:WJ P f args (w.drewN (a+n)) λe w'=>e=Xz v/\w'=w.drewN (a+n)):
 WJ P f args (w.drewN (a+n)) λe c=>e=Xz v/\∃m,c=w.drewN (a+m):=
 h.mono λ_ _ ⟨g,hm⟩=>⟨g,n,hm⟩
def bs (l:List UInt8):ByteArray:=⟨l.toArray⟩
def gI (l:List UInt8):(bs l).data.toList=l:=by simp[bs]
def kJ (l:List UInt8):(bs l).size=l.length:=by simp[bs,ByteArray.size]
def nB (s:ByteArray):bs s.data.toList=s:=by cases s;simp[bs]
def jr (s:ByteArray):s.toList=s.data.toList:=by exact ByteArray.toList_eq s
def Fv (a b:List UInt8):bs a++bs b=bs (a++b):=by exact ByteArray.ext rfl
def dp0 {a b:ByteArray} (h:a=b):Xz (WM a)=Xz (WM b):=by rw[h]
def cE {a b:Bool} (h:a=b):Xz (Yc a)=Xz (Yc b):=by rw[h]
def Mf (n:Int) (l:List UInt8) (k:Int):Prop:=
 (l=[]/\k=n)\/(l≠[]/\WV n.natAbs=(if k=0 then[] else WV k.natAbs)++l)
def Mf.len {n k:Int} {l:List UInt8} (g:aK n) (h:Mf n l k):l.length<=20:=by
 have c:(WV n.natAbs).length<=20:=by rw[Lib.decDigits_length];exact Lib.nDigits_le20 _ (by obtain⟨h1,h2⟩:=g;omega)
 rcases h with ⟨rfl,_⟩|⟨_,h⟩
 .simp
 .rw[h] at c;simp at c;omega
def Mf.step {n k:Int} {l:List UInt8} (h:Mf n l k) (y:l=[]\/k≠0):
 Mf n (UInt8.ofNat (48+k.natAbs%10)::l) (k.tdiv 10):=by
 have key:WV k.natAbs=(if k.tdiv 10=0 then[] else WV (k.tdiv 10).natAbs)++[UInt8.ofNat (48+k.natAbs%10)]:=by
  have e:(k.tdiv 10).natAbs=k.natAbs / 10:=by rw[Int.natAbs_tdiv];rfl
  have g:k.tdiv 10=0↔k.natAbs<10:=by rw[<-Int.natAbs_eq_zero,e];omega
  rw[e,WV];by_cases c:k.natAbs<10
  .rw[dif_pos c,if_pos (g.2 c),Nat.mod_eq_of_lt c];rfl
  .rw[dif_neg c,if_neg (λh=>c (g.1 h))]
 refine .inr ⟨by simp,?_⟩;rcases h with ⟨rfl,rfl⟩|⟨z,h⟩
 .exact key
 .have j:k≠0:=y.resolve_left z;rw[h,if_neg j,key];simp
def Wa (n a b:Int) (w:Wu):
 WJ WH 70 #[n,a,b] w λe w'=>e=Xz (Yc (Wt (a<=n)&&Wt (n<=b)))/\w=w':=by
 by_cases h:a<=n
 .go_enter func70,ntmps70
  go_wp2
  go_ret;exact⟨by simp[h],rfl⟩
 .go_enter func70,ntmps70
  go_wp2
  go_ret;exact⟨by simp;omega,rfl⟩
def aj (b:Nat):Value:=Yf (Ws b)
def bm (g:Nat) (caps:Array Wv):Value:= .func (.func g) #[] caps
def dp (g:Nat):Prop:= ∀args w,(callFunc g args).run WH w= .ok (.enter g args) w
abbrev ak:=List UInt8
def ig (c:UInt8):Bool:=c==32||c==9||c==10||c==13
def kL (c:UInt8):Bool:=Wt (97<=c.toNat)&&Wt (c.toNat<=122)
def bT (c:UInt8):Bool:=Wt (48<=c.toNat)&&Wt (c.toNat<=57)
def cX (c:UInt8):Bool:=kL c||bT c||c==95
def gy (c:UInt8):Bool:=kL c||c==95
def fX (c:UInt8):Bool:= !(c==10)
def Mg (p:UInt8->Bool) (s:ak):(s.dropWhile p).length<=s.length:=by
 induction s with
 |nil=>simp
 |cons c r ih=>rw[List.dropWhile_cons];split<;>simp<;>omega
def bV (s:ak):ak:=
 match h:s.dropWhile ig with
 |[]=>[]
 |c::r=>if c=35 then bV (r.dropWhile fX) else c::r
termination_by s.length
decreasing_by
 have h1:=Mg ig s;have h2:=Mg fX r;rw[h] at h1;simp at h1⊢
 omega
def dH:List ak:=[
 [97,108,119,97,121,115],
 [98,101,102,111,114,101],
 [98,121],
 [99,97,112,97,99,105,116,121],
 [100,97,114,107],
 [100,105,115,116,117,114,98],
 [102,97,105,108,117,114,101,115],
 [102,101,101,100],
 [103,114,111,117,112],
 [105,110],
 [106,111,98],
 [107,101,101,112],
 [108,105,110,107],
 [108,111,97,100],
 [109,97,99,104,105,110,101],
 [111,110],
 [111,110,108,121],
 [111,114,100,101,114],
 [112,111,111,108],
 [113,117,111,114,117,109],
 [114,97,99,107],
 [114,101,115,101,114,118,101],
 [115,104,97,114,101],
 [115,105,108,101,110,99,101],
 [115,105,116,101],
 [115,105,122,101],
 [115,108,111,116,115],
 [115,112,114,101,97,100]]
structure e_ where
 kind:Nat
 text:ak
 n:Nat
 pos:Nat
def mr:Nat->ak->Option Nat
 |a,[]=>Ws a
 |a,c::r=>let b:=10*a+(c.toNat - 48);if 1048576<b then Wr else mr b r
def Aj (s:ak):Except Nat (Nat×ak×Nat):=
 let t:=s.takeWhile cX
 if 31<t.length then .error 8 else if t∈dH then .ok (2,t,0) else .ok (1,t,0)
def yK (s:ak):Except Nat (Nat×ak×Nat):=
 let t:=s.takeWhile bT
 if(1<t.length/\s.head?=Ws 48)\/((s.drop t.length).takeWhile gy)≠[] then .error 3
 else match mr 0 t with
  |none=> .error 2
  |some n=> .ok (3,t,n)
def tok (s:ak):Except Nat (Nat×ak×Nat):=
 match s with
 |[]=> .error 3
 |c::r=>if kL c then Aj (c::r) else if bT c then yK (c::r) else if c=59\/c=44 then .ok (4,[c],0) else .error 3
def Db (s:ak):(bV s).length<=s.length:=by
 fun_induction bV s with
 |case1 s h=>simp
 |case2 s r h ih=>have g:=Mg ig s;have j:=Mg fX r;rw[h] at g;simp at g;omega
 |case3 s c r h hc=>have g:=Mg ig s;rw[h] at g;exact g
def gJ (len:Nat) (s:ak):Except (Nat×Nat) (List e_):=
 match s with
 |[]=> .ok [⟨0,[],0,len⟩]
 |c::r=>match tok (c::r) with
  | .error e=> .error (len - (r.length+1),e)
  | .ok (k,t,n)=>(gJ len (bV (r.drop (t.length - 1)))).map (⟨k,t,n,len - (r.length+1)⟩:: ·)
termination_by s.length
decreasing_by
 have h1:=Db (r.drop (t.length - 1));simp at h1⊢
 omega
def nC (s:ak):Except (Nat×Nat) (List e_):=if 16384<s.length then .error (0,8) else gJ s.length (bV s)
structure au where
 kind:Nat:=0
 name:ak:=[]
 refs:List ak:=[]
 nums:List Nat:=[]
 by_:Nat:=0
 always:Bool:=Ww
structure PS where
 ts:List e_
 e:Nat
 d:au
def PS.head (p:PS):e_:=p.ts.headD ⟨0,[],0,0⟩
def PS.fail (p:PS) (e:Nat):PS:=if p.e=0 then {p with e:=e} else p
def PS.take (p:PS) (k:Nat) (l:List ak):PS×e_:=
 if p.e≠0\/p.head.kind≠k\/(l≠[]/\p.head.text∉l) then(p.fail 3,⟨0,[],0,0⟩) else({p with ts:=p.ts.tail},p.head)
def PS.comma (p:PS):PS×Bool:=
 if p.e≠0\/p.head.kind≠4\/p.head.text≠[44] then(p,Ww) else((p.take 4 []).1,Wz)
def PS.ref (p:PS):PS:=let q:=p.take 1 [];{q.1 with d:={q.1.d with refs:=q.1.d.refs++[q.2.text]}}
def PS.number (p:PS):PS:=let q:=p.take 3 [];{q.1 with d:={q.1.d with nums:=q.1.d.nums++[q.2.n]}}
def iD:ak:=[97,108,119,97,121,115]
def yL:ak:=[98,101,102,111,114,101]
def yM:ak:=[98,121]
def yN:ak:=[99,97,112,97,99,105,116,121]
def Po:ak:=[100,97,114,107]
def Pp:ak:=[100,105,115,116,117,114,98]
def Pq:ak:=[102,97,105,108,117,114,101,115]
def fq:ak:=[102,101,101,100]
def Pr:ak:=[103,114,111,117,112]
def nD:ak:=[105,110]
def PI:ak:=[106,111,98]
def PJ:ak:=[107,101,101,112]
def PK:ak:=[108,105,110,107]
def ka:ak:=[108,111,97,100]
def mT:ak:=[109,97,99,104,105,110,101]
def el:ak:=[111,110]
def PL:ak:=[111,110,108,121]
def PM:ak:=[111,114,100,101,114]
def PN:ak:=[112,111,111,108]
def PO:ak:=[113,117,111,114,117,109]
def fe:ak:=[114,97,99,107]
def ym:ak:=[114,101,115,101,114,118,101]
def jX:ak:=[115,104,97,114,101]
def PP:ak:=[115,105,108,101,110,99,101]
def jB:ak:=[115,105,116,101]
def jY:ak:=[115,105,122,101]
def yn:ak:=[115,108,111,116,115]
def PQ:ak:=[115,112,114,101,97,100]
def PS.comma_lt (p:PS) (h:p.comma.2=Wz):p.comma.1.ts.length<p.ts.length:=by
 unfold PS.comma at*
 split at h
 .cases h
 .rename_i c;rw[if_neg c];unfold PS.take;rw[if_neg (by simp;simp at c;exact⟨c.1,c.2.1⟩)];cases nX:p.ts with
  |nil=>simp[PS.head,nX] at c
  |cons a l=>simp
def PS.take_le (p:PS) (k:Nat) (l:List ak):(p.take k l).1.ts.length<=p.ts.length:=by
 unfold PS.take PS.fail;split
 .dsimp only;split<;>simp
 .simp
def PS.ref_le (p:PS):p.ref.ts.length<=p.ts.length:=by unfold PS.ref;exact PS.take_le p 1 []
def PS.fail_ts (p:PS) (e:Nat):(p.fail e).ts=p.ts:=TM
def PS.listGo (n:Nat) (p:PS):PS:=
 if h:p.comma.2=Wz then
  PS.listGo (n+1) (if n=16/\p.comma.1.head.kind=1 then p.comma.1.fail 8 else p.comma.1).ref
 else p.comma.1
termination_by p.ts.length
decreasing_by
 have h1:=PS.comma_lt p h;refine Nat.lt_of_le_of_lt (PS.ref_le _) ?_;split
 .rw[PS.fail_ts];exact h1
 .exact h1
def PS.list (p:PS):PS:=PS.listGo 1 p.ref
def fM (s:ak):Nat:=if s=mT then 1 else if s=fe then 2 else if s=fq then 4 else 0
def PS.classGo (left:List ak) (p:PS):PS:=
 if left=[] then p.fail 3
 else
  let q:=p.take 2 left
  let r:PS:={q.1 with d:={q.1.d with by_:=q.1.d.by_+fM q.2.text}}
  if h:r.comma.2=Wz then PS.classGo (left.filter λs=> !Wt (s=q.2.text)) r.comma.1 else r.comma.1
termination_by p.ts.length
decreasing_by
 have h1:=PS.comma_lt _ h;have h2:=PS.take_le p 2 left;exact bq h1 h2
def PS.classes (p:PS):PS:=p.classGo [mT,fe,fq]
def iP (s:ak):Nat:=if s=fe then 2 else if s=fq then 3 else if s=jB then 4 else 0
def PS.domain (p:PS):PS:=let q:=p.take 2 [fe,fq,jB];{q.1 with d:={q.1.d with by_:=iP q.2.text}}
def PS.alw (p:PS):PS:=if p.e=0/\p.head.kind=2/\p.head.text=iD then let q:=p.take 2 [];{q.1 with d:={q.1.d with always:=Wz}} else p
def PS.name (p:PS):PS:=let q:=p.take 1 [];{q.1 with d:={q.1.d with name:=q.2.text}}
inductive jZ where
 |name|ref|number|list|classes|domain|alw
 |word (s:ak)
def PS.part (p:PS):jZ->PS
 | .name=>p.name
 | .ref=>p.ref
 | .number=>p.number
 | .list=>p.list
 | .classes=>p.classes
 | .domain=>p.domain
 | .alw=>p.alw
 | .word s=>(p.take 2 [s]).1
def Mh:List jZ:=[.word ka,.number,.word jY,.number,.word jX,.number]
def rules:List (ak×List jZ):=[
 (jB,[.name]),
 (fq,[.name]),
 (fe,[.name,.word nD,.ref,.word el,.ref]),
 (mT,[.name,.word nD,.ref,.word yN,.number]),
 (PK,[.ref,.ref,.number]),
 (Pr,[.name,.word el,.list]++Mh),
 (PN,[.name,.number,.word el,.list]++Mh),
 (PI,[.name,.word el,.ref]++Mh),
 (Po,[.ref,.word yn,.number,.word ym,.number]),
 (Pq,[.classes]),
 (PO,[.ref]),
 (PJ,[.ref,.number,.alw]),
 (PQ,[.ref,.word yM,.domain,.number]),
 (PL,[.ref,.word el,.list]),
 (PM,[.ref,.word yL,.ref]),
 (Pp,[.number]),
 (PP,[.ref,.number])]
def ga (t:e_):Option Nat:=if t.kind=2 then rules.findIdx? (λx=>Wt (x.1=t.text)) else Wr
def PS.parts (p:PS):List jZ->PS
 |[]=>p
 |x::l=>PS.parts (if p.e=0 then p.part x else p) l
def PS.decl (p:PS):PS×au:=
 match ga p.head with
 |none=>(p.fail 3,{})
 |some i=>
  let q:PS:={(p.take 2 []).1 with d:={kind:=i}}
  let r:=((q.parts (rules.getD i ([],[])).2).take 4 [[59]]).1
  (r,r.d)
def PS.beyond (p:PS):Nat:=if(ga p.head).isSome then 8 else 3
def aa9:ak->ak
 |[]=>[]
 |c::r=>if c=35 then bV (r.dropWhile fX) else c::r
def Im {s l:ak} (h:s.dropWhile ig=l):bV s=aa9 l:=by rw[bV];split<;>(rename_i c;rw[h] at c;subst c;rfl)
def Ys {c:UInt8} (h:ig c=Wz) (s:ak):bV (c::s)=bV s:=by
 have e:(c::s).dropWhile ig=s.dropWhile ig:=by rw[List.dropWhile_cons,if_pos h]
 rw[Im e,Im rfl]
def af2 {c:UInt8} (h:ig c=Ww) (g:c≠35) (s:ak):bV (c::s)=c::s:=by
 have e:(c::s).dropWhile ig=c::s:=by rw[List.dropWhile_cons,if_neg (by simp[h])]
 rw[Im e,aa9,if_neg g]
structure mU where
 name:ak
 site:Int
 feed:Int
structure ri where
 name:ak
 rack:Int
 cap:Int
structure tO where
 a:Int
 b:Int
 cap:Int
structure fg where
 name:ak
 kind:Int
 count:Int
 load:Int
 size:Int
 share:Int
 on:List Int
structure cC where
 kind:Int
 item:Int
 other:Int
 n:Int
 by_:Int
 always:Bool
 ms:List Int
structure aM where
 sites:List ak:=[]
 feeds:List ak:=[]
 racks:List mU:=[]
 machs:List ri:=[]
 links:List tO:=[]
 items:List fg:=[]
 dark:Int:=0
 slots:Int:=0
 reserve:Int:=0
 failures:Int:=0
 rules:List cC:=[]
def aD (n low high:Int):Bool:=Wt (low<=n)&&Wt (n<=high)
def aH (n:Int) (k:Nat):Bool:=aD n 1 k
def dN {α:Type} (c:α->List α->Bool):List α->List α->Bool
 |_,[]=>Wz
 |b,x::r=>c x b&&dN c (b++[x]) r
def jh (m:aM) (x:mU) (b:List mU):Bool:=aH x.site m.sites.length&&aH x.feed m.feeds.length&& !b.any λy=>Wt (y.feed=x.feed)&& !Wt (y.site=x.site)
def uT (m:aM) (x:ri) (_:List ri):Bool:=aH x.rack m.racks.length&&aD x.cap 0 1048576
def ji (m:aM) (x:tO) (b:List tO):Bool:=Wt (1<=x.a)&&Wt (x.a<x.b)&&Wt (x.b<=m.sites.length)&&aD x.cap 0 1048576&& !b.any λy=>Wt (y.a=x.a)&&Wt (y.b=x.b)
def fu (m:aM):Bool:=
 aH m.sites.length 4&&Wt (m.feeds.length<=16)&&Wt (m.racks.length<=16)&&aH m.machs.length 16&&Wt (m.links.length<=12)&&
 dN (jh m) [] m.racks&&dN (uT m) [] m.machs&&dN (ji m) [] m.links
def br (s:ak):Bool:=Wt (1<=s.length)&&Wt (s.length<=31)&&kL (s.headD 0)&&s.all cX&& !Wt (s∈dH)
def cG (m:aM):List ak:=m.sites++m.feeds++m.racks.map (·.name)++m.machs.map (·.name)++m.items.map (·.name)
def oY (l:List ak):Bool:=dN (λs b=>br s&& !Wt (s∈b)) [] l
def Yt (k:Nat) (l:List Int):Bool:=dN (λn b=>aH n k&&(match b.getLast? with|none=>Wz|some p=>Wt (p<n))) [] l
def ff (m:aM) (l:List Int):Bool:=Yt m.machs.length l&&Wt (0<l.length)
def dO (m:aM) (x:fg):Bool:=
 (if x.kind=0 then(decide (x.count=1)||decide (x.count=3)||decide (x.count=5))&&decide (x.count=x.on.length)
  else if x.kind=1 then aD x.count 1 8
  else if x.kind=2 then Wt (x.count=1)&&Wt (x.on.length=1) else Ww)&&
 ff m x.on&&aD x.load 0 1048576&&aD x.size 0 1048576&&aD x.share 1 1048576
def pL (m:aM) (n:Int):Int:=((m.items[(n - 1).toNat]?).map (·.kind)).getD 0
def df (m:aM) (x:cC):Bool:=
 let it:=aH x.item m.items.length
 let z (a b c d:Bool):Bool:=(a||Wt (x.other=0))&&(b||Wt (x.by_=0))&&(c|| !x.always)&&(d||Wt (x.ms=[]))
 if x.kind=0 then it&&Wt (pL m x.item=0)&&Wt (x.n=0)&&z Ww Ww Ww Ww
 else if x.kind=1 then it&&aD x.n 0 16&&z Ww Ww Wz Ww
 else if x.kind=2 then it&&aD x.n 0 16&&aD x.by_ 2 4&&z Ww Wz Ww Ww
 else if x.kind=3 then it&&ff m x.ms&&Wt (x.n=0)&&z Ww Ww Ww Wz
 else if x.kind=4 then it&&aH x.other m.items.length&& !Wt (x.item=x.other)&&Wt (x.n=0)&&z Wz Ww Ww Ww
 else if x.kind=5 then Wt (x.item=0)&&aD x.n 0 200&&z Ww Ww Ww Ww
 else if x.kind=6 then it&&aD x.n 0 16&&z Ww Ww Ww Ww
 else Ww
def dZ (m:aM):Bool:=
 fu m&&Wt (m.items.length<=8)&&Wt (m.rules.length<=40)&&aH m.dark m.sites.length&&aD m.slots 1 16&&aD m.reserve 0 (m.slots - 1)&&aD m.failures 0 7&&
 oY (cG m)&&m.items.all (dO m)&&m.rules.all (df m)
def iz (d:au) (name:Bool) (least most nums:Nat) (by_ always:Bool):Bool:=
 Wt (least<=d.refs.length)&&Wt (d.refs.length<=most)&&Wt (d.nums.length=nums)&&(by_||Wt (d.by_=0))&&(always|| !d.always)&&
 (if name then br d.name else Wt (d.name=[]))
def je (d:au):Bool:=
 match d.kind with
 |0=>iz d Wz 0 0 0 Ww Ww
 |1=>iz d Wz 0 0 0 Ww Ww
 |2=>iz d Wz 2 2 0 Ww Ww
 |3=>iz d Wz 1 1 1 Ww Ww
 |4=>iz d Ww 2 2 1 Ww Ww
 |5=>iz d Wz 1 16 3 Ww Ww
 |6=>iz d Wz 1 16 4 Ww Ww
 |7=>iz d Wz 1 1 3 Ww Ww
 |8=>iz d Ww 1 1 2 Ww Ww
 |9=>iz d Ww 0 0 0 Wz Ww&&Wt (1<=d.by_)&&Wt (d.by_<=7)
 |10=>iz d Ww 1 1 0 Ww Ww
 |11=>iz d Ww 1 1 1 Ww Wz
 |12=>iz d Ww 1 1 1 Wz Ww&&Wt (2<=d.by_)&&Wt (d.by_<=4)
 |13=>iz d Ww 2 17 0 Ww Ww
 |14=>iz d Ww 2 2 0 Ww Ww
 |15=>iz d Ww 0 0 1 Ww Ww
 |16=>iz d Ww 1 1 1 Ww Ww
 |_=>Ww
def bx (d:au):Bool:=je d&&d.refs.all br&&d.nums.all λn=>Wt (n<=1048576)
abbrev cO:=List (ak×Nat×Nat)
def bD (k:Nat):Nat:=if 5<=k/\k<=7 then 5 else if 10<=k then 10 else k
def cY (t:cO) (s:ak):Option (Nat×Nat):=(t.find? λx=>Wt (x.1=s)).map (·.2)
def iN:List au->cO->List au->Except (Nat×Nat) cO
 |_,t,[]=> .ok t
 |b,t,d::r=>
  if !bx d then .error (b.length,1)
  else if(!Wt (d.name=[])&&(cY t d.name).isSome)||((Wt (d.kind=8)||Wt (d.kind=9))&&b.any λx=>Wt (x.kind=d.kind)) then .error (b.length,5)
  else iN (b++[d]) (if d.name=[] then t else t++[(d.name,d.kind,((b++[d]).filter λx=>Wt (bD x.kind=bD d.kind)).length)]) r
def fO (d:au) (i:Nat) (k:Nat):Bool:=
 match d.kind,i with
 |2,0=>Wt (k=0)
 |2,1=>Wt (k=1)
 |3,0=>Wt (k=2)
 |4,0=>Wt (k=0)
 |4,1=>Wt (k=0)
 |8,0=>Wt (k=0)
 |10,0=>Wt (k=5)
 |11,0=>Wt (bD k=5)
 |12,0=>Wt (bD k=5)
 |13,0=>Wt (bD k=5)
 |14,0=>Wt (bD k=5)
 |14,1=>Wt (bD k=5)
 |16,0=>Wt (bD k=5)
 |_,_=>Wt (k=3)
def kM (t:cO) (d:au):Nat->List ak->Nat
 |_,[]=>0
 |i,s::r=>match cY t s with
  |none=>4
  |some x=>if fO d i x.1 then kM t d (i+1) r else 7
def jV (d:au):List ak:=if d.kind=5\/d.kind=6 then d.refs else if d.kind=13 then d.refs.drop 1 else[]
def ea (t:cO) (d:au):Nat:=
 let e:=kM t d 0 d.refs
 if e≠0 then e else if !Wt (jV d).Nodup then 5 else if(d.kind=4\/d.kind=14)/\d.refs[0]? =d.refs[1]? then 2 else 0
def bC (t:cO) (s:ak):Int:=(((cY t s).map (·.2)).getD 0:Nat)
def wQ (n:Int):List Int->List Int
 |[]=>[n]
 |a::l=>if n<=a then n::a::l else a::wQ n l
def lX (l:List Int):List Int:=l.foldr wQ []
def fv (l:List Nat) (k:Nat):Int:=(l.getD k 0:Nat)
def lv (t:cO) (d:au) (kind count:Int):fg:=
 let n:=d.nums.drop (d.nums.length - 3)
 ⟨d.name,kind,count,fv n 0,fv n 1,fv n 2,lX (d.refs.map (bC t))⟩
def f' (l:List Int) (k:Nat):Int:=l.getD k 0
def mt (t:cO) (d:au):cC:=
 let n:=d.refs.map (bC t)
 ⟨(d.kind:Int) - 10,f' n 0,if d.kind=14 then f' n 1 else 0,fv (d.nums.drop (d.nums.length - 1)) 0,d.by_,d.always,if d.kind=13 then lX (n.drop 1) else[]⟩
def eA (t:cO) (m:aM) (d:au):aM:=
 let n:=d.refs.map (bC t)
 match d.kind with
 |0=>{m with sites:=m.sites++[d.name]}
 |1=>{m with feeds:=m.feeds++[d.name]}
 |2=>{m with racks:=m.racks++[⟨d.name,f' n 0,f' n 1⟩]}
 |3=>{m with machs:=m.machs++[⟨d.name,f' n 0,fv d.nums 0⟩]}
 |4=>{m with links:=m.links++[⟨min (f' n 0) (f' n 1),max (f' n 0) (f' n 1),fv d.nums 0⟩]}
 |5=>{m with items:=m.items++[lv t d 0 n.length]}
 |6=>{m with items:=m.items++[lv t d 1 (fv d.nums 0)]}
 |7=>{m with items:=m.items++[lv t d 2 1]}
 |8=>{m with dark:=f' n 0,slots:=fv d.nums 0,reserve:=fv d.nums 1}
 |9=>{m with failures:=d.by_}
 |_=>{m with rules:=m.rules++[mt t d]}
def mV (t:cO):Nat->aM->List au->Except (Nat×Nat) aM
 |_,m,[]=> .ok m
 |i,m,d::r=>if ea t d≠0 then .error (i,ea t d) else mV t (i+1) (eA t m d) r
def nE (l:List au):Except (Nat×Nat) aM:=
 match iN [] [] l with
 | .error e=> .error e
 | .ok t=>match mV t 0 {} l with
   | .error e=> .error e
   | .ok m=>if !l.any λd=>Wt (d.kind=8) then .error (l.length,6) else if dZ m then .ok m else .error (l.length,2)
def bG (w:Wu) (B:Nat) (v:Wv) (l:List ak):Prop:=cD w B v (l.map bs)
def bG.below {w w':Wu} {B B₂:Nat} {v:Wv} {l:List ak} (h:bG w B v l) (g:Below B₂ w w') (c:B<=B₂):bG w' B v l:=cD.below h g c
def bG.more {w:Wu} {B B':Nat} {v:Wv} {l:List ak} (h:bG w B v l) (c:B<=B'):bG w B' v l:=cD.more h c
def bG.nil_ (w:Wu) (B:Nat):bG w B (Yb Wr 0 0) []:=Sl.nil_ w B
def jf {α:Type} (R:Wu->Nat->List Wv->α->Prop):Prop:= ∀(w w':Wu) (B B₂ B':Nat) cs x,R w B cs x->Below B₂ w w'->B<=B₂->B<=B'->R w' B' cs x
def bW {α:Type} (k:Nat) (R:Wu->Nat->List Wv->α->Prop) (w:Wu) (B:Nat) (v:Wv) (xs:List α):Prop:=
 ∃A c,v= .slice A xs.length c/\xs.length<=c/\c<=maxLen/\
  (xs≠[]->∃b o,A=Ws ⟨b,o,Wr⟩/\b<B/\∀(j:Nat) x,xs[j]? =Ws x->∃cs:List Wv,cs.length=k/\R w B cs x/\∀(i:Nat) u,cs[i]? =Ws u->w.cell? ⟨b,o+j*k+i,Wr⟩=Ws u)
section
variable {α:Type} {k:Nat} {R:Wu->Nat->List Wv->α->Prop} {w w':Wu} {B B' B₂:Nat} {v:Wv} {xs:List α}
def bW.nil_ (w:Wu) (B:Nat):bW k R w B (Yb Wr 0 0) []:=⟨Wr,0,rfl,by simp,by simp[Xe],λh=>absurd rfl h⟩
def bW.to (h:bW k R w B v xs) (C:jf R) (y:Below B₂ w w') (g:B<=B₂) (z:B<=B'):bW k R w' B' v xs:=by obtain⟨A,c,rfl,h1,h2,h3⟩:=h;refine⟨A,c,rfl,h1,h2,λD=> ?_⟩;obtain⟨b,o,rfl,ar,hc⟩:=h3 D;refine⟨b,o,rfl,by omega,λj x hx=> ?_⟩;obtain⟨cs,h4,h5,h6⟩:=hc j x hx;exact⟨cs,h4,C _ _ _ _ _ _ _ h5 y g z,λi u F=>(y.cell (p:=b _ Wr) (bq ar g)).trans (h6 i u F)⟩
def bW.below (h:bW k R w B v xs) (g:jf R) (j:Below B₂ w w') (c:B<=B₂):bW k R w' B v xs:=h.to g j c (ag _)
def bW.form (h:bW k R w B v xs): ∃A n c,v=Yb A n c/\xs.length=n/\n<=c/\c<=9223372036854775807:=ca5
def bW.at_ {A:Option X8} {n c:Nat} (h:bW k R w B (Yb A n c) xs) {j:Nat} {x:α} (hx:xs[j]? =Ws x):
 ∃b o g,A=Ws ⟨b,o,Wr⟩/\b<B/\g.length=k/\R w B g x/\∀(i:Nat) u,g[i]? =Ws u->w.cell? ⟨b,o+j*k+i,Wr⟩=Ws u:=by
 obtain⟨A',c',he,h1,h2,h3⟩:=h;injection he with y z C;subst y;obtain⟨b,o,hA,hb,hc⟩:=h3 (λe=>by rw[e] at hx;simp at hx);obtain⟨g,h4,h5,h6⟩:=hc j x hx;exact⟨b,o,g,hA,hb,h4,h5,h6⟩
end
def mW (_:Wu) (_:Nat) (cs:List Wv) (t:e_):Prop:=cs=[WK Xr t.kind,WM (bs t.text),WK Xr t.n,WK Xr t.pos]
def oD (w:Wu) (B:Nat) (cs:List Wv) (d:au):Prop:=
 ∃r n,cs=[WK Xr d.kind,WM (bs d.name),r,n,WK Xr d.by_,Yc d.always]/\bG w B r d.refs/\aW w B n (d.nums.map λx:Nat=>(x:Int))/\d.kind<=1000000/\d.by_<=1000000
def pM (_:Wu) (_:Nat) (cs:List Wv) (x:mU):Prop:=cs=[WM (bs x.name),WK Xr x.site,WK Xr x.feed]/\aK x.site/\aK x.feed
def wR (_:Wu) (_:Nat) (cs:List Wv) (x:ri):Prop:=cs=[WM (bs x.name),WK Xr x.rack,WK Xr x.cap]/\aK x.rack/\aK x.cap
def pN (_:Wu) (_:Nat) (cs:List Wv) (x:tO):Prop:=cs=[WK Xr x.a,WK Xr x.b,WK Xr x.cap]/\aK x.a/\aK x.b/\aK x.cap
def E_ (w:Wu) (B:Nat) (cs:List Wv) (x:fg):Prop:=
 ∃o,cs=[WM (bs x.name),WK Xr x.kind,WK Xr x.count,WK Xr x.load,WK Xr x.size,WK Xr x.share,o]/\aW w B o x.on/\(aK x.kind/\aK x.count/\aK x.load/\aK x.size/\aK x.share)
def E' (w:Wu) (B:Nat) (cs:List Wv) (x:cC):Prop:=
 ∃o,cs=[WK Xr x.kind,WK Xr x.item,WK Xr x.other,WK Xr x.n,WK Xr x.by_,Yc x.always,o]/\aW w B o x.ms/\(aK x.kind/\aK x.item/\aK x.other/\aK x.n/\aK x.by_)
def mW.ab:jf mW:=λ_ _ _ _ _ _ _ h _ _ _=>h
def pM.ab:jf pM:=λ_ _ _ _ _ _ _ h _ _ _=>h
def wR.ab:jf wR:=λ_ _ _ _ _ _ _ h _ _ _=>h
def pN.ab:jf pN:=λ_ _ _ _ _ _ _ h _ _ _=>h
def oD.ab:jf oD:=λ_ _ _ _ _ _ _ ⟨r,n,j,y,z,A⟩ h g c=>⟨r,n,j,(y.below h g).more c,(z.below h g).more c,A⟩
def E_.ab:jf E_:=λ_ _ _ _ _ _ _ ⟨o,g,h,j⟩ z y c=>⟨o,g,(h.below z y).more c,j⟩
def E'.ab:jf E':=λ_ _ _ _ _ _ _ ⟨o,g,h,j⟩ z y c=>⟨o,g,(h.below z y).more c,j⟩
structure MV where
 s:Wv
 f:Wv
 r:Wv
 m:Wv
 l:Wv
 i:Wv
 u:Wv
def aM.cells (m:aM) (v:MV):Array Value:= #[v.s,v.f,v.r,v.m,v.l,v.i,WK Xr m.dark,WK Xr m.slots,WK Xr m.reserve,WK Xr m.failures,v.u]
def aM.cells_def (m:aM) (v:MV):m.cells v= #[v.s,v.f,v.r,v.m,v.l,v.i,WK Xr m.dark,WK Xr m.slots,WK Xr m.reserve,WK Xr m.failures,v.u]:=rfl
structure aM.In (m:aM) (w:Wu) (B:Nat) (v:MV):Prop where
 ss:bG w B v.s m.sites
 fs:bG w B v.f m.feeds
 rs:bW 3 pM w B v.r m.racks
 ms:bW 3 wR w B v.m m.machs
 ls:bW 3 pN w B v.l m.links
 is:bW 7 E_ w B v.i m.items
 us:bW 7 E' w B v.u m.rules
 dark:aK m.dark
 slots:aK m.slots
 reserve:aK m.reserve
 failures:aK m.failures
def aM.In.to {m:aM} {w w':Wu} {B B₂ B':Nat} {v:MV} (h:m.In w B v) (j:Below B₂ w w') (g:B<=B₂) (c:B<=B'):m.In w' B' v:=
 ⟨(h.ss.below j g).more c,(h.fs.below j g).more c,h.rs.to pM.ab j g c,h.ms.to wR.ab j g c,h.ls.to pN.ab j g c,h.is.to E_.ab j g c,h.us.to E'.ab j g c,h.dark,h.slots,h.reserve,h.failures⟩
def bQ (w:Wu) (o:Obj):(w.alloc o).heap[w.heap.size]? =Ws o:=by show(w.heap.push o)[w.heap.size]? =_;exact Array.getElem?_push_size
def js {B b:Nat} {w w':Wu} {o:Obj} (h:w.heap[b]? =Ws o) (g:Below B w w') (c:b<B):w'.heap[b]? =Ws o:=(g.block b c).trans h
def aq {b:Nat} {w w':Wu} {o:Obj} (h:w.heap[b]? =Ws o) (c:Below w w w'):w'.heap[b]? =Ws o:=js h c (Array.getElem?_eq_some_iff.1 h).1
def blk_lt {b:Nat} {w:Wu} {o:Obj} (h:w.heap[b]? =Ws o):b<w.heap.size:=(Array.getElem?_eq_some_iff.1 h).1
def ah {w:Wu} {b o:Nat} {C:Array Wv} {t:WQ} (h:w.heap[b]? =Ws (Yd C t (0,0))) {v:Wv} (c:C[o]? =Ws v):w.cell? (b o Wr)=Ws v:=by simp only[X3,h];exact c
def cd {w:Wu} {b:Nat} {C:Array Wv} {t:WQ} (h:w.heap[b]? =Ws (Yd C t (0,0))) (o:Nat):w.frozen? (b o Wr)=false:=by simp[World.frozen?,h]
def Mi {w:Wu} {b:Nat} {r:List Wv} {t:WQ} {c g j:Wv} (h:w.heap[b]? =Ws (Yd (List.toArray (c::g::j::r)) t (0,0))):w.cell? b=Ws c/\w.cell? (b 1 Wr)=Ws g/\w.cell? (b 2 Wr)=Ws j:=
 ⟨ah h rfl,ah h rfl,ah h rfl⟩
def Yu {w:Wu} {b:Nat} {r:List Wv} {t:WQ} {c g j y:Wv} (h:w.heap[b]? =Ws (Yd (List.toArray (c::g::j::y::r)) t (0,0))):w.cell? b=Ws c/\w.cell? (b 1 Wr)=Ws g/\w.cell? (b 2 Wr)=Ws j/\w.cell? (b 3 Wr)=Ws y:=
 ⟨ah h rfl,ah h rfl,ah h rfl,ah h rfl⟩
def jD {w:Wu} {b:Nat} {r:List Wv} {t:WQ} {c g j y z A:Wv} (h:w.heap[b]? =Ws (Yd (List.toArray (c::g::j::y::z::A::r)) t (0,0))):w.cell? b=Ws c/\w.cell? (b 1 Wr)=Ws g/\w.cell? (b 2 Wr)=Ws j/\w.cell? (b 3 Wr)=Ws y/\w.cell? (b 4 Wr)=Ws z/\w.cell? (b 5 Wr)=Ws A:=
 ⟨ah h rfl,ah h rfl,ah h rfl,ah h rfl,ah h rfl,ah h rfl⟩
def iA {w:Wu} {b:Nat} {r:List Wv} {t:WQ} {c g j y z A C:Wv} (h:w.heap[b]? =Ws (Yd (List.toArray (c::g::j::y::z::A::C::r)) t (0,0))):w.cell? b=Ws c/\w.cell? (b 1 Wr)=Ws g/\w.cell? (b 2 Wr)=Ws j/\w.cell? (b 3 Wr)=Ws y/\w.cell? (b 4 Wr)=Ws z/\w.cell? (b 5 Wr)=Ws A/\w.cell? (b 6 Wr)=Ws C:=
 ⟨ah h rfl,ah h rfl,ah h rfl,ah h rfl,ah h rfl,ah h rfl,ah h rfl⟩
def PR {w:Wu} {b:Nat} {r:List Wv} {t:WQ} {c g j y z A C D:Wv} (h:w.heap[b]? =Ws (Yd (List.toArray (c::g::j::y::z::A::C::D::r)) t (0,0))):w.cell? b=Ws c/\w.cell? (b 1 Wr)=Ws g/\w.cell? (b 2 Wr)=Ws j/\w.cell? (b 3 Wr)=Ws y/\w.cell? (b 4 Wr)=Ws z/\w.cell? (b 5 Wr)=Ws A/\w.cell? (b 6 Wr)=Ws C/\w.cell? (b 7 Wr)=Ws D:=
 ⟨ah h rfl,ah h rfl,ah h rfl,ah h rfl,ah h rfl,ah h rfl,ah h rfl,ah h rfl⟩
def af3 {w:Wu} {b:Nat} {r:List Wv} {t:WQ} {c g j y z A C D F G:Wv} (h:w.heap[b]? =Ws (Yd (List.toArray (c::g::j::y::z::A::C::D::F::G::r)) t (0,0))):w.cell? b=Ws c/\w.cell? (b 1 Wr)=Ws g/\w.cell? (b 2 Wr)=Ws j/\w.cell? (b 3 Wr)=Ws y/\w.cell? (b 4 Wr)=Ws z/\w.cell? (b 5 Wr)=Ws A/\w.cell? (b 6 Wr)=Ws C/\w.cell? (b 7 Wr)=Ws D/\w.cell? (b 8 Wr)=Ws F/\w.cell? (b 9 Wr)=Ws G:=
 ⟨ah h rfl,ah h rfl,ah h rfl,ah h rfl,ah h rfl,ah h rfl,ah h rfl,ah h rfl,ah h rfl,ah h rfl⟩
def eR {w:Wu} {b:Nat} {r:List Wv} {t:WQ} {c g j y z A C D F G I:Wv} (h:w.heap[b]? =Ws (Yd (List.toArray (c::g::j::y::z::A::C::D::F::G::I::r)) t (0,0))):w.cell? b=Ws c/\w.cell? (b 1 Wr)=Ws g/\w.cell? (b 2 Wr)=Ws j/\w.cell? (b 3 Wr)=Ws y/\w.cell? (b 4 Wr)=Ws z/\w.cell? (b 5 Wr)=Ws A/\w.cell? (b 6 Wr)=Ws C/\w.cell? (b 7 Wr)=Ws D/\w.cell? (b 8 Wr)=Ws F/\w.cell? (b 9 Wr)=Ws G/\w.cell? (b 10 Wr)=Ws I:=
 ⟨ah h rfl,ah h rfl,ah h rfl,ah h rfl,ah h rfl,ah h rfl,ah h rfl,ah h rfl,ah h rfl,ah h rfl,ah h rfl⟩
def Mj {w:Wu} {b:Nat} {r:List Wv} {t:WQ} {c g j y z A C D F G I J:Wv} (h:w.heap[b]? =Ws (Yd (List.toArray (c::g::j::y::z::A::C::D::F::G::I::J::r)) t (0,0))):w.cell? b=Ws c/\w.cell? (b 1 Wr)=Ws g/\w.cell? (b 2 Wr)=Ws j/\w.cell? (b 3 Wr)=Ws y/\w.cell? (b 4 Wr)=Ws z/\w.cell? (b 5 Wr)=Ws A/\w.cell? (b 6 Wr)=Ws C/\w.cell? (b 7 Wr)=Ws D/\w.cell? (b 8 Wr)=Ws F/\w.cell? (b 9 Wr)=Ws G/\w.cell? (b 10 Wr)=Ws I/\w.cell? (b 11 Wr)=Ws J:=
 ⟨ah h rfl,ah h rfl,ah h rfl,ah h rfl,ah h rfl,ah h rfl,ah h rfl,ah h rfl,ah h rfl,ah h rfl,ah h rfl,ah h rfl⟩
def jt {w:Wu} {b:Nat} {r:List Wv} {t:WQ} {c g j y z A C D F G I J O U:Wv} (h:w.heap[b]? =Ws (Yd (List.toArray (c::g::j::y::z::A::C::D::F::G::I::J::O::U::r)) t (0,0))):w.cell? b=Ws c/\w.cell? (b 1 Wr)=Ws g/\w.cell? (b 2 Wr)=Ws j/\w.cell? (b 3 Wr)=Ws y/\w.cell? (b 4 Wr)=Ws z/\w.cell? (b 5 Wr)=Ws A/\w.cell? (b 6 Wr)=Ws C/\w.cell? (b 7 Wr)=Ws D/\w.cell? (b 8 Wr)=Ws F/\w.cell? (b 9 Wr)=Ws G/\w.cell? (b 10 Wr)=Ws I/\w.cell? (b 11 Wr)=Ws J/\w.cell? (b 12 Wr)=Ws O/\w.cell? (b 13 Wr)=Ws U:=
 ⟨ah h rfl,ah h rfl,ah h rfl,ah h rfl,ah h rfl,ah h rfl,ah h rfl,ah h rfl,ah h rfl,ah h rfl,ah h rfl,ah h rfl,ah h rfl,ah h rfl⟩
def Ak {w:Wu} {b:Nat} {C:Array Wv} {t:WQ} (h:w.heap[b]? =Ws (Yd C t (0,0))):w.frozen? b=Ww/\w.frozen? (b 1 Wr)=Ww/\w.frozen? (b 2 Wr)=Ww/\w.frozen? (b 3 Wr)=false:=
 ⟨cd h 0,cd h 1,cd h 2,cd h 3⟩
def af4 {w:Wu} {b:Nat} {C:Array Wv} {t:WQ} (h:w.heap[b]? =Ws (Yd C t (0,0))):w.frozen? b=Ww/\w.frozen? (b 1 Wr)=Ww/\w.frozen? (b 2 Wr)=Ww/\w.frozen? (b 3 Wr)=Ww/\w.frozen? (b 4 Wr)=Ww/\w.frozen? (b 5 Wr)=false:=
 ⟨cd h 0,cd h 1,cd h 2,cd h 3,cd h 4,cd h 5⟩
def Dc {w:Wu} {b:Nat} {C:Array Wv} {t:WQ} (h:w.heap[b]? =Ws (Yd C t (0,0))):w.frozen? b=Ww/\w.frozen? (b 1 Wr)=Ww/\w.frozen? (b 2 Wr)=Ww/\w.frozen? (b 3 Wr)=Ww/\w.frozen? (b 4 Wr)=Ww/\w.frozen? (b 5 Wr)=Ww/\w.frozen? (b 6 Wr)=false:=
 ⟨cd h 0,cd h 1,cd h 2,cd h 3,cd h 4,cd h 5,cd h 6⟩
def Mk {w:Wu} {b:Nat} {C:Array Wv} {t:WQ} (h:w.heap[b]? =Ws (Yd C t (0,0))):w.frozen? b=Ww/\w.frozen? (b 1 Wr)=Ww/\w.frozen? (b 2 Wr)=Ww/\w.frozen? (b 3 Wr)=Ww/\w.frozen? (b 4 Wr)=Ww/\w.frozen? (b 5 Wr)=Ww/\w.frozen? (b 6 Wr)=Ww/\w.frozen? (b 7 Wr)=Ww/\w.frozen? (b 8 Wr)=Ww/\w.frozen? (b 9 Wr)=Ww/\w.frozen? (b 10 Wr)=false:=
 ⟨cd h 0,cd h 1,cd h 2,cd h 3,cd h 4,cd h 5,cd h 6,cd h 7,cd h 8,cd h 9,cd h 10⟩
def Yv {w:Wu} {b:Nat} {C:Array Wv} {t:WQ} (h:w.heap[b]? =Ws (Yd C t (0,0))):w.frozen? b=Ww/\w.frozen? (b 1 Wr)=Ww/\w.frozen? (b 2 Wr)=Ww/\w.frozen? (b 3 Wr)=Ww/\w.frozen? (b 4 Wr)=Ww/\w.frozen? (b 5 Wr)=Ww/\w.frozen? (b 6 Wr)=Ww/\w.frozen? (b 7 Wr)=Ww/\w.frozen? (b 8 Wr)=Ww/\w.frozen? (b 9 Wr)=Ww/\w.frozen? (b 10 Wr)=Ww/\w.frozen? (b 11 Wr)=Ww/\w.frozen? (b 12 Wr)=Ww/\w.frozen? (b 13 Wr)=false:=
 ⟨cd h 0,cd h 1,cd h 2,cd h 3,cd h 4,cd h 5,cd h 6,cd h 7,cd h 8,cd h 9,cd h 10,cd h 11,cd h 12,cd h 13⟩
def af5 {W c:Wu} (g:Below W.drew.heap.size W.drew c):(∀b o,b<W.heap.size->c.cell? ⟨b,o,Wr⟩=W.cell? ⟨b,o,Wr⟩)/\(∀b o,b<W.heap.size->c.frozen? ⟨b,o,Wr⟩=W.frozen? ⟨b,o,Wr⟩):=
 ⟨λb o h=>g.cell (p:=⟨b,o,Wr⟩) h,λb o h=>g.frozen (p:=⟨b,o,Wr⟩) h⟩
section
variable {P:Program} {ops:Array XH} {Q:Exit->Act->Wu->Prop} {md:X6}
end
def aZ {w:Wu} {b:Nat} {C:Array Wv} {t:WQ} (h:w.heap[b]? =Ws (Yd C t (0,0))) (o:Nat) (u:Wv):(w.setCell (b o Wr) u).heap[b]? =Ws (Yd (C.setIfInBounds o u) t (0,0)):=by simp[XD,Array.getElem?_modify,h]
def lY {w:Wu} {b p o:Nat} {u:Wv} {ob:Obj} (h:w.heap[b]? =Ws ob) (aO: ¬b=p):(w.setCell (p o Wr) u).heap[b]? =Ws ob:=
 (Below.heap_setCell w (p o Wr) u b Oi).trans h
def af6 {w:Wu} {b j p o:Nat} {u:Wv} (aO: ¬b=p):(w.setCell (p o Wr) u).cell? (b j Wr)=w.cell? (b j Wr):=
 XN (Below.heap_setCell w (p o Wr) u b Oi)
def cP {P:Program} {c:Code} {Q:Exit->Act->Wu->Prop} {a:Act} {W:Wu} (F:Wu->Prop) (g:F W) (h: ∀W0,F W0->Code.wp P c Q a W0):Code.wp P c Q a W:=h W g
def af7 {k:Nat}: ∀(rows:List (List Wv)),(∀r∈rows,r.length=k)->∀(j i:Nat) r u,rows[j]? =Ws r->r[i]? =Ws u->rows.flatten[j*k+i]? =Ws u
 |[],_,j,i,r,u,h,_=>by simp at h
 |x::rows,hk,0,i,r,u,h,hu=>by simp at h;subst h;rw[List.flatten_cons,Nat.zero_mul,XP,Xx (List.getElem?_eq_some_iff.1 hu).1];exact hu
 |x::rows,hk,j+1,i,r,u,h,hu=>by
  have hx:=hk x Yl;have c:=af7 rows (λy hy=>hk y qO) j i r u zi hu;rw[List.flatten_cons,XZ (by rw[hx,Nat.add_mul];omega),hx];have:(j+1)*k+i - k=j*k+i:=by rw[Nat.add_mul];omega
  rw[this];exact c
def bW.of_own {α:Type} {R:Wu->Nat->List Wv->α->Prop} {w:Wu} {base:Nat} {e:WQ} {k:Nat} {v:Wv} {xs:List α} (rows:List (List Wv)) (A: ∀r∈rows,r.length=k) (F:rows.length=xs.length)
 (h:w.ownsRow base e k v xs.length rows.flatten) (C: ∀(j:Nat) r x,rows[j]? =Ws r->xs[j]? =Ws x->R w w r x):bW k R w w v xs:=by
 by_cases G:0<xs.length
 .obtain⟨g,cap,hv,_,ar⟩:=h.form G;have z:xs.length<=cap/\cap<=maxLen:=by
   exact ab0
  subst hv;refine⟨_,cap,rfl,z.1,z.2,λ_=>⟨g,0,rfl,ar,λj x hx=> ?_⟩⟩;have y:j<rows.length:=by rw[F];exact(List.getElem?_eq_some_iff.1 hx).1
  refine⟨rows[j],A _ (List.getElem_mem y),C j _ x (Wy y) hx,λi u I=> ?_⟩;have D:=af7 rows A j i _ u (Wy y) I;have:=h.cells (g:=g) rfl (j*k+i) u D;rw[XP];generalize j*k+i=m at this;by_cases c:m=0
  .subst c;simpa[Addr.add] using this
  .simpa[Addr.add,c] using this
 .have c:xs=[]:=List.eq_nil_of_length_eq_zero (by omega);subst c;rcases h.2 with ⟨rfl,_⟩|⟨g,cap,_,rfl,_,_,h1,h2,_⟩
  .exact bW.nil_ _ _
  .exact⟨_,cap,rfl,by simp,h2,λh=>absurd rfl h⟩
def fS {w w':Wu} {base:Nat} {e:WQ} {size:Nat} {v:Wv} {n:Nat} {xs:List Wv} (h:w.ownsRow base e size v n xs) (C:Below w w w'):w'.ownsRow base e size v n xs:=by
 refine⟨h.1,?_⟩;rcases h.2 with D|⟨g,cap,c,j,y,z,A⟩
 .exact .inl D
 .exact .inr ⟨g,cap,c,j,y,aq z C,A⟩
def mu {w:Wu} {base:Nat} {e:WQ} {size:Nat} {v:Wv} {n:Nat} {xs:List Wv} (h:w.ownsRow base e size v n xs) {p:Nat} (D: ∀k,v.ownBlock=Ws k->¬k=p) (o:Nat) (u:Wv):(w.setCell (p o Wr) u).ownsRow base e size v n xs:=by
 refine⟨h.1,?_⟩;rcases h.2 with C|⟨g,cap,c,j,y,z,A⟩
 .exact .inl C
 .exact .inr ⟨g,cap,c,j,y,lY z (D g (by rw[j];rfl)),A⟩
def wS {a w w':Wu} {base:Nat} {e:WQ} {size:Nat} {v:Wv} {n:Nat} {xs:List Wv} (h:w.ownsRow base e size v n xs) (g:Below a a w) (j:a.heap.size<=base) (y:w.grownBy w' v.ownBlock):Below a a w':=
 g.grown y g.size λk z=>bo j (WL h k z).1
def iY {w w':Wu} {v:Wv} {b:Nat} {o:Obj} (h:w.heap[b]? =Ws o) (g:w.grownBy w' v.ownBlock) (c: ∀k,v.ownBlock=Ws k->¬b=k):w'.heap[b]? =Ws o:=
 (g.block b (blk_lt h) (λe=>c b e.symm rfl)).trans h
def mw {w:Wu} {C:List Wv} {t:WQ} {g:Nat} (y:g=w.heap.size): ∀(j:Nat) u,C[j]? =Ws u->(w.alloc (Yd C.toArray t)).cell? (((g 0 Wr):X8).add j)=Ws u:=by
 subst y;intro j u z;have h:(w.alloc (Yd C.toArray t)).cell? (w j Wr)=Ws u:=ah (bQ w _) (by simpa using z);by_cases c:j=0
 .subst c;simpa[Addr.add] using h
 .simpa[Addr.add,c] using h
def kj (P:Nat->Bool) (n:Nat):Int:=match (Xs n).find? P with|some i=>i|none=> -1
def af8 {P:Nat->Bool} {n k:Nat} (g:k<n) (h:P k=Wz) (y: ∀j,j<k->P j=Ww):kj P n=k:=by
 unfold kj;have:(Xs n).find? P=Ws k:=by rw[List.find?_range_eq_some];exact⟨h,by simpa using g,λj c=>by simp[y j c]⟩
 rw[this]
def af9 {P:Nat->Bool} {n:Nat} (g: ∀j,j<n->P j=Ww):kj P n= -1:=by
 unfold kj;have:(Xs n).find? P=none:=by rw[List.find?_range_eq_none];exact λj c=>by simp[g j c]
 rw[this]
def BE (P:Nat->Bool) (n:Nat):Wt (0<=kj P n)=(Xs n).any P:=by
 unfold kj;cases h:(Xs n).find? P with
 |none=>
  have:(Xs n).any P=false:=by rw[List.any_eq_false];exact λx hx=>by simpa using List.find?_eq_none.1 h x hx
  rw[this];simp
 |some i=>have:(Xs n).any P=true:=List.any_eq_true.2 ⟨i,List.mem_of_find?_eq_some h,List.find?_some h⟩;rw[this];simp
def R1 {α:Type} (enc:α->Wv) (_:Wu) (_:Nat) (cs:List Wv) (x:α):Prop:=cs=[enc x]
def R1.ab {α:Type} (enc:α->Wv):jf (R1 enc):=λ_ _ _ _ _ _ _ h _ _ _=>h
def Sl.k1 {α:Type} {enc:α->Wv} {w:Wu} {B:Nat} {v:Wv} {xs:List α} (h:Sl w B v (xs.map enc)):bW 1 (R1 enc) w B v xs:=by
 obtain⟨A,c,rfl,h1,h2,h3⟩:=h;rw[WF] at h1⊢
 refine⟨A,c,rfl,h1,h2,λy=> ?_⟩;obtain⟨b,o,rfl,hb,hc⟩:=h3 (by simpa using y);refine⟨b,o,rfl,hb,λj x hx=>⟨[enc x],rfl,rfl,λi u g=> ?_⟩⟩
 match i,g with
 |0,g=>injection g with g;subst g;rw[Nat.mul_one,WR];exact hc j _ (by rw[WN,hx];rfl)
def jg {α:Type} (xs:List α) (p:α->Bool) (j:Nat):Bool:=match xs[j]? with|some x=>p x|none=>Ww
def eW {α:Type} {xs:List α} {p:α->Bool} {j:Nat} {x:α} (h:xs[j]? =Ws x):jg xs p j=p x:=by unfold jg;rw[h]
def BF {α:Type} (xs:List α) (p:α->Bool):(Xs xs.length).any (jg xs p)=xs.any p:=by
 rw[WU,List.any_eq_true,List.any_eq_true];constructor
 .rintro ⟨j,c,h⟩;unfold jg at h;split at h
  .rename_i x hx;exact⟨x,eD hx,h⟩
  .cases h
 .rintro ⟨x,hx,h⟩;obtain⟨j,c⟩:=List.mem_iff_getElem?.1 hx;exact⟨j,List.mem_range.2 (List.getElem?_eq_some_iff.1 c).1,by rw[eW c];exact h⟩
def Yw {α:Type} (xs:List α) (p:α->Bool):kj (jg xs p) xs.length=match xs.findIdx? p with|some i=>(i:Int)|none=> -1:=by
 cases h:xs.findIdx? p with
 |none=>
  refine af9 λj c=> ?_;rw[eW (Wy c)];exact List.findIdx?_eq_none_iff.1 h _ (List.getElem_mem c)
 |some i=>obtain⟨hi,h1,h2⟩:=List.findIdx?_eq_some_iff_getElem.1 h;refine af8 hi (by rw[eW (Wy hi)];exact h1) λj c=> ?_;rw[eW (Wy Yi)];simpa using h2 j c
def dp1 {α:Type}: ∀{l:List α},l.length=3->∃a b c,l=[a,b,c]
 |[a,b,c],_=>⟨a,b,c,rfl⟩
def dk8 {α:Type}: ∀{l:List α},l.length=1->∃a,l=[a]
 |[a],_=>⟨a,rfl⟩
def dk9 {α:Type}: ∀{l:List α},l.length=7->∃a b c d e f g,l=[a,b,c,d,e,f,g]
 |[a,b,c,d,e,f,g],_=>⟨a,b,c,d,e,f,g,rfl⟩
def dl0 {α:Type}: ∀{l:List α},l.length=10->∃a b c d e f g h i j,l=[a,b,c,d,e,f,g,h,i,j]
 |[a,b,c,d,e,f,g,h,i,j],_=>⟨a,b,c,d,e,f,g,h,i,j,rfl⟩
def dl1 {α:Type} (R:Wu->Nat->List Wv->α->Prop) (hR:jf R) (v:Wv) (xs:List α) (g:Nat) (caps:Array Wv) (P:Nat->Bool) (w:Wu) (h:bW 1 R w w v xs) (z:dp g)
 (y: ∀(j:Nat) x cs W,xs[j]? =Ws x->Below w w W->R W W cs x->cs.length=1->aQ g (#[(cs.headD XE)]++caps) W (Yc (P j))):
 aQ 369 #[v,bm g caps] w (WK Xr (kj P xs.length)):=by
 obtain⟨A,n,c,rfl,hl,hc,hm⟩:=h.form;have H:=aa h;have HG:=aa y;have HL:=aa hl;unfold dp at z;simp only[bm];rw[hl];clear h y hl;go_enter func369,ntmps369;exact Yx
def dl2 {α:Type} (R:Wu->Nat->List Wv->α->Prop) (D:jf R) (v:Wv) (xs:List α) (g:Nat) (caps:Array Wv) (P:Nat->Bool) (w:Wu) (h:bW 1 R w w v xs) (z:dp g)
 (C: ∀(j:Nat) x cs W,xs[j]? =Ws x->Below w w W->R W W cs x->cs.length=1->aQ g (#[(cs.headD XE)]++caps) W (Yc (P j))):
 aQ 340 #[v,bm g caps] w (Yc ((Xs xs.length).any P)):=by
 obtain⟨A,n,c,rfl,hl,hc,hm⟩:=h.form;have y:=aa (dl1 R D _ xs g caps P w h z C);have G: -1<=kj P xs.length:=AW;rw[<-BE];clear h C z hl;simp only[bm] at y⊢
 go_enter func340,ntmps340;go_wp2_with(go_at_call 369;refine y.out.m ?_;rintro e F ⟨rfl,ap⟩)
 exact yp
def ag0 {α:Type} (R:Wu->Nat->List Wv->α->Prop) (hR:jf R) (v:Wv) (xs:List α) (g:Nat) (caps:Array Wv) (P:Nat->Bool) (w:Wu) (h:bW 1 R w w v xs) (z:dp g)
 (y: ∀(j:Nat) x cs W,xs[j]? =Ws x->Below w w W->R W W cs x->cs.length=1->aQ g (#[(cs.headD XE)]++caps) W (Yc (P j))):
 aQ 14 #[v,bm g caps] w (WK Xr (kj P xs.length)):=by
 obtain⟨A,n,c,rfl,hl,hc,hm⟩:=h.form;have H:=aa h;have HG:=aa y;have HL:=aa hl;unfold dp at z;simp only[bm];rw[hl];clear h y hl;go_enter func14,ntmps14;exact Yx
def Yy {α:Type} (R:Wu->Nat->List Wv->α->Prop) (D:jf R) (v:Wv) (xs:List α) (g:Nat) (caps:Array Wv) (P:Nat->Bool) (w:Wu) (h:bW 1 R w w v xs) (z:dp g)
 (C: ∀(j:Nat) x cs W,xs[j]? =Ws x->Below w w W->R W W cs x->cs.length=1->aQ g (#[(cs.headD XE)]++caps) W (Yc (P j))):
 aQ 201 #[v,bm g caps] w (Yc ((Xs xs.length).any P)):=by
 obtain⟨A,n,c,rfl,hl,hc,hm⟩:=h.form;have y:=aa (ag0 R D _ xs g caps P w h z C);have G: -1<=kj P xs.length:=AW;rw[<-BE];clear h C z hl;simp only[bm] at y⊢
 go_enter func201,ntmps201;go_wp2_with(go_at_call 14;refine y.out.m ?_;rintro e F ⟨rfl,ap⟩)
 exact yp
def Yz {α:Type} (R:Wu->Nat->List Wv->α->Prop) (hR:jf R) (v:Wv) (xs:List α) (g:Nat) (caps:Array Wv) (P:Nat->Bool) (w:Wu) (h:bW 3 R w w v xs) (z:dp g)
 (y: ∀(j:Nat) x cs W,xs[j]? =Ws x->Below w w W->R W W cs x->cs.length=3->aQ g (#[(Ye cs.toArray)]++caps) W (Yc (P j))):
 aQ 119 #[v,bm g caps] w (WK Xr (kj P xs.length)):=by
 obtain⟨A,n,c,rfl,hl,hc,hm⟩:=h.form;have H:=aa h;have HG:=aa y;have HL:=aa hl;unfold dp at z;simp only[bm];rw[hl];clear h y hl;go_enter func119,ntmps119;exact YA
def dl3 {α:Type} (R:Wu->Nat->List Wv->α->Prop) (D:jf R) (v:Wv) (xs:List α) (g:Nat) (caps:Array Wv) (P:Nat->Bool) (w:Wu) (h:bW 3 R w w v xs) (z:dp g)
 (C: ∀(j:Nat) x cs W,xs[j]? =Ws x->Below w w W->R W W cs x->cs.length=3->aQ g (#[(Ye cs.toArray)]++caps) W (Yc (P j))):
 aQ 116 #[v,bm g caps] w (Yc ((Xs xs.length).any P)):=by
 obtain⟨A,n,c,rfl,hl,hc,hm⟩:=h.form;have y:=aa (Yz R D _ xs g caps P w h z C);have G: -1<=kj P xs.length:=AW;rw[<-BE];clear h C z hl;simp only[bm] at y⊢
 go_enter func116,ntmps116;go_wp2_with(go_at_call 119;refine y.out.m ?_;rintro e F ⟨rfl,ap⟩)
 exact yp
def dl4 {α:Type} (R:Wu->Nat->List Wv->α->Prop) (hR:jf R) (v:Wv) (xs:List α) (g:Nat) (caps:Array Wv) (P:Nat->Bool) (w:Wu) (h:bW 7 R w w v xs) (z:dp g)
 (y: ∀(j:Nat) x cs W,xs[j]? =Ws x->Below w w W->R W W cs x->cs.length=7->aQ g (#[(Ye cs.toArray)]++caps) W (Yc (P j))):
 aQ 227 #[v,bm g caps] w (WK Xr (kj P xs.length)):=by
 obtain⟨A,n,c,rfl,hl,hc,hm⟩:=h.form;have H:=aa h;have HG:=aa y;have HL:=aa hl;unfold dp at z;simp only[bm];rw[hl];clear h y hl;go_enter func227,ntmps227;exact ag1
def dl5 {α:Type} (R:Wu->Nat->List Wv->α->Prop) (D:jf R) (v:Wv) (xs:List α) (g:Nat) (caps:Array Wv) (P:Nat->Bool) (w:Wu) (h:bW 7 R w w v xs) (z:dp g)
 (C: ∀(j:Nat) x cs W,xs[j]? =Ws x->Below w w W->R W W cs x->cs.length=7->aQ g (#[(Ye cs.toArray)]++caps) W (Yc (P j))):
 aQ 148 #[v,bm g caps] w (Yc ((Xs xs.length).any P)):=by
 obtain⟨A,n,c,rfl,hl,hc,hm⟩:=h.form;have y:=aa (dl4 R D _ xs g caps P w h z C);have G: -1<=kj P xs.length:=AW;rw[<-BE];clear h C z hl;simp only[bm] at y⊢
 go_enter func148,ntmps148;go_wp2_with(go_at_call 227;refine y.out.m ?_;rintro e F ⟨rfl,ap⟩)
 exact yp
def dl6 {α:Type} (R:Wu->Nat->List Wv->α->Prop) (hR:jf R) (v:Wv) (xs:List α) (g:Nat) (caps:Array Wv) (P:Nat->Bool) (w:Wu) (h:bW 7 R w w v xs) (z:dp g)
 (y: ∀(j:Nat) x cs W,xs[j]? =Ws x->Below w w W->R W W cs x->cs.length=7->aQ g (#[(Ye cs.toArray)]++caps) W (Yc (P j))):
 aQ 232 #[v,bm g caps] w (WK Xr (kj P xs.length)):=by
 obtain⟨A,n,c,rfl,hl,hc,hm⟩:=h.form;have H:=aa h;have HG:=aa y;have HL:=aa hl;unfold dp at z;simp only[bm];rw[hl];clear h y hl;go_enter func232,ntmps232;exact ag1
def dl7 {α:Type} (R:Wu->Nat->List Wv->α->Prop) (D:jf R) (v:Wv) (xs:List α) (g:Nat) (caps:Array Wv) (P:Nat->Bool) (w:Wu) (h:bW 7 R w w v xs) (z:dp g)
 (C: ∀(j:Nat) x cs W,xs[j]? =Ws x->Below w w W->R W W cs x->cs.length=7->aQ g (#[(Ye cs.toArray)]++caps) W (Yc (P j))):
 aQ 151 #[v,bm g caps] w (Yc ((Xs xs.length).any P)):=by
 obtain⟨A,n,c,rfl,hl,hc,hm⟩:=h.form;have y:=aa (dl6 R D _ xs g caps P w h z C);have G: -1<=kj P xs.length:=AW;rw[<-BE];clear h C z hl;simp only[bm] at y⊢
 go_enter func151,ntmps151;go_wp2_with(go_at_call 232;refine y.out.m ?_;rintro e F ⟨rfl,ap⟩)
 exact yp
def dl8 {α:Type} (R:Wu->Nat->List Wv->α->Prop) (D:jf R) (v:Wv) (xs:List α) (g:Nat) (caps:Array Wv) (P:Nat->Bool) (w:Wu) (h:bW 10 R w w v xs) (C:dp g)
 (y: ∀(j:Nat) x cs W,xs[j]? =Ws x->Below w w W->R W W cs x->cs.length=10->aQ g (#[(Ye cs.toArray)]++caps) W (Yc (P j))):
 aQ 158 #[v,bm g caps] w (WK Xr (kj P xs.length)):=by
 obtain⟨A,n,c,rfl,hl,hc,hm⟩:=h.form;have H:=aa h;have z:=aa y;have HL:=aa hl;unfold dp at C;simp only[bm];rw[hl];clear h y hl;go_enter func158,ntmps158;go_wp2_with fail
 go_loopw [8] (λi wr=> ∃k:Nat,k<=n/\i=WK Xr k/\(∀j,j<k->P j=Ww)/\Below w w wr) (λi _=>n - (WS i).toNat)
 case atStart=>exact⟨0,bU _,rfl,by omega,af w⟩
 case round=>
  obtain⟨k,hk,rfl,dw,hB⟩:=hrel;have HA:=aa dw;clear dw;by_cases ar:k<n
  .have G:(0:Int)<=k:=by omega
   have F:(k:Int)<n:=Yi;obtain⟨x,hx⟩: ∃x,xs[k]? =Ws x:=⟨_,Wy we⟩;obtain⟨b,o,cs,rfl,gP,eF,hr,bk⟩:=(H.out.to D hB (ag _) hB.size).at_ hx;have Bg:=z.out k x cs wr hx hB hr eF;obtain⟨u0,u1,u2,u3,u4,u5,u6,u7,u8,u9,rfl⟩:=dl0 eF;refine Dd λh0 h1 h2=> ?_;have I:=bk 3 _ rfl;have J:=bk 4 _ rfl;have O:=bk 5 _ rfl;have U:=bk 6 _ rfl;have V:=bk 7 _ rfl;have X:=bk 8 _ rfl;have Y:=bk 9 _ rfl;simp only[WR] at h0;exact PT
  .exact PU
def dl9 {α:Type} (R:Wu->Nat->List Wv->α->Prop) (D:jf R) (v:Wv) (xs:List α) (g:Nat) (caps:Array Wv) (P:Nat->Bool) (w:Wu) (h:bW 10 R w w v xs) (z:dp g)
 (C: ∀(j:Nat) x cs W,xs[j]? =Ws x->Below w w W->R W W cs x->cs.length=10->aQ g (#[(Ye cs.toArray)]++caps) W (Yc (P j))):
 aQ 56 #[v,bm g caps] w (Yc ((Xs xs.length).any P)):=by
 obtain⟨A,n,c,rfl,hl,hc,hm⟩:=h.form;have y:=aa (dl8 R D _ xs g caps P w h z C);have G: -1<=kj P xs.length:=AW;rw[<-BE];clear h C z hl;simp only[bm] at y⊢
 go_enter func56,ntmps56;go_wp2_with(go_at_call 158;refine y.out.m ?_;rintro e F ⟨rfl,ap⟩)
 exact yp
def dm0 {α:Type} (R:Wu->Nat->List Wv->α->Prop) (hR:jf R) (v:Wv) (xs:List α) (g:Nat) (caps:Array Wv) (P:Nat->Bool) (w:Wu) (h:bW 3 R w w v xs) (z:dp g)
 (y: ∀(j:Nat) x cs W,xs[j]? =Ws x->Below w w W->R W W cs x->cs.length=3->aQ g (#[(Ye cs.toArray)]++caps) W (Yc (P j))):
 aQ 294 #[v,bm g caps] w (WK Xr (kj P xs.length)):=by
 obtain⟨A,n,c,rfl,hl,hc,hm⟩:=h.form;have H:=aa h;have HG:=aa y;have HL:=aa hl;unfold dp at z;simp only[bm];rw[hl];clear h y hl;go_enter func294,ntmps294;exact YA
def dm1 {α:Type} (R:Wu->Nat->List Wv->α->Prop) (D:jf R) (v:Wv) (xs:List α) (g:Nat) (caps:Array Wv) (P:Nat->Bool) (w:Wu) (h:bW 3 R w w v xs) (z:dp g)
 (C: ∀(j:Nat) x cs W,xs[j]? =Ws x->Below w w W->R W W cs x->cs.length=3->aQ g (#[(Ye cs.toArray)]++caps) W (Yc (P j))):
 aQ 215 #[v,bm g caps] w (Yc ((Xs xs.length).any P)):=by
 obtain⟨A,n,c,rfl,hl,hc,hm⟩:=h.form;have y:=aa (dm0 R D _ xs g caps P w h z C);have G: -1<=kj P xs.length:=AW;rw[<-BE];clear h C z hl;simp only[bm] at y⊢
 go_enter func215,ntmps215;go_wp2_with(go_at_call 294;refine y.out.m ?_;rintro e F ⟨rfl,ap⟩)
 exact yp
def dm2 {α:Type} (R:Wu->Nat->List Wv->α->Prop) (hR:jf R) (v:Wv) (xs:List α) (g:Nat) (caps:Array Wv) (P:Nat->Bool) (w:Wu) (h:bW 3 R w w v xs) (z:dp g)
 (y: ∀(j:Nat) x cs W,xs[j]? =Ws x->Below w w W->R W W cs x->cs.length=3->aQ g (#[(Ye cs.toArray)]++caps) W (Yc (P j))):
 aQ 295 #[v,bm g caps] w (WK Xr (kj P xs.length)):=by
 obtain⟨A,n,c,rfl,hl,hc,hm⟩:=h.form;have H:=aa h;have HG:=aa y;have HL:=aa hl;unfold dp at z;simp only[bm];rw[hl];clear h y hl;go_enter func295,ntmps295;exact YA
def dm3 {α:Type} (R:Wu->Nat->List Wv->α->Prop) (D:jf R) (v:Wv) (xs:List α) (g:Nat) (caps:Array Wv) (P:Nat->Bool) (w:Wu) (h:bW 3 R w w v xs) (z:dp g)
 (C: ∀(j:Nat) x cs W,xs[j]? =Ws x->Below w w W->R W W cs x->cs.length=3->aQ g (#[(Ye cs.toArray)]++caps) W (Yc (P j))):
 aQ 222 #[v,bm g caps] w (Yc ((Xs xs.length).any P)):=by
 obtain⟨A,n,c,rfl,hl,hc,hm⟩:=h.form;have y:=aa (dm2 R D _ xs g caps P w h z C);have G: -1<=kj P xs.length:=AW;rw[<-BE];clear h C z hl;simp only[bm] at y⊢
 go_enter func222,ntmps222;go_wp2_with(go_at_call 295;refine y.out.m ?_;rintro e F ⟨rfl,ap⟩)
 exact yp
structure cH (w:Wu):Prop where
 tab:Lib.TabIs WH w "internal/strconv.uint64pow10" .u64 Lib.pow10Tab
 most: ∃m,w.cell? ⟨0,0,Wr⟩=Ws (WK Xr m)
 esyn: ∃tp p,w.cell? ⟨5,0,Wr⟩=Ws (.iface tp p)
 erng: ∃tp p,w.cell? ⟨6,0,Wr⟩=Ws (.iface tp p)
 size:8<=w.heap.size
def cH.below {w w':Wu} {B:Nat} (h:cH w) (g:Below B w w') (j:8<=B):cH w' where
 tab:=by
  have e:w'.var? WH "internal/strconv.uint64pow10" =w.var? WH "internal/strconv.uint64pow10" :=by have y:Tryz.prog.globalNamed "internal/strconv.uint64pow10" =Ws 1:=aC;unfold World.var?;rw[y];simp only[Option.bind_some];rw[g.block _ Yi]
  exact e.trans h.tab
 most:=by obtain⟨m,hm⟩:=h.most;exact⟨m,(g.cell (bq az j)).trans hm⟩
 esyn:=by obtain⟨t,p,hm⟩:=h.esyn;exact⟨t,p,(g.cell (bq az j)).trans hm⟩
 erng:=by obtain⟨t,p,hm⟩:=h.erng;exact⟨t,p,(g.cell (bq az j)).trans hm⟩
 size:=bo h.size g.size
def cH.step {w w':Wu} (h:cH w) (c:Below w w w'):cH w':=h.below c h.size
def LO (n:Int) (c:aK n) (w:Wu) (g:cH w):
 aQ 29 #[n] w (WM (bs (WB n))):=
 (strconv_Itoa n c.1 c.2 w g.tab).mono λe w' ⟨h,k,os,j⟩=>⟨h,j▸Lib.below_grow _ _ (ag _) _ _⟩
def PW (n:Int) (c:aK n) (w:Wu) (g:cH w):
 aQ 102 #[n,WK Xr 10] w (WM (bs (WB n))):=
 (strconv_FormatInt_10 n c.1 c.2 w g.tab).mono λe w' ⟨h,k,os,j⟩=>⟨h,j▸Lib.below_grow _ _ (ag _) _ _⟩
def dk0 (s:ByteArray) (j:s.size<=281474976710656) (v:Int) (h:Lib.atoiAll s.data.toList= .ok v) (w:Wu):
 aQ 156 #[s] w (.tuple #[v,.nilIface]):=
 (strconv_Atoi_ok s Yi v h w).mono λe w' ⟨c,g⟩=>⟨c,by
   rcases g with rfl|⟨t,rfl⟩
   .exact XA _ _
   .exact Lib.bytesWorld_below _ _ _⟩
def dk1 (s:ByteArray) (y:s.size<=281474976710656) (h: ∀v,Lib.atoiAll s.data.toList≠ .ok v) (w:Wu) (j:cH w):
 WJ WH 156 #[s] w λe w'=> ∃(v:Int) (t:WQ) (p:Wv),e=Xz (.tuple #[WK Xr v,.iface t p])/\Below w w w':=by
 obtain⟨t1,p1,h1⟩:=j.esyn;obtain⟨t2,p2,h2⟩:=j.erng;cases hr:Lib.atoiAll s.data.toList with
 |ok v=>exact absurd hr (h v)
 |range=>exact(strconv_Atoi_range s y hr _ w h2 (.inr ⟨_,_,rfl⟩)).mono λe w' ⟨N,g,_,_,c⟩=>⟨_,_,_,g,c⟩
 |_=>exact(strconv_Atoi_syntax s y hr _ w h1 (.inr ⟨_,_,rfl⟩)).mono λe w' ⟨N,g,_,_,c⟩=>⟨_,_,_,g,c⟩
def dk2 (s:ByteArray) (j:s.size<=281474976710656) (v:Int) (h:Lib.parseIntB 64 s.data.toList= .ok v) (w:Wu):
 aQ 181 #[s,WK Xr 10,WK Xr 64] w (.tuple #[v,.nilIface]):=
 (strconv_ParseInt_10_at64_ok s Yi v h w).mono λe w' ⟨c,g⟩=>⟨c,by
   rcases g with rfl|⟨t,rfl⟩
   .exact XA _ _
   .exact Lib.bytesWorld_below _ _ _⟩
def dk3 (s:ByteArray) (y:s.size<=281474976710656) (h: ∀v,Lib.parseIntB 64 s.data.toList≠ .ok v) (w:Wu) (j:cH w):
 WJ WH 181 #[s,WK Xr 10,WK Xr 64] w λe w'=> ∃(v:Int) (t:WQ) (p:Wv),e=Xz (.tuple #[WK Xr v,.iface t p])/\Below w w w':=by
 obtain⟨t1,p1,h1⟩:=j.esyn;obtain⟨t2,p2,h2⟩:=j.erng;cases hr:Lib.parseIntB 64 s.data.toList with
 |ok v=>exact absurd hr (h v)
 |range=>exact(strconv_ParseInt_10_at64_range s y hr _ w h2 (.inr ⟨_,_,rfl⟩)).mono λe w' ⟨N,g,_,_,c⟩=>⟨_,_,_,g,c⟩
 |_=>exact(strconv_ParseInt_10_at64_syntax s y hr _ w h1 (.inr ⟨_,_,rfl⟩)).mono λe w' ⟨N,g,_,_,c⟩=>⟨_,_,_,g,c⟩
def PX (s:ByteArray) (w:Wu) (c:cH w) (g:s.size<4294967281):
 WJ WH 13 #[s,WM (bs [32])] w λe w'=> ∃v,e=Xz v/\cD w' w' v (Lib.splitB (bs [32]) 0 (XM s (bs [32])) s)/\(Lib.splitB (bs [32]) 0 (XM s (bs [32])) s).length=XM s (bs [32])+1/\Below w w w':=by
 obtain⟨m,hm⟩:=c.most;refine(strings_Split s (bs [32]) m w g hm az).mono λe w' ⟨he,hw⟩=> ?_;have b_:(Lib.splitB (bs [32]) 0 (XM s (bs [32])) s).length=XM s (bs [32])+1:=Lib.splitB_all (bs [32]) az 0 _ s rfl;have y:=Lib.countB_le (bs [32]) az s.size s (ag _);exact ag6
def dk4 (v:Wv) (xs:List ByteArray) (w:Wu) (h:cD w w v xs) (C:xs.length<=140737488355328)
 (y:(Lib.join (xs.map (·.data.toList)) [32]).length<=140737488355328):
 aQ 27 #[v,WM (bs [32])] w (WM (bs (Lib.join (xs.map (·.data.toList)) [32]))):=by
 rcases Sl.cases_ h with ⟨z,A,c,rfl,_⟩|⟨U,b,o,c,rfl,g,O,D,F⟩
 .have:xs=[]:=by simpa using z
  subst this;exact(strings_Join_none A c _ w).mono λe w' ⟨G,J⟩=>⟨G,J▸XA _ _⟩
 .rw[List.length_map] at g⊢
  exact strings_Join b o c xs (bs [32]) w (λj x I=>F j _ (by simp[I])) D C g y
def YH (v u:Wv) (xs ys:List Int) (w:Wu) (B:Nat) (hx:aW w B v xs) (F:aW w B u ys):
 aQ 182 #[v,u] w (Yc (xs==ys)):=by
 by_cases g:xs.length=ys.length
 .rcases Sl.cases_ hx.1 with ⟨C,A,c,rfl,_⟩|⟨G,b,o,c,rfl,O,U,hb,V⟩
  .have:xs=[]:=by simpa using C
   subst this;obtain⟨A2,c2,rfl,_,_⟩:=F.1;have Z:ys=[]:=X7 (by simpa using g.symm);subst Z;exact(slices_Equal_int_empty A A2 c 0 c2 w Yi).mono λe w' ⟨y,z⟩=>⟨y,z▸XA _ _⟩
  .rcases Sl.cases_ F.1 with ⟨C,_⟩|⟨O',I,o',J,rfl,Y,zy,fP,X⟩
   .simp at C G;simp[C] at g;simp[g] at G
   .rw[List.length_map] at O Y⊢
    rw[WF];refine(slices_Equal_int b o xs.length c I o' ys.length J xs ys w (ag _) (ag _) (by simp[Xe] at U;omega) (by simp[Xe] at zy;omega) (λj D=>V j _ (by simp[D])) (λj D=>X j _ (by simp[D]))).mono λe w' ⟨y,q,z⟩=>⟨?_,z▸BD (XA _ _) q⟩;rw[y];simp
 .obtain⟨A,c,rfl,_,_⟩:=hx.1;obtain⟨A2,c2,rfl,_,_⟩:=F.1;refine(slices_Equal_int_lens A A2 _ c _ c2 w (by simpa using g)).mono λe w' ⟨y,z⟩=>⟨?_,z▸XA _ _⟩;rw[y];exact cE (by simp;intro h;exact g (by rw[h]))
def Sl.form {w:Wu} {B:Nat} {v:Wv} {xs:List Wv} (h:Sl w B v xs): ∃A n c,v=Yb A n c/\xs.length=n/\n<=c/\c<=maxLen:=ca5
def aW.form {w:Wu} {B:Nat} {v:Wv} {l:List Int} (h:aW w B v l): ∃A n c,v=Yb A n c/\l.length=n/\n<=c/\c<=9223372036854775807:=by obtain⟨A,n,c,h1,h2,h3,h4⟩:=h.1.form;exact⟨A,n,c,h1,by simpa using h2,h3,h4⟩
def aW.nil_ (w:Wu) (B:Nat):aW w B (Yb Wr 0 0) []:=⟨Sl.nil_ w B,by simp⟩
def aK.zero:aK 0:=⟨by decide,by decide⟩
def cD.form {w:Wu} {B:Nat} {v:Wv} {l:List ByteArray} (h:cD w B v l): ∃A n c,v=Yb A n c/\l.length=n/\n<=c/\c<=9223372036854775807:=by obtain⟨A,n,c,h1,h2,h3,h4⟩:=Sl.form h;exact⟨A,n,c,h1,by simpa using h2,h3,h4⟩
def cT (l:List Int) (k:Nat):Int:=l.getD k 0
def aJ (l:List ByteArray) (k:Nat):ByteArray:=l.getD k ByteArray.empty
def LP {l:List Int} {k:Nat} (h:k<l.length):cT l k=l[k]:=by simp[cT,List.getD,Wy h]
def YI {l:List ByteArray} {k:Nat} (h:k<l.length):aJ l k=l[k]:=by simp[aJ,List.getD,Wy h]
def dk5 {l c:List Int} (h:l.length=c.length) (z: ∀k,k<l.length->cT l k=cT c k):l=c:=
 List.ext_getElem h λj g y=>by rw[<-LP g,<-LP y];exact z j g
def aW.at_ {w:Wu} {B:Nat} {A:Option X8} {n c:Nat} {l:List Int} (h:aW w B (Yb A n c) l) (k:Nat) (g:k<n):
 ∃b o,A=Ws ⟨b,o,Wr⟩/\b<B/\(∀j,j<n->w.cell? ⟨b,o+j,Wr⟩=Ws (WK Xr (cT l j))):=by
 obtain⟨A',c',he,h1,h2,h3⟩:=h.1;exact ag7
def cD.at_ {w:Wu} {B:Nat} {A:Option X8} {n c:Nat} {l:List ByteArray} (h:cD w B (Yb A n c) l) (k:Nat) (g:k<n):
 ∃b o,A=Ws ⟨b,o,Wr⟩/\b<B/\(∀j,j<n->w.cell? ⟨b,o+j,Wr⟩=Ws (WM (aJ l j))):=by
 obtain⟨A',c',he,h1,h2,h3⟩:=id h;exact ag7
def LQ (v u:Wv) (xs ys:List Int) (w:Wu) (B:Nat) (hx:aW w B v xs) (D:aW w B u ys):
 aQ 23 #[v,u] w (Yc (xs==ys)):=by
 obtain⟨A,n,c,rfl,hl,hc,hm⟩:=hx.form;obtain⟨A',n',c',rfl,eX,mg,nU⟩:=D.form;by_cases Z:n=n'
 .obtain rfl:n=n':=Z;have V:=aa hx;have X:=aa D;have G:=aa hl;have C:=aa eX;clear hx D hl eX;go_enter func23,ntmps23
  go_wp2
  go_loopw [5] (λi wr=> ∃k:Nat,k<=n/\i=WK Xr k/\(∀j,j<k->cT xs j=cT ys j)/\∃q,wr=w.drewN q) (λi _=>n - (WS i).toNat)
  case atStart=>exact⟨0,bU _,rfl,by omega,0,rfl⟩
  case round=>
   obtain⟨k,hk,rfl,heq,q,rfl⟩:=hrel;have F:=aa heq;clear heq;by_cases z:k<n
   .obtain⟨b,o,rfl,hb,bk⟩:=V.out.at_ k z;obtain⟨b',o',rfl,fP,hcell'⟩:=X.out.at_ k z;have I:=bk k z;have h2:=hcell' k z;clear bk hcell';refine LR λdz bJ=> ?_;by_cases g:cT xs k=cT ys k
    .have Y:(cT xs k !=cT ys k)=false:=by simp[g]
     have J: ∀j,j<k+1->cT xs j=cT ys j:=λj hj=>by
      by_cases e:j=k
      .rw[e];exact g
      .exact F.out j Yi
     have U:=aa J;clear g J;generalize cT xs k=x at*
     generalize cT ys k=y at*
     go_wp2_with fail
     go_quiet (fail)
     go_wp2
     exact⟨⟨k+1,by omega,by go_num,U.out,_,rfl⟩,by simp[WS];omega⟩
    .have Y:(cT xs k !=cT ys k)=true:=by simp[g]
     have O:Hid (xs≠ys):=λh=>g (by rw[h]);clear g;generalize cT xs k=x at*
     generalize cT ys k=y at*
     go_wp2_with fail
     go_quiet (fail)
     go_wp2
     go_ret;exact⟨cE (by simpa using O.out),by first|exact BD (XA _ _) _|exact BD (BD (XA _ _) _) _⟩
   .go_wp2
    go_ret;refine⟨cE ?_,BD (XA _ _) q⟩;have qX:k=n:=Yi;have:xs=ys:=dk5 (by rw[G.out,C.out]) (λj I=>F.out j (by rw[G.out] at I;omega));simp[this]
 .have aO:((n:Int)!=n')=true:=by simp;omega
  go_enter func23,ntmps23
  go_wp2
  go_ret;refine⟨cE ?_,XA _ _⟩;simp;intro h;subst h;omega
structure aP where
 kind:Int
 a:Int
 b:Int
 c:Int
 ok:Int
 key:ByteArray
 val:Int
 old:Int
 ms:List Int
 ss:List Int
def aP.cells (x:aP) (m s:Wv):Array Value:= #[WK Xr x.kind,WK Xr x.a,WK Xr x.b,WK Xr x.c,WK Xr x.ok,WM x.key,WK Xr x.val,WK Xr x.old,m,s]
def aP.cells_def (x:aP) (m s:Wv):x.cells m s= #[WK Xr x.kind,WK Xr x.a,WK Xr x.b,WK Xr x.c,WK Xr x.ok,WM x.key,WK Xr x.val,WK Xr x.old,m,s]:=rfl
structure aP.In (x:aP) (w:Wu) (B:Nat) (m s:Wv):Prop where
 kind:aK x.kind
 a:aK x.a
 b:aK x.b
 c:aK x.c
 ok:aK x.ok
 key:x.key.size<=1000000
 val:aK x.val
 old:aK x.old
 ms:aW w B m x.ms
 ss:aW w B s x.ss
def aP.In.below {x:aP} {w w':Wu} {B B':Nat} {m s:Wv} (h:x.In w B m s) (g:Below B' w w') (c:B<=B'):x.In w' B m s:=
 ⟨h.kind,h.a,h.b,h.c,h.ok,h.key,h.val,h.old,h.ms.below g c,h.ss.below g c⟩
def aP.In.more {x:aP} {w:Wu} {B B':Nat} {m s:Wv} (h:x.In w B m s) (c:B<=B'):x.In w B' m s:=
 ⟨h.kind,h.a,h.b,h.c,h.ok,h.key,h.val,h.old,h.ms.more c,h.ss.more c⟩
def yq (w:Wu) (y:aP) (e:X0) (w':Wu):Prop:= ∃m s,e=Xz (Ye (y.cells m s))/\y.In w' w' m s/\Below w w w'
def mX (x y:aP):Bool:=
 (x.kind==y.kind)&&(x.a==y.a)&&(x.b==y.b)&&(x.c==y.c)&&((x.ok==y.ok)&&(x.key.data.toList==y.key.data.toList)&&(x.val==y.val)&&(x.old==y.old))&&(x.ms==y.ms)&&(x.ss==y.ss)
def YJ (x y:aP) (m s C D:Wv) (w:Wu) (hx:x.In w w m s) (g:y.In w w C D):
 aQ 12 #[Ye (x.cells m s),Ye (y.cells C D)] w (Yc (mX x y)):=by
 obtain⟨Am,nm,cm,rfl,_,_,_⟩:=hx.ms.form;obtain⟨As,ns,cs,rfl,_,_,_⟩:=hx.ss.form;obtain⟨Am',nm',cm',rfl,_,_,_⟩:=g.ms.form;obtain⟨As',ns',cs',rfl,_,_,_⟩:=g.ss.form;have j:=aa hx;have z:=aa g;clear hx g;unfold aP.cells;go_enter func12,ntmps12;have I:Below w w w:=af w
 go_wp2_with(first
  |(go_at_call_of 23 (Value.slice Am nm cm);refine(LQ _ _ x.ms y.ms _ w.heap.size (j.out.ms.below (ae (ae (af w) _) _) (ag _)) (z.out.ms.below (ae (ae (af w) _) _) (ag _))).m ?_;rintro e J ⟨rfl,A⟩;have c:=ai (ae (ae (af w) _) _) A;obtain⟨bt,cr⟩:=gw A)
  |(go_at_call_of 23 (Value.slice As ns cs);refine(LQ _ _ x.ss y.ss _ w.heap.size (j.out.ss.below c (ag _)) (z.out.ss.below c (ag _))).m ?_;rintro e O ⟨rfl,G⟩;have F:=ai c G))
 all_goals go_ret
 all_goals refine⟨cE ?_,?_⟩
 all_goals first
  |exact F
  |exact c
  |exact ae (ae (af w) _) _
  |(simp only[mX,<-jr];simp[*])
def dk6 (x y:aP) (m s C D:Wv) (w:Wu) (hx:x.In w w m s) (g:y.In w w C D):
 aQ 111 #[Ye (x.cells m s),Ye (y.cells C D)] w (Yc (mX x y)):=by
 obtain⟨Am,nm,cm,rfl,_,_,_⟩:=hx.ms.form;obtain⟨As,ns,cs,rfl,_,_,_⟩:=hx.ss.form;obtain⟨Am',nm',cm',rfl,_,_,_⟩:=g.ms.form;obtain⟨As',ns',cs',rfl,_,_,_⟩:=g.ss.form;have j:=aa hx;have z:=aa g;clear hx g;unfold aP.cells;go_enter func111,ntmps111;have I:Below w w w:=af w
 go_wp2_with(first
  |(go_at_call_of 182 (Value.slice Am nm cm);refine(YH _ _ x.ms y.ms _ w.heap.size (j.out.ms.below (ae (ae (af w) _) _) (ag _)) (z.out.ms.below (ae (ae (af w) _) _) (ag _))).m ?_;rintro e J ⟨rfl,A⟩;have c:=ai (ae (ae (af w) _) _) A;obtain⟨bt,cr⟩:=gw A)
  |(go_at_call_of 182 (Value.slice As ns cs);refine(YH _ _ x.ss y.ss _ w.heap.size (j.out.ss.below c (ag _)) (z.out.ss.below c (ag _))).m ?_;rintro e O ⟨rfl,G⟩;have F:=ai c G))
 all_goals go_ret
 all_goals refine⟨cE ?_,?_⟩
 all_goals first
  |exact F
  |exact c
  |exact ae (ae (af w) _) _
  |(simp only[mX,<-jr];simp[*])
def ch (x:aP):aP:=
 {kind:=x.kind
  a:=if x.kind=4\/x.kind=16\/x.kind=15 then 0 else x.a
  b:=if x.kind=7\/x.kind=10\/x.kind=12\/x.kind=14 then x.b else 0
  c:=if x.kind=14 then x.c else 0
  ok:=if x.kind=10 then x.ok else 0
  key:=if x.kind=10 then x.key else⟨#[]⟩
  val:=if x.kind=10\/x.kind=12 then x.val else 0
  old:=if x.kind=10 then x.old else 0
  ms:=if x.kind=15 then x.ms else[]
  ss:=if x.kind=5 then x.ss else[]}
def ad5 {x:aP} {w:Wu} {B:Nat} {m s:Wv} (h:x.In w B m s):
 (ch x).In w B (if x.kind=15 then m else .slice Wr 0 0) (if x.kind=5 then s else .slice Wr 0 0):=by
 refine⟨h.kind,?_,?_,?_,?_,?_,?_,?_,?_,?_⟩<;>simp only[ch]<;>split<;>first|exact aK.zero|exact h.a|exact h.b|exact h.c|exact h.ok|exact h.key|exact h.val|exact h.old|exact h.ms|exact h.ss|exact aW.nil_ _ _|exact bU _
def BG {x:aP} {w w':Wu} {m s v:Wv} (h:x.In w w m s) (c:Below w w w')
 (g:v=Ye ((ch x).cells (if x.kind=15 then m else .slice Wr 0 0) (if x.kind=5 then s else .slice Wr 0 0))):yq w (ch x) (Xz v) w':=
 ⟨_,_,congrArg _ g,((ad5 h).below c (ag _)).more c.size,c⟩
def dt1 (a b c ok:Int) (key:ByteArray) (val old:Int) (ms ss:List Int) (z g:Option X8) (nm A y j:Nat) (w:Wu)
 (C:Hid ((⟨5,a,b,c,ok,key,val,old,ms,ss⟩:aP).In w w (Yb z nm A) (Yb g y j))):
 WJ WH 69 #[Ye #[WK Xr 5,a,b,c,ok,key,val,old,Yb z nm A,Yb g y j]] w (yq w (ch ⟨5,a,b,c,ok,key,val,old,ms,ss⟩)):=by
 go_enter func69,ntmps69;go_wp2_with fail
 all_goals refine bodyPost_ret (v:=Ye #[WK Xr 5,a,WK Xr 0,WK Xr 0,WK Xr 0,WM ⟨#[]⟩,WK Xr 0,WK Xr 0,Yb Wr 0 0,Yb g y j]) A8 rfl ?_
 all_goals exact BG C.out A0 Cl
def dt2 (a b c ok:Int) (key:ByteArray) (val old:Int) (ms ss:List Int) (g j:Option X8) (nm y A z:Nat) (w:Wu)
 (C:Hid ((⟨7,a,b,c,ok,key,val,old,ms,ss⟩:aP).In w w (Yb g nm y) (Yb j A z))):
 WJ WH 69 #[Ye #[WK Xr 7,a,b,c,ok,key,val,old,Yb g nm y,Yb j A z]] w (yq w (ch ⟨7,a,b,c,ok,key,val,old,ms,ss⟩)):=by
 go_enter func69,ntmps69;go_wp2_with fail
 all_goals refine bodyPost_ret (v:=Ye #[WK Xr 7,a,b,WK Xr 0,WK Xr 0,WM ⟨#[]⟩,WK Xr 0,WK Xr 0,Yb Wr 0 0,Yb Wr 0 0]) A8 rfl ?_
 all_goals exact BG C.out A0 Cl
def dt3 (a b c ok:Int) (key:ByteArray) (val old:Int) (ms ss:List Int) (g j:Option X8) (nm y A z:Nat) (w:Wu)
 (C:Hid ((⟨10,a,b,c,ok,key,val,old,ms,ss⟩:aP).In w w (Yb g nm y) (Yb j A z))):
 WJ WH 69 #[Ye #[WK Xr 10,a,b,c,ok,key,val,old,Yb g nm y,Yb j A z]] w (yq w (ch ⟨10,a,b,c,ok,key,val,old,ms,ss⟩)):=by
 go_enter func69,ntmps69;go_wp2_with fail
 go_region
 all_goals go_wp2_with fail
 all_goals refine bodyPost_ret (v:=Ye #[WK Xr 10,a,b,WK Xr 0,ok,key,val,old,Yb Wr 0 0,Yb Wr 0 0]) A8 rfl ?_
 all_goals exact BG C.out A0 Cl
def dt4 (a b c ok:Int) (key:ByteArray) (val old:Int) (ms ss:List Int) (g j:Option X8) (nm y A z:Nat) (w:Wu)
 (C:Hid ((⟨12,a,b,c,ok,key,val,old,ms,ss⟩:aP).In w w (Yb g nm y) (Yb j A z))):
 WJ WH 69 #[Ye #[WK Xr 12,a,b,c,ok,key,val,old,Yb g nm y,Yb j A z]] w (yq w (ch ⟨12,a,b,c,ok,key,val,old,ms,ss⟩)):=by
 go_enter func69,ntmps69;go_wp2_with fail
 go_region
 all_goals go_wp2_with fail
 all_goals refine bodyPost_ret (v:=Ye #[WK Xr 12,a,b,WK Xr 0,WK Xr 0,WM ⟨#[]⟩,val,WK Xr 0,Yb Wr 0 0,Yb Wr 0 0]) A8 rfl ?_
 all_goals exact BG C.out A0 Cl
def dt5 (a b c ok:Int) (key:ByteArray) (val old:Int) (ms ss:List Int) (g j:Option X8) (nm y A z:Nat) (w:Wu)
 (C:Hid ((⟨14,a,b,c,ok,key,val,old,ms,ss⟩:aP).In w w (Yb g nm y) (Yb j A z))):
 WJ WH 69 #[Ye #[WK Xr 14,a,b,c,ok,key,val,old,Yb g nm y,Yb j A z]] w (yq w (ch ⟨14,a,b,c,ok,key,val,old,ms,ss⟩)):=by
 go_enter func69,ntmps69;go_wp2_with fail
 go_region
 all_goals go_wp2_with fail
 all_goals refine bodyPost_ret (v:=Ye #[WK Xr 14,a,b,c,WK Xr 0,WM ⟨#[]⟩,WK Xr 0,WK Xr 0,Yb Wr 0 0,Yb Wr 0 0]) A8 rfl ?_
 all_goals exact BG C.out A0 Cl
def dt6 (a b c ok:Int) (key:ByteArray) (val old:Int) (ms ss:List Int) (g y:Option X8) (nm j A z:Nat) (w:Wu)
 (C:Hid ((⟨15,a,b,c,ok,key,val,old,ms,ss⟩:aP).In w w (Yb g nm j) (Yb y A z))):
 WJ WH 69 #[Ye #[WK Xr 15,a,b,c,ok,key,val,old,Yb g nm j,Yb y A z]] w (yq w (ch ⟨15,a,b,c,ok,key,val,old,ms,ss⟩)):=by
 go_enter func69,ntmps69;go_wp2_with fail
 all_goals refine bodyPost_ret (v:=Ye #[WK Xr 15,WK Xr 0,WK Xr 0,WK Xr 0,WK Xr 0,WM ⟨#[]⟩,WK Xr 0,WK Xr 0,Yb g nm j,Yb Wr 0 0]) A8 rfl ?_
 all_goals exact BG C.out A0 Cl
def dt7 (a b c ok:Int) (key:ByteArray) (val old:Int) (ms ss:List Int) (g j:Option X8) (nm y A z:Nat) (w:Wu)
 (C:Hid ((⟨4,a,b,c,ok,key,val,old,ms,ss⟩:aP).In w w (Yb g nm y) (Yb j A z))):
 WJ WH 69 #[Ye #[WK Xr 4,a,b,c,ok,key,val,old,Yb g nm y,Yb j A z]] w (yq w (ch ⟨4,a,b,c,ok,key,val,old,ms,ss⟩)):=by
 go_enter func69,ntmps69;go_wp2_with fail
 all_goals refine bodyPost_ret (v:=Ye #[WK Xr 4,WK Xr 0,WK Xr 0,WK Xr 0,WK Xr 0,WM ⟨#[]⟩,WK Xr 0,WK Xr 0,Yb Wr 0 0,Yb Wr 0 0]) A8 rfl ?_
 all_goals exact BG C.out A0 Cl
def dt8 (a b c ok:Int) (key:ByteArray) (val old:Int) (ms ss:List Int) (g j:Option X8) (nm y A z:Nat) (w:Wu)
 (C:Hid ((⟨16,a,b,c,ok,key,val,old,ms,ss⟩:aP).In w w (Yb g nm y) (Yb j A z))):
 WJ WH 69 #[Ye #[WK Xr 16,a,b,c,ok,key,val,old,Yb g nm y,Yb j A z]] w (yq w (ch ⟨16,a,b,c,ok,key,val,old,ms,ss⟩)):=by
 go_enter func69,ntmps69;go_wp2_with fail
 all_goals refine bodyPost_ret (v:=Ye #[WK Xr 16,WK Xr 0,WK Xr 0,WK Xr 0,WK Xr 0,WM ⟨#[]⟩,WK Xr 0,WK Xr 0,Yb Wr 0 0,Yb Wr 0 0]) A8 rfl ?_
 all_goals exact BG C.out A0 Cl
def dt9 (k:Int) (a b c ok:Int) (key:ByteArray) (val old:Int) (ms ss:List Int) (g j:Option X8) (nm y A z:Nat) (w:Wu) (HK:Hid (¬k=4/\¬k=16/\¬k=15/\¬k=5/\¬k=7/\¬k=10/\¬k=12/\¬k=14))
 (C:Hid ((⟨k,a,b,c,ok,key,val,old,ms,ss⟩:aP).In w w (Yb g nm y) (Yb j A z))):
 WJ WH 69 #[Ye #[k,a,b,c,ok,key,val,old,Yb g nm y,Yb j A z]] w (yq w (ch ⟨k,a,b,c,ok,key,val,old,ms,ss⟩)):=by
 have V:(k !=4)=true:=A9;have F:(k !=16)=true:=A9;have D:(k !=15)=true:=A9;have I:(k==5)=false:=A9;have J:(k==7)=false:=A9;have G:(k==10)=false:=A9;have O:(k==12)=false:=A9;have U:(k==14)=false:=A9;have X:(k==15)=false:=A9;go_enter func69,ntmps69;go_wp2_with fail
 all_goals refine bodyPost_ret (v:=Ye #[k,a,WK Xr 0,WK Xr 0,WK Xr 0,WM ⟨#[]⟩,WK Xr 0,WK Xr 0,Yb Wr 0 0,Yb Wr 0 0]) A8 rfl ?_
 all_goals exact BG C.out A0 (by simp[ch,aP.cells,HK.out])
def du0 (x:aP) (m s:Wv) (w:Wu) (hx:x.In w w m s):
 WJ WH 69 #[Ye (x.cells m s)] w (yq w (ch x)):=by
 obtain⟨Am,nm,cm,rfl,_,_,_⟩:=hx.ms.form;obtain⟨As,ns,cs,rfl,_,_,_⟩:=hx.ss.form;obtain⟨k,a,b,c,ok,key,val,old,ms,ss⟩:=x;rw[aP.cells_def];by_cases y:k=4
 .subst y;exact dt7 a b c ok key val old ms ss Am As nm cm ns cs w hx
 by_cases C:k=16
 .subst C;exact dt8 a b c ok key val old ms ss Am As nm cm ns cs w hx
 by_cases g:k=15
 .subst g;exact dt6 a b c ok key val old ms ss Am As nm cm ns cs w hx
 by_cases z:k=5
 .subst z;exact dt1 a b c ok key val old ms ss Am As nm cm ns cs w hx
 by_cases A:k=7
 .subst A;exact dt2 a b c ok key val old ms ss Am As nm cm ns cs w hx
 by_cases j:k=10
 .subst j;exact dt3 a b c ok key val old ms ss Am As nm cm ns cs w hx
 by_cases h:k=12
 .subst h;exact dt4 a b c ok key val old ms ss Am As nm cm ns cs w hx
 by_cases D:k=14
 .subst D;exact dt5 a b c ok key val old ms ss Am As nm cm ns cs w hx
 exact dt9 k a b c ok key val old ms ss Am As nm cm ns cs w ⟨y,C,g,z,A,j,h,D⟩ hx
end
end Go.Proofs.YtklfdkdebgfmiaaGreatDoor
