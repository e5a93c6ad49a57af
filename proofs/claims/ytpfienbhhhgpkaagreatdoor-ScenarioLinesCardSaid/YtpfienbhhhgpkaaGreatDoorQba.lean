/- A part of the proof. -/
import Derived.Test.YtpfienbhhhgpkaaGreatDoorQa
set_option linter.defProp false
set_option linter.unusedVariables false
set_option linter.unusedSimpArgs false
set_option maxRecDepth 100000
set_option maxHeartbeats 32000000
open Option renaming some->WX,none->WY
open Decidable renaming decide->WZ
open Go renaming World->Xa,Value->Xb,Calls->Xq,TypeId->Xv,maxLen->XF,Oper->Yf,undef->Yg,Ending->Ys,Addr->Yy,Program->YA
open Bool renaming false->Xc,true->Xe
open List renaming range->XS
open Go.RowKit renaming Hid->Xf
open Go.Lib renaming itoa->Xg,decDigits->Xx,countB->Yj
open Go.Proofs.Tryz renaming prog->Xn
open Go.Proofs renaming intOf->Xw
open Go.Value renaming int->Xo,string->Xp,slice->YG,bool->YH,agg->YJ,pointer->YK
open Go.World renaming setCell->Ye,cell?->Yx
open Go.IntKind renaming i64->XO
open Go.Region renaming wanted->XW,ready->Yc,Mode->Yq
open Go.Ending renaming returned->Ya
open UInt8 renaming ofNat->Yn
open Go.Oper renaming wp->YE
open Go.Obj renaming cells->YI
namespace Go.Proofs.YtpfienbhhhgpkaaGreatDoor
section
open Go Go.RowKit Go.Proofs.Tryz
def Sl(w:Xa)(B:Nat)(v:Xb)(xs:List Xb):Prop:=
 ∃A c,v=YG A xs.length c/\xs.length<=c/\c<=XF/\(xs≠[]->∃b o,A=WX ⟨b,o,WY⟩/\b<B/\∀(j:Nat)u,xs[j]?=WX u->w.cell? ⟨b,o+j,WY⟩=WX u)
section
variable {w w':Xa} {B B':Nat} {v:Xb} {xs:List Xb}
def Sl.keep(h:Sl w B v xs)(y:∀b o,b<B->w'.cell? ⟨b,o,WY⟩=w.cell? ⟨b,o,WY⟩):Sl w' B v xs:=by obtain⟨A,c,rfl,h1,h2,h3⟩:=h;refine⟨A,c,rfl,h1,h2,λz=>?_⟩;obtain⟨b,o,rfl,hb,hc⟩:=h3 z;exact⟨b,o,rfl,hb,λj u C=>(y _ _ hb).trans (hc j u C)⟩
def Sl.more(h:Sl w B v xs)(y:B<=B'):Sl w B' v xs:=by obtain⟨A,c,rfl,h1,h2,h3⟩:=h;refine⟨A,c,rfl,h1,h2,λj=>?_⟩;obtain⟨b,o,rfl,hb,hc⟩:=h3 j;exact⟨b,o,rfl,by omega,hc⟩
def Sl.below(h:Sl w B v xs)(c:Below B w w'):Sl w' B v xs:=h.keep λb o j=>c.cell (p:=b o WY) j
def Sl.belowM{B₂:Nat}(h:Sl w B v xs)(y:Below B₂ w w')(j:B<=B₂):Sl w' B v xs:=h.keep λb o z=>y.cell (p:=b o WY) (bt z j)
def Sl.nil_(w:Xa)(B:Nat):Sl w B (YG WY 0 0) []:=⟨WY,0,rfl,by simp,by simp,λh=>absurd rfl h⟩
def Sl.cases_(h:Sl w B v xs):(xs=[]/\∃A c,v=YG A 0 c/\c<=XF)\/
 (0<xs.length/\∃b o c,v=YG (WX ⟨b,o,WY⟩) xs.length c/\xs.length<=c/\c<=XF/\b<B/\∀(j:Nat)u,xs[j]?=WX u->w.cell? ⟨b,o+j,WY⟩=WX u):=by
 obtain⟨A,c,rfl,h1,h2,h3⟩:=h;by_cases y:xs=[]
 .subst y;exact .inl ⟨rfl,A,c,rfl,h2⟩
 .obtain⟨b,o,rfl,hb,hc⟩:=h3 y;exact .inr ⟨List.length_pos_iff.2 y,b,o,c,rfl,h1,h2,hb,hc⟩
def Sl.of_own{base:Nat}{e:Xv}{n:Nat}(h:w.ownsRow base e 1 v n xs):Sl w w v xs:=by
 have y:xs.length=n:=by simpa using h.1
 by_cases C:0<n
 .obtain⟨g,cap,hv,_,az⟩:=h.form C;have A:n<=cap/\cap<=maxLen:=by
   exact ab1
  subst hv;refine⟨_,cap,by rw[y],by omega,A.2,λ_=>⟨g,0,rfl,az,λj u D=>?_⟩⟩;have:=h.cells (g:=g) rfl j u D;by_cases c:j=0
  .subst c;simpa[Addr.add]using this
  .simpa[Addr.add,c]using this
 .have z:n=0:=by omega
  subst z;have hx:xs=[]:=List.eq_nil_of_length_eq_zero y;subst hx;rcases h.2 with⟨rfl,_⟩|⟨g,cap,_,rfl,_,_,h1,h2,_⟩
  .exact Sl.nil_ _ _
  .exact⟨_,cap,rfl,by simp,h2,λh=>absurd rfl h⟩
end
def dr{W c:Xa}(j:Below W W c):(∀b o,b<W.heap.size->c.cell? ⟨b,o,WY⟩=W.cell? ⟨b,o,WY⟩)/\(∀b o,b<W.heap.size->c.frozen? ⟨b,o,WY⟩=W.frozen? ⟨b,o,WY⟩):=
 ⟨λb o h=>j.cell (p:=⟨b,o,WY⟩) h,λb o h=>j.frozen (p:=⟨b,o,WY⟩) h⟩
def pA{B:Nat}{a w:Xa}(h:Below B a w)(n:Nat):Below B a (w.drewN n):=⟨h.os,h.tape,h.output,h.size,h.block⟩
def E0{B:Nat}{a w:Xa}(h:Below B a w):Below B a w.drew:=⟨h.os,h.tape,h.output,h.size,h.block⟩
def aj(w:Xa):Below w w w:=X6 _ _
def ai{a w:Xa}(h:Below a a w)(o:Obj):Below a a (w.alloc o):=h.alloc h.size o
def cF{a w:Xa}(h:Below a a w){p:Yy}(c:a.heap.size<=p.block)(u:Xb):Below a a (w.setCell p u):=h.setCell c u
def a_{a w:Xa}(h:Below a a w):Below a a w.drew:=⟨h.os,h.tape,h.output,h.size,h.block⟩
def yX{a w:Xa}(h:Below a a w)(n:Nat):Below a a (w.drewN n):=pA h n
def ak{a w w':Xa}(h:Below a a w)(k:Below w w w'):Below a a w':=h.trans (k.mono h.size)
def kc{w W:Xa}{p:Yy}{v:Xb}(h:Below w w W)(e:w.cell? p=WX v):W.cell? p=WX v:=(h.cell (bK _ _ e)).trans e
def dB{W j:Xa}{n:Nat}(y:Below W W j)(h:n<W):n<j:=bt h y.size
def aP(n:Int):Prop:= -9223372036854775808<=n/\n<=9223372036854775807
def aW(w:Xa)(B:Nat)(v:Xb)(l:List Int):Prop:=Sl w B v (l.map (Xo .i64))/\∀x∈l,aP x
def cB(w:Xa)(B:Nat)(v:Xb)(l:List ByteArray):Prop:=Sl w B v (l.map Xp)
def aW.below{w w':Xa}{B B₂:Nat}{v:Xb}{l:List Int}(h:aW w B v l)(j:Below B₂ w w')(c:B<=B₂):aW w' B v l:=⟨h.1.belowM j c,h.2⟩
def aW.more{w:Xa}{B B':Nat}{v:Xb}{l:List Int}(h:aW w B v l)(c:B<=B'):aW w B' v l:=⟨h.1.more c,h.2⟩
def cB.below{w w':Xa}{B B₂:Nat}{v:Xb}{l:List ByteArray}(h:cB w B v l)(j:Below B₂ w w')(c:B<=B₂):cB w' B v l:=Sl.belowM h j c
def cB.more{w:Xa}{B B':Nat}{v:Xb}{l:List ByteArray}(h:cB w B v l)(c:B<=B'):cB w B' v l:=Sl.more h c
def Lp{P:YA}{f:FuncId}{args:Array Xb}{w:Xa}{a n:Nat}{v:Xb}
 (h:Xq P f args (w.drewN (a+n)) λe w'=>e=Ya v/\w'=w.drewN (a+n)):
 Xq P f args (w.drewN (a+n)) λe c=>e=Ya v/\∃m,c=w.drewN (a+m):=
 h.mono λ_ _⟨j,hm⟩=>⟨j,n,hm⟩
def bs(l:List UInt8):ByteArray:=⟨l.toArray⟩
def eS(l:List UInt8):(bs l).data.toList=l:=by simp[bs]
def dd(l:List UInt8):(bs l).size=l.length:=by simp[bs,ByteArray.size]
def lv(s:ByteArray):bs s.data.toList=s:=by cases s;simp[bs]
def gK(s:ByteArray):s.toList=s.data.toList:=by exact ByteArray.toList_eq s
def eP(a b:List UInt8):bs a++bs b=bs (a++b):=by exact ByteArray.ext rfl
def lQ{a b:ByteArray}(h:a=b):Ya (Xp a)=Ya (Xp b):=by rw[h]
def cd{a b:Bool}(h:a=b):Ya (YH a)=Ya (YH b):=by rw[h]
def zO(n:Int)(l:List UInt8)(k:Int):Prop:=
 (l=[]/\k=n)\/(l≠[]/\Xx n.natAbs=(if k=0 then[]else Xx k.natAbs)++l)
def zO.len{n k:Int}{l:List UInt8}(j:aP n)(h:zO n l k):l.length<=20:=by
 have c:(Xx n.natAbs).length<=20:=by rw[Lib.decDigits_length];exact Lib.nDigits_le20 _ (by obtain⟨h1,h2⟩:=j;omega)
 rcases h with⟨rfl,_⟩|⟨_,h⟩
 .simp
 .rw[h]at c;simp at c;omega
def zO.step{n k:Int}{l:List UInt8}(h:zO n l k)(z:l=[]\/k≠0):
 zO n (Yn (48+k.natAbs%10)::l) (k.tdiv 10):=by
 have key:Xx k.natAbs=(if k.tdiv 10=0 then[]else Xx (k.tdiv 10).natAbs)++[Yn (48+k.natAbs%10)]:=by
  have e:(k.tdiv 10).natAbs=k.natAbs / 10:=by rw[Int.natAbs_tdiv];rfl
  have j:k.tdiv 10=0↔k.natAbs<10:=by rw[<-Int.natAbs_eq_zero,e];omega
  rw[e,Xx];by_cases c:k.natAbs<10
  .rw[dif_pos c,if_pos (j.2 c),Nat.mod_eq_of_lt c];rfl
  .rw[dif_neg c,if_neg (λh=>c (j.1 h))]
 refine .inr ⟨by simp,?_⟩;rcases h with⟨rfl,rfl⟩|⟨A,h⟩
 .exact key
 .have y:k≠0:=z.resolve_left A;rw[h,if_neg y,key];simp
def zO.done{n k:Int}{l:List UInt8}(h:zO n l k)(j:l≠[])(c:k=0):Xx n.natAbs=l:=by
 rcases h with⟨rfl,_⟩|⟨_,h⟩
 .exact absurd rfl j
 .rw[h,if_pos c];rfl
def ab2(x:Int)(W:Xa):(convert 158 9 (YG (WX (W 0 WY)) 1 1)).run Xn (W.alloc (YI #[.int .u8 x] 5))= .ok (Xp (bs [Yn x.toNat])) (W.alloc (YI #[.int .u8 x] 5)):=by
 rw[run_convert_bytes_string _ 158 9 5 _ _ _ underlying158 underlying5 X0];have h:=run_loadCells_list (P:=Xn) (w:=W.alloc (YI #[.int .u8 x] 5)) (W 0 WY) [Xo .u8 x] (by
  intro j v c
  match j,c with
  |0,c=>injection c with c;subst c;simp[Addr.add])
 exact run_bytesToString _ _ 1 1 [x] h
def dg2(l:List UInt8)(h:l≠[]):((bs l).toList==[])=false:=by rw[gK,eS];simpa using h
def Pd(s m:Xb):Nat:=(Xw m).natAbs+match s with|Xp s=>if s.size=0 then 1 else 0|_=>0
def Vb{n k d q:Int}{l:List UInt8}{w W:Xa}(D:aP k)(A:zO n l k)(c:l=[]\/k≠0)(F:d=k.natAbs%10)(j:q=k.tdiv 10)(C:Below w w W):
 (∃(y:List UInt8)(k1:Int),Value.string (bs [UInt8.ofNat (48+d).toNat]++bs l)= .string (bs y)/\Value.int .i64 q= .int .i64 k1/\aP k1/\zO n y k1/\Below w w W)/\
   Pd (Xp (bs [Yn (48+d).toNat]++bs l)) (Xo XO q)<Pd (Xp (bs l)) (Xo XO k):=by
 have e:q.natAbs=k.natAbs / 10:=by rw[j,Int.natAbs_tdiv];rfl
 have z:(48+d).toNat=48+k.natAbs%10:=YN;rw[z,eP];refine⟨⟨_,q,rfl,rfl,?_,j▸A.step c,C⟩,?_⟩
 .obtain⟨h1,h2⟩:=D;have:q<=q.natAbs:=Int.le_natAbs;have: -(q.natAbs:Int)<=q:=by omega
  constructor<;>omega
 .simp only[Pd,dd,intOf,e];rcases c with rfl|c
  .simp;omega
  .simp;split<;>omega
def Vc(n a b:Int)(w:Xa):
 Xq Xn 113 #[n,a,b] w λe w'=>e=Ya (YH (WZ (a<=n)&&WZ (n<=b)))/\w=w':=by
 by_cases h:a<=n
 .go_enter func113,ntmps113
  go_wp2
  go_ret;exact⟨by simp[h],rfl⟩
 .go_enter func113,ntmps113
  go_wp2
  go_ret;exact⟨by simp;omega,rfl⟩
def aq(b:Nat):Value:=YK (WX b)
def bq(g:Nat)(caps:Array Xb):Value:= .func (.func g) #[] caps
def dw(g:Nat):Prop:=∀args w,(callFunc g args).run Xn w= .ok (.enter g args) w
abbrev ar:=List UInt8
def gX(c:UInt8):Bool:=c==32||c==9||c==10||c==13
def kE(c:UInt8):Bool:=WZ (97<=c.toNat)&&WZ (c.toNat<=122)
def bX(c:UInt8):Bool:=WZ (48<=c.toNat)&&WZ (c.toNat<=57)
def cX(c:UInt8):Bool:=kE c||bX c||c==95
def gF(c:UInt8):Bool:=kE c||c==95
def gh(c:UInt8):Bool:= !(c==10)
def Lq(p:UInt8->Bool)(s:ar):(s.dropWhile p).length<=s.length:=by
 induction s with
 |nil=>simp
 |cons c r ih=>rw[List.dropWhile_cons];split<;>simp<;>omega
def ch(s:ar):ar:=
 match h:s.dropWhile gX with
 |[]=>[]
 |c::r=>if c=35 then ch (r.dropWhile gh)else c::r
termination_by s.length
decreasing_by
 have h1:=Lq gX s;have h2:=Lq gh r;rw[h]at h1;simp at h1⊢
 omega
def dP:List ar:=[
 [97,108,119,97,121,115],
 [98,101,102,111,114,101],
 [98,121],
 [99,97,112,97,99,105,116,121],
 [100,97,114,107],
 [100,105,115,116,117,114,98],
 [102,97,105,108,117,114,101,115],
 [102,101,101,100],
 [103,114,111,117,112],
 [105,110],
 [106,111,98],
 [107,101,101,112],
 [108,105,110,107],
 [108,111,97,100],
 [109,97,99,104,105,110,101],
 [111,110],
 [111,110,108,121],
 [111,114,100,101,114],
 [112,111,111,108],
 [113,117,111,114,117,109],
 [114,97,99,107],
 [114,101,115,101,114,118,101],
 [115,104,97,114,101],
 [115,105,108,101,110,99,101],
 [115,105,116,101],
 [115,105,122,101],
 [115,108,111,116,115],
 [115,112,114,101,97,100]]
structure fI where
 kind:Nat
 text:ar
 n:Nat
 pos:Nat
def lR:Nat->ar->Option Nat
 |a,[]=>WX a
 |a,c::r=>let b:=10*a+(c.toNat - 48);if 1048576<b then WY else lR b r
def Bk(s:ar):Except Nat (Nat×ar×Nat):=
 let t:=s.takeWhile cX
 if 31<t.length then .error 8 else if t∈dP then .ok (2,t,0)else .ok (1,t,0)
def zP(s:ar):Except Nat (Nat×ar×Nat):=
 let t:=s.takeWhile bX
 if(1<t.length/\s.head?=WX 48)\/((s.drop t.length).takeWhile gF)≠[]then .error 3
 else match lR 0 t with
  |none=> .error 2
  |some n=> .ok (3,t,n)
def tok(s:ar):Except Nat (Nat×ar×Nat):=
 match s with
 |[]=> .error 3
 |c::r=>if kE c then Bk (c::r)else if bX c then zP (c::r)else if c=59\/c=44 then .ok (4,[c],0)else .error 3
def H_(s:ar):(ch s).length<=s.length:=by
 fun_induction ch s with
 |case1 s h=>simp
 |case2 s r h ih=>have j:=Lq gX s;have y:=Lq gh r;rw[h]at j;simp at j;omega
 |case3 s c r h hc=>have j:=Lq gX s;rw[h]at j;exact j
def gU(len:Nat)(s:ar):Except (Nat×Nat) (List fI):=
 match s with
 |[]=> .ok [⟨0,[],0,len⟩]
 |c::r=>match tok (c::r)with
  | .error e=> .error (len - (r.length+1),e)
  | .ok (k,t,n)=>(gU len (ch (r.drop (t.length - 1)))).map (⟨k,t,n,len - (r.length+1)⟩:: ·)
termination_by s.length
decreasing_by
 have h1:=H_ (r.drop (t.length - 1));simp at h1⊢
 omega
def nF(s:ar):Except (Nat×Nat) (List fI):=if 16384<s.length then .error (0,8)else gU s.length (ch s)
structure aH where
 kind:Nat:=0
 name:ar:=[]
 refs:List ar:=[]
 nums:List Nat:=[]
 by_:Nat:=0
 always:Bool:=Xc
structure PS where
 ts:List fI
 e:Nat
 d:aH
def PS.head(p:PS):fI:=p.ts.headD ⟨0,[],0,0⟩
def PS.fail(p:PS)(e:Nat):PS:=if p.e=0 then {p with e:=e}else p
def PS.take(p:PS)(k:Nat)(l:List ar):PS×fI:=
 if p.e≠0\/p.head.kind≠k\/(l≠[]/\p.head.text∉l)then(p.fail 3,⟨0,[],0,0⟩)else({p with ts:=p.ts.tail},p.head)
def PS.comma(p:PS):PS×Bool:=
 if p.e≠0\/p.head.kind≠4\/p.head.text≠[44]then(p,Xc)else((p.take 4 []).1,Xe)
def PS.ref(p:PS):PS:=let q:=p.take 1 [];{q.1 with d:={q.1.d with refs:=q.1.d.refs++[q.2.text]}}
def PS.number(p:PS):PS:=let q:=p.take 3 [];{q.1 with d:={q.1.d with nums:=q.1.d.nums++[q.2.n]}}
def eD:ar:=[97,108,119,97,121,115]
def vC:ar:=[98,101,102,111,114,101]
def vD:ar:=[98,121]
def vE:ar:=[99,97,112,97,99,105,116,121]
def ab3:ar:=[100,97,114,107]
def ab4:ar:=[100,105,115,116,117,114,98]
def ab5:ar:=[102,97,105,108,117,114,101,115]
def fU:ar:=[102,101,101,100]
def ab6:ar:=[103,114,111,117,112]
def nB:ar:=[105,110]
def ab7:ar:=[106,111,98]
def ab8:ar:=[107,101,101,112]
def ab9:ar:=[108,105,110,107]
def lN:ar:=[108,111,97,100]
def ox:ar:=[109,97,99,104,105,110,101]
def gT:ar:=[111,110]
def ac0:ar:=[111,110,108,121]
def ac1:ar:=[111,114,100,101,114]
def ac2:ar:=[112,111,111,108]
def ac3:ar:=[113,117,111,114,117,109]
def fH:ar:=[114,97,99,107]
def vF:ar:=[114,101,115,101,114,118,101]
def lO:ar:=[115,104,97,114,101]
def ac4:ar:=[115,105,108,101,110,99,101]
def j7:ar:=[115,105,116,101]
def lP:ar:=[115,105,122,101]
def vG:ar:=[115,108,111,116,115]
def ac5:ar:=[115,112,114,101,97,100]
def PS.comma_lt(p:PS)(h:p.comma.2=Xe):p.comma.1.ts.length<p.ts.length:=by
 unfold PS.comma at*
 split at h
 .cases h
 .rename_i c;rw[if_neg c];unfold PS.take;rw[if_neg (by simp;simp at c;exact⟨c.1,c.2.1⟩)];cases ui:p.ts with
  |nil=>simp[PS.head,ui]at c
  |cons a l=>simp
def PS.take_le(p:PS)(k:Nat)(l:List ar):(p.take k l).1.ts.length<=p.ts.length:=by
 unfold PS.take PS.fail;split
 .dsimp only;split<;>simp
 .simp
def PS.ref_le(p:PS):p.ref.ts.length<=p.ts.length:=by unfold PS.ref;exact PS.take_le p 1 []
def PS.fail_ts(p:PS)(e:Nat):(p.fail e).ts=p.ts:=by unfold PS.fail;split<;>rfl
def PS.listGo(n:Nat)(p:PS):PS:=
 if h:p.comma.2=Xe then
  PS.listGo (n+1) (if n=16/\p.comma.1.head.kind=1 then p.comma.1.fail 8 else p.comma.1).ref
 else p.comma.1
termination_by p.ts.length
decreasing_by
 have h1:=PS.comma_lt p h;refine Nat.lt_of_le_of_lt (PS.ref_le _) ?_;split
 .rw[PS.fail_ts];exact h1
 .exact h1
def PS.list(p:PS):PS:=PS.listGo 1 p.ref
def gI(s:ar):Nat:=if s=ox then 1 else if s=fH then 2 else if s=fU then 4 else 0
def PS.classGo(left:List ar)(p:PS):PS:=
 if left=[]then p.fail 3
 else
  let q:=p.take 2 left
  let r:PS:={q.1 with d:={q.1.d with by_:=q.1.d.by_+gI q.2.text}}
  if h:r.comma.2=Xe then PS.classGo (left.filter λs=> !WZ (s=q.2.text)) r.comma.1 else r.comma.1
termination_by p.ts.length
decreasing_by
 have h1:=PS.comma_lt _ h;have h2:=PS.take_le p 2 left;exact bt h1 h2
def PS.classes(p:PS):PS:=p.classGo [ox,fH,fU]
def jk(s:ar):Nat:=if s=fH then 2 else if s=fU then 3 else if s=j7 then 4 else 0
def PS.domain(p:PS):PS:=let q:=p.take 2 [fH,fU,j7];{q.1 with d:={q.1.d with by_:=jk q.2.text}}
def PS.alw(p:PS):PS:=if p.e=0/\p.head.kind=2/\p.head.text=eD then let q:=p.take 2 [];{q.1 with d:={q.1.d with always:=Xe}}else p
def PS.name(p:PS):PS:=let q:=p.take 1 [];{q.1 with d:={q.1.d with name:=q.2.text}}
inductive kF where
 |name|ref|number|list|classes|domain|alw
 |word (s:ar)
def PS.part(p:PS):kF->PS
 | .name=>p.name
 | .ref=>p.ref
 | .number=>p.number
 | .list=>p.list
 | .classes=>p.classes
 | .domain=>p.domain
 | .alw=>p.alw
 | .word s=>(p.take 2 [s]).1
def Lr:List kF:=[.word lN,.number,.word lP,.number,.word lO,.number]
def rules:List (ar×List kF):=[
 (j7,[.name]),
 (fU,[.name]),
 (fH,[.name,.word nB,.ref,.word gT,.ref]),
 (ox,[.name,.word nB,.ref,.word vE,.number]),
 (ab9,[.ref,.ref,.number]),
 (ab6,[.name,.word gT,.list]++Lr),
 (ac2,[.name,.number,.word gT,.list]++Lr),
 (ab7,[.name,.word gT,.ref]++Lr),
 (ab3,[.ref,.word vG,.number,.word vF,.number]),
 (ab5,[.classes]),
 (ac3,[.ref]),
 (ab8,[.ref,.number,.alw]),
 (ac5,[.ref,.word vD,.domain,.number]),
 (ac0,[.ref,.word gT,.list]),
 (ac1,[.ref,.word vC,.ref]),
 (ab4,[.number]),
 (ac4,[.ref,.number])]
def gj(t:fI):Option Nat:=if t.kind=2 then rules.findIdx? (λx=>WZ (x.1=t.text))else WY
def PS.parts(p:PS):List kF->PS
 |[]=>p
 |x::l=>PS.parts (if p.e=0 then p.part x else p) l
def PS.decl(p:PS):PS×aH:=
 match gj p.head with
 |none=>(p.fail 3,{})
 |some i=>
  let q:PS:={(p.take 2 []).1 with d:={kind:=i}}
  let r:=((q.parts (rules.getD i ([],[])).2).take 4 [[59]]).1
  (r,r.d)
def PS.beyond(p:PS):Nat:=if(gj p.head).isSome then 8 else 3
def ZY:ar->ar
 |[]=>[]
 |c::r=>if c=35 then ch (r.dropWhile gh)else c::r
def H'{s l:ar}(h:s.dropWhile gX=l):ch s=ZY l:=by rw[ch];split<;>(rename_i c;rw[h]at c;subst c;rfl)
def Vd{c:UInt8}(h:gX c=Xe)(s:ar):ch (c::s)=ch s:=by
 have e:(c::s).dropWhile gX=s.dropWhile gX:=by rw[List.dropWhile_cons,if_pos h]
 rw[H' e,H' rfl]
def ZZ{c:UInt8}(h:gX c=Xc)(j:c≠35)(s:ar):ch (c::s)=c::s:=by
 have e:(c::s).dropWhile gX=c::s:=by rw[List.dropWhile_cons,if_neg (by simp[h])]
 rw[H' e,ZY,if_neg j]
structure lS where
 name:ar
 site:Int
 feed:Int
structure p7 where
 name:ar
 rack:Int
 cap:Int
structure si where
 a:Int
 b:Int
 cap:Int
structure em where
 name:ar
 kind:Int
 count:Int
 load:Int
 size:Int
 share:Int
 on:List Int
structure ci where
 kind:Int
 item:Int
 other:Int
 n:Int
 by_:Int
 always:Bool
 ms:List Int
structure aT where
 sites:List ar:=[]
 feeds:List ar:=[]
 racks:List lS:=[]
 machs:List p7:=[]
 links:List si:=[]
 items:List em:=[]
 dark:Int:=0
 slots:Int:=0
 reserve:Int:=0
 failures:Int:=0
 rules:List ci:=[]
def aD(n low high:Int):Bool:=WZ (low<=n)&&WZ (n<=high)
def aG(n:Int)(k:Nat):Bool:=aD n 1 k
def dZ{α:Type}(c:α->List α->Bool):List α->List α->Bool
 |_,[]=>Xe
 |b,x::r=>c x b&&dZ c (b++[x]) r
def jl(m:aT)(x:lS)(b:List lS):Bool:=aG x.site m.sites.length&&aG x.feed m.feeds.length&& !b.any λy=>WZ (y.feed=x.feed)&& !WZ (y.site=x.site)
def ur(m:aT)(x:p7)(_:List p7):Bool:=aG x.rack m.racks.length&&aD x.cap 0 1048576
def jm(m:aT)(x:si)(b:List si):Bool:=WZ (1<=x.a)&&WZ (x.a<x.b)&&WZ (x.b<=m.sites.length)&&aD x.cap 0 1048576&& !b.any λy=>WZ (y.a=x.a)&&WZ (y.b=x.b)
def fF(m:aT):Bool:=
 aG m.sites.length 4&&WZ (m.feeds.length<=16)&&WZ (m.racks.length<=16)&&aG m.machs.length 16&&WZ (m.links.length<=12)&&
 dZ (jl m) [] m.racks&&dZ (ur m) [] m.machs&&dZ (jm m) [] m.links
def br(s:ar):Bool:=WZ (1<=s.length)&&WZ (s.length<=31)&&kE (s.headD 0)&&s.all cX&& !WZ (s∈dP)
def cY(m:aT):List ar:=m.sites++m.feeds++m.racks.map (·.name)++m.machs.map (·.name)++m.items.map (·.name)
def oZ(l:List ar):Bool:=dZ (λs b=>br s&& !WZ (s∈b)) [] l
def Ve(k:Nat)(l:List Int):Bool:=dZ (λn b=>aG n k&&(match b.getLast? with|none=>Xe|some p=>WZ (p<n))) [] l
def fw(m:aT)(l:List Int):Bool:=Ve m.machs.length l&&WZ (0<l.length)
def dN(m:aT)(x:em):Bool:=
 (if x.kind=0 then(decide (x.count=1)||decide (x.count=3)||decide (x.count=5))&&decide (x.count=x.on.length)
  else if x.kind=1 then aD x.count 1 8
  else if x.kind=2 then WZ (x.count=1)&&WZ (x.on.length=1)else Xc)&&
 fw m x.on&&aD x.load 0 1048576&&aD x.size 0 1048576&&aD x.share 1 1048576
def p8(m:aT)(n:Int):Int:=((m.items[(n - 1).toNat]?).map (·.kind)).getD 0
def dm(m:aT)(x:ci):Bool:=
 let it:=aG x.item m.items.length
 let z (a b c d:Bool):Bool:=(a||WZ (x.other=0))&&(b||WZ (x.by_=0))&&(c|| !x.always)&&(d||WZ (x.ms=[]))
 if x.kind=0 then it&&WZ (p8 m x.item=0)&&WZ (x.n=0)&&z Xc Xc Xc Xc
 else if x.kind=1 then it&&aD x.n 0 16&&z Xc Xc Xe Xc
 else if x.kind=2 then it&&aD x.n 0 16&&aD x.by_ 2 4&&z Xc Xe Xc Xc
 else if x.kind=3 then it&&fw m x.ms&&WZ (x.n=0)&&z Xc Xc Xc Xe
 else if x.kind=4 then it&&aG x.other m.items.length&& !WZ (x.item=x.other)&&WZ (x.n=0)&&z Xe Xc Xc Xc
 else if x.kind=5 then WZ (x.item=0)&&aD x.n 0 200&&z Xc Xc Xc Xc
 else if x.kind=6 then it&&aD x.n 0 16&&z Xc Xc Xc Xc
 else Xc
def ev(m:aT):Bool:=
 fF m&&WZ (m.items.length<=8)&&WZ (m.rules.length<=40)&&aG m.dark m.sites.length&&aD m.slots 1 16&&aD m.reserve 0 (m.slots - 1)&&aD m.failures 0 7&&
 oZ (cY m)&&m.items.all (dN m)&&m.rules.all (dm m)
def iy(d:aH)(name:Bool)(least most nums:Nat)(by_ always:Bool):Bool:=
 WZ (least<=d.refs.length)&&WZ (d.refs.length<=most)&&WZ (d.nums.length=nums)&&(by_||WZ (d.by_=0))&&(always|| !d.always)&&
 (if name then br d.name else WZ (d.name=[]))
def js(d:aH):Bool:=
 match d.kind with
 |0=>iy d Xe 0 0 0 Xc Xc
 |1=>iy d Xe 0 0 0 Xc Xc
 |2=>iy d Xe 2 2 0 Xc Xc
 |3=>iy d Xe 1 1 1 Xc Xc
 |4=>iy d Xc 2 2 1 Xc Xc
 |5=>iy d Xe 1 16 3 Xc Xc
 |6=>iy d Xe 1 16 4 Xc Xc
 |7=>iy d Xe 1 1 3 Xc Xc
 |8=>iy d Xc 1 1 2 Xc Xc
 |9=>iy d Xc 0 0 0 Xe Xc&&WZ (1<=d.by_)&&WZ (d.by_<=7)
 |10=>iy d Xc 1 1 0 Xc Xc
 |11=>iy d Xc 1 1 1 Xc Xe
 |12=>iy d Xc 1 1 1 Xe Xc&&WZ (2<=d.by_)&&WZ (d.by_<=4)
 |13=>iy d Xc 2 17 0 Xc Xc
 |14=>iy d Xc 2 2 0 Xc Xc
 |15=>iy d Xc 0 0 1 Xc Xc
 |16=>iy d Xc 1 1 1 Xc Xc
 |_=>Xc
def bS(d:aH):Bool:=js d&&d.refs.all br&&d.nums.all λn=>WZ (n<=1048576)
abbrev df:=List (ar×Nat×Nat)
def bZ(k:Nat):Nat:=if 5<=k/\k<=7 then 5 else if 10<=k then 10 else k
def dQ(t:df)(s:ar):Option (Nat×Nat):=(t.find? λx=>WZ (x.1=s)).map (·.2)
def jb:List aH->df->List aH->Except (Nat×Nat) df
 |_,t,[]=> .ok t
 |b,t,d::r=>
  if !bS d then .error (b.length,1)
  else if(!WZ (d.name=[])&&(dQ t d.name).isSome)||((WZ (d.kind=8)||WZ (d.kind=9))&&b.any λx=>WZ (x.kind=d.kind))then .error (b.length,5)
  else jb (b++[d]) (if d.name=[]then t else t++[(d.name,d.kind,((b++[d]).filter λx=>WZ (bZ x.kind=bZ d.kind)).length)]) r
def iJ(d:aH)(i:Nat)(k:Nat):Bool:=
 match d.kind,i with
 |2,0=>WZ (k=0)
 |2,1=>WZ (k=1)
 |3,0=>WZ (k=2)
 |4,0=>WZ (k=0)
 |4,1=>WZ (k=0)
 |8,0=>WZ (k=0)
 |10,0=>WZ (k=5)
 |11,0=>WZ (bZ k=5)
 |12,0=>WZ (bZ k=5)
 |13,0=>WZ (bZ k=5)
 |14,0=>WZ (bZ k=5)
 |14,1=>WZ (bZ k=5)
 |16,0=>WZ (bZ k=5)
 |_,_=>WZ (k=3)
def mu(t:df)(d:aH):Nat->List ar->Nat
 |_,[]=>0
 |i,s::r=>match dQ t s with
  |none=>4
  |some x=>if iJ d i x.1 then mu t d (i+1) r else 7
def jM(d:aH):List ar:=if d.kind=5\/d.kind=6 then d.refs else if d.kind=13 then d.refs.drop 1 else[]
def fy(t:df)(d:aH):Nat:=
 let e:=mu t d 0 d.refs
 if e≠0 then e else if !WZ (jM d).Nodup then 5 else if(d.kind=4\/d.kind=14)/\d.refs[0]?=d.refs[1]? then 2 else 0
def bG(t:df)(s:ar):Int:=(((dQ t s).map (·.2)).getD 0:Nat)
def Bl(n:Int):List Int->List Int
 |[]=>[n]
 |a::l=>if n<=a then n::a::l else a::Bl n l
def ou(l:List Int):List Int:=l.foldr Bl []
def fv(l:List Nat)(k:Nat):Int:=(l.getD k 0:Nat)
def kZ(t:df)(d:aH)(kind count:Int):em:=
 let n:=d.nums.drop (d.nums.length - 3)
 ⟨d.name,kind,count,fv n 0,fv n 1,fv n 2,ou (d.refs.map (bG t))⟩
def fV(l:List Int)(k:Nat):Int:=l.getD k 0
def mw(t:df)(d:aH):ci:=
 let n:=d.refs.map (bG t)
 ⟨(d.kind:Int) - 10,fV n 0,if d.kind=14 then fV n 1 else 0,fv (d.nums.drop (d.nums.length - 1)) 0,d.by_,d.always,if d.kind=13 then ou (n.drop 1)else[]⟩
def eE(t:df)(m:aT)(d:aH):aT:=
 let n:=d.refs.map (bG t)
 match d.kind with
 |0=>{m with sites:=m.sites++[d.name]}
 |1=>{m with feeds:=m.feeds++[d.name]}
 |2=>{m with racks:=m.racks++[⟨d.name,fV n 0,fV n 1⟩]}
 |3=>{m with machs:=m.machs++[⟨d.name,fV n 0,fv d.nums 0⟩]}
 |4=>{m with links:=m.links++[⟨min (fV n 0) (fV n 1),max (fV n 0) (fV n 1),fv d.nums 0⟩]}
 |5=>{m with items:=m.items++[kZ t d 0 n.length]}
 |6=>{m with items:=m.items++[kZ t d 1 (fv d.nums 0)]}
 |7=>{m with items:=m.items++[kZ t d 2 1]}
 |8=>{m with dark:=fV n 0,slots:=fv d.nums 0,reserve:=fv d.nums 1}
 |9=>{m with failures:=d.by_}
 |_=>{m with rules:=m.rules++[mw t d]}
def p9(t:df):Nat->aT->List aH->Except (Nat×Nat) aT
 |_,m,[]=> .ok m
 |i,m,d::r=>if fy t d≠0 then .error (i,fy t d)else p9 t (i+1) (eE t m d) r
def nG(l:List aH):Except (Nat×Nat) aT:=
 match jb [] [] l with
 | .error e=> .error e
 | .ok t=>match p9 t 0 {} l with
   | .error e=> .error e
   | .ok m=>if !l.any λd=>WZ (d.kind=8)then .error (l.length,6)else if ev m then .ok m else .error (l.length,2)
structure dg3 where
 name:Bool
 least:Nat
 most:Nat
 nums:Nat
 alw:Bool
def pB(k:Nat):dg3:=
 match k with
 |0=>⟨Xe,0,0,0,Xc⟩
 |1=>⟨Xe,0,0,0,Xc⟩
 |2=>⟨Xe,2,2,0,Xc⟩
 |3=>⟨Xe,1,1,1,Xc⟩
 |4=>⟨Xc,2,2,1,Xc⟩
 |5=>⟨Xe,1,16,3,Xc⟩
 |6=>⟨Xe,1,16,4,Xc⟩
 |7=>⟨Xe,1,1,3,Xc⟩
 |8=>⟨Xc,1,1,2,Xc⟩
 |9=>⟨Xc,0,0,0,Xc⟩
 |10=>⟨Xc,1,1,0,Xc⟩
 |11=>⟨Xc,1,1,1,Xe⟩
 |12=>⟨Xc,1,1,1,Xc⟩
 |13=>⟨Xc,2,17,0,Xc⟩
 |14=>⟨Xc,2,2,0,Xc⟩
 |15=>⟨Xc,0,0,1,Xc⟩
 |16=>⟨Xc,1,1,1,Xc⟩
 |_=>⟨Xc,0,0,0,Xc⟩
def KW(k n:Nat):Bool:=if k=9 then WZ (1<=n)&&WZ (n<=7)else if k=12 then WZ (2<=n)&&WZ (n<=4)else WZ (n=0)
def o9{k:Nat}(h:k<=16):k=0\/k=1\/k=2\/k=3\/k=4\/k=5\/k=6\/k=7\/k=8\/k=9\/k=10\/k=11\/k=12\/k=13\/k=14\/k=15\/k=16:=YN
def Pe(d:aH)(k:Nat)(h:k<=16)(c:d.kind=k):
 js d=(WZ ((pB k).least<=d.refs.length)&&(WZ (d.refs.length<=(pB k).most)&&(WZ (d.nums.length=(pB k).nums)&&(KW k d.by_&&(((pB k).alw|| !d.always)&&(if(pB k).name then br d.name else WZ (d.name=[]))))))):=by
 rcases o9 h with rfl|rfl|rfl|rfl|rfl|rfl|rfl|rfl|rfl|rfl|rfl|rfl|rfl|rfl|rfl|rfl|rfl<;>simp only[js,c,iy,pB,KW]<;>(rw[Xz];simp[and_assoc,and_comm,and_left_comm])
def dg4(d:aH)(h:16<d.kind):js d=false:=by unfold js;split<;>first|omega|rfl
structure cV(w:Xa):Prop where
 tab:Lib.TabIs Xn w "internal/strconv.uint64pow10" .u64 Lib.pow10Tab
 most:∃m,w.cell? ⟨0,0,WY⟩=WX (Xo XO m)
 esyn:∃tp p,w.cell? ⟨5,0,WY⟩=WX (.iface tp p)
 erng:∃tp p,w.cell? ⟨6,0,WY⟩=WX (.iface tp p)
 size:8<=w.heap.size
def cV.below{w w':Xa}{B:Nat}(h:cV w)(j:Below B w w')(y:8<=B):cV w' where
 tab:=by
  have e:w'.var? Xn "internal/strconv.uint64pow10" =w.var? Xn "internal/strconv.uint64pow10" :=by have z:Tryz.prog.globalNamed "internal/strconv.uint64pow10" =WX 1:=aI;unfold World.var?;rw[z];simp only[Option.bind_some];rw[j.block _ YN]
  exact e.trans h.tab
 most:=by obtain⟨m,hm⟩:=h.most;exact⟨m,(j.cell (bt aF y)).trans hm⟩
 esyn:=by obtain⟨t,p,hm⟩:=h.esyn;exact⟨t,p,(j.cell (bt aF y)).trans hm⟩
 erng:=by obtain⟨t,p,hm⟩:=h.erng;exact⟨t,p,(j.cell (bt aF y)).trans hm⟩
 size:=bQ h.size j.size
def cV.step{w w':Xa}(h:cV w)(c:Below w w w'):cV w':=h.below c h.size
def Vf(n:Int)(c:aP n)(w:Xa)(h:cV w):
 aR 174 #[n] w (Xp (bs (Xg n))):=
 (strconv_Itoa n c.1 c.2 w h.tab).mono λe w'⟨j,k,os,y⟩=>⟨j,y▸Lib.below_grow _ _ (am _) _ _⟩
def dg5(n:Int)(c:aP n)(w:Xa)(h:cV w):
 aR 99 #[n,Xo XO 10] w (Xp (bs (Xg n))):=
 (strconv_FormatInt_10 n c.1 c.2 w h.tab).mono λe w'⟨j,k,os,y⟩=>⟨j,y▸Lib.below_grow _ _ (am _) _ _⟩
def dg6(s:ByteArray)(y:s.size<=281474976710656)(v:Int)(h:Lib.atoiAll s.data.toList= .ok v)(w:Xa):
 aR 173 #[s] w (.tuple #[v,.nilIface]):=
 (strconv_Atoi_ok s YN v h w).mono λe w'⟨c,j⟩=>⟨c,by
   rcases j with rfl|⟨t,rfl⟩
   .exact X6 _ _
   .exact Lib.bytesWorld_below _ _ _⟩
def dg7(s:ByteArray)(z:s.size<=281474976710656)(h:∀v,Lib.atoiAll s.data.toList≠ .ok v)(w:Xa)(y:cV w):
 Xq Xn 173 #[s] w λe w'=>∃(v:Int)(t:Xv)(p:Xb),e=Ya (.tuple #[Xo XO v,.iface t p])/\Below w w w':=by
 obtain⟨t1,p1,h1⟩:=y.esyn;obtain⟨t2,p2,h2⟩:=y.erng;cases hr:Lib.atoiAll s.data.toList with
 |ok v=>exact absurd hr (h v)
 |range=>exact(strconv_Atoi_range s z hr _ w h2 (.inr ⟨_,_,rfl⟩)).mono λe w'⟨N,j,_,_,c⟩=>⟨_,_,_,j,c⟩
 |_=>exact(strconv_Atoi_syntax s z hr _ w h1 (.inr ⟨_,_,rfl⟩)).mono λe w'⟨N,j,_,_,c⟩=>⟨_,_,_,j,c⟩
def dg8(s:ByteArray)(y:s.size<=281474976710656)(v:Int)(h:Lib.parseIntB 64 s.data.toList= .ok v)(w:Xa):
 aR 188 #[s,Xo XO 10,Xo XO 64] w (.tuple #[v,.nilIface]):=
 (strconv_ParseInt_10_at64_ok s YN v h w).mono λe w'⟨c,j⟩=>⟨c,by
   rcases j with rfl|⟨t,rfl⟩
   .exact X6 _ _
   .exact Lib.bytesWorld_below _ _ _⟩
def dg9(s:ByteArray)(z:s.size<=281474976710656)(h:∀v,Lib.parseIntB 64 s.data.toList≠ .ok v)(w:Xa)(y:cV w):
 Xq Xn 188 #[s,Xo XO 10,Xo XO 64] w λe w'=>∃(v:Int)(t:Xv)(p:Xb),e=Ya (.tuple #[Xo XO v,.iface t p])/\Below w w w':=by
 obtain⟨t1,p1,h1⟩:=y.esyn;obtain⟨t2,p2,h2⟩:=y.erng;cases hr:Lib.parseIntB 64 s.data.toList with
 |ok v=>exact absurd hr (h v)
 |range=>exact(strconv_ParseInt_10_at64_range s z hr _ w h2 (.inr ⟨_,_,rfl⟩)).mono λe w'⟨N,j,_,_,c⟩=>⟨_,_,_,j,c⟩
 |_=>exact(strconv_ParseInt_10_at64_syntax s z hr _ w h1 (.inr ⟨_,_,rfl⟩)).mono λe w'⟨N,j,_,_,c⟩=>⟨_,_,_,j,c⟩
def Pf(s:ByteArray)(w:Xa)(c:cV w)(y:s.size<4294967281):
 Xq Xn 20 #[s,Xp (bs [32])] w λe w'=>∃v,e=Ya v/\cB w' w' v (Lib.splitB (bs [32]) 0 (Yj s (bs [32])) s)/\(Lib.splitB (bs [32]) 0 (Yj s (bs [32])) s).length=Yj s (bs [32])+1/\Below w w w':=by
 obtain⟨m,hm⟩:=c.most;refine(strings_Split s (bs [32]) m w y hm aF).mono λe w'⟨he,hw⟩=>?_;have cr:(Lib.splitB (bs [32]) 0 (Yj s (bs [32])) s).length=Yj s (bs [32])+1:=Lib.splitB_all (bs [32]) aF 0 _ s rfl;have z:=Lib.countB_le (bs [32]) aF s.size s (am _);exact Z0
def dk6(v:Xb)(xs:List ByteArray)(w:Xa)(h:cB w w v xs)(D:xs.length<=140737488355328)
 (z:(Lib.join (xs.map (·.data.toList)) [32]).length<=140737488355328):
 aR 45 #[v,Xp (bs [32])] w (Xp (bs (Lib.join (xs.map (·.data.toList)) [32]))):=by
 rcases Sl.cases_ h with⟨C,A,c,rfl,_⟩|⟨V,b,o,c,rfl,y,U,F,G⟩
 .have:xs=[]:=by simpa using C
  subst this;exact(strings_Join_none A c _ w).mono λe w'⟨I,O⟩=>⟨I,O▸X6 _ _⟩
 .rw[List.length_map]at y⊢
  exact strings_Join b o c xs (bs [32]) w (λj x J=>G j _ (by simp[J])) F D y z
def VJ(v u:Xb)(xs ys:List Int)(w:Xa)(B:Nat)(hx:aW w B v xs)(G:aW w B u ys):
 aR 190 #[v,u] w (YH (xs==ys)):=by
 by_cases y:xs.length=ys.length
 .rcases Sl.cases_ hx.1 with⟨D,A,c,rfl,_⟩|⟨I,b,o,c,rfl,U,V,hb,X⟩
  .have:xs=[]:=by simpa using D
   subst this;obtain⟨A2,c2,rfl,_,_⟩:=G.1;have zl:ys=[]:=List.eq_nil_of_length_eq_zero (by simpa using y.symm);subst zl;exact(slices_Equal_int_empty A A2 c 0 c2 w YN).mono λe w'⟨z,C⟩=>⟨z,C▸X6 _ _⟩
  .rcases Sl.cases_ G.1 with⟨D,_⟩|⟨Ov,J,o',O,rfl,Z,vH,fL,Y⟩
   .simp at D I;simp[D]at y;simp[y]at I
   .rw[List.length_map]at U Z⊢
    rw[Xl];refine(slices_Equal_int b o xs.length c J o' ys.length O xs ys w (am _) (am _) (by simp[XF]at V;omega) (by simp[XF]at vH;omega) (λj F=>X j _ (by simp[F])) (λj F=>Y j _ (by simp[F]))).mono λe w'⟨z,q,C⟩=>⟨?_,C▸pA (X6 _ _) q⟩;rw[z];simp
 .obtain⟨A,c,rfl,_,_⟩:=hx.1;obtain⟨A2,c2,rfl,_,_⟩:=G.1;refine(slices_Equal_int_lens A A2 _ c _ c2 w (by simpa using y)).mono λe w'⟨z,C⟩=>⟨?_,C▸X6 _ _⟩;rw[z];exact cd (by simp;intro h;exact y (by rw[h]))
def Sl.form{w:Xa}{B:Nat}{v:Xb}{xs:List Xb}(h:Sl w B v xs):∃A n c,v=YG A n c/\xs.length=n/\n<=c/\c<=maxLen:=bw8
def aW.form{w:Xa}{B:Nat}{v:Xb}{l:List Int}(h:aW w B v l):∃A n c,v=YG A n c/\l.length=n/\n<=c/\c<=9223372036854775807:=by obtain⟨A,n,c,h1,h2,h3,h4⟩:=h.1.form;exact⟨A,n,c,h1,by simpa using h2,h3,h4⟩
def aW.nil_(w:Xa)(B:Nat):aW w B (YG WY 0 0) []:=⟨Sl.nil_ w B,by simp⟩
def aP.zero:aP 0:=⟨by decide,by decide⟩
def cB.form{w:Xa}{B:Nat}{v:Xb}{l:List ByteArray}(h:cB w B v l):∃A n c,v=YG A n c/\l.length=n/\n<=c/\c<=9223372036854775807:=by obtain⟨A,n,c,h1,h2,h3,h4⟩:=Sl.form h;exact⟨A,n,c,h1,by simpa using h2,h3,h4⟩
def cM(l:List Int)(k:Nat):Int:=l.getD k 0
def aJ(l:List ByteArray)(k:Nat):ByteArray:=l.getD k ByteArray.empty
def Ls{l:List Int}{k:Nat}(h:k<l.length):cM l k=l[k]:=by simp[cM,List.getD,Xd h]
def VK{l:List ByteArray}{k:Nat}(h:k<l.length):aJ l k=l[k]:=by simp[aJ,List.getD,Xd h]
def dk7{l c:List Int}(h:l.length=c.length)(A:∀k,k<l.length->cM l k=cM c k):l=c:=
 List.ext_getElem h λj y z=>by rw[<-Ls y,<-Ls z];exact A j y
def aW.at_{w:Xa}{B:Nat}{A:Option Yy}{n c:Nat}{l:List Int}(h:aW w B (YG A n c) l)(k:Nat)(y:k<n):
 ∃b o,A=WX ⟨b,o,WY⟩/\b<B/\(∀j,j<n->w.cell? ⟨b,o+j,WY⟩=WX (Xo XO (cM l j))):=by
 obtain⟨A',c',he,h1,h2,h3⟩:=h.1;exact Z1
def cB.at_{w:Xa}{B:Nat}{A:Option Yy}{n c:Nat}{l:List ByteArray}(h:cB w B (YG A n c) l)(k:Nat)(y:k<n):
 ∃b o,A=WX ⟨b,o,WY⟩/\b<B/\(∀j,j<n->w.cell? ⟨b,o+j,WY⟩=WX (Xp (aJ l j))):=by
 obtain⟨A',c',he,h1,h2,h3⟩:=id h;exact Z1
def OQ(v u:Xb)(xs ys:List Int)(w:Xa)(B:Nat)(hx:aW w B v xs)(F:aW w B u ys):
 aR 32 #[v,u] w (YH (xs==ys)):=by
 obtain⟨A,n,c,rfl,hl,hc,hm⟩:=hx.form;obtain⟨A',n',c',rfl,eK,lB,np⟩:=F.form;by_cases cR:n=n'
 .obtain rfl:n=n':=cR;have X:=ah hx;have Y:=ah F;have I:=ah hl;have D:=ah eK;clear hx F hl eK;go_enter func32,ntmps32
  go_wp2
  go_loopw [5] (λi wr=>∃k:Nat,k<=n/\i=Xo XO k/\(∀j,j<k->cM xs j=cM ys j)/\∃q,wr=w.drewN q) (λi _=>n - (Xw i).toNat)
  case atStart=>exact⟨0,cb _,rfl,by omega,0,rfl⟩
  case round=>
   obtain⟨k,hk,rfl,heq,q,rfl⟩:=hrel;have G:=ah heq;clear heq;by_cases C:k<n
   .obtain⟨b,o,rfl,hb,bb⟩:=X.o.at_ k C;obtain⟨b',o',rfl,fL,hcell'⟩:=Y.o.at_ k C;have J:=bb k C;have h2:=hcell' k C;clear bb hcell';refine Lt λdh bF=>?_;by_cases z:cM xs k=cM ys k
    .have Z:(cM xs k !=cM ys k)=false:=by simp[z]
     have O:∀j,j<k+1->cM xs j=cM ys j:=λj hj=>by
      by_cases e:j=k
      .rw[e];exact z
      .exact G.o j YN
     have V:=ah O;clear z O;generalize cM xs k=x at*
     generalize cM ys k=y at*
     go_wp2_with fail
     go_quiet (fail)
     go_wp2
     exact⟨⟨k+1,by omega,by go_num,V.o,_,rfl⟩,by simp[Xw];omega⟩
    .have Z:(cM xs k !=cM ys k)=true:=by simp[z]
     have U:Hid (xs≠ys):=λh=>z (by rw[h]);clear z;generalize cM xs k=x at*
     generalize cM ys k=y at*
     go_wp2_with fail
     go_quiet (fail)
     go_wp2
     go_ret;exact⟨cd (by simpa using U.o),by first|exact pA (X6 _ _) _|exact pA (pA (X6 _ _) _) _⟩
   .go_wp2
    go_ret;refine⟨cd ?_,pA (X6 _ _) q⟩;have nV:k=n:=YN;have:xs=ys:=dk7 (by rw[I.o,D.o]) (λj J=>G.o j (by rw[I.o]at J;omega));simp[this]
 .have aV:((n:Int)!=n')=true:=by simp;omega
  go_enter func32,ntmps32
  go_wp2
  go_ret;refine⟨cd ?_,X6 _ _⟩;simp;intro h;subst h;omega
structure aS where
 kind:Int
 a:Int
 b:Int
 c:Int
 ok:Int
 key:ByteArray
 val:Int
 old:Int
 ms:List Int
 ss:List Int
def aS.cells(x:aS)(m s:Xb):Array Value:= #[Xo XO x.kind,Xo XO x.a,Xo XO x.b,Xo XO x.c,Xo XO x.ok,Xp x.key,Xo XO x.val,Xo XO x.old,m,s]
def aS.cells_def(x:aS)(m s:Xb):x.cells m s= #[Xo XO x.kind,Xo XO x.a,Xo XO x.b,Xo XO x.c,Xo XO x.ok,Xp x.key,Xo XO x.val,Xo XO x.old,m,s]:=rfl
structure aS.In(x:aS)(w:Xa)(B:Nat)(m s:Xb):Prop where
 kind:aP x.kind
 a:aP x.a
 b:aP x.b
 c:aP x.c
 ok:aP x.ok
 key:x.key.size<=9223372036854775807
 val:aP x.val
 old:aP x.old
 ms:aW w B m x.ms
 ss:aW w B s x.ss
def aS.In.below{x:aS}{w w':Xa}{B B':Nat}{m s:Xb}(h:x.In w B m s)(j:Below B' w w')(c:B<=B'):x.In w' B m s:=
 ⟨h.kind,h.a,h.b,h.c,h.ok,h.key,h.val,h.old,h.ms.below j c,h.ss.below j c⟩
def aS.In.more{x:aS}{w:Xa}{B B':Nat}{m s:Xb}(h:x.In w B m s)(c:B<=B'):x.In w B' m s:=
 ⟨h.kind,h.a,h.b,h.c,h.ok,h.key,h.val,h.old,h.ms.more c,h.ss.more c⟩
def xM(w:Xa)(y:aS)(e:Ys)(w':Xa):Prop:=∃m s,e=Ya (YJ (y.cells m s))/\y.In w' w' m s/\Below w w w'
def my(x y:aS):Bool:=
 (x.kind==y.kind)&&(x.a==y.a)&&(x.b==y.b)&&(x.c==y.c)&&((x.ok==y.ok)&&(x.key.data.toList==y.key.data.toList)&&(x.val==y.val)&&(x.old==y.old))&&(x.ms==y.ms)&&(x.ss==y.ss)
def cs2(x y:aS)(m s D F:Xb)(w:Xa)(hx:x.In w w m s)(j:y.In w w D F):
 aR 19 #[YJ (x.cells m s),YJ (y.cells D F)] w (YH (my x y)):=by
 obtain⟨Am,nm,cm,rfl,_,_,_⟩:=hx.ms.form;obtain⟨As,ns,cs,rfl,_,_,_⟩:=hx.ss.form;obtain⟨Am',nm',cm',rfl,_,_,_⟩:=j.ms.form;obtain⟨As',ns',cs',rfl,_,_,_⟩:=j.ss.form;have z:=ah hx;have A:=ah j;clear hx j;unfold aS.cells;go_enter func19,ntmps19;have J:Below w w w:=aj w
 go_wp2_with(first
  |(go_at_call_of 32 (Value.slice Am nm cm);refine(OQ _ _ x.ms y.ms _ w (z.o.ms.below (ai (ai (aj w) _) _) (am _)) (A.o.ms.below (ai (ai (aj w) _) _) (am _))).m ?_;rintro e O ⟨rfl,C⟩;have c:=ak (ai (ai (aj w) _) _) C;obtain⟨bA,bT⟩:=dr C)
  |(go_at_call_of 32 (Value.slice As ns cs);refine(OQ _ _ x.ss y.ss _ w (z.o.ss.below c (am _)) (A.o.ss.below c (am _))).m ?_;rintro e U ⟨rfl,G⟩;have I:=ak c G))
 all_goals go_ret
 all_goals refine⟨cd ?_,?_⟩
 all_goals first
  |exact I
  |exact c
  |exact ai (ai (aj w) _) _
  |(simp only[my,<-gK];simp[*])
def dk8(x y:aS)(m s D F:Xb)(w:Xa)(hx:x.In w w m s)(j:y.In w w D F):
 aR 108 #[YJ (x.cells m s),YJ (y.cells D F)] w (YH (my x y)):=by
 obtain⟨Am,nm,cm,rfl,_,_,_⟩:=hx.ms.form;obtain⟨As,ns,cs,rfl,_,_,_⟩:=hx.ss.form;obtain⟨Am',nm',cm',rfl,_,_,_⟩:=j.ms.form;obtain⟨As',ns',cs',rfl,_,_,_⟩:=j.ss.form;have z:=ah hx;have A:=ah j;clear hx j;unfold aS.cells;go_enter func108,ntmps108;have J:Below w w w:=aj w
 go_wp2_with(first
  |(go_at_call_of 190 (Value.slice Am nm cm);refine(VJ _ _ x.ms y.ms _ w (z.o.ms.below (ai (ai (aj w) _) _) (am _)) (A.o.ms.below (ai (ai (aj w) _) _) (am _))).m ?_;rintro e O ⟨rfl,C⟩;have c:=ak (ai (ai (aj w) _) _) C;obtain⟨bA,bT⟩:=dr C)
  |(go_at_call_of 190 (Value.slice As ns cs);refine(VJ _ _ x.ss y.ss _ w (z.o.ss.below c (am _)) (A.o.ss.below c (am _))).m ?_;rintro e U ⟨rfl,G⟩;have I:=ak c G))
 all_goals go_ret
 all_goals refine⟨cd ?_,?_⟩
 all_goals first
  |exact I
  |exact c
  |exact ai (ai (aj w) _) _
  |(simp only[my,<-gK];simp[*])
def cy(x:aS):aS:=
 {kind:=x.kind
  a:=if x.kind=4\/x.kind=16\/x.kind=15 then 0 else x.a
  b:=if x.kind=7\/x.kind=10\/x.kind=12\/x.kind=14 then x.b else 0
  c:=if x.kind=14 then x.c else 0
  ok:=if x.kind=10 then x.ok else 0
  key:=if x.kind=10 then x.key else⟨#[]⟩
  val:=if x.kind=10\/x.kind=12 then x.val else 0
  old:=if x.kind=10 then x.old else 0
  ms:=if x.kind=15 then x.ms else[]
  ss:=if x.kind=5 then x.ss else[]}
def Z2{x:aS}{w:Xa}{B:Nat}{m s:Xb}(h:x.In w B m s):
 (cy x).In w B (if x.kind=15 then m else .slice WY 0 0) (if x.kind=5 then s else .slice WY 0 0):=by
 refine⟨h.kind,?_,?_,?_,?_,?_,?_,?_,?_,?_⟩<;>simp only[cy]<;>split<;>first|exact aP.zero|exact h.a|exact h.b|exact h.c|exact h.ok|exact h.key|exact h.val|exact h.old|exact h.ms|exact h.ss|exact aW.nil_ _ _|exact cb _
def Bn{x:aS}{w w':Xa}{m s v:Xb}(h:x.In w w m s)(c:Below w w w')
 (j:v=YJ ((cy x).cells (if x.kind=15 then m else .slice WY 0 0) (if x.kind=5 then s else .slice WY 0 0))):xM w (cy x) (Ya v) w':=
 ⟨_,_,congrArg _ j,((Z2 h).below c (am _)).more c.size,c⟩
def dk9(a b c ok:Int)(key:ByteArray)(val old:Int)(ms ss:List Int)(A j:Option Yy)(nm C z y:Nat)(w:Xa)
 (D:Hid ((⟨5,a,b,c,ok,key,val,old,ms,ss⟩:aS).In w w (YG A nm C) (YG j z y))):
 Xq Xn 112 #[YJ #[Xo XO 5,a,b,c,ok,key,val,old,YG A nm C,YG j z y]] w (xM w (cy ⟨5,a,b,c,ok,key,val,old,ms,ss⟩)):=by
 go_enter func112,ntmps112;go_wp2_with fail
 all_goals refine bodyPost_ret (v:=YJ #[Xo XO 5,a,Xo XO 0,Xo XO 0,Xo XO 0,Xp ⟨#[]⟩,Xo XO 0,Xo XO 0,YG WY 0 0,YG j z y]) Ar rfl ?_
 all_goals exact Bn D.o Au B6
def dl0(a b c ok:Int)(key:ByteArray)(val old:Int)(ms ss:List Int)(j y:Option Yy)(nm z C A:Nat)(w:Xa)
 (D:Hid ((⟨7,a,b,c,ok,key,val,old,ms,ss⟩:aS).In w w (YG j nm z) (YG y C A))):
 Xq Xn 112 #[YJ #[Xo XO 7,a,b,c,ok,key,val,old,YG j nm z,YG y C A]] w (xM w (cy ⟨7,a,b,c,ok,key,val,old,ms,ss⟩)):=by
 go_enter func112,ntmps112;go_wp2_with fail
 all_goals refine bodyPost_ret (v:=YJ #[Xo XO 7,a,b,Xo XO 0,Xo XO 0,Xp ⟨#[]⟩,Xo XO 0,Xo XO 0,YG WY 0 0,YG WY 0 0]) Ar rfl ?_
 all_goals exact Bn D.o Au B6
def dl1(a b c ok:Int)(key:ByteArray)(val old:Int)(ms ss:List Int)(j y:Option Yy)(nm z C A:Nat)(w:Xa)
 (D:Hid ((⟨10,a,b,c,ok,key,val,old,ms,ss⟩:aS).In w w (YG j nm z) (YG y C A))):
 Xq Xn 112 #[YJ #[Xo XO 10,a,b,c,ok,key,val,old,YG j nm z,YG y C A]] w (xM w (cy ⟨10,a,b,c,ok,key,val,old,ms,ss⟩)):=by
 go_enter func112,ntmps112;go_wp2_with fail
 go_region
 all_goals go_wp2_with fail
 all_goals refine bodyPost_ret (v:=YJ #[Xo XO 10,a,b,Xo XO 0,ok,key,val,old,YG WY 0 0,YG WY 0 0]) Ar rfl ?_
 all_goals exact Bn D.o Au B6
def dl2(a b c ok:Int)(key:ByteArray)(val old:Int)(ms ss:List Int)(j y:Option Yy)(nm z C A:Nat)(w:Xa)
 (D:Hid ((⟨12,a,b,c,ok,key,val,old,ms,ss⟩:aS).In w w (YG j nm z) (YG y C A))):
 Xq Xn 112 #[YJ #[Xo XO 12,a,b,c,ok,key,val,old,YG j nm z,YG y C A]] w (xM w (cy ⟨12,a,b,c,ok,key,val,old,ms,ss⟩)):=by
 go_enter func112,ntmps112;go_wp2_with fail
 go_region
 all_goals go_wp2_with fail
 all_goals refine bodyPost_ret (v:=YJ #[Xo XO 12,a,b,Xo XO 0,Xo XO 0,Xp ⟨#[]⟩,val,Xo XO 0,YG WY 0 0,YG WY 0 0]) Ar rfl ?_
 all_goals exact Bn D.o Au B6
def dl3(a b c ok:Int)(key:ByteArray)(val old:Int)(ms ss:List Int)(j y:Option Yy)(nm z C A:Nat)(w:Xa)
 (D:Hid ((⟨14,a,b,c,ok,key,val,old,ms,ss⟩:aS).In w w (YG j nm z) (YG y C A))):
 Xq Xn 112 #[YJ #[Xo XO 14,a,b,c,ok,key,val,old,YG j nm z,YG y C A]] w (xM w (cy ⟨14,a,b,c,ok,key,val,old,ms,ss⟩)):=by
 go_enter func112,ntmps112;go_wp2_with fail
 go_region
 all_goals go_wp2_with fail
 all_goals refine bodyPost_ret (v:=YJ #[Xo XO 14,a,b,c,Xo XO 0,Xp ⟨#[]⟩,Xo XO 0,Xo XO 0,YG WY 0 0,YG WY 0 0]) Ar rfl ?_
 all_goals exact Bn D.o Au B6
def dl4(a b c ok:Int)(key:ByteArray)(val old:Int)(ms ss:List Int)(j z:Option Yy)(nm y C A:Nat)(w:Xa)
 (D:Hid ((⟨15,a,b,c,ok,key,val,old,ms,ss⟩:aS).In w w (YG j nm y) (YG z C A))):
 Xq Xn 112 #[YJ #[Xo XO 15,a,b,c,ok,key,val,old,YG j nm y,YG z C A]] w (xM w (cy ⟨15,a,b,c,ok,key,val,old,ms,ss⟩)):=by
 go_enter func112,ntmps112;go_wp2_with fail
 all_goals refine bodyPost_ret (v:=YJ #[Xo XO 15,Xo XO 0,Xo XO 0,Xo XO 0,Xo XO 0,Xp ⟨#[]⟩,Xo XO 0,Xo XO 0,YG j nm y,YG WY 0 0]) Ar rfl ?_
 all_goals exact Bn D.o Au B6
def dl5(a b c ok:Int)(key:ByteArray)(val old:Int)(ms ss:List Int)(j y:Option Yy)(nm z C A:Nat)(w:Xa)
 (D:Hid ((⟨4,a,b,c,ok,key,val,old,ms,ss⟩:aS).In w w (YG j nm z) (YG y C A))):
 Xq Xn 112 #[YJ #[Xo XO 4,a,b,c,ok,key,val,old,YG j nm z,YG y C A]] w (xM w (cy ⟨4,a,b,c,ok,key,val,old,ms,ss⟩)):=by
 go_enter func112,ntmps112;go_wp2_with fail
 all_goals refine bodyPost_ret (v:=YJ #[Xo XO 4,Xo XO 0,Xo XO 0,Xo XO 0,Xo XO 0,Xp ⟨#[]⟩,Xo XO 0,Xo XO 0,YG WY 0 0,YG WY 0 0]) Ar rfl ?_
 all_goals exact Bn D.o Au B6
def dl6(a b c ok:Int)(key:ByteArray)(val old:Int)(ms ss:List Int)(j y:Option Yy)(nm z C A:Nat)(w:Xa)
 (D:Hid ((⟨16,a,b,c,ok,key,val,old,ms,ss⟩:aS).In w w (YG j nm z) (YG y C A))):
 Xq Xn 112 #[YJ #[Xo XO 16,a,b,c,ok,key,val,old,YG j nm z,YG y C A]] w (xM w (cy ⟨16,a,b,c,ok,key,val,old,ms,ss⟩)):=by
 go_enter func112,ntmps112;go_wp2_with fail
 all_goals refine bodyPost_ret (v:=YJ #[Xo XO 16,Xo XO 0,Xo XO 0,Xo XO 0,Xo XO 0,Xp ⟨#[]⟩,Xo XO 0,Xo XO 0,YG WY 0 0,YG WY 0 0]) Ar rfl ?_
 all_goals exact Bn D.o Au B6
def dl7(k:Int)(a b c ok:Int)(key:ByteArray)(val old:Int)(ms ss:List Int)(j y:Option Yy)(nm z C A:Nat)(w:Xa)(HK:Hid (¬k=4/\¬k=16/\¬k=15/\¬k=5/\¬k=7/\¬k=10/\¬k=12/\¬k=14))
 (D:Hid ((⟨k,a,b,c,ok,key,val,old,ms,ss⟩:aS).In w w (YG j nm z) (YG y C A))):
 Xq Xn 112 #[YJ #[k,a,b,c,ok,key,val,old,YG j nm z,YG y C A]] w (xM w (cy ⟨k,a,b,c,ok,key,val,old,ms,ss⟩)):=by
 have X:(k !=4)=true:=Ax;have G:(k !=16)=true:=Ax;have F:(k !=15)=true:=Ax;have J:(k==5)=false:=Ax;have O:(k==7)=false:=Ax;have I:(k==10)=false:=Ax;have U:(k==12)=false:=Ax;have V:(k==14)=false:=Ax;have Y:(k==15)=false:=Ax;go_enter func112,ntmps112;go_wp2_with fail
 all_goals refine bodyPost_ret (v:=YJ #[k,a,Xo XO 0,Xo XO 0,Xo XO 0,Xp ⟨#[]⟩,Xo XO 0,Xo XO 0,YG WY 0 0,YG WY 0 0]) Ar rfl ?_
 all_goals exact Bn D.o Au (by simp[cy,aS.cells,HK.o])
def dl8(x:aS)(m s:Xb)(w:Xa)(hx:x.In w w m s):
 Xq Xn 112 #[YJ (x.cells m s)] w (xM w (cy x)):=by
 obtain⟨Am,nm,cm,rfl,_,_,_⟩:=hx.ms.form;obtain⟨As,ns,cs,rfl,_,_,_⟩:=hx.ss.form;obtain⟨k,a,b,c,ok,key,val,old,ms,ss⟩:=x;rw[aS.cells_def];by_cases y:k=4
 .subst y;exact dl5 a b c ok key val old ms ss Am As nm cm ns cs w hx
 by_cases C:k=16
 .subst C;exact dl6 a b c ok key val old ms ss Am As nm cm ns cs w hx
 by_cases F:k=15
 .subst F;exact dl4 a b c ok key val old ms ss Am As nm cm ns cs w hx
 by_cases z:k=5
 .subst z;exact dk9 a b c ok key val old ms ss Am As nm cm ns cs w hx
 by_cases A:k=7
 .subst A;exact dl0 a b c ok key val old ms ss Am As nm cm ns cs w hx
 by_cases j:k=10
 .subst j;exact dl1 a b c ok key val old ms ss Am As nm cm ns cs w hx
 by_cases h:k=12
 .subst h;exact dl2 a b c ok key val old ms ss Am As nm cm ns cs w hx
 by_cases D:k=14
 .subst D;exact dl3 a b c ok key val old ms ss Am As nm cm ns cs w hx
 exact dl7 k a b c ok key val old ms ss Am As nm cm ns cs w ⟨y,C,F,z,A,j,h,D⟩ hx
def bH:Nat->List UInt8
 |0=>[100,101,108,105,118,101,114]
 |1=>[100,114,111,112]
 |2=>[100,111,117,98,108,101]
 |3=>[116,105,99,107]
 |4=>[115,108,111,116]
 |5=>[99,114,97,115,104]
 |6=>[114,101,115,116,97,114,116]
 |7=>[102,97,105,108]
 |8=>[105,115,111,108,97,116,101]
 |9=>[106,111,105,110]
 |10=>[114,101,113,117,101,115,116]
 |11=>[114,101,116,114,121]
 |12=>[99,97,108,108]
 |13=>[99,111,109,112,97,99,116]
 |14=>[116,114,97,110,115,102,101,114]
 |15=>[114,101,112,108,97,110]
 |16=>[100,97,114,107]
 |17=>[99,97,108,109]
 |_=>[]
def eY:List Int->List UInt8
 |[]=>[]
 |n::r=>32::Xg n++eY r
def dm1(a b:List Int):eY (a++b)=eY a++eY b:=by
 induction a with
 |nil=>rfl
 |cons n r ih=>simp[eY,ih]
def Z6(l:List Int)(h:∀x∈l,aP x):(eY l).length<=22*l.length:=by
 induction l with
 |nil=>simp[eY]
 |cons n r ih=>have c:=Lib.itoa_length_le n (h n YQ).1 (h n YQ).2;have j:=ih (λx hx=>h x AB);simp[eY];omega
def Z7(l:List Int)(k:Nat)(h:k<l.length):l.take (k+1)=l.take k++[cM l k]:=by rw[List.take_succ_eq_append_getElem h,Ls h]
def Z8{l:List Int}{k:Nat}(h:k<l.length):cM l k∈l:=by rw[Ls h];exact List.getElem_mem h
end
section
open Go Go.Proofs.Tryz
def ww{α:Type}(x:α)(xs:List α)(a:α):(x::xs).set 0 a=a::xs:=rfl
def wv{α:Type}(x:α)(xs:List α)(n:Nat)(a:α):(x::xs).set (n+1) a=x::xs.set n a:=rfl
def wu{α:Type}(xs:List α)(i:Nat)(a:α):xs.toArray.setIfInBounds i a=(xs.set i a).toArray:=List.setIfInBounds_toArray ..
section
variable {P:YA} {ops:Array Yf} {Q:Exit->Act->Xa->Prop} {md:Yq} {S:Xa->Prop}
def mz(md:Yq)(ops:Array Yf)(listed:Array Bool)(i t:Nat):Bool:=
 Region.noSelect ops&&Region.free md ops listed i&&(Yc md ops listed).contains i&&match ops[i]? with|some o=>o.dst==WX t|none=>Xc
def II{listed:Array Bool}{i t:Nat}{c:Yf}(h:mz md ops listed i t=Xe)(j:ops[i]?=WX c):Region.noSelect ops=Xe/\Region.free md ops listed i=Xe/\(Yc md ops listed).contains i=Xe/\c.dst=WX t:=by unfold mz at h;rw[j]at h;simp only[Xh,beq_iff_eq]at h;exact⟨h.1.1.1,h.1.1.2,h.1.2,h.2⟩
def tA(m s:Nat){z:Yf}{v:Xb}{fuel:Nat}{listed:Array Bool}{a:Act}{w:Xa}(y:ops[m - (fuel+1)]?=WX z)(A:mz md ops listed (m - (fuel+1)) (s+(m - (fuel+1)))=Xe)
 (j:∀c a w,Q (.panic c) (a.put (WX (s+(m - (fuel+1)))) v) w->Q (.panic c) a w)(C:Yields P ops z v a)
 (h:wpAny P md ops Q fuel (listed.setIfInBounds (m - (fuel+1)) Xe) (a.put (WX (s+(m - (fuel+1)))) v) w):wpAny P md ops Q (fuel+1) listed a w:=by
 obtain⟨h1,h2,h3,hd⟩:=II A y;rw[<-hd]at h j;exact wpAny_take y h1 h2 h3 j C h
def cq6(m s:Nat){z:Yf}{v:Xb}{fuel:Nat}{listed:Array Bool}{a:Act}{w:Xa}(y:ops[m - (fuel+1)]?=WX z)(C:mz md ops listed (m - (fuel+1)) (s+(m - (fuel+1)))=Xe)
 (j:∀c a w,Q (.panic c) (a.put (WX (s+(m - (fuel+1)))) v) w->Q (.panic c) a w)(D:YieldsIf P ops S z v a)(A:S w)
 (h:wpAnyH P md ops Q S fuel (listed.setIfInBounds (m - (fuel+1)) Xe) (a.put (WX (s+(m - (fuel+1)))) v) w):wpAnyH P md ops Q S (fuel+1) listed a w:=by
 obtain⟨h1,h2,h3,hd⟩:=II C y;rw[<-hd]at h j;exact wpAnyH_take y h1 h2 h3 j D A h
def dh8(i t:Nat){z:Yf}{v:Xb}{fuel:Nat}{listed:Array Bool}{a:Act}{w:Xa}(y:ops[i]?=WX z)(A:mz md ops listed i t=Xe)
 (j:∀c a w,Q (.panic c) (a.put (WX t) v) w->Q (.panic c) a w)(C:Yields P ops z v a)
 (h:wpAny P md ops Q fuel (listed.setIfInBounds i Xe) (a.put (WX t) v) w):wpAny P md ops Q (fuel+1) listed a w:=by
 obtain⟨h1,h2,h3,hd⟩:=II A y;rw[<-hd]at h j;exact wpAny_take y h1 h2 h3 j C h
def dh9(i t:Nat){z:Yf}{v:Xb}{fuel:Nat}{listed:Array Bool}{a:Act}{w:Xa}(y:ops[i]?=WX z)(C:mz md ops listed i t=Xe)
 (j:∀c a w,Q (.panic c) (a.put (WX t) v) w->Q (.panic c) a w)(D:YieldsIf P ops S z v a)(A:S w)
 (h:wpAnyH P md ops Q S fuel (listed.setIfInBounds i Xe) (a.put (WX t) v) w):wpAnyH P md ops Q S (fuel+1) listed a w:=by
 obtain⟨h1,h2,h3,hd⟩:=II C y;rw[<-hd]at h j;exact wpAnyH_take y h1 h2 h3 j D A h
def iT(m s:Nat){j:Yf}{v:Xb}{fuel:Nat}{listed:Array Bool}{a:Act}{w:Xa}{p:Prop}(h:p)
 (z:ops[m - (fuel+1)]?=WX j:=by rfl)(A:mz md ops listed (m - (fuel+1)) (s+(m - (fuel+1)))=true:=by kernel_rfl)
 (y:∀c a w,Q (.panic c) (a.put (WX (s+(m - (fuel+1)))) v) w->Q (.panic c) a w:=by exact λ_ _ _ h=>h)(D:Yields P ops j v a:=by(refine Or.inl ⟨by rfl,?_⟩;intro w;go_simp;try with_reducible rfl))
 (C:p->wpAny P md ops Q fuel (listed.setIfInBounds (m - (fuel+1)) Xe) (a.put (WX (s+(m - (fuel+1)))) v) w:=by(intro hq;simp only[Act.put,wu,ww,wv,Nat.reduceSub,Nat.reduceAdd];exact hq)):wpAny P md ops Q (fuel+1) listed a w:=
 tA m s z A y D (C h)
def EY(m s:Nat){j:Yf}{fuel:Nat}{listed:Array Bool}{a:Act}{w:Xa}{p:Prop}(h:p)
 (z:ops[m - (fuel+1)]?=WX j:=by rfl)(A:mz md ops listed (m - (fuel+1)) (s+(m - (fuel+1)))=true:=by kernel_rfl)
 (y:∀c a w,Q (.panic c) (a.put (WX (s+(m - (fuel+1)))) Yg) w->Q (.panic c) a w:=by exact λ_ _ _ h=>h)(D:Yields P ops j Yg a:=by exact Or.inr ⟨by rfl,rfl⟩)
 (C:p->wpAny P md ops Q fuel (listed.setIfInBounds (m - (fuel+1)) Xe) (a.put (WX (s+(m - (fuel+1)))) Yg) w:=by(intro hq;simp only[Act.put,wu,ww,wv,Nat.reduceSub,Nat.reduceAdd];exact hq)):wpAny P md ops Q (fuel+1) listed a w:=
 tA m s z A y D (C h)
def lw(i t:Nat){j:Yf}{v:Xb}{fuel:Nat}{listed:Array Bool}{a:Act}{w:Xa}{p:Prop}(h:p)
 (z:ops[i]?=WX j:=by rfl)(A:mz md ops listed i t=true:=by kernel_rfl)
 (y:∀c a w,Q (.panic c) (a.put (WX t) v) w->Q (.panic c) a w:=by exact λ_ _ _ h=>h)(D:Yields P ops j v a:=by(refine Or.inl ⟨by rfl,?_⟩;intro w;go_simp;try with_reducible rfl))
 (C:p->wpAny P md ops Q fuel (listed.setIfInBounds i Xe) (a.put (WX t) v) w:=by(intro hq;simp only[Act.put,wu,ww,wv];exact hq)):wpAny P md ops Q (fuel+1) listed a w:=
 dh8 i t z A y D (C h)
def mX(m s:Nat){j:Yf}{v:Xb}{fuel:Nat}{listed:Array Bool}{a:Act}{w:Xa}{p:Prop}(h:p)(hS:S w:=by exact hS)
 (z:ops[m - (fuel+1)]?=WX j:=by rfl)(A:mz md ops listed (m - (fuel+1)) (s+(m - (fuel+1)))=true:=by kernel_rfl)
 (y:∀c a w,Q (.panic c) (a.put (WX (s+(m - (fuel+1)))) v) w->Q (.panic c) a w:=by exact λ_ _ _ h=>h)(D:YieldsIf P ops S j v a:=by(refine Or.inl ⟨by rfl,?_⟩;intro w hZ;(try have hZ:=fP.o w hZ);(try dsimp only at hZ);go_simp;try with_reducible rfl))
 (C:p->wpAnyH P md ops Q S fuel (listed.setIfInBounds (m - (fuel+1)) Xe) (a.put (WX (s+(m - (fuel+1)))) v) w:=by(intro hq;simp only[Act.put,wu,ww,wv,Nat.reduceSub,Nat.reduceAdd];exact hq)):wpAnyH P md ops Q S (fuel+1) listed a w:=
 cq6 m s z A y D hS (C h)
def gp4(m s:Nat){j:Yf}{fuel:Nat}{listed:Array Bool}{a:Act}{w:Xa}{p:Prop}(h:p)(hS:S w:=by exact hS)
 (z:ops[m - (fuel+1)]?=WX j:=by rfl)(A:mz md ops listed (m - (fuel+1)) (s+(m - (fuel+1)))=true:=by kernel_rfl)
 (y:∀c a w,Q (.panic c) (a.put (WX (s+(m - (fuel+1)))) Yg) w->Q (.panic c) a w:=by exact λ_ _ _ h=>h)(D:YieldsIf P ops S j Yg a:=by exact Or.inr ⟨by rfl,rfl⟩)
 (C:p->wpAnyH P md ops Q S fuel (listed.setIfInBounds (m - (fuel+1)) Xe) (a.put (WX (s+(m - (fuel+1)))) Yg) w:=by(intro hq;simp only[Act.put,wu,ww,wv,Nat.reduceSub,Nat.reduceAdd];exact hq)):wpAnyH P md ops Q S (fuel+1) listed a w:=
 cq6 m s z A y D hS (C h)
def nI(i t:Nat){j:Yf}{v:Xb}{fuel:Nat}{listed:Array Bool}{a:Act}{w:Xa}{p:Prop}(h:p)(hS:S w:=by exact hS)
 (z:ops[i]?=WX j:=by rfl)(A:mz md ops listed i t=true:=by kernel_rfl)
 (y:∀c a w,Q (.panic c) (a.put (WX t) v) w->Q (.panic c) a w:=by exact λ_ _ _ h=>h)(D:YieldsIf P ops S j v a:=by(refine Or.inl ⟨by rfl,?_⟩;intro w hZ;(try have hZ:=fP.o w hZ);(try dsimp only at hZ);go_simp;try with_reducible rfl))
 (C:p->wpAnyH P md ops Q S fuel (listed.setIfInBounds i Xe) (a.put (WX t) v) w:=by(intro hq;simp only[Act.put,wu,ww,wv];exact hq)):wpAnyH P md ops Q S (fuel+1) listed a w:=
 dh9 i t z A y D hS (C h)
def fi(i:Nat){o:Yf}{fuel:Nat}{listed:Array Bool}{a:Act}{w:Xa}(h:∀c:Act->Xa->Prop,(∀a w,wpAny P md ops Q fuel (listed.setIfInBounds i Xe) a w->c a w)->if XW o (yielded ops a.tmps)=Xe then YE P o a w c Q else c (a.put o.dst Yg) w)
 (j:Yc md ops listed=[i]:=by kernel_rfl)(ho:ops[i]?=WX o:=by rfl):wpAny P md ops Q (fuel+1) listed a w:=wpAny_ready j YQ (AllReady.cons ho h AllReady.nil)
def jr(i:Nat){o:Yf}{fuel:Nat}{listed:Array Bool}{a:Act}{w:Xa}(h:∀c:Act->Xa->Prop,Shut (∀a w,S w->(S w->wpAnyH P md ops Q S fuel (listed.setIfInBounds i Xe) a w)->c a w)->if XW o (yielded ops a.tmps)=Xe then YE P o a w c Q else c (a.put o.dst Yg) w)
 (j:Yc md ops listed=[i]:=by kernel_rfl)(ho:ops[i]?=WX o:=by rfl):wpAnyH P md ops Q S (fuel+1) listed a w:=wpAnyH_ready j YQ (AllReadyH.cons ho h AllReadyH.nil)
def po(n:Nat){id:Nat}{a:Act}{w:Xa}(h:wpAny P .any ops Q n (Array.replicate n Xc) a (World.drew w))(hm:P.follows .mixedOrders=true:=by kernel_rfl)(c:ops.size=n:=by rfl):(Code.region id ops Xe).wp P Q a w:=by subst c;exact wp_region_any hm h
def yR{S:Xa->Prop}(n:Nat){id:Nat}{a:Act}{w:Xa}(c:S (World.drew w))(h:S (World.drew w)->wpAnyH P .any ops Q S n (Array.replicate n Xc) a (World.drew w))(hm:P.follows .mixedOrders=true:=by kernel_rfl)(j:ops.size=n:=by rfl):(Code.region id ops Xe).wp P Q a w:=by subst j;exact wp_region_held_drew hm c h
def vz{listed:Array Bool}{a:Act}{w:Xa}{fuel:Nat}(h:Q .normal a w)(c:Yc md ops listed=[]:=by kernel_rfl):wpAny P md ops Q fuel listed a w:=wpAny_done c h fuel
def vB{listed:Array Bool}{a:Act}{w:Xa}{fuel:Nat}(h:Q .normal a w)(c:Yc md ops listed=[]:=by kernel_rfl):wpAnyH P md ops Q S fuel listed a w:=wpAnyH_done c h fuel
end
end
section
open Go Go.RowKit Go.Proofs.Tryz
def bp(w:Xa)(B:Nat)(v:Xb)(l:List ar):Prop:=cB w B v (l.map bs)
def bp.below{w w':Xa}{B B₂:Nat}{v:Xb}{l:List ar}(h:bp w B v l)(j:Below B₂ w w')(c:B<=B₂):bp w' B v l:=cB.below h j c
def bp.more{w:Xa}{B B':Nat}{v:Xb}{l:List ar}(h:bp w B v l)(c:B<=B'):bp w B' v l:=cB.more h c
def bp.nil_(w:Xa)(B:Nat):bp w B (YG WY 0 0) []:=Sl.nil_ w B
def iR{α:Type}(R:Xa->Nat->List Xb->α->Prop):Prop:=∀(w w':Xa)(B B₂ B':Nat)cs x,R w B cs x->Below B₂ w w'->B<=B₂->B<=B'->R w' B' cs x
def bU{α:Type}(k:Nat)(R:Xa->Nat->List Xb->α->Prop)(w:Xa)(B:Nat)(v:Xb)(xs:List α):Prop:=
 ∃A c,v= .slice A xs.length c/\xs.length<=c/\c<=maxLen/\
  (xs≠[]->∃b o,A=WX ⟨b,o,WY⟩/\b<B/\∀(j:Nat)x,xs[j]?=WX x->∃cs:List Xb,cs.length=k/\R w B cs x/\∀(i:Nat)u,cs[i]?=WX u->w.cell? ⟨b,o+j*k+i,WY⟩=WX u)
section
variable {α:Type} {k:Nat} {R:Xa->Nat->List Xb->α->Prop} {w w':Xa} {B B' B₂:Nat} {v:Xb} {xs:List α}
def bU.nil_(w:Xa)(B:Nat):bU k R w B (YG WY 0 0) []:=⟨WY,0,rfl,by simp,by simp[XF],λh=>absurd rfl h⟩
def bU.to(h:bU k R w B v xs)(D:iR R)(z:Below B₂ w w')(y:B<=B₂)(C:B<=B'):bU k R w' B' v xs:=by obtain⟨A,c,rfl,h1,h2,h3⟩:=h;refine⟨A,c,rfl,h1,h2,λF=>?_⟩;obtain⟨b,o,rfl,az,hc⟩:=h3 F;refine⟨b,o,rfl,by omega,λj x hx=>?_⟩;obtain⟨cs,h4,h5,h6⟩:=hc j x hx;exact⟨cs,h4,D _ _ _ _ _ _ _ h5 z y C,λi u G=>(z.cell (p:=b _ WY) (bt az y)).trans (h6 i u G)⟩
def bU.below(h:bU k R w B v xs)(j:iR R)(y:Below B₂ w w')(c:B<=B₂):bU k R w' B v xs:=h.to j y c (am _)
def bU.form(h:bU k R w B v xs):∃A n c,v=YG A n c/\xs.length=n/\n<=c/\c<=9223372036854775807:=bw8
def bU.at_{A:Option Yy}{n c:Nat}(h:bU k R w B (YG A n c) xs){j:Nat}{x:α}(hx:xs[j]?=WX x):
 ∃b o y,A=WX ⟨b,o,WY⟩/\b<B/\y.length=k/\R w B y x/\∀(i:Nat)u,y[i]?=WX u->w.cell? ⟨b,o+j*k+i,WY⟩=WX u:=by
 obtain⟨A',c',he,h1,h2,h3⟩:=h;injection he with z C D;subst z;obtain⟨b,o,hA,hb,hc⟩:=h3 (λe=>by rw[e]at hx;simp at hx);obtain⟨y,h4,h5,h6⟩:=hc j x hx;exact⟨b,o,y,hA,hb,h4,h5,h6⟩
end
def mA(_:Xa)(_:Nat)(cs:List Xb)(t:fI):Prop:=cs=[Xo XO t.kind,Xp (bs t.text),Xo XO t.n,Xo XO t.pos]
def pC(w:Xa)(B:Nat)(cs:List Xb)(d:aH):Prop:=
 ∃r n,cs=[Xo XO d.kind,Xp (bs d.name),r,n,Xo XO d.by_,YH d.always]/\bp w B r d.refs/\aW w B n (d.nums.map λx:Nat=>(x:Int))/\d.kind<=1000000/\d.by_<=1000000
def ow(_:Xa)(_:Nat)(cs:List Xb)(x:lS):Prop:=cs=[Xp (bs x.name),Xo XO x.site,Xo XO x.feed]/\aP x.site/\aP x.feed
def uy(_:Xa)(_:Nat)(cs:List Xb)(x:p7):Prop:=cs=[Xp (bs x.name),Xo XO x.rack,Xo XO x.cap]/\aP x.rack/\aP x.cap
def oE(_:Xa)(_:Nat)(cs:List Xb)(x:si):Prop:=cs=[Xo XO x.a,Xo XO x.b,Xo XO x.cap]/\aP x.a/\aP x.b/\aP x.cap
def CO(w:Xa)(B:Nat)(cs:List Xb)(x:em):Prop:=
 ∃o,cs=[Xp (bs x.name),Xo XO x.kind,Xo XO x.count,Xo XO x.load,Xo XO x.size,Xo XO x.share,o]/\aW w B o x.on/\(aP x.kind/\aP x.count/\aP x.load/\aP x.size/\aP x.share)
def CP(w:Xa)(B:Nat)(cs:List Xb)(x:ci):Prop:=
 ∃o,cs=[Xo XO x.kind,Xo XO x.item,Xo XO x.other,Xo XO x.n,Xo XO x.by_,YH x.always,o]/\aW w B o x.ms/\(aP x.kind/\aP x.item/\aP x.other/\aP x.n/\aP x.by_)
def mA.ab:iR mA:=λ_ _ _ _ _ _ _ h _ _ _=>h
def ow.ab:iR ow:=λ_ _ _ _ _ _ _ h _ _ _=>h
def uy.ab:iR uy:=λ_ _ _ _ _ _ _ h _ _ _=>h
def oE.ab:iR oE:=λ_ _ _ _ _ _ _ h _ _ _=>h
def pC.ab:iR pC:=λ_ _ _ _ _ _ _⟨r,n,y,z,A,C⟩j h c=>⟨r,n,y,(z.below j h).more c,(A.below j h).more c,C⟩
def CO.ab:iR CO:=λ_ _ _ _ _ _ _⟨o,h,j,y⟩A z c=>⟨o,h,(j.below A z).more c,y⟩
def CP.ab:iR CP:=λ_ _ _ _ _ _ _⟨o,h,j,y⟩A z c=>⟨o,h,(j.below A z).more c,y⟩
structure MV where
 s:Xb
 f:Xb
 r:Xb
 m:Xb
 l:Xb
 i:Xb
 u:Xb
def aT.cells(m:aT)(v:MV):Array Value:= #[v.s,v.f,v.r,v.m,v.l,v.i,Xo XO m.dark,Xo XO m.slots,Xo XO m.reserve,Xo XO m.failures,v.u]
def aT.cells_def(m:aT)(v:MV):m.cells v= #[v.s,v.f,v.r,v.m,v.l,v.i,Xo XO m.dark,Xo XO m.slots,Xo XO m.reserve,Xo XO m.failures,v.u]:=rfl
def oy(m:aT){v:MV}{a b c d e f g:Xb}(h:v.s=a)(j:v.f=b)(y:v.r=c)(z:v.m=d)(A:v.l=e)(C:v.i=f)(D:v.u=g):m.cells v= #[a,b,c,d,e,f,Xo XO m.dark,Xo XO m.slots,Xo XO m.reserve,Xo XO m.failures,g]:=by rw[aT.cells_def,h,j,y,z,A,C,D]
def Hx{m:aT}{v:MV}{a b c d e f g p q r s:Xb}(h:m.cells v= #[a,b,c,d,e,f,p,q,r,s,g])(x y z:Xb):m.cells v++ #[x,y,z]= #[a,b,c,d,e,f,p,q,r,s,g,x,y,z]:=by rw[h];rfl
structure aT.In(m:aT)(w:Xa)(B:Nat)(v:MV):Prop where
 ss:bp w B v.s m.sites
 fs:bp w B v.f m.feeds
 rs:bU 3 ow w B v.r m.racks
 ms:bU 3 uy w B v.m m.machs
 ls:bU 3 oE w B v.l m.links
 is:bU 7 CO w B v.i m.items
 us:bU 7 CP w B v.u m.rules
 dark:aP m.dark
 slots:aP m.slots
 reserve:aP m.reserve
 failures:aP m.failures
def aT.In.to{m:aT}{w w':Xa}{B B₂ B':Nat}{v:MV}(h:m.In w B v)(y:Below B₂ w w')(j:B<=B₂)(c:B<=B'):m.In w' B' v:=
 ⟨(h.ss.below y j).more c,(h.fs.below y j).more c,h.rs.to ow.ab y j c,h.ms.to uy.ab y j c,h.ls.to oE.ab y j c,h.is.to CO.ab y j c,h.us.to CP.ab y j c,h.dark,h.slots,h.reserve,h.failures⟩
def cN(w:Xa)(o:Obj):(w.alloc o).heap[w.heap.size]?=WX o:=by show(w.heap.push o)[w.heap.size]?=_;exact Array.getElem?_push_size
def jO{B b:Nat}{w w':Xa}{o:Obj}(h:w.heap[b]?=WX o)(j:Below B w w')(c:b<B):w'.heap[b]?=WX o:=(j.block b c).trans h
def aC{b:Nat}{w w':Xa}{o:Obj}(h:w.heap[b]?=WX o)(c:Below w w w'):w'.heap[b]?=WX o:=jO h c (Array.getElem?_eq_some_iff.1 h).1
def blk_lt{b:Nat}{w:Xa}{o:Obj}(h:w.heap[b]?=WX o):b<w:=(Array.getElem?_eq_some_iff.1 h).1
def ap{w:Xa}{b o:Nat}{C:Array Xb}{t:Xv}(h:w.heap[b]?=WX (YI C t (0,0))){v:Xb}(c:C[o]?=WX v):w.cell? (b o WY)=WX v:=by simp only[Yx,h];exact c
def cK{w:Xa}{b:Nat}{C:Array Xb}{t:Xv}(h:w.heap[b]?=WX (YI C t (0,0)))(o:Nat):w.frozen? (b o WY)=false:=by simp[World.frozen?,h]
def U9{w:Xa}{b:Nat}{r:List Xb}{t:Xv}{c j y:Xb}(h:w.heap[b]?=WX (YI (List.toArray (c::j::y::r)) t (0,0))):w.cell? b=WX c/\w.cell? (b 1 WY)=WX j/\w.cell? (b 2 WY)=WX y:=
 ⟨ap h rfl,ap h rfl,ap h rfl⟩
def VU{w:Xa}{b:Nat}{r:List Xb}{t:Xv}{c j y z:Xb}(h:w.heap[b]?=WX (YI (List.toArray (c::j::y::z::r)) t (0,0))):w.cell? b=WX c/\w.cell? (b 1 WY)=WX j/\w.cell? (b 2 WY)=WX y/\w.cell? (b 3 WY)=WX z:=
 ⟨ap h rfl,ap h rfl,ap h rfl,ap h rfl⟩
def dW{w:Xa}{b:Nat}{r:List Xb}{t:Xv}{c j y z A C:Xb}(h:w.heap[b]?=WX (YI (List.toArray (c::j::y::z::A::C::r)) t (0,0))):w.cell? b=WX c/\w.cell? (b 1 WY)=WX j/\w.cell? (b 2 WY)=WX y/\w.cell? (b 3 WY)=WX z/\w.cell? (b 4 WY)=WX A/\w.cell? (b 5 WY)=WX C:=
 ⟨ap h rfl,ap h rfl,ap h rfl,ap h rfl,ap h rfl,ap h rfl⟩
def gY{w:Xa}{b:Nat}{r:List Xb}{t:Xv}{c j y z A C D:Xb}(h:w.heap[b]?=WX (YI (List.toArray (c::j::y::z::A::C::D::r)) t (0,0))):w.cell? b=WX c/\w.cell? (b 1 WY)=WX j/\w.cell? (b 2 WY)=WX y/\w.cell? (b 3 WY)=WX z/\w.cell? (b 4 WY)=WX A/\w.cell? (b 5 WY)=WX C/\w.cell? (b 6 WY)=WX D:=
 ⟨ap h rfl,ap h rfl,ap h rfl,ap h rfl,ap h rfl,ap h rfl,ap h rfl⟩
def ah3{w:Xa}{b:Nat}{r:List Xb}{t:Xv}{c j y z A C D F:Xb}(h:w.heap[b]?=WX (YI (List.toArray (c::j::y::z::A::C::D::F::r)) t (0,0))):w.cell? b=WX c/\w.cell? (b 1 WY)=WX j/\w.cell? (b 2 WY)=WX y/\w.cell? (b 3 WY)=WX z/\w.cell? (b 4 WY)=WX A/\w.cell? (b 5 WY)=WX C/\w.cell? (b 6 WY)=WX D/\w.cell? (b 7 WY)=WX F:=
 ⟨ap h rfl,ap h rfl,ap h rfl,ap h rfl,ap h rfl,ap h rfl,ap h rfl,ap h rfl⟩
def ah4{w:Xa}{b:Nat}{r:List Xb}{t:Xv}{c j y z A C D F G I:Xb}(h:w.heap[b]?=WX (YI (List.toArray (c::j::y::z::A::C::D::F::G::I::r)) t (0,0))):w.cell? b=WX c/\w.cell? (b 1 WY)=WX j/\w.cell? (b 2 WY)=WX y/\w.cell? (b 3 WY)=WX z/\w.cell? (b 4 WY)=WX A/\w.cell? (b 5 WY)=WX C/\w.cell? (b 6 WY)=WX D/\w.cell? (b 7 WY)=WX F/\w.cell? (b 8 WY)=WX G/\w.cell? (b 9 WY)=WX I:=
 ⟨ap h rfl,ap h rfl,ap h rfl,ap h rfl,ap h rfl,ap h rfl,ap h rfl,ap h rfl,ap h rfl,ap h rfl⟩
def eR{w:Xa}{b:Nat}{r:List Xb}{t:Xv}{c j y z A C D F G I J:Xb}(h:w.heap[b]?=WX (YI (List.toArray (c::j::y::z::A::C::D::F::G::I::J::r)) t (0,0))):w.cell? b=WX c/\w.cell? (b 1 WY)=WX j/\w.cell? (b 2 WY)=WX y/\w.cell? (b 3 WY)=WX z/\w.cell? (b 4 WY)=WX A/\w.cell? (b 5 WY)=WX C/\w.cell? (b 6 WY)=WX D/\w.cell? (b 7 WY)=WX F/\w.cell? (b 8 WY)=WX G/\w.cell? (b 9 WY)=WX I/\w.cell? (b 10 WY)=WX J:=
 ⟨ap h rfl,ap h rfl,ap h rfl,ap h rfl,ap h rfl,ap h rfl,ap h rfl,ap h rfl,ap h rfl,ap h rfl,ap h rfl⟩
def Lh{w:Xa}{b:Nat}{r:List Xb}{t:Xv}{c j y z A C D F G I J O:Xb}(h:w.heap[b]?=WX (YI (List.toArray (c::j::y::z::A::C::D::F::G::I::J::O::r)) t (0,0))):w.cell? b=WX c/\w.cell? (b 1 WY)=WX j/\w.cell? (b 2 WY)=WX y/\w.cell? (b 3 WY)=WX z/\w.cell? (b 4 WY)=WX A/\w.cell? (b 5 WY)=WX C/\w.cell? (b 6 WY)=WX D/\w.cell? (b 7 WY)=WX F/\w.cell? (b 8 WY)=WX G/\w.cell? (b 9 WY)=WX I/\w.cell? (b 10 WY)=WX J/\w.cell? (b 11 WY)=WX O:=
 ⟨ap h rfl,ap h rfl,ap h rfl,ap h rfl,ap h rfl,ap h rfl,ap h rfl,ap h rfl,ap h rfl,ap h rfl,ap h rfl,ap h rfl⟩
def jE{w:Xa}{b:Nat}{r:List Xb}{t:Xv}{c j y z A C D F G I J O U V:Xb}(h:w.heap[b]?=WX (YI (List.toArray (c::j::y::z::A::C::D::F::G::I::J::O::U::V::r)) t (0,0))):w.cell? b=WX c/\w.cell? (b 1 WY)=WX j/\w.cell? (b 2 WY)=WX y/\w.cell? (b 3 WY)=WX z/\w.cell? (b 4 WY)=WX A/\w.cell? (b 5 WY)=WX C/\w.cell? (b 6 WY)=WX D/\w.cell? (b 7 WY)=WX F/\w.cell? (b 8 WY)=WX G/\w.cell? (b 9 WY)=WX I/\w.cell? (b 10 WY)=WX J/\w.cell? (b 11 WY)=WX O/\w.cell? (b 12 WY)=WX U/\w.cell? (b 13 WY)=WX V:=
 ⟨ap h rfl,ap h rfl,ap h rfl,ap h rfl,ap h rfl,ap h rfl,ap h rfl,ap h rfl,ap h rfl,ap h rfl,ap h rfl,ap h rfl,ap h rfl,ap h rfl⟩
def zU{w:Xa}{b:Nat}{C:Array Xb}{t:Xv}(h:w.heap[b]?=WX (YI C t (0,0))):w.frozen? b=Xc/\w.frozen? (b 1 WY)=Xc/\w.frozen? (b 2 WY)=Xc/\w.frozen? (b 3 WY)=false:=
 ⟨cK h 0,cK h 1,cK h 2,cK h 3⟩
def zV{w:Xa}{b:Nat}{C:Array Xb}{t:Xv}(h:w.heap[b]?=WX (YI C t (0,0))):w.frozen? b=Xc/\w.frozen? (b 1 WY)=Xc/\w.frozen? (b 2 WY)=Xc/\w.frozen? (b 3 WY)=Xc/\w.frozen? (b 4 WY)=Xc/\w.frozen? (b 5 WY)=false:=
 ⟨cK h 0,cK h 1,cK h 2,cK h 3,cK h 4,cK h 5⟩
def CQ{w:Xa}{b:Nat}{C:Array Xb}{t:Xv}(h:w.heap[b]?=WX (YI C t (0,0))):w.frozen? b=Xc/\w.frozen? (b 1 WY)=Xc/\w.frozen? (b 2 WY)=Xc/\w.frozen? (b 3 WY)=Xc/\w.frozen? (b 4 WY)=Xc/\w.frozen? (b 5 WY)=Xc/\w.frozen? (b 6 WY)=false:=
 ⟨cK h 0,cK h 1,cK h 2,cK h 3,cK h 4,cK h 5,cK h 6⟩
def Li{w:Xa}{b:Nat}{C:Array Xb}{t:Xv}(h:w.heap[b]?=WX (YI C t (0,0))):w.frozen? b=Xc/\w.frozen? (b 1 WY)=Xc/\w.frozen? (b 2 WY)=Xc/\w.frozen? (b 3 WY)=Xc/\w.frozen? (b 4 WY)=Xc/\w.frozen? (b 5 WY)=Xc/\w.frozen? (b 6 WY)=Xc/\w.frozen? (b 7 WY)=Xc/\w.frozen? (b 8 WY)=Xc/\w.frozen? (b 9 WY)=Xc/\w.frozen? (b 10 WY)=false:=
 ⟨cK h 0,cK h 1,cK h 2,cK h 3,cK h 4,cK h 5,cK h 6,cK h 7,cK h 8,cK h 9,cK h 10⟩
def VV{w:Xa}{b:Nat}{C:Array Xb}{t:Xv}(h:w.heap[b]?=WX (YI C t (0,0))):w.frozen? b=Xc/\w.frozen? (b 1 WY)=Xc/\w.frozen? (b 2 WY)=Xc/\w.frozen? (b 3 WY)=Xc/\w.frozen? (b 4 WY)=Xc/\w.frozen? (b 5 WY)=Xc/\w.frozen? (b 6 WY)=Xc/\w.frozen? (b 7 WY)=Xc/\w.frozen? (b 8 WY)=Xc/\w.frozen? (b 9 WY)=Xc/\w.frozen? (b 10 WY)=Xc/\w.frozen? (b 11 WY)=Xc/\w.frozen? (b 12 WY)=Xc/\w.frozen? (b 13 WY)=false:=
 ⟨cK h 0,cK h 1,cK h 2,cK h 3,cK h 4,cK h 5,cK h 6,cK h 7,cK h 8,cK h 9,cK h 10,cK h 11,cK h 12,cK h 13⟩
def ah5{W c:Xa}(j:Below W.drew.heap.size W.drew c):(∀b o,b<W.heap.size->c.cell? ⟨b,o,WY⟩=W.cell? ⟨b,o,WY⟩)/\(∀b o,b<W.heap.size->c.frozen? ⟨b,o,WY⟩=W.frozen? ⟨b,o,WY⟩):=
 ⟨λb o h=>j.cell (p:=⟨b,o,WY⟩) h,λb o h=>j.frozen (p:=⟨b,o,WY⟩) h⟩
section
variable {P:YA} {ops:Array Yf} {Q:Exit->Act->Xa->Prop} {md:Yq}
end
def bc{w:Xa}{b:Nat}{C:Array Xb}{t:Xv}(h:w.heap[b]?=WX (YI C t (0,0)))(o:Nat)(u:Xb):(w.setCell (b o WY) u).heap[b]?=WX (YI (C.setIfInBounds o u) t (0,0)):=by simp[Ye,Array.getElem?_modify,h]
def uz{w:Xa}{b p o:Nat}{u:Xb}{ob:Obj}(h:w.heap[b]?=WX ob)(aV:¬b=p):(w.setCell (p o WY) u).heap[b]?=WX ob:=
 (Below.heap_setCell w (p o WY) u b Ny).trans h
def ah6{w:Xa}{b j p o:Nat}{u:Xb}(aV:¬b=p):(w.setCell (p o WY) u).cell? (b j WY)=w.cell? (b j WY):=
 Yp (Below.heap_setCell w (p o WY) u b Ny)
def fe{P:YA}{c:Code}{Q:Exit->Act->Xa->Prop}{a:Act}{W:Xa}(F:Xa->Prop)(j:F W)(h:∀W0,F W0->Code.wp P c Q a W0):Code.wp P c Q a W:=h W j
def eG{P:YA}{c:Code}{Q:Exit->Act->Xa->Prop}{a:Act}{w:Xa}{o:Obj}(h:∀W,(Below w w W/\W.heap[w.heap.size]?=WX o)->Code.wp P c Q a W):Code.wp P c Q a (w.alloc o):=h _ ⟨ai (aj w) o,cN w o⟩
def IJ{P:YA}{c:Code}{Q:Exit->Act->Xa->Prop}{a:Act}{w:Xa}{o:Obj}(h:∀W,(W.heap[w.heap.size]?=WX o/\Below w w W)->Code.wp P c Q a W):Code.wp P c Q a (w.alloc o):=eG λW⟨j,y⟩=>h W ⟨y,j⟩
def ah7{k:Nat}:∀(rows:List (List Xb)),(∀r∈rows,r.length=k)->∀(j i:Nat)r u,rows[j]?=WX r->r[i]?=WX u->rows.flatten[j*k+i]?=WX u
 |[],_,j,i,r,u,h,_=>by simp at h
 |x::rows,hk,0,i,r,u,h,hu=>by simp at h;subst h;rw[List.flatten_cons,Nat.zero_mul,Nat.zero_add,X3 (List.getElem?_eq_some_iff.1 hu).1];exact hu
 |x::rows,hk,j+1,i,r,u,h,hu=>by
  have hx:=hk x YQ;have c:=ah7 rows (λy hy=>hk y rr) j i r u yI hu;rw[List.flatten_cons,Yb (by rw[hx,Nat.add_mul];omega),hx];have:(j+1)*k+i - k=j*k+i:=by rw[Nat.add_mul];omega
  rw[this];exact c
def bU.of_own{α:Type}{R:Xa->Nat->List Xb->α->Prop}{w:Xa}{base:Nat}{e:Xv}{k:Nat}{v:Xb}{xs:List α}(rows:List (List Xb))(A:∀r∈rows,r.length=k)(F:rows.length=xs.length)
 (h:w.ownsRow base e k v xs.length rows.flatten)(C:∀(j:Nat)r x,rows[j]?=WX r->xs[j]?=WX x->R w w r x):bU k R w w v xs:=by
 by_cases G:0<xs.length
 .obtain⟨g,cap,hv,_,az⟩:=h.form G;have z:xs.length<=cap/\cap<=maxLen:=by
   exact ab1
  subst hv;refine⟨_,cap,rfl,z.1,z.2,λ_=>⟨g,0,rfl,az,λj x hx=>?_⟩⟩;have y:j<rows.length:=by rw[F];exact(List.getElem?_eq_some_iff.1 hx).1
  refine⟨rows[j],A _ (List.getElem_mem y),C j _ x (Xd y) hx,λi u I=>?_⟩;have D:=ah7 rows A j i _ u (Xd y) I;have:=h.cells (g:=g) rfl (j*k+i) u D;rw[Nat.zero_add];generalize j*k+i=m at this;by_cases c:m=0
  .subst c;simpa[Addr.add]using this
  .simpa[Addr.add,c]using this
 .have c:xs=[]:=List.eq_nil_of_length_eq_zero (by omega);subst c;rcases h.2 with⟨rfl,_⟩|⟨g,cap,_,rfl,_,_,h1,h2,_⟩
  .exact bU.nil_ _ _
  .exact⟨_,cap,rfl,by simp,h2,λh=>absurd rfl h⟩
def eH{w w':Xa}{base:Nat}{e:Xv}{size:Nat}{v:Xb}{n:Nat}{xs:List Xb}(h:w.ownsRow base e size v n xs)(C:Below w w w'):w'.ownsRow base e size v n xs:=by
 refine⟨h.1,?_⟩;rcases h.2 with D|⟨g,cap,c,j,y,z,A⟩
 .exact .inl D
 .exact .inr ⟨g,cap,c,j,y,aC z C,A⟩
def lT{w:Xa}{base:Nat}{e:Xv}{size:Nat}{v:Xb}{n:Nat}{xs:List Xb}(h:w.ownsRow base e size v n xs){p:Nat}(D:∀k,v.ownBlock=WX k->¬k=p)(o:Nat)(u:Xb):(w.setCell (p o WY) u).ownsRow base e size v n xs:=by
 refine⟨h.1,?_⟩;rcases h.2 with C|⟨g,cap,c,j,y,z,A⟩
 .exact .inl C
 .exact .inr ⟨g,cap,c,j,y,uz z (D g (by rw[j];rfl)),A⟩
def xR{a w w':Xa}{base:Nat}{e:Xv}{size:Nat}{v:Xb}{n:Nat}{xs:List Xb}(h:w.ownsRow base e size v n xs)(j:Below a a w)(y:a.heap.size<=base)(z:w.grownBy w' v.ownBlock):Below a a w':=
 j.grown z j.size λk A=>bQ y (Xs h k A).1
def nf{w w':Xa}{v:Xb}{b:Nat}{o:Obj}(h:w.heap[b]?=WX o)(j:w.grownBy w' v.ownBlock)(c:∀k,v.ownBlock=WX k->¬b=k):w'.heap[b]?=WX o:=
 (j.block b (blk_lt h) (λe=>c b e.symm rfl)).trans h
def nJ{w:Xa}{C:List Xb}{t:Xv}{g:Nat}(y:g=w):∀(j:Nat)u,C[j]?=WX u->(w.alloc (YI C.toArray t)).cell? (((g 0 WY):Yy).add j)=WX u:=by
 subst y;intro j u z;have h:(w.alloc (YI C.toArray t)).cell? (w j WY)=WX u:=ap (cN w _) (by simpa using z);by_cases c:j=0
 .subst c;simpa[Addr.add]using h
 .simpa[Addr.add,c]using h
def j5(P:Nat->Bool)(n:Nat):Int:=match (XS n).find? P with|some i=>i|none=> -1
def ar2{P:Nat->Bool}{n k:Nat}(y:k<n)(h:P k=Xe)(z:∀j,j<k->P j=Xc):j5 P n=k:=by
 unfold j5;have:(XS n).find? P=WX k:=by rw[List.find?_range_eq_some];exact⟨h,by simpa using y,λj c=>by simp[z j c]⟩
 rw[this]
def ar3{P:Nat->Bool}{n:Nat}(h:∀j,j<n->P j=Xc):j5 P n= -1:=by
 unfold j5;have:(XS n).find? P=none:=by rw[List.find?_range_eq_none];exact λj c=>by simp[h j c]
 rw[this]
def Bw(P:Nat->Bool)(n:Nat):WZ (0<=j5 P n)=(XS n).any P:=by
 unfold j5;cases h:(XS n).find? P with
 |none=>
  have:(XS n).any P=false:=by rw[List.any_eq_false];exact λx hx=>by simpa using List.find?_eq_none.1 h x hx
  rw[this];simp
 |some i=>have:(XS n).any P=true:=List.any_eq_true.2 ⟨i,List.mem_of_find?_eq_some h,List.find?_some h⟩;rw[this];simp
def R1{α:Type}(enc:α->Xb)(_:Xa)(_:Nat)(cs:List Xb)(x:α):Prop:=cs=[enc x]
def R1.ab{α:Type}(enc:α->Xb):iR (R1 enc):=λ_ _ _ _ _ _ _ h _ _ _=>h
def Sl.k1{α:Type}{enc:α->Xb}{w:Xa}{B:Nat}{v:Xb}{xs:List α}(h:Sl w B v (xs.map enc)):bU 1 (R1 enc) w B v xs:=by
 obtain⟨A,c,rfl,h1,h2,h3⟩:=h;rw[Xl]at h1⊢
 refine⟨A,c,rfl,h1,h2,λz=>?_⟩;obtain⟨b,o,rfl,hb,hc⟩:=h3 (by simpa using z);refine⟨b,o,rfl,hb,λj x hx=>⟨[enc x],rfl,rfl,λi u y=>?_⟩⟩
 match i,y with
 |0,y=>injection y with y;subst y;rw[Nat.mul_one,Xt];exact hc j _ (by rw[Xr,hx];rfl)
def iY{α:Type}(xs:List α)(p:α->Bool)(j:Nat):Bool:=match xs[j]? with|some x=>p x|none=>Xc
def fq{α:Type}{xs:List α}{p:α->Bool}{j:Nat}{x:α}(h:xs[j]?=WX x):iY xs p j=p x:=by unfold iY;rw[h]
def Bx{α:Type}(xs:List α)(p:α->Bool):(XS xs.length).any (iY xs p)=xs.any p:=by
 rw[Xz,List.any_eq_true,List.any_eq_true];constructor
 .rintro⟨j,c,h⟩;unfold iY at h;split at h
  .rename_i x hx;exact⟨x,fK hx,h⟩
  .cases h
 .rintro⟨x,hx,h⟩;obtain⟨j,c⟩:=List.mem_iff_getElem?.1 hx;exact⟨j,List.mem_range.2 (List.getElem?_eq_some_iff.1 c).1,by rw[fq c];exact h⟩
def Ws{α:Type}(xs:List α)(p:α->Bool):j5 (iY xs p) xs.length=match xs.findIdx? p with|some i=>(i:Int)|none=> -1:=by
 cases h:xs.findIdx? p with
 |none=>
  refine ar3 λj c=>?_;rw[fq (Xd c)];exact List.findIdx?_eq_none_iff.1 h _ (List.getElem_mem c)
 |some i=>obtain⟨hi,h1,h2⟩:=List.findIdx?_eq_some_iff_getElem.1 h;refine ar2 hi (by rw[fq (Xd hi)];exact h1) λj c=>?_;rw[fq (Xd YN)];simpa using h2 j c
def ea4{α:Type}:∀{l:List α},l.length=3->∃a b c,l=[a,b,c]
 |[a,b,c],_=>⟨a,b,c,rfl⟩
def ea5{α:Type}:∀{l:List α},l.length=1->∃a,l=[a]
 |[a],_=>⟨a,rfl⟩
def ea6{α:Type}:∀{l:List α},l.length=7->∃a b c d e f g,l=[a,b,c,d,e,f,g]
 |[a,b,c,d,e,f,g],_=>⟨a,b,c,d,e,f,g,rfl⟩
def ea7{α:Type}:∀{l:List α},l.length=10->∃a b c d e f g h i j,l=[a,b,c,d,e,f,g,h,i,j]
 |[a,b,c,d,e,f,g,h,i,j],_=>⟨a,b,c,d,e,f,g,h,i,j,rfl⟩
def ea8{α:Type}(R:Xa->Nat->List Xb->α->Prop)(hR:iR R)(v:Xb)(xs:List α)(g:Nat)(caps:Array Xb)(P:Nat->Bool)(w:Xa)(h:bU 1 R w w v xs)(z:dw g)
 (y:∀(j:Nat)x cs W,xs[j]?=WX x->Below w w W->R W W cs x->cs.length=1->aR g (#[(cs.headD Yg)]++caps) W (YH (P j))):
 aR 388 #[v,bq g caps] w (Xo XO (j5 P xs.length)):=by
 obtain⟨A,n,c,rfl,hl,hc,hm⟩:=h.form;have H:=ah h;have HG:=ah y;have HL:=ah hl;unfold dw at z;simp only[bq];rw[hl];clear h y hl;go_enter func388,ntmps388;exact Wt
def ea9{α:Type}(R:Xa->Nat->List Xb->α->Prop)(D:iR R)(v:Xb)(xs:List α)(g:Nat)(caps:Array Xb)(P:Nat->Bool)(w:Xa)(h:bU 1 R w w v xs)(z:dw g)
 (C:∀(j:Nat)x cs W,xs[j]?=WX x->Below w w W->R W W cs x->cs.length=1->aR g (#[(cs.headD Yg)]++caps) W (YH (P j))):
 aR 359 #[v,bq g caps] w (YH ((XS xs.length).any P)):=by
 obtain⟨A,n,c,rfl,hl,hc,hm⟩:=h.form;have y:=ah (ea8 R D _ xs g caps P w h z C);have G: -1<=j5 P xs.length:=Ay;rw[<-Bw];clear h C z hl;simp only[bq]at y⊢
 go_enter func359,ntmps359;go_wp2_with(go_at_call 388;refine y.o.m ?_;rintro e F ⟨rfl,ay⟩)
 exact xQ
def ar4{α:Type}(R:Xa->Nat->List Xb->α->Prop)(hR:iR R)(v:Xb)(xs:List α)(g:Nat)(caps:Array Xb)(P:Nat->Bool)(w:Xa)(h:bU 1 R w w v xs)(z:dw g)
 (y:∀(j:Nat)x cs W,xs[j]?=WX x->Below w w W->R W W cs x->cs.length=1->aR g (#[(cs.headD Yg)]++caps) W (YH (P j))):
 aR 21 #[v,bq g caps] w (Xo XO (j5 P xs.length)):=by
 obtain⟨A,n,c,rfl,hl,hc,hm⟩:=h.form;have H:=ah h;have HG:=ah y;have HL:=ah hl;unfold dw at z;simp only[bq];rw[hl];clear h y hl;go_enter func21,ntmps21;exact Wt
def Wu{α:Type}(R:Xa->Nat->List Xb->α->Prop)(D:iR R)(v:Xb)(xs:List α)(g:Nat)(caps:Array Xb)(P:Nat->Bool)(w:Xa)(h:bU 1 R w w v xs)(z:dw g)
 (C:∀(j:Nat)x cs W,xs[j]?=WX x->Below w w W->R W W cs x->cs.length=1->aR g (#[(cs.headD Yg)]++caps) W (YH (P j))):
 aR 228 #[v,bq g caps] w (YH ((XS xs.length).any P)):=by
 obtain⟨A,n,c,rfl,hl,hc,hm⟩:=h.form;have y:=ah (ar4 R D _ xs g caps P w h z C);have G: -1<=j5 P xs.length:=Ay;rw[<-Bw];clear h C z hl;simp only[bq]at y⊢
 go_enter func228,ntmps228;go_wp2_with(go_at_call 21;refine y.o.m ?_;rintro e F ⟨rfl,ay⟩)
 exact xQ
def Wv{α:Type}(R:Xa->Nat->List Xb->α->Prop)(hR:iR R)(v:Xb)(xs:List α)(g:Nat)(caps:Array Xb)(P:Nat->Bool)(w:Xa)(h:bU 3 R w w v xs)(z:dw g)
 (y:∀(j:Nat)x cs W,xs[j]?=WX x->Below w w W->R W W cs x->cs.length=3->aR g (#[(YJ cs.toArray)]++caps) W (YH (P j))):
 aR 136 #[v,bq g caps] w (Xo XO (j5 P xs.length)):=by
 obtain⟨A,n,c,rfl,hl,hc,hm⟩:=h.form;have H:=ah h;have HG:=ah y;have HL:=ah hl;unfold dw at z;simp only[bq];rw[hl];clear h y hl;go_enter func136,ntmps136;exact Ww
def eb0{α:Type}(R:Xa->Nat->List Xb->α->Prop)(D:iR R)(v:Xb)(xs:List α)(g:Nat)(caps:Array Xb)(P:Nat->Bool)(w:Xa)(h:bU 3 R w w v xs)(z:dw g)
 (C:∀(j:Nat)x cs W,xs[j]?=WX x->Below w w W->R W W cs x->cs.length=3->aR g (#[(YJ cs.toArray)]++caps) W (YH (P j))):
 aR 133 #[v,bq g caps] w (YH ((XS xs.length).any P)):=by
 obtain⟨A,n,c,rfl,hl,hc,hm⟩:=h.form;have y:=ah (Wv R D _ xs g caps P w h z C);have G: -1<=j5 P xs.length:=Ay;rw[<-Bw];clear h C z hl;simp only[bq]at y⊢
 go_enter func133,ntmps133;go_wp2_with(go_at_call 136;refine y.o.m ?_;rintro e F ⟨rfl,ay⟩)
 exact xQ
def eb1{α:Type}(R:Xa->Nat->List Xb->α->Prop)(hR:iR R)(v:Xb)(xs:List α)(g:Nat)(caps:Array Xb)(P:Nat->Bool)(w:Xa)(h:bU 7 R w w v xs)(z:dw g)
 (y:∀(j:Nat)x cs W,xs[j]?=WX x->Below w w W->R W W cs x->cs.length=7->aR g (#[(YJ cs.toArray)]++caps) W (YH (P j))):
 aR 254 #[v,bq g caps] w (Xo XO (j5 P xs.length)):=by
 obtain⟨A,n,c,rfl,hl,hc,hm⟩:=h.form;have H:=ah h;have HG:=ah y;have HL:=ah hl;unfold dw at z;simp only[bq];rw[hl];clear h y hl;go_enter func254,ntmps254;exact ar5
def eb2{α:Type}(R:Xa->Nat->List Xb->α->Prop)(D:iR R)(v:Xb)(xs:List α)(g:Nat)(caps:Array Xb)(P:Nat->Bool)(w:Xa)(h:bU 7 R w w v xs)(z:dw g)
 (C:∀(j:Nat)x cs W,xs[j]?=WX x->Below w w W->R W W cs x->cs.length=7->aR g (#[(YJ cs.toArray)]++caps) W (YH (P j))):
 aR 165 #[v,bq g caps] w (YH ((XS xs.length).any P)):=by
 obtain⟨A,n,c,rfl,hl,hc,hm⟩:=h.form;have y:=ah (eb1 R D _ xs g caps P w h z C);have G: -1<=j5 P xs.length:=Ay;rw[<-Bw];clear h C z hl;simp only[bq]at y⊢
 go_enter func165,ntmps165;go_wp2_with(go_at_call 254;refine y.o.m ?_;rintro e F ⟨rfl,ay⟩)
 exact xQ
def eb3{α:Type}(R:Xa->Nat->List Xb->α->Prop)(hR:iR R)(v:Xb)(xs:List α)(g:Nat)(caps:Array Xb)(P:Nat->Bool)(w:Xa)(h:bU 7 R w w v xs)(z:dw g)
 (y:∀(j:Nat)x cs W,xs[j]?=WX x->Below w w W->R W W cs x->cs.length=7->aR g (#[(YJ cs.toArray)]++caps) W (YH (P j))):
 aR 259 #[v,bq g caps] w (Xo XO (j5 P xs.length)):=by
 obtain⟨A,n,c,rfl,hl,hc,hm⟩:=h.form;have H:=ah h;have HG:=ah y;have HL:=ah hl;unfold dw at z;simp only[bq];rw[hl];clear h y hl;go_enter func259,ntmps259;exact ar5
def eb4{α:Type}(R:Xa->Nat->List Xb->α->Prop)(D:iR R)(v:Xb)(xs:List α)(g:Nat)(caps:Array Xb)(P:Nat->Bool)(w:Xa)(h:bU 7 R w w v xs)(z:dw g)
 (C:∀(j:Nat)x cs W,xs[j]?=WX x->Below w w W->R W W cs x->cs.length=7->aR g (#[(YJ cs.toArray)]++caps) W (YH (P j))):
 aR 168 #[v,bq g caps] w (YH ((XS xs.length).any P)):=by
 obtain⟨A,n,c,rfl,hl,hc,hm⟩:=h.form;have y:=ah (eb3 R D _ xs g caps P w h z C);have G: -1<=j5 P xs.length:=Ay;rw[<-Bw];clear h C z hl;simp only[bq]at y⊢
 go_enter func168,ntmps168;go_wp2_with(go_at_call 259;refine y.o.m ?_;rintro e F ⟨rfl,ay⟩)
 exact xQ
def eb5{α:Type}(R:Xa->Nat->List Xb->α->Prop)(D:iR R)(v:Xb)(xs:List α)(g:Nat)(caps:Array Xb)(P:Nat->Bool)(w:Xa)(h:bU 10 R w w v xs)(C:dw g)
 (y:∀(j:Nat)x cs W,xs[j]?=WX x->Below w w W->R W W cs x->cs.length=10->aR g (#[(YJ cs.toArray)]++caps) W (YH (P j))):
 aR 176 #[v,bq g caps] w (Xo XO (j5 P xs.length)):=by
 obtain⟨A,n,c,rfl,hl,hc,hm⟩:=h.form;have H:=ah h;have z:=ah y;have HL:=ah hl;unfold dw at C;simp only[bq];rw[hl];clear h y hl;go_enter func176,ntmps176;go_wp2_with fail
 go_loopw [8] (λi wr=>∃k:Nat,k<=n/\i=Xo XO k/\(∀j,j<k->P j=Xc)/\Below w w wr) (λi _=>n - (Xw i).toNat)
 case atStart=>exact⟨0,cb _,rfl,by omega,aj w⟩
 case round=>
  obtain⟨k,hk,rfl,dE,hB⟩:=hrel;have HA:=ah dE;clear dE;by_cases az:k<n
  .have G:(0:Int)<=k:=by omega
   have F:(k:Int)<n:=YN;obtain⟨x,hx⟩:∃x,xs[k]?=WX x:=⟨_,Xd tU⟩;obtain⟨b,o,cs,rfl,fQ,dR,hr,bb⟩:=(H.o.to D hB (am _) hB.size).at_ hx;have AP:=z.o k x cs wr hx hB hr dR;obtain⟨u0,u1,u2,u3,u4,u5,u6,u7,u8,u9,rfl⟩:=ea7 dR;refine C_ λh0 h1 h2=>?_;have I:=bb 3 _ rfl;have J:=bb 4 _ rfl;have O:=bb 5 _ rfl;have U:=bb 6 _ rfl;have V:=bb 7 _ rfl;have X:=bb 8 _ rfl;have Y:=bb 9 _ rfl;simp only[Xt]at h0;exact PW
  .exact PX
def eb6{α:Type}(R:Xa->Nat->List Xb->α->Prop)(D:iR R)(v:Xb)(xs:List α)(g:Nat)(caps:Array Xb)(P:Nat->Bool)(w:Xa)(h:bU 10 R w w v xs)(z:dw g)
 (C:∀(j:Nat)x cs W,xs[j]?=WX x->Below w w W->R W W cs x->cs.length=10->aR g (#[(YJ cs.toArray)]++caps) W (YH (P j))):
 aR 66 #[v,bq g caps] w (YH ((XS xs.length).any P)):=by
 obtain⟨A,n,c,rfl,hl,hc,hm⟩:=h.form;have y:=ah (eb5 R D _ xs g caps P w h z C);have G: -1<=j5 P xs.length:=Ay;rw[<-Bw];clear h C z hl;simp only[bq]at y⊢
 go_enter func66,ntmps66;go_wp2_with(go_at_call 176;refine y.o.m ?_;rintro e F ⟨rfl,ay⟩)
 exact xQ
def eb7{α:Type}(R:Xa->Nat->List Xb->α->Prop)(hR:iR R)(v:Xb)(xs:List α)(g:Nat)(caps:Array Xb)(P:Nat->Bool)(w:Xa)(h:bU 3 R w w v xs)(z:dw g)
 (y:∀(j:Nat)x cs W,xs[j]?=WX x->Below w w W->R W W cs x->cs.length=3->aR g (#[(YJ cs.toArray)]++caps) W (YH (P j))):
 aR 316 #[v,bq g caps] w (Xo XO (j5 P xs.length)):=by
 obtain⟨A,n,c,rfl,hl,hc,hm⟩:=h.form;have H:=ah h;have HG:=ah y;have HL:=ah hl;unfold dw at z;simp only[bq];rw[hl];clear h y hl;go_enter func316,ntmps316;exact Ww
def eb8{α:Type}(R:Xa->Nat->List Xb->α->Prop)(D:iR R)(v:Xb)(xs:List α)(g:Nat)(caps:Array Xb)(P:Nat->Bool)(w:Xa)(h:bU 3 R w w v xs)(z:dw g)
 (C:∀(j:Nat)x cs W,xs[j]?=WX x->Below w w W->R W W cs x->cs.length=3->aR g (#[(YJ cs.toArray)]++caps) W (YH (P j))):
 aR 242 #[v,bq g caps] w (YH ((XS xs.length).any P)):=by
 obtain⟨A,n,c,rfl,hl,hc,hm⟩:=h.form;have y:=ah (eb7 R D _ xs g caps P w h z C);have G: -1<=j5 P xs.length:=Ay;rw[<-Bw];clear h C z hl;simp only[bq]at y⊢
 go_enter func242,ntmps242;go_wp2_with(go_at_call 316;refine y.o.m ?_;rintro e F ⟨rfl,ay⟩)
 exact xQ
def eb9{α:Type}(R:Xa->Nat->List Xb->α->Prop)(hR:iR R)(v:Xb)(xs:List α)(g:Nat)(caps:Array Xb)(P:Nat->Bool)(w:Xa)(h:bU 3 R w w v xs)(z:dw g)
 (y:∀(j:Nat)x cs W,xs[j]?=WX x->Below w w W->R W W cs x->cs.length=3->aR g (#[(YJ cs.toArray)]++caps) W (YH (P j))):
 aR 317 #[v,bq g caps] w (Xo XO (j5 P xs.length)):=by
 obtain⟨A,n,c,rfl,hl,hc,hm⟩:=h.form;have H:=ah h;have HG:=ah y;have HL:=ah hl;unfold dw at z;simp only[bq];rw[hl];clear h y hl;go_enter func317,ntmps317;exact Ww
def ec0{α:Type}(R:Xa->Nat->List Xb->α->Prop)(D:iR R)(v:Xb)(xs:List α)(g:Nat)(caps:Array Xb)(P:Nat->Bool)(w:Xa)(h:bU 3 R w w v xs)(z:dw g)
 (C:∀(j:Nat)x cs W,xs[j]?=WX x->Below w w W->R W W cs x->cs.length=3->aR g (#[(YJ cs.toArray)]++caps) W (YH (P j))):
 aR 249 #[v,bq g caps] w (YH ((XS xs.length).any P)):=by
 obtain⟨A,n,c,rfl,hl,hc,hm⟩:=h.form;have y:=ah (eb9 R D _ xs g caps P w h z C);have G: -1<=j5 P xs.length:=Ay;rw[<-Bw];clear h C z hl;simp only[bq]at y⊢
 go_enter func249,ntmps249;go_wp2_with(go_at_call 317;refine y.o.m ?_;rintro e F ⟨rfl,ay⟩)
 exact xQ
def an3(c:UInt8):∀(l:List UInt8),WZ (0<=Lib.indexByte l c)=WZ (c∈l)
 |[]=>by simp[Lib.indexByte]
 |b::l=>by
  have z:=an3 c l;have A:=Lib.indexByte_ge l c;rw[Lib.indexByte];by_cases h:b=c
  .subst h;simp
  .have j:(b==c)=false:=by simpa using h
   rw[j];simp only[XC,if_false];have y:(c∈b::l)=(c∈l):=by simp[Ne.symm h]
   simp only[y,<-z];by_cases hm:Lib.indexByte l c= -1
   .simp[hm]
   .have:(Lib.indexByte l c== -1)=false:=by simpa using hm
    rw[this];simp only[XC,if_false,decide_eq_decide];omega
structure je(w:Xa)(F:Xb)(p:UInt8->Bool):Prop where
 ex:∃g caps,F=bq g caps/\dw g/\∀(W:Xa)(c:UInt8),Below w w W->aR g (#[.int .u8 c.toNat]++caps) W (YH (p c))
def je.later{w w':Xa}{F:Xb}{p:UInt8->Bool}(h:je w F p)(y:Below w w w'):je w' F p:=by obtain⟨g,caps,h1,h2,h3⟩:=h.ex;exact⟨g,caps,h1,h2,λW c j=>h3 W c (ak y j)⟩
def je.congr{w:Xa}{F:Xb}{p q:UInt8->Bool}(h:je w F p)(e:∀c,p c=q c):je w F q:=by obtain rfl:p=q:=funext e;exact h
def an4(s:ByteArray)(w:Xa):
 Xq Xn 212 #[s] w λe w'=>e=Ya (bq 279 #[aq w])/\w'=w.alloc (YI #[s] 9):=by
 refine nL λnq=>?_;go_enter func212,ntmps212
 go_wp2
 go_ret;exact⟨rfl,rfl⟩
def ej7(s:ByteArray)(c:UInt8)(b:Nat)(w:Xa)(h:w.cell? b=WX (Xp s)):
 Xq Xn 279 #[.int .u8 c.toNat,aq b] w λe w'=>e=Ya (YH (WZ (c∈s.data.toList)))/\w'=w:=by
 simp only[aq];go_enter func279,ntmps279;go_wp2_with(go_at_call 280;refine(strings_IndexByte s _ _).m ?_;rintro e w' ⟨rfl,rfl⟩)
 go_ret;refine⟨?_,rfl⟩;have:=an3 c s.data.toList;simpa using this
def an5(s:ByteArray)(w:Xa):je (w.alloc (YI #[s] 9)) (bq 279 #[aq w]) (λc=>WZ (c∈s.data.toList)):=by refine⟨_,_,rfl,Xk func279 aI rfl,λW c j=>?_⟩;have h:W.cell? w=WX (Xp s):=(j.cell (p:=w) YQ).trans qq;exact(ej7 s c w W h).mono λe w'⟨y,z⟩=>⟨y,z▸aj W⟩
def ej8(a b:UInt8)(w:Xa):
 Xq Xn 214 #[.int .u8 a.toNat,.int .u8 b.toNat] w λe w'=>e=Ya (bq 281 #[aq w,aq (w+1)])/\w'=(w.alloc (YI #[.int .u8 a.toNat] 5)).alloc (YI #[.int .u8 b.toNat] 5):=by
 refine nL λnq=>?_;go_enter func214,ntmps214
 go_wp2
 go_ret;exact⟨rfl,rfl⟩
def ej9(a b c:UInt8)(p q:Nat)(w:Xa)(h:w.cell? p=WX (.int .u8 a.toNat))(j:w.cell? q=WX (.int .u8 b.toNat)):
 Xq Xn 281 #[.int .u8 c.toNat,aq p,aq q] w λe w'=>e=Ya (YH (WZ (a.toNat<=c.toNat)&&WZ (c.toNat<=b.toNat)))/\w'=w:=by
 simp only[aq];go_enter func281,ntmps281
 go_wp2
 all_goals
  go_ret;refine⟨?_,rfl⟩;simp_all;try omega
def ek0(a b:UInt8)(w:Xa):je ((w.alloc (YI #[.int .u8 a.toNat] 5)).alloc (YI #[.int .u8 b.toNat] 5)) (bq 281 #[aq w,aq (w+1)]) (λc=>WZ (a.toNat<=c.toNat)&&WZ (c.toNat<=b.toNat)):=by refine⟨_,_,rfl,Xk func281 aI rfl,λW c j=>?_⟩;have y:W.cell? w=WX (.int .u8 a.toNat):=(j.cell (p:=w) bP).trans qq;have z:W.cell? ⟨w+1,0,WY⟩=WX (.int .u8 b.toNat):=(j.cell (p:=⟨w+1,0,WY⟩) YQ).trans qq;exact(ej9 a b c _ _ W y z).mono λe w'⟨A,C⟩=>⟨A,C▸aj W⟩
def jS(s:ByteArray):s.data.toList.length=s.size:=Nz
def P_{s:ByteArray}{k:Nat}(h:k<s.size):s.data.toList[k]?=WX s[k]:=by rw[Xd (by rw[jS];exact h)];rfl
def Wh{p:UInt8->Bool}:∀{l:List UInt8}{k:Nat},(∀j c,j<k->l[j]?=WX c->p c=Xe)->k<=l.length->(k=l.length\/∃c,l[k]?=WX c/\p c=Xc)->(l.takeWhile p).length=k
 |[],k,_,hk,_=>by simp at hk;simp[hk]
 |c::l,0,_,_,h=>by
  rcases h with h|⟨d,y,z⟩
  .simp at h
  .simp at y;subst y;simp[z]
 |c::l,k+1,dE,hk,h=>by
  have A:=dE 0 c YN YQ;rw[List.takeWhile_cons,if_pos A,XV];have:=Wh (p:=p) (l:=l) (k:=k) (λj d C y=>dE (j+1) d YN (by simpa using y)) (by simpa using hk) (by
   rcases h with h|⟨d,y,z⟩
   .exact .inl yI
   .exact .inr ⟨d,by simpa using y,z⟩)
  omega
def gB(p:UInt8->Bool)(s:ByteArray):Nat:=(s.data.toList.takeWhile p).length
def LL(s:ByteArray)(F:Xb)(p:UInt8->Bool)(w:Xa)(V:s.size<=9223372036854775807)(h:je w F p):
 aR 211 #[s,F] w (Xo XO (gB p s)):=by
 unfold gB;obtain⟨g,caps,rfl,eg,hg⟩:=h.ex;have G:=ah hg;unfold dw at eg;simp only[bq];clear h hg;go_enter func211,ntmps211;go_wp2_with fail
 go_loopw [5] (λi wr=>∃k:Nat,k<=s.size/\i=Xo XO k/\(∀j c,j<k->s.data.toList[j]?=WX c->p c=Xe)/\Below w w wr) (λi _=>s.size - (Xw i).toNat)
 case atStart=>exact⟨0,cb _,rfl,by omega,aj w⟩
 case round=>
  obtain⟨k,hk,rfl,dE,hB⟩:=hrel;have z:=ah dE;clear dE;by_cases C:k<s.size
  .have O:(0:Int)<=k:=by omega
   have J:(k:Int)<s.size:=YN;go_wp2_with fail
   refine(G.o wr s[k] hB).m ?_;rintro e w' ⟨rfl,I⟩;have D:=ak hB I;cases hp:p s[k]with
   |true=>
    have A:=ah hp;clear hp;go_wp2_with fail
    refine⟨⟨k+1,by omega,by go_num,λj c U y=>?_,D⟩,by simp[Xw];omega⟩;by_cases e:j=k
    .subst e;rw[P_ C]at y;injection y with y;rw[<-y];exact A.o
    .exact z.o j c YN y
   |false=>
    have A:=ah hp;clear hp;go_wp2_with fail
    go_ret;refine⟨?_,D⟩;rw[Wh z.o (by rw[jS];exact hk) (.inr ⟨_,P_ C,A.o⟩)];rfl
  .go_wp2_with fail
   go_ret;refine⟨?_,hB⟩;rw[Wh z.o (by rw[jS];exact hk) (.inl (by rw[jS];omega))];rfl
def wl(w:Xa)(B:Nat)(cs:List Xb)(p:UInt8->Bool):Prop:=
 ∃g caps,cs=[bq g caps]/\dw g/\∀(W:Xa)(c:UInt8),Below B w W->aR g (#[.int .u8 c.toNat]++caps) W (YH (p c))
def wl.ab:iR wl:=λw w' B B₂ B' F p⟨g,caps,j,y,z⟩D A h=>⟨g,caps,j,y,λW c C=>z W c ((D.mono A).trans (C.mono h))⟩
def je.toR{w:Xa}{F:Xb}{p:UInt8->Bool}(h:je w F p):wl w w [F] p:=by obtain⟨g,caps,h1,h2,h3⟩:=h.ex;exact⟨g,caps,by rw[h1],h2,h3⟩
def ek1(v:Xb)(w:Xa)(j:∃A n c,v=YG A n c):
 Xq Xn 282 #[v] w λe w'=>e=Ya (bq 358 #[aq w])/\w'=w.alloc (YI #[v] 311):=by
 obtain⟨A,n,c,rfl⟩:=j;refine nL λnq=>?_;go_enter func282,ntmps282
 go_wp2
 go_ret;exact⟨rfl,rfl⟩
def ek2(c:UInt8)(b g:Nat)(caps:Array Xb)(r:Bool)(w:Xa)(h:w.cell? b=WX (.int .u8 c.toNat))(z:dw g)
 (j:aR g (#[.int .u8 c.toNat]++caps) w (YH r)):
 aR 360 #[bq g caps,aq b] w (YH r):=by
 have y:=ah j;unfold dw at z;simp only[bq,aq];clear j;go_enter func360,ntmps360;go_wp2_with fail
 refine y.o.m ?_;rintro e w' ⟨rfl,A⟩;go_wp2_with fail
 go_ret;exact⟨rfl,A⟩
def ek3(c:UInt8)(b:Nat)(v:Xb)(z:List (UInt8->Bool))(w:Xa)(h:w.cell? b=WX v)(V:b<w)(y:bU 1 wl w w v z):
 aR 358 #[.int .u8 c.toNat,aq b] w (YH (z.any λp=>p c)):=by
 refine nL λnq=>?_;have O:=ah y;obtain⟨A,n,cc,rfl,hl,_,_⟩:=y.form;have C:=ea9 wl wl.ab (YG A n cc) z 360 #[aq w] (iY z λp=>p c) (w.alloc (YI #[.int .u8 c.toNat] 5)) (y.to wl.ab (ai (aj w) _) (am _) YQ) (Xk func360 aI rfl)
  (λj x U W hx I J _=>by obtain⟨g,caps,rfl,eg,hg⟩:=J;have G:W.cell? w=WX (.int .u8 c.toNat):=(I.cell (p:=w) YQ).trans qq;rw[fq hx];exact ek2 c _ g caps _ W G eg (hg W c (X6 _ _)))
 rw[Bx]at C;have D:=ah C;clear C y hl;simp only[bq,aq]at D⊢
 go_enter func358,ntmps358;go_wp2_with(go_at_call 359;refine D.o.m ?_;rintro e X ⟨rfl,F⟩)
 go_ret;exact⟨rfl,ak (ai (aj w) _) F⟩
def ek4(v:Xb)(y:List (UInt8->Bool))(w:Xa)(A:bU 1 wl w w v y):je (w.alloc (YI #[v] 311)) (bq 358 #[aq w]) (λc=>y.any λp=>p c):=by
 refine⟨_,_,rfl,Xk func358 aI rfl,λW c j=>?_⟩;have z:W.cell? w=WX v:=by refine(j.cell (p:=w) YQ).trans ?_;rw[XE];rfl
 exact ek3 c w v y W z (bt YQ j.size) (A.to wl.ab (ak (ai (aj w) _) j) (am _) (ak (ai (aj w) _) j).size)
def Wi(s:ByteArray)(n:Nat):(s.extract n s.size).data.toList=s.data.toList.drop n:=by have h:=jS s;simp[ByteArray.data_extract];exact Xu (by rw[XG];omega)
def Wj(p:UInt8->Bool)(s:ByteArray)(n:Nat):gB p (s.extract n s.size)=((s.data.toList.drop n).takeWhile p).length:=by unfold gB;rw[Wi]
def Wk{p:UInt8->Bool}:∀(l:List UInt8),l.drop (l.takeWhile p).length=l.dropWhile p
 |[]=>rfl
 |c::l=>by
  rw[List.takeWhile_cons,List.dropWhile_cons];split
  .simp[Wk l]
  .simp
def LM(p:UInt8->Bool)(l:List UInt8):(l.takeWhile p).length<=l.length:=by
 induction l with
 |nil=>simp
 |cons c l ih=>rw[List.takeWhile_cons];split<;>simp;omega
def ek5(w:Xa):je w (bq 213 #[]) gh:=by
 refine⟨_,_,rfl,Xk func213 aI rfl,λW c _=>?_⟩;show Xq _ _ #[_] _ _;go_enter func213,ntmps213
 go_wp2
 go_ret;refine⟨cd ?_,aj W⟩;unfold gh;have:((c.toNat:Int)!=10)= !(c==10):=by
  by_cases h:c=10
  .subst h;rfl
  .have j:(c==10)=false:=by simpa using h
   rw[j];have:c.toNat≠10:=λe=>h (UInt8.toNat_inj.1 e);simp;omega
 simpa using this
def ek6(c:UInt8):WZ (c∈(⟨#[32,9,10,13]⟩:ByteArray).data.toList)=gX c:=by unfold gX;rw[Xz];simp[or_assoc]
def ek7(w:Xa):je (w.alloc (YI #[Xp ⟨#[32,9,10,13]⟩] 9)) (bq 279 #[aq w]) gX:=(an5 ⟨#[32,9,10,13]⟩ w).congr ek6
def ek8(L:List UInt8)(n:Nat)(J:n<=L.length)(h:ch (L.drop n)=ch L):
 (n+((L.drop n).takeWhile gX).length<=L.length)/\
 (n+((L.drop n).takeWhile gX).length=L.length->ch L=[])/\
 (∀c,L[n+((L.drop n).takeWhile gX).length]?=WX c->c≠35->(ch L).length=L.length - (n+((L.drop n).takeWhile gX).length))/\
 (L[n+((L.drop n).takeWhile gX).length]?=some 35->
   n<n+((L.drop n).takeWhile gX).length+((L.drop (n+((L.drop n).takeWhile gX).length)).takeWhile gh).length/\
   n+((L.drop n).takeWhile gX).length+((L.drop (n+((L.drop n).takeWhile gX).length)).takeWhile gh).length<=L.length/\
   ch (L.drop (n+((L.drop n).takeWhile gX).length+((L.drop (n+((L.drop n).takeWhile gX).length)).takeWhile gh).length))=ch L):=by
 have D:=LM gX (L.drop n);rw[XG]at D;have j:L.drop (n+((L.drop n).takeWhile gX).length)=(L.drop n).dropWhile gX:=by rw[<-Wk,List.drop_drop]
 generalize hm:n+((L.drop n).takeWhile gX).length=m at*
 refine⟨by omega,λe=>?_,λc y I=>?_,λy=>?_⟩
 .rw[e,List.drop_length]at j;rw[<-h,H' j.symm];rfl
 .have z:m<L.length:=(List.getElem?_eq_some_iff.1 y).1;rw[List.drop_eq_getElem_cons z]at j;have C:L[m]=c:=(List.getElem?_eq_some_iff.1 y).2;rw[<-h,H' j.symm,C];show(if c=35 then ch (List.dropWhile gh (L.drop (m+1)))else c::L.drop (m+1)).length=_;rw[if_neg I];simp;omega
 .have z:m<L.length:=(List.getElem?_eq_some_iff.1 y).1;have C:L[m]=35:=(List.getElem?_eq_some_iff.1 y).2;have A:=List.drop_eq_getElem_cons z;rw[C]at A;have F:(L.drop m).takeWhile gh=35::(L.drop (m+1)).takeWhile gh:=by rw[A];rfl
  rw[F];have G:=LM gh (L.drop (m+1));rw[XG]at G;simp only[XV];refine⟨by omega,by omega,?_⟩;have e:m+((L.drop (m+1)).takeWhile gh).length.succ=(m+1)+((L.drop (m+1)).takeWhile gh).length:=YN;rw[show m+(((L.drop (m+1)).takeWhile gh).length+1)=(m+1)+((L.drop (m+1)).takeWhile gh).length by omega];rw[<-List.drop_drop,Wk,<-h,H' (s:=L.drop n) (l:=L.drop m) j.symm,A];show _=if(35:UInt8)=35 then ch (List.dropWhile gh (L.drop (m+1)))else(35:UInt8)::L.drop (m+1)
  rw[if_pos rfl]
def Wl{c d:UInt8}(h:c≠d):((c.toNat:Int)!=(d.toNat:Int))=true:=by rw[bne_iff_ne];intro e;exact h (UInt8.toNat_inj.1 YN)
def an6(s:ByteArray)(w:Xa)(hs:s.size<=16384):
 aR 131 #[s] w (Xo XO ((s.size - (ch s.data.toList).length:Nat):Int)):=by
 go_enter func131,ntmps131;go_wp2_with fail
 go_loopw [3] (λi wr=>∃k:Nat,k<=s.size/\i=Xo XO k/\ch (s.data.toList.drop k)=ch s.data.toList/\Below w w wr) (λi _=>s.size - (Xw i).toNat)
 case atStart=>exact⟨0,cb _,rfl,rfl,aj w⟩
 case round=>
  obtain⟨k,hk,rfl,cn5,hB⟩:=hrel;have c:=ek8 s.data.toList k (by rw[jS];exact hk) cn5;have y:=ah c;have dh:(0:Int)<=k:=YN;have bF:(k:Int)<=s.size:=YN;have hz:(s.extract k s.size).size<=9223372036854775807:=yH;clear c cn5;go_wp2_with fail
  go_region_held3 (λ_=>True) (trivial)
   (first
     |(go_at_call 212;refine(an4 _ _).m ?_;rintro e w1 ⟨rfl,rfl⟩)
     |(go_at_call 211;refine(LL _ _ gX _ hz ((ek7 wr).later (a_ (aj _)))).m ?_;rintro e w2 ⟨rfl,X⟩))
  rw[Wj];have D:=ak hB (ak (a_ (ai (aj wr) _)) X);clear X;generalize hm:((s.data.toList.drop k).takeWhile gX).length=d at*
  have hd:k+d<=s.size:=by have:=y.o.1;rw[jS]at this;exact this
  have U:IntKind.i64.wrap ((k:Int)+(d:Int))=((k+d:Nat):Int):=by rw[XK _ YN];omega
  rw[U];clear U;have HM:=ah hm;clear hm;obtain⟨m,hm⟩:∃m,k+d=m:=⟨_,rfl⟩;rw[hm]at hd y;simp only[hm];have G:=ah hm;clear hm;have gz5:(0:Int)<=m:=YN;by_cases z:m=s.size
  .have J:((m:Int)==(s.size:Int))=true:=by simp[z]
   have V:=ah z;clear z;go_wp2_with fail
   go_ret;refine⟨?_,D⟩;have h0:=y.o.2.1 (by rw[jS];exact V.o);rw[h0];show Ya (Xo XO (m:Int))=_;rw[V.o];rfl
  .have J:((m:Int)==(s.size:Int))=false:=by simp;omega
   have O:m<s.size:=YN;have cb7:(m:Int)<s.size:=YN;have gV:=P_ O;have Z:=ah gV;clear z gV;by_cases j:s[m]=35
   .have Tc:((s[m].toNat:Int)!=35)=false:=by rw[j];rfl
    have c:=y.o.2.2.2 (by rw[Z.o,j]);have A:=ah c;have Y:(s.extract m s.size).size<=9223372036854775807:=yH;rw[<-Wj]at c;have C:=ah (LL (s.extract m s.size) _ gh w2 Y (ek5 _));obtain⟨q,hq⟩:∃q,gB gh (s.extract m s.size)=q:=⟨_,rfl⟩;rw[hq]at c C;rw[jS]at c;obtain⟨cz,bD,lF⟩:=c;have F:=ah lF;have I:=G.o;have hd4:k<=m:=YN;clear lF hq j Y A I;unfold bq at C;go_wp2_with(go_at_call 211;refine C.o.m ?_;rintro e w3 ⟨rfl,aN⟩)
    refine⟨⟨m+q,by omega,by go_num,F.o,ak D aN⟩,by simp[Xw];omega⟩
   .have Tc:((s[m].toNat:Int)!=35)=true:=by
     exact Wl j
    have c:=y.o.2.2.1 _ Z.o j;rw[jS]at c;have A:=ah c;clear c j;go_wp2_with fail
    go_ret;refine⟨?_,D⟩;rw[A.o];show Ya (Xo XO (m:Int))=_;congr 2;omega
def Mj(n:Int)(hn:aP n)(w:Xa):
 aR 43 #[n] w (Xp (bs (Xg n))):=by
 have U:=ah hn;clear hn;have gh3:=ab2;go_enter func43,ntmps43
 go_wp2
 go_loopw [3,4] (λs m wr=>∃(l:List UInt8)(k:Int),s=Xp (bs l)/\m=Xo XO k/\aP k/\zO n l k/\Below w w wr) (λs m _=>Pd s m)
 case atStart=>exact⟨[],n,rfl,rfl,U.o,.inl ⟨rfl,rfl⟩,X6 _ _⟩
 case round=>
  obtain⟨l,k,rfl,rfl,⟨jJ,gE⟩,hd,hb⟩:=hrel;have Y:=hd.len U.o;have bd:(bs l).size<=20:=by rw[dd];exact Y
  have G:=ah hd;clear hd Y;by_cases j:l=[]\/k≠0
  .have I:=ah j;have X:(((bs l).toList==[])=true\/((bs l).toList==[])=false):=by cases((bs l).toList==[])<;>simp
   have y:((bs l).toList==[])=Xc->(k !=0)=true:=λh=>by
    rcases j with rfl|j
    .rw[gK]at h;simp[bs]at h
    .simp[j]
   clear j;have F:∀x,(bs [x]).size<=1:=λx=>by rw[dd];exact am _
   by_cases xC:0<=k
   .have m1:0<=k%10:=by omega
    have m2:k%10<=9:=YN;have Z:=F (Yn (48+k%10).toNat);clear F;have c:=fun(W:Xa)(D:Below w w W)=>Vb (W:=W) ⟨jJ,gE⟩ G.o I.o (show k%10=k.natAbs%10 by omega) (show k / 10=k.tdiv 10 by rw[Int.tdiv_eq_ediv_of_nonneg xC]) D;rcases X with z|z
    .clear y
     go_wp2
     exact c _ (hb.alloc hb.size _)
    .have hk:=y z;clear y
     go_wp2
     exact c _ (hb.alloc hb.size _)
   .have m1:k.tmod 10<=0:=by
     have:=Int.tmod_nonneg (a:= -k) 10 YN;rw[Int.neg_tmod]at this;omega
    have m2: -9<=k.tmod 10:=by have:=Int.tmod_lt_of_pos (-k) (b:=10) YN;rw[Int.neg_tmod]at this;omega
    have Z:=F (Yn (48+ -k.tmod 10).toNat);have bD:=F (Yn (48+k.tmod 10).toNat);clear F;have ed: -k.tmod 10=k.natAbs%10:=by have C:=Int.tmod_eq_emod_of_nonneg (a:= -k) (b:=10) YN;rw[Int.neg_tmod]at C;omega
    have c:=fun(W:Xa)(D:Below w w W)=>Vb (W:=W) ⟨jJ,gE⟩ G.o I.o ed rfl D;have A:0<=k.tmod 10->k.tmod 10=k.natAbs%10:=λh=>by omega
    have fin0:=fun(W:Xa)(h:0<=k.tmod 10)(D:Below w w W)=>Vb (W:=W) ⟨jJ,gE⟩ G.o I.o (A h) rfl D;clear ed A;have Fin:=ah c;have Fin0:=ah fin0;clear c fin0;rcases X with z|z
    .clear y
     go_wp2
     all_goals first|exact Fin.o _ (hb.alloc hb.size _)|exact Fin0.o _ ‹_› (hb.alloc hb.size _)
    .have hk:=y z;clear y
     go_wp2
     all_goals first|exact Fin.o _ (hb.alloc hb.size _)|exact Fin0.o _ ‹_› (hb.alloc hb.size _)
  .have C:l≠[]:=λh=>j (.inl h);have J:k=0:=Classical.byContradiction λh=>j (.inr h);clear j;have z:=dg2 l C;have V:Lib.decDigits n.natAbs=l:=G.o.done C J;have O:=ah V;have y:(k !=0)=false:=by simp[J]
   have Z:(bs [45]).size<=1:=by rw[dd];exact am _
   clear V C J
   go_wp2
   all_goals go_ret
   .refine⟨?_,hb⟩;refine lQ (a:=bs [45]++bs l) ?_;rw[<-O.o,Xg,if_pos ‹_›,eP];rfl
   .refine⟨?_,hb⟩;have:¬n<0:=by omega
    refine lQ (a:=bs l) ?_;rw[<-O.o,Xg,if_neg this];congr 2;omega
def ZN(n:Int)(c:aP n)(w:Xa):
 aR 40 #[n] w (Xp (bs (Xg n))):=by
 obtain⟨h1,h2⟩:=c;go_enter func40,ntmps40;go_wp2_with(go_at_call 43;refine(Mj _ ⟨‹_›,‹_›⟩ _).m ?_;rintro e j ⟨rfl,ay⟩)
 exact xQ
end
end Go.Proofs.YtpfienbhhhgpkaaGreatDoor
