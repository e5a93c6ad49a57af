/- A part of the proof. -/
import Derived.Test.YtihhpjmclebfpaaGreatDoorQbl
set_option linter.defProp false
set_option linter.unusedVariables false
set_option linter.unusedSimpArgs false
set_option maxRecDepth 100000
set_option maxHeartbeats 32000000
open Option renaming some->XL,none->XM
open Decidable renaming decide->XN
open Go renaming World->XO,Value->XP,Calls->X4,TypeId->Ya,undef->YQ,Ending->Zb,Addr->Zf
open Bool renaming false->XQ,true->XR
open Go.Lib renaming itoa->XS
open And renaming intro->XU
open Go.RowKit renaming Hid->XV
open Go.Proofs renaming intOf->X8
open Go.Proofs.Tryz renaming prog->X3
open Go.Value renaming int->X1,string->X2,slice->Zk,bool->Zp,agg->Zr,pointer->Zs
open Nat renaming mul_le_mul_left->Zi
open Go.IntKind renaming i64->Yo
open Go.Ending renaming returned->YT
open Go.Obj renaming cells->Zq
open Go.Operand renaming tmp->Zt
namespace Go.Proofs.YtihhpjmclebfpaaGreatDoor
open Go Go.RowKit Go.Proofs.Tryz
section
open Go.MapKept
def fz1:Array Value:= #[Zk XM 0 0,Zk XM 0 0,Zk XM 0 0,Zk XM 0 0,Zk XM 0 0,Zk XM 0 0,ah 0,ah 0,ah 0,ah 0,Zk XM 0 0,Zk XM 0 0,ah 0,Zk XM 0 0]
def MZ(w:XO)(s:iM)(v:MV)(cv av:XP):Prop:=s.m.In w w v/\aS w w cv s.control/\ci 10 sX w w av s.acts
def ac7(w:XO)(r:Except (Nat×Nat) iM)(e:Zb)(w':XO):Prop:=
 Below w w w'/\match r with
  | .error x=>e=YT (.tuple #[Zr fz1,x.1,x.2])
  | .ok s=>∃v cv av,e=YT (.tuple #[Zr (s.m.cells v++ #[cv,ah s.clients,av]),ah 0,ah 0])/\MZ w' s v cv av/\∀b W,b<w.heap.size->aL w' b w' W->MZ W s v cv av
section
variable {W:XO} {rt:Nat} {T:Ya} {u0 u1 u2 u3 u4 u5 u6 u7 u8 u9 u10 u11 u12 u13:XP}
def fz2(X:af W rt #[u0,u1,u2,u3,u4,u5,u6,u7,u8,u9,u10,u11,u12,u13] T)(A C D F G I J O U V c j z y:XP):
 ((((((((((((((W.setCell rt A).setCell (rt 1 XM) C).setCell (rt 2 XM) D).setCell (rt 3 XM) F).setCell (rt 4 XM) G).setCell (rt 5 XM) I).setCell (rt 6 XM) J).setCell (rt 7 XM) O).setCell (rt 8 XM) U).setCell (rt 9 XM) V).setCell (rt 10 XM) c).setCell (rt 11 XM) j).setCell (rt 12 XM) z).setCell (rt 13 XM) y).heap[rt]?=XL (Zq #[A,C,D,F,G,I,J,O,U,V,c,j,z,y] T (0,0)):=
 (bf (bf (bf (bf (bf (bf (bf (bf (bf (bf (bf (bf (bf (bf X 0 A) 1 C) 2 D) 3 F) 4 G) 5 I) 6 J) 7 O) 8 U) 9 V) 10 c) 11 j) 12 z) 13 y).t aI
def fz3(B:Nat)(z A C D F G I J O U c h y j:XP):
 aL B rt W ((((((((((((((W.setCell rt z).setCell (rt 1 XM) A).setCell (rt 2 XM) C).setCell (rt 3 XM) D).setCell (rt 4 XM) F).setCell (rt 5 XM) G).setCell (rt 6 XM) I).setCell (rt 7 XM) J).setCell (rt 8 XM) O).setCell (rt 9 XM) U).setCell (rt 10 XM) c).setCell (rt 11 XM) h).setCell (rt 12 XM) y).setCell (rt 13 XM) j):=
 (((((((((((((((aL.refl B rt W).set (.inl rfl) z).set (.inl rfl) A).set (.inl rfl) C).set (.inl rfl) D).set (.inl rfl) F).set (.inl rfl) G).set (.inl rfl) I).set (.inl rfl) J).set (.inl rfl) O).set (.inl rfl) U).set (.inl rfl) c).set (.inl rfl) h).set (.inl rfl) y).set (.inl rfl) j)
def fz4(O:af W rt #[u0,u1,u2,u3,u4,u5,u6,u7,u8,u9,u10,u11,u12,u13] T)(j y z A C D F G I J c:XP):
 (((((((((((W.setCell rt j).setCell (rt 1 XM) y).setCell (rt 2 XM) z).setCell (rt 3 XM) A).setCell (rt 4 XM) C).setCell (rt 5 XM) D).setCell (rt 6 XM) F).setCell (rt 7 XM) G).setCell (rt 8 XM) I).setCell (rt 9 XM) J).setCell (rt 10 XM) c).heap[rt]?=XL (Zq #[j,y,z,A,C,D,F,G,I,J,c,u11,u12,u13] T (0,0)):=
 (bf (bf (bf (bf (bf (bf (bf (bf (bf (bf (bf O 0 j) 1 y) 2 z) 3 A) 4 C) 5 D) 6 F) 7 G) 8 I) 9 J) 10 c).t aI
def fu3(B:Nat)(h j y z A C D F G I c:XP):
 aL B rt W (((((((((((W.setCell rt h).setCell (rt 1 XM) j).setCell (rt 2 XM) y).setCell (rt 3 XM) z).setCell (rt 4 XM) A).setCell (rt 5 XM) C).setCell (rt 6 XM) D).setCell (rt 7 XM) F).setCell (rt 8 XM) G).setCell (rt 9 XM) I).setCell (rt 10 XM) c):=
 ((((((((((((aL.refl B rt W).set (.inl rfl) h).set (.inl rfl) j).set (.inl rfl) y).set (.inl rfl) z).set (.inl rfl) A).set (.inl rfl) C).set (.inl rfl) D).set (.inl rfl) F).set (.inl rfl) G).set (.inl rfl) I).set (.inl rfl) c)
def bj4(c:af W rt #[u0,u1,u2,u3,u4,u5,u6,u7,u8,u9,u10,u11,u12,u13] T):(ae W rt u0/\aa W rt 1 u1/\aa W rt 2 u2/\aa W rt 3 u3/\aa W rt 4 u4/\aa W rt 5 u5/\aa W rt 6 u6/\aa W rt 7 u7/\aa W rt 8 u8/\aa W rt 9 u9/\aa W rt 10 u10/\aa W rt 11 u11/\aa W rt 12 u12/\aa W rt 13 u13)/\W.frozen? rt=XQ/\W.frozen? (rt 1 XM)=XQ/\W.frozen? (rt 2 XM)=XQ/\W.frozen? (rt 3 XM)=XQ/\W.frozen? (rt 4 XM)=XQ/\W.frozen? (rt 5 XM)=XQ/\W.frozen? (rt 6 XM)=XQ/\W.frozen? (rt 7 XM)=XQ/\W.frozen? (rt 8 XM)=XQ/\W.frozen? (rt 9 XM)=XQ/\W.frozen? (rt 10 XM)=XQ/\W.frozen? (rt 11 XM)=XQ/\W.frozen? (rt 12 XM)=XQ/\W.frozen? (rt 13 XM)=false:=
 ⟨⟨ag c rfl,ag c rfl,ag c rfl,ag c rfl,ag c rfl,ag c rfl,ag c rfl,ag c rfl,ag c rfl,ag c rfl,ag c rfl,ag c rfl,ag c rfl,ag c rfl⟩,cO c 0,cO c 1,cO c 2,cO c 3,cO c 4,cO c 5,cO c 6,cO c 7,cO c 8,cO c 9,cO c 10,cO c 11,cO c 12,cO c 13⟩
def fu4{a:Act}{R:Zb->XO->Prop}{A C D F G I J O U V c j z y i e:XP}(h2:a.tmps.getD 2 YQ=Zs (XL rt))(h3:a.tmps.getD 3 YQ=i)(h4:a.tmps.getD 4 YQ=e)(hd:a.defers=[])
 (hT:af W rt #[u0,u1,u2,u3,u4,u5,u6,u7,u8,u9,u10,u11,u12,u13] T)
 (hR:∀X,aL W rt W X->R (YT (.tuple #[Zr #[A,C,D,F,G,I,J,O,U,V,c,j,z,y],i,e])) X):
 bodyPost X3 Tryz.f10 R .ret a ((((((((((((((W.setCell rt A).setCell (rt 1 XM) C).setCell (rt 2 XM) D).setCell (rt 3 XM) F).setCell (rt 4 XM) G).setCell (rt 5 XM) I).setCell (rt 6 XM) J).setCell (rt 7 XM) O).setCell (rt 8 XM) U).setCell (rt 9 XM) V).setCell (rt 10 XM) c).setCell (rt 11 XM) j).setCell (rt 12 XM) z).setCell (rt 13 XM) y):=by
 have Y:=fz2 hT A C D F G I J O U V c j z y;have Z:=fz3 (W:=W) (rt:=rt) W A C D F G I J O U V c j z y;generalize ((((((((((((((W.setCell rt A).setCell (rt 1 XM) C).setCell (rt 2 XM) D).setCell (rt 3 XM) F).setCell (rt 4 XM) G).setCell (rt 5 XM) I).setCell (rt 6 XM) J).setCell (rt 7 XM) O).setCell (rt 8 XM) U).setCell (rt 9 XM) V).setCell (rt 10 XM) c).setCell (rt 11 XM) j).setCell (rt 12 XM) z).setCell (rt 13 XM) y)=X at Y Z⊢
 obtain⟨f0,f1,f2,f3,f4,f5,f6,f7,f8,f9,f10,gt7,gt8,ci9⟩:=js Y;refine bodyPost_ret (v:= .tuple #[Zr #[A,C,D,F,G,I,J,O,U,V,c,j,z,y],i,e]) ?_ hd (hR X Z);have zZ:a.tmps[2]?.getD YQ=Zs (XL rt):=by simpa using h2
 have BE:a.tmps[3]?.getD YQ=i:=by simpa using h3
 have EQ:a.tmps[4]?.getD YQ=e:=oL;simp[results,Tryz.f10,go_sem,zZ,BE,EQ,f0,f1,f2,f3,f4,f5,f6,f7,f8,f9,f10,gt7,gt8,ci9]
end
structure kU(d:aG)(rv nv:XP)(w:XO):Prop where
 g:dd w
 r:bg w w rv d.refs
 n:aS w w nv (d.nums.map λx:Nat=>(x:Int))
 ok:∀x∈d.nums,x<=1048576
 rl:d.refs.length<=17
 nl:d.nums.length<=4
 len:∀x∈d.refs,x.length<=31
section
variable {d:aG} {rv nv:XP} {w:XO}
def kU.later{W:XO}(h:kU d rv nv w)(c:Below w w W):kU d rv nv W:=
 ⟨h.g.step c,(h.r.below c (ar _)).more c.size,(h.n.below c (ar _)).more c.size,h.ok,h.rl,h.nl,h.len⟩
def kU.num(h:kU d rv nv w){j n:Nat}(c:d.nums[j]?=XL n):
 aR 235 #[Zr #[d.kind,bs d.name,rv,nv,d.by_,Zp d.always],j] w (X2 (bs (XS (n:Nat)))):=bj9 (rv:=rv) j n h.g h.n c (h.ok n (eE c))
def kU.load(h:kU d rv nv w){i j y z:Nat}(c:d.nums[i]?=XL j)(A:d.nums[i+1]?=XL y)(C:d.nums[i+2]?=XL z):
 X4 X3 240 #[Zr #[d.kind,bs d.name,rv,nv,d.by_,Zp d.always],i] w (fY w ([iJ,XS (j:Nat),iL,XS (y:Nat),iK,XS (z:Nat)].map bs)):=
 fv7 (rv:=rv) i j y z h.g h.n c A C ⟨h.ok _ (eE c),h.ok _ (eE A),h.ok _ (eE C)⟩ (by have:=(List.getElem?_eq_some_iff.1 c).1;have:=h.nl;omega)
def kU.list(h:kU d rv nv w)(l:List ay)(v:XP)(y:bg w w v l)(c:l.length<=17)(j:∀x∈l,x∈d.refs):
 aR 239 #[v] w (X2 (bs (eQ l))):=
 bj8 v l w y Zv (by have z:(eQ l).length<=(31+2)*l.length:=JD [44,32] 31 l λx hx=>h.len x (j x hx);have:(31+2)*l.length<=(31+2)*17:=Zi _ c;omega)
def bg.two{A:Option Zf}{n c b o B:Nat}{l:List ay}{j:Nat}{x:ay}(h:bg w B (Zk A n c) l)(C:A=XL (b o XM))(D:l[j]?=XL x):aa w b (o+j) (X2 (bs x)):=by obtain⟨b',o',e,_,hc⟩:=h.cell D;rw[C]at e;injection e with e;injection e with y z;subst y z;exact hc
def bk0(h:kU d rv nv w):
 X4 X3 232 #[Zr #[d.kind,bs d.name,rv,nv,d.by_,Zp d.always]] w (fY w ([d.name].map bs)):=by
 have y:=aj h;go_enter func232,ntmps232;go_upto_region 1 with(fail)
 refine df ?_;intro W1 ⟨j,hx⟩;have c:=aj j;have HX:=aj hx;refine FI λcU=>?_;obtain⟨x0,x1,x2,x3,x4,x5⟩:=dy HX.o;go_wp2_with fail
 go_ret;exact⟨_,rfl,bR.lits _ (l:=[_]) c.size Zy Zy,ak c _⟩
def fv8(h:kU d rv nv w)(a b:ay)(ha:d.refs[0]?=XL a)(y:d.refs[1]?=XL b):
 X4 X3 236 #[Zr #[d.kind,bs d.name,rv,nv,d.by_,Zp d.always]] w (fY w ([d.name,ll,a,eK,b].map bs)):=by
 obtain⟨RA,rn,rc,rfl,dz,_⟩:=h.r.sk.form;obtain⟨rb,ro,rfl,bk,c0⟩:=h.r.cell ha;have z:=bg.two h.r rfl y;have O:0<rn:=EE;have U:(1:Int)<rn:=by have:=(List.getElem?_eq_some_iff.1 y).1;omega
 rw[X7]at c0;have A:=aj c0;have C:=aj z;have J:=aj h;go_enter func236,ntmps236;go_upto_region 1 with(fail)
 refine df ?_;intro c ⟨j,hx⟩;have F:=aj j;have D:=aj hx;have G:=kc j A.o;have I:=kc j C.o;have cU:=aj λW(h:Below c c W)=>XU (dy (ai D h)) (XU (kc h G) (kc h I));refine tz (S:=λw'=>Below c c w') 12 CX λhS=>?_;refine cQ 0 3 ?_;refine cQ 1 4 ?_;refine cQ 2 5 ?_;refine cQ 3 6 ?_;refine cQ 4 7 ?_;refine cQ 5 8 ?_;refine cQ 6 9 ?_;refine cQ 7 10 ?_;refine cQ 8 11 ?_;refine cQ 9 12 ?_;have jz:=aj (aq F hS);refine fg 10 λK hK=>?_;go_simp;refine tV λhS=>?_;refine aH ?_;refine cQ 11 2 ?_;exact bv3
def fv9(h:kU d rv nv w)(a:ay)(ha:d.refs[0]?=XL a)(j:Nat)(c:d.nums[0]?=XL j):
 X4 X3 237 #[Zr #[d.kind,bs d.name,rv,nv,d.by_,Zp d.always]] w (fY w ([d.name,ll,a,qN,XS (j:Nat)].map bs)):=by
 obtain⟨RA,rn,rc,rfl,dz,_⟩:=h.r.sk.form;obtain⟨rb,ro,rfl,bk,c0⟩:=h.r.cell ha;have A:0<rn:=EE;rw[X7]at c0;have C0:=aj c0;have z:=aj h;have y:=aj c;go_enter func237,ntmps237;go_upto_region 1 with(fail)
 refine df ?_;intro W1 ⟨hB,hx⟩;have ba:=aj hB;have HX:=aj hx;refine M3 λq0 cU=>?_;refine M4 λhS=>?_;refine cQ 0 3 ?_;refine cQ 1 4 ?_;refine cQ 2 5 ?_;refine cQ 3 6 ?_;refine cQ 4 7 ?_;refine cQ 5 8 ?_;refine cQ 6 9 ?_;refine fg 7 λK hK=>?_;go_simp;refine((z.later (aq ba hS)).num y).mono ?_;exact bv4
def fw0(h:kU d rv nv w)(a:ay)(ha:d.refs[0]?=XL a)(z A:Nat)(j:d.nums[0]?=XL z)(y:d.nums[1]?=XL A):
 X4 X3 243 #[Zr #[d.kind,bs d.name,rv,nv,d.by_,Zp d.always]] w (fY w ([a,qP,XS (z:Nat),qO,XS (A:Nat)].map bs)):=by
 obtain⟨RA,rn,rc,rfl,dz,_⟩:=h.r.sk.form;obtain⟨rb,ro,rfl,bk,c0⟩:=h.r.cell ha;have F:0<rn:=EE;rw[X7]at c0;have C0:=aj c0;have c:=aj h;have C:=aj j;have D:=aj y;go_enter func243,ntmps243;go_upto_region 1 with(fail)
 refine df ?_;intro W1 ⟨hB,hx⟩;have ba:=aj hB;have HX:=aj hx;refine M3 λq0 cU=>?_;refine M4 λhS=>?_;refine cQ 0 3 ?_;refine cQ 1 4 ?_;refine cQ 2 5 ?_;refine cQ 3 6 ?_;refine cQ 4 7 ?_;refine cQ 6 9 ?_;refine fg 5 λK hK=>?_;go_simp;refine((c.later (aq ba hS)).num C).r λw2 au=>?_;try go_simp
 refine sY λhS=>?_;refine aH ?_;refine fg 7 λK hK=>?_;go_simp;refine((c.later (aq ba hS)).num D).mono ?_;exact bv4
def fw1(h:kU d rv nv w)(a b:ay)(ha:d.refs[0]?=XL a)(j:d.refs[1]?=XL b):
 X4 X3 252 #[Zr #[d.kind,bs d.name,rv,nv,d.by_,Zp d.always]] w (fY w ([a,qJ,b].map bs)):=by
 obtain⟨RA,rn,rc,rfl,dz,_⟩:=h.r.sk.form;obtain⟨rb,ro,rfl,bk,c0⟩:=h.r.cell ha;have y:=bg.two h.r rfl j;have I:0<rn:=EE;have J:(1:Int)<rn:=by have:=(List.getElem?_eq_some_iff.1 j).1;omega
 rw[X7]at c0;have z:=aj c0;have A:=aj y;have G:=aj h;go_enter func252,ntmps252;go_upto_region 1 with(fail)
 refine df ?_;intro W1 ⟨c,hx⟩;have ba:=aj c;have C:=aj hx;have D:=kc c z.o;have F:=kc c A.o;have cU:=aj λW(h:Below W1 W1 W)=>XU (dy (ai C h)) (XU (kc h D) (kc h F));refine M4 λhS=>?_;refine cQ 0 3 ?_;refine cQ 1 4 ?_;refine cQ 2 5 ?_;refine cQ 3 6 ?_;refine cQ 4 7 ?_;refine cQ 5 8 ?_;refine cQ 6 9 ?_;refine cQ 7 10 ?_;exact bv6
def fw2(h:kU d rv nv w)(a:ay)(ha:d.refs[0]?=XL a)(z:Nat)(j:d.nums[0]?=XL z):
 X4 X3 250 #[Zr #[d.kind,bs d.name,rv,nv,d.by_,Zp d.always]] w (fY w ([a,qK,Cs d.by_,XS (z:Nat)].map bs)):=by
 obtain⟨RA,rn,rc,rfl,dz,_⟩:=h.r.sk.form;obtain⟨rb,ro,rfl,bk,c0⟩:=h.r.cell ha;have F:0<rn:=EE;rw[X7]at c0;have C0:=aj c0;have C:=aj h;have A:=aj j;go_enter func250,ntmps250;go_upto_region 1 with(fail)
 refine df ?_;intro W1 ⟨hB,hx⟩;have c:=aj hB;have HX:=aj hx;refine M3 λq0 cU=>?_;refine tz (S:=λw'=>Below W1 W1 w') 11 CX λhS=>?_;refine cQ 0 3 ?_;refine cQ 1 4 ?_;refine cQ 2 5 ?_;refine cQ 3 6 ?_;refine cQ 4 7 ?_;refine cQ 5 8 ?_;refine cQ 7 10 ?_;refine fg 6 λK hK=>?_;go_simp;refine(bn1 d.by_ _).r λD au=>?_;try go_simp
 refine sY λhS=>?_;refine aH ?_;refine fg 8 λK hK=>?_;go_simp;refine((C.later (aq c hS)).num A).r λD au=>?_;try go_simp
 refine sY λhS=>?_;refine aH ?_;have y:=aj (aq c hS);refine fg 9 λK hK=>?_;go_simp;refine tV λhS=>?_;refine aH ?_;refine cQ 10 2 ?_;refine rY ?_;go_upto_region 9 with(fail)
 go_ret;exact⟨_,rfl,bR.lits _ (l:=[_,_,_,_]) y.size Zy Zy,ak y _⟩
def fw3(h:kU d rv nv w)(a:ay)(ha:d.refs[0]?=XL a)(n0 n1 n2:Nat)(j:d.nums[0]?=XL n0)(y:d.nums[1]?=XL n1)(z:d.nums[2]?=XL n2):
 X4 X3 242 #[Zr #[d.kind,bs d.name,rv,nv,d.by_,Zp d.always]] w (fY w (([d.name,eK,a]++[iJ,XS (n0:Nat),iL,XS (n1:Nat),iK,XS (n2:Nat)]).map bs)):=by
 obtain⟨RA,rn,rc,rfl,dz,_⟩:=h.r.sk.form;obtain⟨rb,ro,rfl,bk,c0⟩:=h.r.cell ha;have C:0<rn:=EE;rw[X7]at c0;have C0:=aj c0;have HD:=aj h;have H0:=aj j;have H1:=aj y;have H2:=aj z;go_enter func242,ntmps242;go_upto_region 1 with(fail)
 refine df ?_;intro W1 ⟨hB,hx⟩;have ba:=aj hB;have HX:=aj hx;refine M3 λq0 cU=>?_;refine tz (S:=λw'=>Below W1 W1 w') 11 CX λhS=>?_;refine cQ 0 3 ?_;refine cQ 1 4 ?_;refine cQ 2 5 ?_;refine cQ 3 6 ?_;refine cQ 4 7 ?_;refine cQ 5 8 ?_;refine cQ 7 10 ?_;refine wpAnyH_ready (rs:=[6,8]) aI Zy (AllReadyH.cons rfl (λK hK=>?_) (AllReadyH.cons rfl (λK hK=>?_) AllReadyH.nil))
 .go_simp;have c:=aj hS;refine tV λhS=>?_;refine aH ?_;refine fg 8 λK hK=>?_;go_simp;refine JE ?_;rintro e A ⟨u,rfl,hu,au⟩;try go_simp
  have hv:=bR.below (bR.lits _ (l:=[bs d.name,bs eK,bs a]) c.size Zy Zy) au;refine sY λhS=>?_;refine aH ?_;exact bv7
 .go_simp;refine JE ?_;rintro e A ⟨u,rfl,hu,au⟩;try go_simp
  refine sY λhS=>?_;refine aH ?_;have c:=aj hS;refine fg 6 λK hK=>?_;go_simp;have hv:=bR.lits _ (l:=[bs d.name,bs eK,bs a]) c.size Zy Zy;refine tV λhS=>?_;refine aH ?_;have hu:=hu.below (ak (am _) (Zq ([bs d.name,bs eK,bs a].map X2).toArray 9));exact bv7
def fw4(h:kU d rv nv w)(n0 n1 n2:Nat)(j:d.nums[0]?=XL n0)(y:d.nums[1]?=XL n1)(z:d.nums[2]?=XL n2):
 X4 X3 238 #[Zr #[d.kind,bs d.name,rv,nv,d.by_,Zp d.always]] w (fY w (([d.name,eK,eQ d.refs]++[iJ,XS (n0:Nat),iL,XS (n1:Nat),iK,XS (n2:Nat)]).map bs)):=by
 have HD:=aj h;have H0:=aj j;have H1:=aj y;have H2:=aj z;go_enter func238,ntmps238;go_upto_region 1 with(fail)
 refine df ?_;intro W1 ⟨A,hx⟩;have ba:=aj A;have HX:=aj hx;refine FI λcU=>?_;refine M4 λhS=>?_;refine cQ 0 3 ?_;refine cQ 1 4 ?_;refine cQ 2 5 ?_;refine cQ 3 6 ?_;refine cQ 6 9 ?_;refine fg 4 λK hK=>?_;go_simp;refine((HD.later (aq ba hS)).list d.refs rv (HD.later (aq ba hS)).r HD.rl λ_ h=>h).r λC au=>?_;try go_simp
 refine sY λhS=>?_;refine aH ?_;refine wpAnyH_ready (rs:=[5,7]) aI Zy (AllReadyH.cons rfl (λK hK=>?_) (AllReadyH.cons rfl (λK hK=>?_) AllReadyH.nil))
 .go_simp;have c:=aj hS;refine tV λhS=>?_;refine aH ?_;refine fg 7 λK hK=>?_;go_simp;refine JE ?_;rintro e C ⟨u,rfl,hu,au⟩;try go_simp
  have hv:=bR.below (bR.lits _ (l:=[bs d.name,bs eK,bs (eQ d.refs)]) c.size Zy Zy) au;refine sY λhS=>?_;refine aH ?_;exact bv8
 .go_simp;refine JE ?_;rintro e C ⟨u,rfl,hu,au⟩;try go_simp
  refine sY λhS=>?_;refine aH ?_;have c:=aj hS;refine fg 5 λK hK=>?_;go_simp;have hv:=bR.lits _ (l:=[bs d.name,bs eK,bs (eQ d.refs)]) c.size Zy Zy;refine tV λhS=>?_;refine aH ?_;have hu:=hu.below (ak (am _) (Zq ([bs d.name,bs eK,bs (eQ d.refs)].map X2).toArray 9));exact bv8
def fw5(h:kU d rv nv w)(k:Nat)(D:d.nums[0]?=XL k)(n0 n1 n2:Nat)(y:d.nums[1]?=XL n0)(z:d.nums[2]?=XL n1)(A:d.nums[3]?=XL n2):
 X4 X3 241 #[Zr #[d.kind,bs d.name,rv,nv,d.by_,Zp d.always]] w (fY w (([d.name,XS (k:Nat),eK,eQ d.refs]++[iJ,XS (n0:Nat),iL,XS (n1:Nat),iK,XS (n2:Nat)]).map bs)):=by
 have HD:=aj h;have F:=aj D;have H0:=aj y;have H1:=aj z;have H2:=aj A;go_enter func241,ntmps241;go_upto_region 1 with(fail)
 refine df ?_;intro W1 ⟨C,hx⟩;have ba:=aj C;have HX:=aj hx;refine FI λcU=>?_;refine tz (S:=λw'=>Below W1 W1 w') 12 CX λhS=>?_;refine cQ 0 3 ?_;refine cQ 1 4 ?_;refine cQ 2 5 ?_;refine cQ 4 7 ?_;refine cQ 5 8 ?_;refine cQ 8 11 ?_;refine fg 3 λK hK=>?_;go_simp;refine((HD.later (aq ba hS)).num F).r λj au=>?_;try go_simp
 refine sY λhS=>?_;refine aH ?_;refine fg 6 λK hK=>?_;go_simp;refine((HD.later (aq ba hS)).list d.refs rv (HD.later (aq ba hS)).r HD.rl λ_ h=>h).r λj au=>?_;try go_simp
 refine sY λhS=>?_;refine aH ?_;refine wpAnyH_ready (rs:=[7,9]) aI Zy (AllReadyH.cons rfl (λK hK=>?_) (AllReadyH.cons rfl (λK hK=>?_) AllReadyH.nil))
 .go_simp;have c:=aj hS;refine tV λhS=>?_;refine aH ?_;refine fg 9 λK hK=>?_;go_simp;refine JE ?_;rintro e j ⟨u,rfl,hu,au⟩;try go_simp
  have hv:=bR.below (bR.lits _ (l:=[bs d.name,bs (XS (k:Nat)),bs eK,bs (eQ d.refs)]) c.size Zy Zy) au;refine sY λhS=>?_;refine aH ?_;exact bv9
 .go_simp;refine JE ?_;rintro e j ⟨u,rfl,hu,au⟩;try go_simp
  refine sY λhS=>?_;refine aH ?_;have c:=aj hS;refine fg 7 λK hK=>?_;go_simp;have hv:=bR.lits _ (l:=[bs d.name,bs (XS (k:Nat)),bs eK,bs (eQ d.refs)]) c.size Zy Zy;refine tV λhS=>?_;refine aH ?_;have hu:=hu.below (ak (am _) (Zq ([bs d.name,bs (XS (k:Nat)),bs eK,bs (eQ d.refs)].map X2).toArray 9));exact bv9
end
def ft8{m:aU}{k:Nat}{x:rq}(h:m.machs[k]?=XL x):fJ (vY m) [] m.machs k=(aF x.rack m.racks.length&&aE x.cap 0 1048576):=Ky
def ft9(m:aU)(v:MV)(w:XO)(hv:m.In w w v):
 aR 171 #[Zr (m.cells v)] w (Zp (fO m)):=by
 refine sV λSa sc hs bZ bL Fa fc bS bM cj Ra rc hr cd cZ Ma mc hm cr co La lc hl cW dh Ia ic hi dg d' Ua uc hu dm dr HS=>?_;have Z:=hv.ms;rw[hm]at Z;have jY:=aj Z;have lg:=aj hv;have G:=aj (xI (vY m) m.machs []);have iz:=aj λk x(h:m.machs[k]?=XL x)=>ft8 h;refine ay1 λHO=>?_;generalize fO m=r at HO;generalize fJ (vY m) [] m.machs=F at G iz;have hn:m.machs.length<=9223372036854775807:=bC cr co;rw[HS.o];go_enter func171,ntmps171;go_upto_region 1 with(fail)
 refine df ?_;intro V ⟨bc,O⟩;have ba:=aj bc;have iI:=aj O;have uX:=blk_lt O;obtain⟨a0,a1,a2,a3,a4,a5,a6,a7,a8,a9,cN⟩:=bQ O;by_cases q0:(m.sites.length:Int)<1
 .exact Gk
 .skip
  by_cases q1:(4:Int)<(m.sites.length:Int)
  .exact Gk
  .skip
   by_cases q2:(16:Int)<(m.feeds.length:Int)
   .exact Gk
   .skip
    by_cases q3:(16:Int)<(m.racks.length:Int)
    .exact Gk
    .skip
     by_cases q4:(m.machs.length:Int)<1
     .exact Gk
     .skip
      by_cases q5:(16:Int)<(m.machs.length:Int)
      .exact Gk
      .skip
       by_cases q6:(12:Int)<(m.links.length:Int)
       .exact Gk
       .skip
        go_wp2_with fail
        go_loopw [3] (λi wr=>∃k:Nat,k<=m.machs.length/\i=ah k/\(∀j,j<k->F j=XR)/\Below V V wr) (λi _=>m.machs.length - (X8 i).toNat)
        case atStart=>exact⟨0,bU _,rfl,λj hj=>by omega,am V⟩
        case round=>
         obtain⟨k,hk,rfl,bA,hB⟩:=hrel;have gi:=aj bA;have HB:=aj hB;have X:=ai iI hB;have fT:=aj X;refine oV λbq=>?_;obtain⟨c0,c1,c2,c3,c4,c5,c6,c7,c8,c9,cg8⟩:=bQ X;by_cases C:k<m.machs.length
         .obtain⟨eC,bh⟩:=dt C;obtain⟨x,hx⟩:=jd C;have I:=aj (iz k x hx);obtain⟨b,o,cs,rfl,hb,_,⟨rfl,B5⟩,bo⟩:=jY.at_ hx;refine ad2 λe1 e2=>?_;obtain⟨b1,aC⟩:∃q,aF x.rack m.racks.length=q:=⟨_,rfl⟩;obtain⟨b2,au⟩:∃q,aE x.cap 0 1048576=q:=⟨_,rfl⟩;rw[aC,au]at I;have Y:=aj aC;have gT:=aj au;cases b1 with
          |false=>
           have HR:=aj (show r=XQ by rw[HO.o,G.o,wj C (by rw[I.o];rfl)];simp);go_upto_region 6 with(fail)
           refine ad6 λhS=>?_;iterate 9 refine da 21 51 ?_
           refine bt 9 λK y=>?_;go_simp;refine rN ?_;rintro e z ⟨rfl,rfl⟩;rw[Y.o];try go_simp
           refine y _ _ hS λhS=>?_;refine aH ?_;iterate 2 refine da 21 51 ?_
           iterate 8 refine ta 21 51 ?_
           refine ke 20 71 ?_;refine gc ?_;go_wp2_with fail
           go_ret;exact⟨by rw[HR.o];rfl,aq bq hS.2.2.2.2⟩
          |true=>
           cases b2 with
           |false=>
            have HR:=aj (show r=XQ by rw[HO.o,G.o,wj C (by rw[I.o];rfl)];simp);go_upto_region 6 with(fail)
            refine ad6 λhS=>?_;iterate 9 refine da 21 51 ?_
            refine bt 9 λK y=>?_;go_simp;refine rN ?_;rintro e z ⟨rfl,rfl⟩;rw[Y.o];try go_simp
            refine y _ _ hS λhS=>?_;refine aH ?_;iterate 8 refine da 21 51 ?_
            refine bt 18 λK y=>?_;go_simp;refine(Q6 _ _).m ?_;rintro e z ⟨rfl,rfl⟩;rw[gT.o];try go_simp
            refine y _ _ hS λhS=>?_;refine aH ?_;iterate 2 refine da 21 51 ?_
            refine gc ?_;go_wp2_with fail
            go_ret;exact⟨by rw[HR.o];rfl,aq bq hS.2.2.2.2⟩
           |true=>
            have lf:=aj (show F k=XR from by rw[I.o];rfl);go_upto_region 6 with(fail)
            refine ad6 λhS=>?_;iterate 9 refine da 21 51 ?_
            refine bt 9 λK y=>?_;go_simp;refine rN ?_;rintro e z ⟨rfl,rfl⟩;rw[Y.o];try go_simp
            refine y _ _ hS λhS=>?_;refine aH ?_;iterate 8 refine da 21 51 ?_
            refine bt 18 λK y=>?_;go_simp;refine(Q6 _ _).m ?_;rintro e z ⟨rfl,rfl⟩;rw[gT.o];try go_simp
            refine y _ _ hS λhS=>?_;refine aH ?_;iterate 2 refine da 21 51 ?_
            refine gc ?_;go_wp2_with fail
            exact⟨⟨k+1,by omega,by go_num,λq hq=>by
             rcases Yt q k with h|h
             .exact gi q h
             .have:q=k:=by omega
              subst this;exact lf,aq HB hS.2.2.2.2⟩,by simp[X8];omega⟩
         .have bh:=eS C;have ur:=aj (show eD (vY m) [] m.machs=true from by rw[G.o];exact AU λj hj=>gi j (by omega));have U:=aj λW(D:Below w w W)=>fw8 m v W (lg.to D (ar _) D.size);have oE:=aj λW(D:Below w w W)=>ft7 m v W (lg.to D (ar _) D.size);rw[HS.o]at U oE;obtain⟨sr,nh⟩:∃q,eD (jI m) [] m.racks=q:=⟨_,rfl⟩;obtain⟨sl,j9⟩:∃q,eD (jJ m) [] m.links=q:=⟨_,rfl⟩
          have HR:=aj (show r=(sr&&sl)by
           rw[HO.o,ur.o,nh,j9];have z1:aE (m.sites.length:Nat) 1 4=true:=by simp[aE];omega
           have z2:XN (m.feeds.length<=16)=true:=bN;have z3:XN (m.racks.length<=16)=true:=bN;have z4:aE (m.machs.length:Nat) 1 16=true:=by simp[aE];omega
           have z5:XN (m.links.length<=12)=true:=bN;rw[z1,z2,z3,z4,z5];simp)
          rw[nh]at U;rw[j9]at oE;cases sr with
          |false=>
           go_wp2_with first
            |(go_at_call 290;refine(U _ bq).r λz A=>?_;have J:=aj A)
           go_ret;exact⟨by rw[HR.o];rfl,aq bq J⟩
          |true=>
           go_wp2_with first
            |(go_at_call 290;refine(U _ bq).r λz A=>?_;have pH:=ai fT A;obtain⟨g0,g1,g2,g3,g4,g5,g6,g7,g8,g9,C6⟩:=bQ pH;have J:Hid (Below w w z):=aq bq A)
            |(go_at_call 291;refine(oE _ J).r λw5 bx=>?_;have cT:Hid (Below w w w5):=aq J bx)
           go_ret;exact⟨by rw[HR.o];rfl,cT⟩
def bg.take{w:XO}{B n c:Nat}{A:Option Zf}{l:List ay}(h:bg w B (Zk A n c) l){j:Nat}(F:j<=n):bg w B (Zk A j c) (l.take j):=by
 obtain⟨A',c',he,h1,h2,h3⟩:=h;injection he with C y D;subst C D;simp only[XY]at y;refine⟨A,c,by simp[<-y,Nat.min_eq_left F],by simp at h1⊢;omega,h2,λG=>?_⟩;have z:(l.map bs).map X2≠[]:=λe=>G (by
  have:l=[]:=by simpa using e
  rw[this];simp)
 obtain⟨b,o,hA,hb,hc⟩:=h3 z;refine⟨b,o,hA,hb,λi x hx=>hc i x ?_⟩;rw[List.map_take,List.map_take,List.getElem?_take]at hx;split at hx
 .exact hx
 .cases hx
def Gm(w:XO)(c j:Obj):((w.alloc c).alloc j).heap[w.heap.size+1]?=XL j:=by
 have h:=cR (w.alloc c) j
 rwa [show(w.alloc c).heap.size=w.heap.size+1 by simp]at h
def ge9{L:List ay}{k:Nat}{s:ay}(h:L[k]?=XL s):fJ (λs b=>bI s&& !XN (s∈b)) [] L k=(bI s&& !XN (s∈L.take k)):=Ky
def by3{c:Nat->Bool}{n k:Nat}{b q:Bool}(j:b=(eV c n&&q))(y:k<n)(h:c k=XQ):b=false:=by rw[j,wj y h];rfl
def gf0{k:Nat}{l:List Int}(j:Nat)(x y:Int)(h:¬j=0)(c:l[j - 1]?=XL y)(hx:l[j]?=XL x):zi k l j=(aF x k&&XN (y<x)):=by obtain⟨i,rfl⟩:∃i,j=i+1:=⟨j - 1,by omega⟩;exact Z8 c hx
def Gn(n a b:Int)(w:XO):X4 X3 176 #[n,a,b] w λe w'=>e=YT (Zp (aE n a b))/\w'=w:=by
 go_enter func176,ntmps176
 go_wp2
 all_goals (go_ret;exact⟨cD Kw,rfl⟩)
def gf1(m:aU)(v:MV)(w:XO)(hv:m.In w w v)(j9:m.sites.length<=100)(Z:m.feeds.length<=100)(U:m.racks.length<=100)(yD:m.machs.length<=100)(Y:m.items.length<=100):
 aR 172 #[Zr (m.cells v)] w (Zp (pz (dp m))):=by
 refine sV λSa sc hs bZ bL Fa fc bS bM cj Ra rc hr cd cZ Ma mc hm cr co La lc hl cW dh Ia ic hi dg d' Ua uc hu dm dr HS=>?_;have O:=aj λW(hW:Below w w W)=>gd0 m v W (hv.to hW (ar _) hW.size) j9 Z U yD Y;have V:=aj (show(dp m).length<=1000 by simp[dp];omega);generalize dp m=L at O V;unfold pz;have jr:=aj (xI (λs b=>bI s&& !XN (s∈b)) L []);have iz:=aj λk s(h:L[k]?=XL s)=>ge9 h;generalize eD (λs b=>bI s&& !XN (s∈b)) [] L=res at jr⊢
 generalize fJ (λs b=>bI s&& !XN (s∈b)) [] L=F at jr iz;rw[HS.o]at O;rw[HS.o];go_enter func172,ntmps172;go_upto_region 1 with(fail)
 refine df ?_;intro W1 ⟨bc,C⟩;have ba:=aj bc;have iI:=aj C;have uX:=blk_lt C;obtain⟨a0,a1,a2,a3,a4,a5,a6,a7,a8,a9,cN⟩:=bQ C;go_wp2_with first
  |(go_at_call 292;refine(O W1 ba).q λw2 u hu au=>?_;have X:Hid (bg w2 w2 u L):=aj hu.slS;obtain⟨A,n,c,rfl,hn,hc,fQ⟩:=cP.form hu.slS;rw[XY]at hn;have HN:=aj hn;rw[hn]at jr;refine va λaX=>?_)
 go_loopw [4] (λi wr=>∃k:Nat,k<=n/\i=ah k/\(∀j,j<k->F j=XR)/\Below w2 w2 wr) (λi _=>n - (X8 i).toNat)
 case atStart=>exact⟨0,bU _,rfl,λj hj=>by omega,am w2⟩
 case round=>
  obtain⟨k,hk,rfl,bA,hB⟩:=hrel;have gi:=aj bA;have G:=aj hB;have bq:Hid (Below w w wr):=aq aX hB;by_cases ap:k<n
  .obtain⟨kh,bh⟩:=dt ap;have BG:(k:Int)<=c:=by omega
   obtain⟨s,hs⟩:=iT HN ap;have HF:=aj (iz k s hs);obtain⟨ub,uo,rfl,cx3,fj⟩:=bg.cell X hs;have cs:=kc G fj;have I:=aj λW=>RX s W;have z:=aj (λW(h:Below wr wr W)=>bw5 (Zk (XL (ub uo XM)) k c) (L.take k) s W w2 (bg.below (bg.take X Zv) (aq G h) (ar _)) (by have:=V.o;rw[YK];omega));obtain⟨b1,aC⟩:∃q,bI s=q:=⟨_,rfl⟩;obtain⟨b2,au⟩:∃q,XN (s∈L.take k)=q:=⟨_,rfl⟩;rw[aC,au]at HF;have J:=aj aC;have gT:=aj au;cases b1 with
   |false=>
    have HR:=aj (Cu jr ap Om);go_upto_region 5 with(fail)
    refine R5 λhS=>?_;iterate 4 refine da 16 13 ?_
    refine bt 4 λK y=>?_;go_simp;refine(I _).r λD aV=>?_;rw[J.o];try go_simp
    refine y _ _ TL λhS=>?_;refine aH ?_;iterate 2 refine da 16 13 ?_
    iterate 8 refine ta 16 13 ?_
    refine ke 15 28 ?_;refine gc ?_;go_wp2_with fail
    go_ret;exact⟨by rw[HR.o];rfl,aq bq hS.2⟩
   |true=>
    cases b2 with
    |true=>
     have HR:=aj (Cu jr ap Om);go_upto_region 5 with(fail)
     refine R5 λhS=>?_;iterate 4 refine da 16 13 ?_
     refine bt 4 λK y=>?_;go_simp;refine(I _).r λD aV=>?_;rw[J.o];try go_simp
     refine y _ _ TL λhS=>?_;refine aH ?_;iterate 9 refine da 16 13 ?_
     refine bt 14 λK y=>?_;go_simp;refine(z _ hS.2).m ?_;rintro e D ⟨rfl,rfl⟩;rw[gT.o];try go_simp
     refine y _ _ (hS) λhS=>?_;refine aH ?_;refine ke 15 28 ?_;refine gc ?_;go_wp2_with fail
     go_ret;exact⟨by rw[HR.o];rfl,aq bq hS.2⟩
    |false=>
     have lf:=aj (show F k=XR from by first|exact HF.o|(rw[HF.o];rfl));go_upto_region 5 with(fail)
     refine R5 λhS=>?_;iterate 4 refine da 16 13 ?_
     refine bt 4 λK y=>?_;go_simp;refine(I _).r λD aV=>?_;rw[J.o];try go_simp
     refine y _ _ TL λhS=>?_;refine aH ?_;iterate 9 refine da 16 13 ?_
     refine bt 14 λK y=>?_;go_simp;refine(z _ hS.2).z ?_;rw[gT.o];try go_simp
     refine y _ _ (hS) λhS=>?_;refine aH ?_;refine ke 15 28 ?_;refine gc ?_;go_wp2_with fail
     exact⟨⟨k+1,by omega,by go_num,λq hq=>by
      rcases Yt q k with h|h
      .exact gi q h
      .have:q=k:=by omega
       subst this;exact lf,aq G hS.2⟩,by simp[X8];omega⟩
  .exact ad4
def by4(m:aU)(v:MV)(u:XP)(l:List Int)(w:XO)(hv:m.In w w v)(V:aS w w u l):
 aR 294 #[Zr (m.cells v),u] w (Zp (fF m l)):=by
 obtain⟨A,n,c,rfl,hn,hc,fQ⟩:=V.sk.form;refine sV λSa sc hs bZ bL Fa fc bS bM cj Ra rc hr cd cZ Ma mc hm cr co La lc hl cW dh Ia ic hi dg d' Ua uc hu dm dr HS=>?_;have Z:=aj V;have HN:=aj hn;have jr:Hid (fF m l=(eV (zi m.machs.length l) n&&XN (0<n))):=by show _=_;rw[<-hn,<-bb6];rfl
 have z:=aj (λx(h:l[0]?=XL x)=>bb7 (k:=m.machs.length) h);have zr:=aj (fun(j:Nat)(x y:Int)=>gf0 (k:=m.machs.length) (l:=l) j x y);generalize fF m l=res at jr⊢
 generalize zi m.machs.length l=F at jr z zr;clear V hn;rw[HS.o];clear hv hs bS hr hm hl hi hu;go_enter func294,ntmps294;go_upto_region 1 with(fail)
 refine df ?_;intro G ⟨bc,I⟩;have ba:=aj bc;have iI:=aj I;have uX:=blk_lt I;clear bc I;go_wp2_with fail
 go_loopw [5] (λi wr=>∃k:Nat,k<=n/\i=ah k/\(∀j,j<k->F j=XR)/\Below G G wr) (λi _=>n - (X8 i).toNat)
 case atStart=>exact⟨0,bU _,rfl,λj hj=>by omega,am G⟩
 case round=>
  obtain⟨k,hk,rfl,bA,hB⟩:=hrel;have J:=aj bA;have Y:=aj hB;refine oV λbq=>?_;have c3:=ag (o:=3) (ai iI hB) rfl;clear bA hB;by_cases ap:k<n
  .obtain⟨kh,bh⟩:=dt ap;obtain⟨x,hx⟩:=iT HN ap;obtain⟨ub,uo,C,cx3,fj⟩:=aS.cell Z hx;subst C;have cs:=kc bq fj;clear fj;by_cases D:k=0
   .have HF:=aj (show F k=aF x m.machs.length by rw[D];exact z x (by rw[<-D];exact hx));obtain⟨b1,aC⟩:∃q,aF x m.machs.length=q:=⟨_,rfl⟩;rw[aC]at HF;have em:=aj aC;have q0:decide ((0:Int)<(k:Int))=false:=decide_eq_false (by omega);have Jj:decide (0<k)=false:=decide_eq_false (by omega);clear D;clear aC hx;cases b1 with
    |false=>exact cb8
    |true=>
     have X:=aj (show F k=XR from by first|exact HF.o|(rw[HF.o];rfl));go_upto_region 4 with(fail)
     refine cb9 λhS=>?_;iterate 7 refine da 25 12 ?_
     refine bt 7 λK hK=>?_;go_simp;refine rN ?_;rintro e w4 ⟨rfl,rfl⟩;rw[em.o];try go_simp
     refine hK _ _ (hS) (λhS=>?_);clear hK;refine aH ?_;iterate 5 refine da 25 12 ?_
     iterate 10 refine ta 25 12 ?_
     iterate 2 refine da 25 12 ?_
     refine gc ?_;go_wp2_with fail
     exact⟨⟨k+1,by omega,by go_num,λq hq=>by
      rcases Yt q k with h|h
      .exact J q h
      .have:q=k:=by omega
       subst this;exact X,aq Y hS.2.2⟩,by simp[X8];omega⟩
   .obtain⟨y,hy⟩:∃y,l[k - 1]?=some y:=⟨_,List.getElem?_eq_getElem (by rw[HN.o];omega)⟩;have HF:=aj (zr k x y D hy hx);obtain⟨ub',uo',C,_,Ab⟩:=aS.cell Z hy;injection C with C;injection C with O U _;subst O U;have cp:=kc bq Ab;obtain⟨b1,aC⟩:∃q,aF x m.machs.length=q:=⟨_,rfl⟩;obtain⟨b2,au⟩:∃q,decide (y<x)=q:=⟨_,rfl⟩;rw[aC,au]at HF;have em:=aj aC;refine cc0 λq0 Jj q1 q2 q3 WA q4=>?_;clear aC hx hy Ab;cases b1 with
    |false=>clear au;exact cb8
    |true=>
     cases b2 with
     |false=>
      have q5:XN (x<=y)=true:=decide_eq_true (by have:=of_decide_eq_false au;omega);clear au;have HR:=aj (by3 jr ap Om);go_upto_region 4 with(fail)
      refine cc1 λhS=>?_;iterate 7 refine da 25 12 ?_
      refine bt 7 λK hK=>?_;go_simp;refine rN ?_;rintro e w4 ⟨rfl,rfl⟩;rw[em.o];try go_simp
      refine hK _ _ (hS) (λhS=>?_);clear hK;refine aH ?_;iterate 17 refine da 25 12 ?_
      refine gc ?_;go_wp2_with fail
      go_ret;exact⟨by rw[HR.o];rfl,aq bq hS.2.2.2⟩
     |true=>
      have q5:XN (x<=y)=false:=decide_eq_false (by have:=of_decide_eq_true au;omega);clear au;have X:=aj (show F k=XR from by first|exact HF.o|(rw[HF.o];rfl));go_upto_region 4 with(fail)
      refine cc1 λhS=>?_;iterate 7 refine da 25 12 ?_
      refine bt 7 λK hK=>?_;go_simp;refine rN ?_;rintro e w4 ⟨rfl,rfl⟩;rw[em.o];try go_simp
      refine hK _ _ (hS) (λhS=>?_);clear hK;refine aH ?_;iterate 17 refine da 25 12 ?_
      refine gc ?_;go_wp2_with fail
      exact⟨⟨k+1,by omega,by go_num,λq hq=>by
       rcases Yt q k with h|h
       .exact J q h
       .have:q=k:=by omega
        subst this;exact X,aq Y hS.2.2.2⟩,by simp[X8];omega⟩
  .have bh:=eS ap;have HR:=aj (show res=decide (0<n)from by rw[jr.o,AU λj hj=>J j (by omega),Bool.true_and]);go_wp2_with fail
   go_ret;exact⟨by rw[HR.o];exact cD Zy,bq⟩
def JG(x:fq):Bool:=if x.kind=0 then yM 0 x else if x.kind=1 then yM 1 x else if x.kind=2 then yM 2 x else XQ
def ga3(m:aU)(x:fq):dV m x=(JG x&&fF m x.on&&aE x.load 0 1048576&&aE x.size 0 1048576&&aE x.share 1 1048576):=by
 unfold JG dV;split
 .rfl
 .split
  .rfl
  .split<;>rfl
def ga4(m:aU)(v:MV)(x:fq)(o:XP)(w:XO)(hv:m.In w w v)(ho:aS w w o x.on):
 aR 173 #[Zr (m.cells v),Zr (x.vals o)] w (Zp (dV m x)):=by
 obtain⟨A,n,c,rfl,hn,hc,fQ⟩:=ho.sk.form;refine sV λSa sc hs bZ bL Fa fc bS bM cj Ra rc hr cd cZ Ma mc hm cr co La lc hl cW dh Ia ic hi dg d' Ua uc hu dm dr HS=>?_;have zw:=aj λW(z:Below w w W)=>by4 m v (Zk A n c) x.on W (hv.to z (ar _) z.size) ((ho.below z (ar _)).more z.size);rw[HS.o]at zw;have HO:=aj (ga3 m x);have HN:=aj hn;generalize dV m x=r at HO⊢
 obtain⟨b1,aC⟩:∃q,fF m x.on=q:=⟨_,rfl⟩;obtain⟨b2,au⟩:∃q,aE x.load 0 1048576=q:=⟨_,rfl⟩;obtain⟨b3,aM⟩:∃q,aE x.size 0 1048576=q:=⟨_,rfl⟩;obtain⟨b4,aV⟩:∃q,aE x.share 1 1048576=q:=⟨_,rfl⟩;rw[aC,au,aM,aV]at HO;have em:=aj aC;have gT:=aj au;have rU:=aj aM;have ul:=aj aV;rw[HS.o,fq.vals_def];go_enter func173,ntmps173;go_upto_region 1 with(fail)
 refine ez (λW=>Below w w W/\af W w.heap.size #[Zk Sa m.sites.length sc,Zk Fa m.feeds.length fc,Zk Ra m.racks.length rc,Zk Ma m.machs.length mc,Zk La m.links.length lc,Zk Ia m.items.length ic,m.dark,m.slots,m.reserve,m.failures,Zk Ua m.rules.length uc] 29/\af W (w.heap.size+1) #[bs x.name,x.kind,x.count,x.load,x.size,x.share,Zk A n c] 86) ⟨ak (ak (am w) _) _,ai (cR w _) (ak (am _) _),Gm w _ _⟩ ?_;intro X ⟨D,C,y⟩;have ba:=aj D;have Y:=aj C;have lJ:=aj y;obtain⟨a0,a1,a2,a3,a4,a5,a6,a7,a8,a9,cN⟩:=bQ C;obtain⟨x0,x1,x2,x3,x4,x5,x6⟩:=gM y;have J:=blk_lt y;obtain⟨xb,fe⟩:∃q,w.heap.size+1=q:=⟨_,rfl⟩;rw[fe]at lJ x0 x1 x2 x3 x4 x5 x6⊢
 cases b1 with
 |false=>exact Rs
 |true=>
  cases b2 with
  |false=>exact Rs
  |true=>
   cases b3 with
   |false=>exact Rs
   |true=>
    cases b4 with
    |false=>exact Rs
    |true=>
     by_cases k0:x.kind=0
     .have O:(x.kind==0)=true:=by simp[k0]
      have HR:=aj (show r=((XN (x.count=1)||XN (x.count=3)||XN (x.count=5))&&XN (x.count=(x.on.length:Nat)))by rw[HO.o];simp[JG,yM,k0]);exact R6
     .have O:(x.kind==0)=false:=by simp[k0]
      have F:=aj k0;by_cases j:x.kind=2
      .have V:(x.kind==2)=true:=by simp[j]
       have HR:=aj (show r=(XN (x.count=1)&&XN ((x.on.length:Nat)=1))by rw[HO.o];simp[JG,yM,j]);exact R6
      .have V:(x.kind==2)=false:=by simp[j]
       have I:=aj j;by_cases k1:x.kind=1
       .have U:(x.kind==1)=true:=by simp[k1]
        have HR:=aj (show r=aE x.count 1 8 by rw[HO.o];simp[JG,yM,k1]);exact R6
       .have U:(x.kind==1)=false:=by simp[k1]
        have G:=aj k1;have HR:=aj (show r=XQ by rw[HO.o];simp[JG,F.o,G.o,I.o]);go_wp2_with first
         |(go_at_call 294;refine(zw _ ba).r λw2 au=>?_;rw[em.o];have ev:=ai lJ au;obtain⟨y0,y1,y2,y3,y4,y5,y6⟩:=gM ev;refine va λaX=>?_)
         |(go_at_call 176;refine(Gn _ _ _ _).r λw3 hw=>?_;obtain rfl:=hw.symm;first|rw[gT.o]|rw[rU.o]|rw[ul.o]|skip)
        go_ret;exact⟨cD HR.symm,aX⟩
def qy(x:cF):Bool:=XN (x.other=0)&&XN (x.by_=0)&& !x.always&&XN (x.ms=[])
section
variable (m:aU) {x:cF}
def ga5(h:x.kind=0):dw m x=(aF x.item m.items.length&&XN (rr m x.item=0)&&qy x&&XN (x.n=0)):=by exact R7
def ga6(h:x.kind=1):dw m x=(aF x.item m.items.length&&XN (x.other=0)&&XN (x.by_=0)&&XN (x.ms=[])&&aE x.n 0 16):=by exact Rt
def ga7(h:x.kind=2):dw m x=(aF x.item m.items.length&&aE x.by_ 2 4&&XN (x.other=0)&& !x.always&&XN (x.ms=[])&&aE x.n 0 16):=by exact Rt
def ga8(h:x.kind=3):dw m x=(aF x.item m.items.length&&fF m x.ms&&XN (x.other=0)&&XN (x.by_=0)&& !x.always&&XN (x.n=0)):=by exact Rt
def ga9(h:x.kind=4):dw m x=(aF x.item m.items.length&&aF x.other m.items.length&& !XN (x.item=x.other)&&XN (x.by_=0)&& !x.always&&XN (x.ms=[])&&XN (x.n=0)):=by exact Rt
def gb0(h:x.kind=5):dw m x=(XN (x.item=0)&&qy x&&aE x.n 0 200):=by exact R7
def gb1(h:x.kind=6):dw m x=(aF x.item m.items.length&&qy x&&aE x.n 0 16):=by exact R7
end
def R8{n:Int}{k:Nat}(h:aF n k=XR):1<=n:=by simp[aF,aE]at h;exact h.1
def M6{n:Int}{k:Nat}(h:aF n k=XR):n<=k:=by simp[aF,aE]at h;exact h.2
def gb2{m:aU}{n:Int}{y:fq}(h:m.items[(n - 1).toNat]?=XL y):rr m n=y.kind:=by unfold rr;rw[h];rfl
def gb3(m:aU)(v:MV)(x:cF)(o:XP)(w:XO)(hv:m.In w w v)(ho:aS w w o x.ms):
 aR 174 #[Zr (m.cells v),Zr (x.vals o)] w (Zp (dw m x)):=by
 obtain⟨A,n,c,rfl,hn,hc,fQ⟩:=ho.sk.form;refine sV λSa sc hs bZ bL Fa fc bS bM cj Ra rc hr cd cZ Ma mc hm cr co La lc hl cW dh Ia ic hi dg d' Ua uc hu dm dr HS=>?_;have zw:=aj λW(Z:Below w w W)=>by4 m v (Zk A n c) x.ms W (hv.to Z (ar _) Z.size) ((ho.below Z (ar _)).more Z.size);rw[HS.o]at zw;have yz:=hv.is;rw[hi]at yz;have kI:=aj yz;have z:=aj (show XN (x.ms=[])=XN (n=0)by rw[<-hn,Yf];simp);obtain⟨pl,Iv⟩:∃q,qy x=q:=⟨_,rfl⟩;have F:=aj (show pl=(XN (x.other=0)&&XN (x.by_=0)&& !x.always&&XN (n=0))by rw[<-Iv,qy,z.o]);have C:=aj Iv;obtain⟨it,hit⟩:∃q,aF x.item m.items.length=q:=⟨_,rfl⟩;obtain⟨b2,au⟩:∃q,aF x.other m.items.length=q:=⟨_,rfl⟩;obtain⟨b3,aM⟩:∃q,fF m x.ms=q:=⟨_,rfl⟩;have em:=aj hit;have gT:=aj au;have rU:=aj aM;rw[HS.o,cF.vals_def];go_enter func174,ntmps174;go_upto_region 1 with(fail)
 refine ez (λW=>Below w w W/\af W w.heap.size #[Zk Sa m.sites.length sc,Zk Fa m.feeds.length fc,Zk Ra m.racks.length rc,Zk Ma m.machs.length mc,Zk La m.links.length lc,Zk Ia m.items.length ic,m.dark,m.slots,m.reserve,m.failures,Zk Ua m.rules.length uc] 29/\af W (w.heap.size+1) #[x.kind,x.item,x.other,x.n,x.by_,Zp x.always,Zk A n c] 88) ⟨ak (ak (am w) _) _,ai (cR w _) (ak (am _) _),Gm w _ _⟩ ?_;intro W1 ⟨bc,dU,Y⟩;have ba:=aj bc;have iI:=aj dU;have lJ:=aj Y;obtain⟨a0,a1,a2,a3,a4,a5,a6,a7,a8,a9,cN⟩:=bQ dU;obtain⟨x0,x1,x2,x3,x4,x5,x6⟩:=gM Y;have a_:=blk_lt Y;obtain⟨xb,fe⟩:∃q,w.heap.size+1=q:=⟨_,rfl⟩;rw[fe]at lJ x0 x1 x2 x3 x4 x5 x6⊢
 obtain⟨al,uN⟩:∃q,x.always=q:=⟨_,rfl⟩;rw[uN]at x5 F lJ;have D:=aj uN;go_upto_region 2 with
  (go_at_call 175;refine rN ?_;rintro e w3 ⟨rfl,hw⟩;obtain rfl:=hw.symm;first|rw[em.o]|rw[gT.o])
 go_cut [6] (λq wx=>q=Zp pl/\W1=wx)
 case first=>
  by_cases ho:x.other=0
  .have eo:(x.other==0)=true:=by simp[ho]
   by_cases j:x.by_=0
   .have eb:(x.by_==0)=true:=by simp[j]
    cases al with
    |true=>have HZ:=aj (show pl=XQ by rw[F.o];simp);exact M7
    |false=>
     by_cases X:n=0
     .have en:((n:Int)==0)=true:=by simp[X]
      have HZ:=aj (show pl=XR by rw[F.o];simp[ho,j,X]);exact M7
     .have en:((n:Int)==0)=false:=by simp[X]
      have HZ:=aj (show pl=XQ by rw[F.o];simp[X]);exact M7
   .have eb:(x.by_==0)=false:=by simp[j]
    have HZ:=aj (show pl=XQ by rw[F.o];simp[j]);exact M7
  .have eo:(x.other==0)=false:=by simp[ho]
   have HZ:=aj (show pl=XQ by rw[F.o];simp[ho]);exact M7
 case rest=>
 obtain⟨rfl,rfl⟩:=hcut;by_cases k0:x.kind=0
 .skip
  have e0:(x.kind==0)=true:=by simp[k0]
  have HR:=aj (ga5 m k0);try rw[em.o]at HR
  try rw[gT.o]at HR
  try rw[rU.o]at HR
  try rw[C.o]at HR
  try rw[z.o]at HR
  try rw[D.o]at HR
  cases it with
  |false=>exact Ng
  |true=>
   have eC:=R8 em.o;have bh:=M6 em.o;obtain⟨y,hy⟩:∃y,m.items[(x.item - 1).toNat]?=XL y:=⟨_,XT Zv⟩;have df4:=aj (gb2 hy);obtain⟨b,o,cs,rfl,j,_,⟨yo,rfl,_⟩,bo⟩:=kI.at_ hy;have e1:=(ba.cell (p:=⟨b,o+(x.item - 1).toNat*7+1,XM⟩) j).t (bo 1 _ rfl);rw[show(x.item - 1).toNat=x.item.toNat - 1 by omega]at e1;have q1:IntKind.i64.wrap (x.item - 1)=x.item - 1:=Yr _ Zv;have q3:(0:Int)<=x.item - 1:=Zv;have q4:x.item - 1<m.items.length:=Zv;rw[df4.o]at HR;by_cases V:y.kind=0
   .have ey:(y.kind==0)=true:=by simp[V]
    have S7:=aj (show XN (y.kind=0)=XR by simp[V]);rw[S7.o]at HR;cases pl with
    |false=>exact Ng
    |true=>exact Ng
   .have ey:(y.kind==0)=false:=by simp[V]
    have S7:=aj (show XN (y.kind=0)=XQ by simp[V]);rw[S7.o]at HR;cases pl with
    |false=>exact Ng
    |true=>exact Ng
 .have e0:(x.kind==0)=false:=by simp[k0]
  have K0:=aj k0;by_cases k1:x.kind=1
  .skip
   have e1:(x.kind==1)=true:=by simp[k1]
   have HR:=aj (ga6 m k1);try rw[em.o]at HR
   try rw[gT.o]at HR
   try rw[rU.o]at HR
   try rw[C.o]at HR
   try rw[z.o]at HR
   try rw[D.o]at HR
   obtain⟨c0,gq⟩:∃q,aE x.n 0 16=q:=⟨_,rfl⟩;rw[gq]at HR;have ul:=aj gq;cases it with
   |false=>exact wn
   |true=>exact wn
  .have e1:(x.kind==1)=false:=by simp[k1]
   have K1:=aj k1;by_cases G:x.kind=2
   .skip
    have e2:(x.kind==2)=true:=by simp[G]
    have HR:=aj (ga7 m G);try rw[em.o]at HR
    try rw[gT.o]at HR
    try rw[rU.o]at HR
    try rw[C.o]at HR
    try rw[z.o]at HR
    try rw[D.o]at HR
    obtain⟨c0,gq⟩:∃q,aE x.by_ 2 4=q:=⟨_,rfl⟩;rw[gq]at HR;have ul:=aj gq;obtain⟨c1,br⟩:∃q,aE x.n 0 16=q:=⟨_,rfl⟩;rw[br]at HR;have Ef:=aj br;cases it with
    |false=>exact wn
    |true=>exact wn
   .have e2:(x.kind==2)=false:=by simp[G]
    have K2:=aj G;by_cases I:x.kind=3
    .skip
     have e3:(x.kind==3)=true:=by simp[I]
     have HR:=aj (ga8 m I);try rw[em.o]at HR
     try rw[gT.o]at HR
     try rw[rU.o]at HR
     try rw[C.o]at HR
     try rw[z.o]at HR
     try rw[D.o]at HR
     cases it with
     |false=>
      cases b3 with
      |false=>exact Ru
      |true=>exact Ru
     |true=>
      cases b3 with
      |false=>exact Ru
      |true=>exact Ru
    .have e3:(x.kind==3)=false:=by simp[I]
     have K3:=aj I;by_cases J:x.kind=4
     .skip
      have e4:(x.kind==4)=true:=by simp[J]
      have HR:=aj (ga9 m J);try rw[em.o]at HR
      try rw[gT.o]at HR
      try rw[rU.o]at HR
      try rw[C.o]at HR
      try rw[z.o]at HR
      try rw[D.o]at HR
      cases it with
      |false=>
       cases b2 with
       |false=>exact wn
       |true=>exact wn
      |true=>
       cases b2 with
       |false=>exact wn
       |true=>exact wn
     .have e4:(x.kind==4)=false:=by simp[J]
      have K4:=aj J;by_cases O:x.kind=5
      .skip
       have e5:(x.kind==5)=true:=by simp[O]
       have HR:=aj (gb0 m O);try rw[em.o]at HR
       try rw[gT.o]at HR
       try rw[rU.o]at HR
       try rw[C.o]at HR
       try rw[z.o]at HR
       try rw[D.o]at HR
       obtain⟨c0,gq⟩:∃q,aE x.n 0 200=q:=⟨_,rfl⟩;rw[gq]at HR;have ul:=aj gq;exact wn
      .have e5:(x.kind==5)=false:=by simp[O]
       have K5:=aj O;by_cases U:x.kind=6
       .skip
        have e6:(x.kind==6)=true:=by simp[U]
        have HR:=aj (gb1 m U);try rw[em.o]at HR
        try rw[gT.o]at HR
        try rw[rU.o]at HR
        try rw[C.o]at HR
        try rw[z.o]at HR
        try rw[D.o]at HR
        obtain⟨c0,gq⟩:∃q,aE x.n 0 16=q:=⟨_,rfl⟩;rw[gq]at HR;have ul:=aj gq;cases it with
        |false=>
         cases pl with
         |false=>exact wn
         |true=>exact wn
        |true=>
         cases pl with
         |false=>exact wn
         |true=>exact wn
       .have e6:(x.kind==6)=false:=by simp[U]
        have K6:=aj U;have HR:=aj (bb5 m x (by rintro⟨h1,h2⟩;have:=K0.o;have:=K1.o;have:=K2.o;have:=K3.o;have:=K4.o;have:=K5.o;have:=K6.o;omega));go_wp2_with first
         |(go_at_call 175;refine rN ?_;rintro e w3 ⟨rfl,hw⟩;obtain rfl:=hw.symm;first|rw[em.o]|rw[gT.o])
        go_ret;exact⟨cD HR.symm,ba⟩
def gb4{n a b:Int}(h:aE n a b=XR):a<=n:=by simp[aE]at h;exact h.1
def gb5{n a b:Int}(h:aE n a b=XR):n<=b:=by simp[aE]at h;exact h.2
def cc2{c:Nat->Bool}{n k:Nat}{b:Bool}(j:b=eV c n)(y:k<n)(h:c k=XQ):b=false:=by rw[j];exact wj y h
def cc3{c:Nat->Bool}{n:Nat}{b:Bool}(y:b=eV c n)(h:∀j,j<n->c j=XR):b=true:=by rw[y];exact AU h
def gb6{m:aU}(h:fO m=XR):m.sites.length<=4/\m.feeds.length<=16/\m.racks.length<=16/\m.machs.length<=16/\m.links.length<=12:=by unfold fO at h;simp only[XW,decide_eq_true_eq]at h;obtain⟨⟨⟨⟨⟨⟨⟨h1,h2⟩,h3⟩,h4⟩,h5⟩,_⟩,_⟩,_⟩:=h;have:=M6 h1;have:=M6 h4;omega
def cc4(m:aU)(v:MV)(w:XO)(hv:m.In w w v):
 aR 66 #[Zr (m.cells v)] w (Zp (ew m)):=by
 refine sV λSa sc hs bZ bL Fa fc bS bM cj Ra rc hr cd cZ Ma mc hm cr co La lc hl cW dh Ia ic hi dg d' Ua uc hu dm dr HS=>?_;have Z:=aj hv;have iP:=aj λW(y:Below w w W)=>ft9 m v W (Z.to y (ar _) y.size);rw[HS.o]at iP;have yz:=hv.is;rw[hi]at yz;have IB:=hv.us;rw[hu]at IB;have kI:=aj yz;have xX:=aj IB;have HO:Hid (ew m=(fO m&&XN (m.items.length<=8)&&XN (m.rules.length<=40)&&aF m.dark m.sites.length&&aE m.slots 1 16&&aE m.reserve 0 (m.slots - 1)&&aE m.failures 0 7&&pz (dp m)&&m.items.all (dV m)&&m.rules.all (dw m))):=aj rfl;generalize ew m=r at HO⊢
 obtain⟨so,V_⟩:∃q,fO m=q:=⟨_,rfl⟩;obtain⟨no,sA⟩:∃q,pz (dp m)=q:=⟨_,rfl⟩;obtain⟨ex,wX⟩:∃q,aF m.dark m.sites.length=q:=⟨_,rfl⟩;obtain⟨v1,fS⟩:∃q,aE m.slots 1 16=q:=⟨_,rfl⟩;obtain⟨v2,k_⟩:∃q,aE m.reserve 0 (m.slots - 1)=q:=⟨_,rfl⟩;obtain⟨v3,B4⟩:∃q,aE m.failures 0 7=q:=⟨_,rfl⟩;obtain⟨ia,Vi⟩:∃q,m.items.all (dV m)=q:=⟨_,rfl⟩;obtain⟨ra,V4⟩:∃q,m.rules.all (dw m)=q:=⟨_,rfl⟩;rw[V_,sA,wX,fS,k_,B4,Vi,V4]at HO;have Bk:=aj (show ia=eV (kg m.items (dV m)) m.items.length by rw[<-Vi,Z5]);have iH:=aj (show ra=eV (kg m.rules (dw m)) m.rules.length by rw[<-V4,Z5]);have zm:=aj λk x(h:m.items[k]?=XL x)=>(fW h:kg m.items (dV m) k=dV m x);have NC:=aj λk x(h:m.rules[k]?=XL x)=>(fW h:kg m.rules (dw m) k=dw m x);generalize kg m.items (dV m)=F1 at Bk zm;generalize kg m.rules (dw m)=F2 at iH NC;have I:=aj V_;have X:=aj sA;have bq1:=aj wX;have uz:=aj fS;have uB:=aj k_;have wJ:=aj B4;have gR:m.items.length<=9223372036854775807:=bC dg d';have lC:m.rules.length<=9223372036854775807:=bC dm dr;rw[HS.o];go_enter func66,ntmps66;go_upto_region 1 with(fail)
 refine df ?_;intro W1 ⟨bc,Y⟩;have ba:=aj bc;have F:=aj Y;have uX:=blk_lt Y;obtain⟨a0,a1,a2,a3,a4,a5,a6,a7,a8,a9,cN⟩:=bQ Y;cases so with
 |false=>
  go_wp2_with first
   |(go_at_call 171;refine AJ ?_;rintro e w2 ⟨rfl,au⟩;rw[I.o];have co:=ai F au;obtain⟨b0,b1,b2,b3,b4,b5,b6,b7,b8,b9,x'⟩:=bQ co;refine va λaX=>?_;have C:=aj au)
  go_ret;exact⟨cD Kt,aX⟩
 |true=>
  have fi:=gb6 I.o;by_cases q8:m.items.length<=8;rotate_left
  .have hh9:(8:Int)<(m.items.length:Int):=by omega
   have H8:=aj (show XN (m.items.length<=8)=XQ by simp;omega);go_wp2_with first
    |(go_at_call 171;refine AJ ?_;rintro e w2 ⟨rfl,au⟩;rw[I.o];have co:=ai F au;obtain⟨b0,b1,b2,b3,b4,b5,b6,b7,b8,b9,x'⟩:=bQ co;refine va λaX=>?_;have C:=aj au)
    |(go_at_call 172;refine(V w2 aX).r λw3 z=>?_;rw[X.o];have J:=aj (aq C z))
   go_ret;exact⟨cD (by rw[HO.o,H8.o];simp),aX⟩
  have hh9:¬(8:Int)<(m.items.length:Int):=Zv;have V:=aj λW(y:Below w w W)=>gf1 m v W (Z.to y (ar _) y.size) Zv Zv Zv Zv Zv;rw[HS.o]at V;have H8:=aj (show XN (m.items.length<=8)=XR by simp;omega);rw[H8.o]at HO;by_cases O:m.rules.length<=40;rotate_left
  .have hh8:(40:Int)<(m.rules.length:Int):=by omega
   have Sp:=aj (show XN (m.rules.length<=40)=XQ by simp;omega);go_wp2_with first
    |(go_at_call 171;refine AJ ?_;rintro e w2 ⟨rfl,au⟩;rw[I.o];have co:=ai F au;obtain⟨b0,b1,b2,b3,b4,b5,b6,b7,b8,b9,x'⟩:=bQ co;refine va λaX=>?_;have C:=aj au)
    |(go_at_call 172;refine(V w2 aX).r λw3 z=>?_;rw[X.o];have J:=aj (aq C z))
   go_ret;exact⟨cD (by rw[HO.o,Sp.o];simp),aX⟩
  have hh8:¬(40:Int)<(m.rules.length:Int):=Zv;have Sp:=aj (show XN (m.rules.length<=40)=XR by simp;omega);rw[Sp.o]at HO;cases no with
  |false=>
   go_wp2_with first
    |(go_at_call 171;refine AJ ?_;rintro e w2 ⟨rfl,au⟩;rw[I.o];have co:=ai F au;obtain⟨b0,b1,b2,b3,b4,b5,b6,b7,b8,b9,x'⟩:=bQ co;refine va λaX=>?_;have C:=aj au)
    |(go_at_call 172;refine(V w2 aX).r λw3 z=>?_;rw[X.o];have J:=aj (aq C z))
   go_ret;exact⟨cD Kt,aq ba J⟩
  |true=>
   go_wp2_with first
    |(go_at_call 171;refine AJ ?_;rintro e w2 ⟨rfl,au⟩;rw[I.o];have co:=ai F au;obtain⟨b0,b1,b2,b3,b4,b5,b6,b7,b8,b9,x'⟩:=bQ co;refine va λaX=>?_;have C:=aj au)
    |(go_at_call 172;refine(V w2 aX).r λw3 z=>?_;rw[X.o];have J:=aj (aq C z))
   go_loopw [3] (λi wr=>∃k:Nat,k<=m.items.length/\i=ah k/\(∀j,j<k->F1 j=XR)/\Below W1 W1 wr) (λi _=>m.items.length - (X8 i).toNat)
   case atStart=>exact⟨0,bU _,rfl,λj hj=>by omega,J⟩
   case round=>
    obtain⟨k,hk,rfl,bA,hB⟩:=hrel;have gi:=aj bA;have HB:=aj hB;refine oV λbq=>?_;have dG:=ai F hB;have cf:=ag (o:=5) dG rfl;by_cases A:k<m.items.length
    .obtain⟨eC,bh⟩:=dt A;obtain⟨x,hx⟩:=jd A;have D:=aj ((zm k x hx:F1 k=dV m x));obtain⟨b,o,cs,rfl,hb,_,⟨yo,rfl,LJ,_⟩,bo⟩:=kI.at_ hx;have G:=aj λW(y:Below w w W)=>ga4 m v x yo W (Z.to y (ar _) y.size) ((LJ.below y (ar _)).more y.size);rw[HS.o,fq.vals_def]at G;refine cc5 λe0 e1 e2 e3 e4 e5 e6=>?_;simp only[Nat.add_zero]at e0;refine cc6 λcU=>?_;obtain⟨b1,aC⟩:∃q,dV m x=q:=⟨_,rfl⟩;have U:=aj aC;rw[aC]at D;cases b1 with
     |false=>
      have HR:=aj (cc2 Bk A D);go_upto_region 6 with(fail)
      refine eT (S:=Below wr wr) 8 8 (aW (am wr)) λhS=>?_;iterate 6 refine da 8 32 ?_
      refine bt 6 λK hK=>?_;go_simp;refine(G _ (aq bq hS)).r λw4 aV=>?_;rw[U.o];try go_simp
      refine Ct λhS=>?_;refine aH ?_;refine ke 7 39 ?_;exact JH
     |true=>
      have lf:=aj (show F1 k=XR from D);go_upto_region 6 with(fail)
      refine eT (S:=Below wr wr) 8 8 (aW (am wr)) λhS=>?_;iterate 6 refine da 8 32 ?_
      refine bt 6 λK hK=>?_;go_simp;refine(G _ (aq bq hS)).r λw4 aV=>?_;rw[U.o];try go_simp
      refine Ct λhS=>?_;refine aH ?_;refine ke 7 39 ?_;exact R9
    .have bh:=eS A;have Hitems:=aj (cc3 Bk λj hj=>gi j (by omega));go_wp2_with fail
     go_loopw [4] (λi wr=>∃k:Nat,k<=m.rules.length/\i=ah k/\(∀j,j<k->F2 j=XR)/\Below W1 W1 wr) (λi _=>m.rules.length - (X8 i).toNat)
     case atStart=>exact⟨0,bU _,rfl,λj hj=>by omega,HB⟩
     case round=>
      obtain⟨k,hk,rfl,bA,hB⟩:=hrel;have gi:=aj bA;have HB:=aj hB;refine oV λbq=>?_;have dG:=ai F hB;have cf:=ag (o:=10) dG rfl;by_cases A:k<m.rules.length
      .obtain⟨eC,bh⟩:=dt A;obtain⟨x,hx⟩:=jd A;have D:=aj ((NC k x hx:F2 k=dw m x));obtain⟨b,o,cs,rfl,hb,_,⟨yo,rfl,LJ,_⟩,bo⟩:=xX.at_ hx;have G:=aj λW(y:Below w w W)=>gb3 m v x yo W (Z.to y (ar _) y.size) ((LJ.below y (ar _)).more y.size);rw[HS.o,cF.vals_def]at G;refine cc5 λe0 e1 e2 e3 e4 e5 e6=>?_;simp only[Nat.add_zero]at e0;refine cc6 λcU=>?_;obtain⟨b1,aC⟩:∃q,dw m x=q:=⟨_,rfl⟩;have U:=aj aC;rw[aC]at D;cases b1 with
       |false=>
        have HR:=aj (cc2 iH A D);go_upto_region 11 with(fail)
        refine eT (S:=Below wr wr) 8 8 (aW (am wr)) λhS=>?_;iterate 6 refine da 8 47 ?_
        refine bt 6 λK hK=>?_;go_simp;refine(G _ (aq bq hS)).r λw4 aV=>?_;rw[U.o];try go_simp
        refine Ct λhS=>?_;refine aH ?_;refine ke 7 54 ?_;exact JH
       |true=>
        have lf:=aj (show F2 k=XR from D);go_upto_region 11 with(fail)
        refine eT (S:=Below wr wr) 8 8 (aW (am wr)) λhS=>?_;iterate 6 refine da 8 47 ?_
        refine bt 6 λK hK=>?_;go_simp;refine(G _ (aq bq hS)).r λw4 aV=>?_;rw[U.o];try go_simp
        refine Ct λhS=>?_;refine aH ?_;refine ke 7 54 ?_;exact R9
      .have bh:=eS A;have Hrules:=aj (cc3 iH λj hj=>gi j (by omega));obtain⟨g0,g1,g2,g3,g4,g5,g6,g7,g8,g9,C6⟩:=bQ dG;cases ex with
       |false=>exact R_
       |true=>
        cases v1 with
        |false=>exact R_
        |true=>
         have bZ:=gb4 uz.o;have bL:=gb5 uz.o;have q1:IntKind.i64.wrap (m.slots - 1)=m.slots - 1:=Yr _ Zv;cases v2 with
         |false=>exact R_
         |true=>
          have HR:=aj (show r=v3 by rw[HO.o,Hitems.o,Hrules.o];simp);go_wp2_with first
           |(go_at_call 175;refine rN ?_;rintro e w3 ⟨rfl,hw⟩;obtain rfl:=hw.symm;rw[bq1.o])
           |(go_at_call 176;refine(Gn _ _ _ _).r λw3 hw=>?_;obtain rfl:=hw.symm;first|rw[uz.o]|rw[uB.o]|rw[wJ.o])
          go_ret;exact⟨cD HR.symm,bq⟩
end
end Go.Proofs.YtihhpjmclebfpaaGreatDoor
