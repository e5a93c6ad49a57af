/- A part of the proof. -/
import Derived.Test.YtihhpjmclebfpaaGreatDoorQbn
import Derived.Test.YtihhpjmclebfpaaGreatDoorQbo
import Derived.Test.YtihhpjmclebfpaaGreatDoorQbp
set_option linter.defProp false
set_option linter.unusedVariables false
set_option linter.unusedSimpArgs false
set_option maxRecDepth 100000
set_option maxHeartbeats 32000000
open Option renaming some->XL,none->XM
open Decidable renaming decide->XN
open Go renaming World->XO,Value->XP,Calls->X4,TypeId->Ya,maxLen->Yd,Oper->YO,Addr->Zf,Program->Zh
open Bool renaming false->XQ,true->XR
open Go.Lib renaming itoa->XS
open And renaming intro->XU
open Go.RowKit renaming Hid->XV
open Go.Proofs renaming intOf->X8
open Go.Proofs.Tryz renaming prog->X3,underlying179->YW,underlying22->Zo
open Go.Value renaming int->X1,string->X2,slice->Zk,bool->Zp,agg->Zr
open Nat renaming mul_le_mul_left->Zi
open Go.IntKind renaming i64->Yo
open Go.Instr renaming lookup->Yu
open Go.Region renaming Mode->Y4
open Go.Obj renaming cells->Zq
open Go.Operand renaming tmp->Zt
namespace Go.Proofs.YtihhpjmclebfpaaGreatDoor
open Go Go.RowKit Go.Proofs.Tryz
section
open Go.MapKept
def Gl(i:Nat):ay:=[mR,fN,ga].getD i []
def uZ(n:Nat):Nat->List ay
 |0=>[]
 |k+1=>uZ n k++if n / 2^k%2=1 then[Gl k]else[]
def JF(n:Nat):∀k,(uZ n k).length<=k
 |0=>ar _
 |k+1=>by have:=JF n k;show(uZ n k++_).length<=_;rw[X0];split<;>simp<;>omega
def gd1(k:Nat):(Gl k).length<=7:=by
 match k with
 |0=>decide
 |1=>decide
 |2=>decide
 |k+3=>simp[Gl]
def R0(n:Nat):∀k,∀x∈uZ n k,x.length<=7
 |0,x,h=>by cases h
 |k+1,x,h=>by
  rcases List.mem_append.1 h with h|h
  .exact R0 n k x h
  .split at h
   .rw[List.mem_singleton]at h;subst h;exact gd1 k
   .cases h
def bx2(n:Nat):xC n=eQ (uZ n 3):=by simp[xC,uZ,Gl]
def gd2:∀n:Fin 8,∀k:Fin 3,(bits .and .i64 ((n.1:Int) / 2^k.1) 1==1)=XN (n.1 / 2^k.1%2=1):=aD
def gd3(n:Nat)(Z:n<=7)(w:XO):aR 246 #[n] w (X2 (bs (xC n))):=by
 obtain⟨i0,hi,cA,a_,bd⟩:=Y0 FH;have I:=aj Z;go_enter func246,ntmps246;go_upto_region 3 with(fail)
 refine df ?_;intro A ⟨G,hx⟩;have J:=aj G;have V:=aj hx;go_loopw [3,8] (λs i wr=>∃k:Nat,k<=3/\i=ah k/\bR wr A s ((uZ n k).map bs)/\Below A A wr) (λ_ i _=>3 - (X8 i).toNat)
 case atStart=>exact⟨0,bU _,rfl,bR.nil_ _ _,am _⟩
 case round=>
  obtain⟨k,hk,rfl,bD,hb⟩:=hrel;have z:=aj bD;have D:=aj hb;obtain⟨c0,c1,c2⟩:=IV (ai V hb);by_cases C:k<3
  .have hI:=WG C;have ck:wr.cell? ⟨w,k,none⟩=some (.string (bs (Gl k))):=by
    match k,C with
    |0,_=>exact c0
    |1,_=>exact c1
    |2,_=>exact c2
   have F:=gd2 ⟨n,by have:=I.o;omega⟩ ⟨k,C⟩;dsimp only at F;have y:=aj (show uZ n (k+1)=uZ n k++(if n / 2^k%2=1 then[Gl k]else[])from rfl);by_cases j:n / 2^k%2=1
   .rw[decide_eq_true j]at F;rw[if_pos j]at y;go_wp2_with(at_builtin;refine wpList_append_own _ rfl (.tmp 18) (.tmp 20) _ rfl A.heap.size 9 i0 _ 1 16 underlying22 hi cA a_ bd rfl (by decide) _ _ _ rfl (z.alloc _) ⟨wr,0,none⟩ 1 1 [.string (bs (Gl k))] rfl rfl (cell_one_new _ _ _) (PT _) (by simp[maxLen];have:=JF n k;omega) (by simp;have:=JF n k;omega) (bC D.size (by simp)) ?_;intro v' w3 ii Y _)
    refine⟨⟨k+1,by omega,by go_num,?_,(z.below (ak (am _) _)).grown (ak D _) Y⟩,by simp[X8];omega⟩;rw[y.o,Yp];exact bR.snoc ii
   .rw[decide_eq_false j]at F;rw[if_neg j,List.append_nil]at y;go_wp2_with fail
    exact⟨⟨k+1,by omega,by go_num,by rw[y.o];exact z,D⟩,by simp[X8];omega⟩
  .have hI:=eS C;have e:k=3:=by omega
   subst e;have O:=aj (bx2 n);have U:=aj (bj8 u3 (uZ n 3) wr (bR.slS z));go_wp2_with(go_at_call 239;refine(U (by have:=JF n 3;omega) (by have h:=JD [44,32] 7 _ (R0 n 3);have:=JF n 3;have:(7+2)*(uZ n 3).length<=(7+2)*3:=Zi _ this;exact bC h (by show(7+2)*_<=_;omega))).r λw2 X=>?_)
   go_ret;exact⟨by rw[O.o];rfl,aq J (aq D X)⟩
def bx3{w:XO}{ops:Array YO}{rest:List YO}{o:YO}{a:Act}{Q:Exit->Act->XO->Prop}(F:o.guard=XM)(s x:Operand)
 (ho:o.op= .call {callee:= .builtin .append,args:= #[s,x],argTypes:= #[22,22]})(base B:Nat)(v u:XP)(l c:List ay)
 (D:a.eval s=v)(hx:a.eval x=u)(j:bR w base v (l.map bs))(I:bg w B u c)(y:l.length+c.length<=1000000)(G:base<=w)
 (h:∀v' w',bR w' base v' ((l++c).map bs)->w.grownBy w' v.ownBlock->wpList X3 ops Q rest (a.put o.dst v') w'):wpList X3 ops Q (o::rest) a w:=
 wpList_plain F λ_ C=>bx0 s x ho base B v u l c D hx j I y G λv' w' z A=>C _ _ (h v' w' z A)
def gd4(v:XP)(l:List ay)(w:XO)(h:bg w w v l)(y:l.length<=1000000):X4 X3 234 #[v] w (fY w (l.map bs)):=by
 obtain⟨A,n,c,rfl,hn,_⟩:=h.sk.form;have H:=aj h;have D:=aj y;have j:∀(A:Option Zf)(w:XO),(binOp .eql 22 (Zk A n c) (Zk XM 0 0)).run X3 w= .ok (Zp A.isNone) w:=λA w=>by cases A<;>kernel_rfl
 cases A with
 |none=>
  have j:=j XM;have G:l=[]:=by refine Classical.byContradiction λF=>?_;obtain⟨_,_,e,_,_,h3⟩:=h;injection e with e;obtain⟨b,o,e',_⟩:=h3 (by simpa using F);rw[e']at e;cases e
  subst G;go_enter func234,ntmps234;go_wp2_with fail
  go_ret;exact⟨_,rfl,bR.nil_ _ _,am _⟩
 |some ad=>
  have j:=j (XL ad);have z:bR (w.alloc (Zq #[] 9)) w (Zk (XL (w 0 XM)) 0 0) (([]:List ay).map bs):=World.ownsRow_made w #[] 0 (ar _) fH rfl;have C:=aj z;go_enter func234,ntmps234;go_wp2_with(at_builtin;refine bx3 rfl (Zt 5) (Zt 6) rfl w.heap.size w.heap.size _ _ [] l rfl rfl C (H.below (ak (am w) _) (ar _)) (by have:=D.o;simp;omega) Zy ?_;intro v' O I J)
  go_ret;exact⟨_,rfl,I,AI C (ak (am w) _) (ar _) J⟩
section
variable {d:aG} {rv nv:XP} {w:XO}
def gd5(h:kU d rv nv w)(y:d.by_<=7):
 X4 X3 245 #[Zr #[d.kind,bs d.name,rv,nv,d.by_,Zp d.always]] w (fY w ([xC d.by_].map bs)):=by
 have C:=aj h;have A:=aj (gd3 d.by_ y);go_enter func245,ntmps245;go_upto_region 1 with(fail)
 refine df ?_;intro W1 ⟨z,hx⟩;have j:=aj z;have HX:=aj hx;refine FI λcU=>?_;obtain⟨x0,x1,x2,x3,x4,x5⟩:=dy HX.o;go_wp2_with(go_at_call 246;refine(A _).r λD c=>?_)
 go_ret;exact⟨_,rfl,bR.lits _ (l:=[_]) (aq j c).size Zy Zy,ak (aq j c) _⟩
def gd6{l:List Nat}{k n:Nat}(r:List ay)(h:l[k]?=XL n):(r++(l.take (k+1)).map λn=>XS (n:Nat))=(r++(l.take k).map λn=>XS (n:Nat))++[XS (n:Nat)]:=by rw[YE,h,Yp,Yi];rfl
def M5(h:kU d rv nv w):
 X4 X3 233 #[Zr #[d.kind,bs d.name,rv,nv,d.by_,Zp d.always]] w (fY w ((ka d).map bs)):=by
 have j:=aj h;obtain⟨NA,nn,nc,rfl,cS,_⟩:=h.n.sk.form;rw[XY]at cS;have HN:=aj cS;have Z:nn<=4:=by have:=h.nl;omega
 obtain⟨i0,hi,cA,a_,bd⟩:=Y0 FH;go_enter func233,ntmps233;go_upto_region 1 with(fail)
 refine df ?_;intro W1 ⟨C,hx⟩;have ba:=aj C;have HX:=aj hx;refine FI λcU=>?_;obtain⟨x0,x1,x2,x3,x4,x5⟩:=dy HX.o;go_wp2_with(go_at_call 234;refine(gd4 rv d.refs _ (j.later ba).r (by have:=j.rl;omega)).q λw2 u D z=>?_;have I:=aj D;have O:=aj z;have X:=aj (ai HX z);obtain⟨y0,y1,y2,y3,y4,y5⟩:=dy X)
 go_loopw [3,11] (λs i wr=>∃k:Nat,k<=nn/\i=ah k/\bR wr W1 s ((d.refs++(d.nums.take k).map λn=>XS (n:Nat)).map bs)/\Below W1 W1 wr) (λ_ i _=>nn - (X8 i).toNat)
 case atStart=>exact⟨0,bU _,rfl,by simpa using I.o,O⟩
 case round=>
  obtain⟨k,hk,rfl,bD,hb⟩:=hrel;have HO:=aj bD;have bB:=aj hb;obtain⟨z0,z1,z2,z3,z4,z5⟩:=dy (ai HX hb);by_cases ap:k<nn
  .have hI:=WG ap;obtain⟨n,hn⟩:=iT HN ap;have G:=aj (gd6 d.refs hn);have J:=aj ((j.later (aq ba bB)).num hn);have F:=aj (show(d.refs++(d.nums.take k).map λn=>Lib.itoa (n:Nat)).length<=100 by have:=j.rl;simp;omega)
   go_wp2_with(first
    |(go_at_call 235;refine J.r λY y=>?_;have A:=HO.below y)
    |(at_builtin;refine YV _ rfl (Zt 14) (Zt 18) _ rfl W1.heap.size 9 i0 _ 1 16 Zo hi cA a_ bd rfl aD _ _ _ rfl (A.alloc _) (Y 0 XM) 1 1 [X2 (bs (XS (n:Nat)))] rfl rfl (cell_one_new _ _ _) (PT _) (by have:=F.o;simp[Yd]at this⊢;omega) (by have:=F.o;simp at this⊢;omega) (bC bB.size (by have:=y.size;simp;omega)) ?_;intro v' w4 V U _))
   refine⟨⟨k+1,by omega,by go_num,?_,(A.below (ak (am _) _)).grown (ak (aq bB y) _) U⟩,by simp[X8];omega⟩;rw[G.o,Yp];exact bR.snoc V
  .exact ZZ
def gd7(h:kU d rv nv w)(pb:Nat)(D:ae w pb (.func (.func 233) #[] #[])):
 X4 X3 247 #[Zr #[d.kind,bs d.name,rv,nv,d.by_,Zp d.always],az pb] w (fY w ((if d.always then ka d++[dT]else ka d).map bs)):=by
 have G:=aj h;have U:(ka d).length<=100:=by have:=h.rl;have:=h.nl;simp[ka];omega
 have V:=aj U;have mg:=bY _ _ D;have X:=aj D;obtain⟨C,uN⟩:∃C,d.always=C:=⟨_,rfl⟩;have A:=aj λW(h:kU d rv nv W)=>M5 h;rw[uN]at A⊢
 simp only[az];go_enter func247,ntmps247;go_upto_region 1 with(fail)
 refine df ?_;intro W1 ⟨O,hx⟩;have j:=aj O;have HX:=aj hx;refine FI λcU=>?_;obtain⟨x0,x1,x2,x3,x4,x5⟩:=dy HX.o;have cp:=kc j X.o;cases C with
 |false=>
  go_wp2_with(go_at_call 233;refine(A _ (G.later j)).q λF u z y=>?_)
  go_ret;exact⟨u,rfl,vZ z j.size,aq j y⟩
 |true=>
  go_wp2_with first
   |(go_at_call 233;refine(A _ (G.later j)).q λF u z y=>?_;have I:=aj z;have J:=aj y)
   |(at_builtin;refine bx3 rfl (Zt 8) (Zt 9) rfl W1.heap.size (F+1) _ _ (ka d) [dT] rfl rfl (I.below (ak (am _) _)) (bR.slS (base:=0) (bR.lits F (l:=[bs dT]) (bU _) Zy Zy) |>.more Zy) (by have:=V.o;simp;omega) (bC J.size Zy) ?_;intro v' w4 Z Y)
  go_ret;exact⟨v',rfl,vZ Z j.size,aq j (bR.grown (I.below (ak (am _) _)) (ak J _) Y)⟩
def gd8(h:kU d rv nv w)(a:ay)(ha:d.refs[0]?=XL a)(z:2<=d.refs.length):
 X4 X3 251 #[Zr #[d.kind,bs d.name,rv,nv,d.by_,Zp d.always]] w (fY w ([a,eK,eQ d.refs.tail].map bs)):=by
 obtain⟨RA,rn,rc,rfl,dz,_⟩:=h.r.sk.form;obtain⟨rb,ro,rfl,bk,c0⟩:=h.r.cell ha;have C:0<rn:=EE;rw[X7]at c0;have C0:=aj c0;have j:=aj h;have c:=aj (λW(A:Below w w W)=>(by have y:=be6 Zv dz ((h.later A).r);rwa [List.drop_one]at y:bg W W (Zk (XL (rb (ro+1) XM)) (rn - 1) (rc - 1)) d.refs.tail));have D:(1:Int)<=rn:=Zv;have F:(rn:Int)<=rn:=Zv;have G:¬rc=1:=Zv;go_enter func251,ntmps251;go_upto_region 1 with(fail)
 refine df ?_;intro W1 ⟨hB,hx⟩;have ba:=aj hB;have HX:=aj hx;refine M3 λq0 cU=>?_;refine M4 λhS=>?_;refine cQ 0 3 ?_;refine cQ 1 4 ?_;refine cQ 2 5 ?_;refine cQ 3 6 ?_;refine cQ 4 7 ?_;refine cQ 5 8 ?_;refine cQ 6 9 ?_;refine fg 7 λK hK=>?_;go_simp;refine((j.later (aq ba hS)).list d.refs.tail _ (c _ (aq ba hS)) (by have:=j.rl;simp;omega) λx hx=>List.mem_of_mem_tail hx).r λI au=>?_;try go_simp
 refine sY λhS=>?_;refine aH ?_;exact bv6
end
def rO(d:aG)(rv nv:XP)(w:XO)(hG:iC w)(A:kU d rv nv w)(hv:bK d=XR)(L:List ay)(wd:ay)(y:Nat)(F G I O:Nat)(D C:Bool)(cap args:Nat->Array XP)(ef:d_ y)
 (hf:∀pb,yU pb d.kind=XL (Zr #[bs wd,Zp D,G,I,O,.func (.func F) #[] #[],Zp C,.func (.func y) #[] (cap pb)]))(hw:wd.length<=100)(hL:L.length<=100)(z:∀x∈L,x.length<=1000)
 (ht:∀pb W,Below w w W->W.heap[pb]?=XL (Zq #[.func (.func 233) #[] #[]] 176 (0,0))->X4 X3 y (args pb) W (fY W (L.map bs)))
 (UL:∀pb,args pb= #[Zr #[d.kind,bs d.name,rv,nv,d.by_,Zp d.always]]++cap pb):
 aR 47 #[Zr #[d.kind,bs d.name,rv,nv,d.by_,Zp d.always]] w (X2 (bs (wd++[32]++c_ [32] L++[59]))):=by
 simp only[UL]at ht;clear UL;have lH:=aj (λW=>ae6 W);have HF:=aj hf;have HT:=aj ht;have HV:=aj (λW(hW:Below w w W)=>bn6 d rv nv W (hG.step hW) (A.later hW).r (A.later hW).n);rw[hv]at HV;have U:=aj (show(c_ [32] L).length<=1000000 from bC (JD [32] 1000 L z) (by have:(1000+1)*L.length<=(1000+1)*100:=Zi _ hL;show(1000+1)*_<=_;omega));have HL:=aj hL;have hi9:(bs wd).size=wd.length:=rfl;have WB:(bs (c_ [32] L)).size=(c_ [32] L).length:=rfl;have z0:¬9223372036854775807<(bs wd).size+1:=Zv;have z1:¬9223372036854775807<(bs wd).size+1+(bs (c_ [32] L)).size:=by have:=U.o;omega
 have z2:¬9223372036854775807<(bs wd).size+1+(bs (c_ [32] L)).size+1:=by have:=U.o;omega
 have HE:=aj (show bs wd++⟨#[32]⟩++bs (c_ [32] L)++⟨#[59]⟩=bs (wd++[32]++c_ [32] L++[59])from rfl);obtain⟨RA,rn,rc,rfl,_⟩:=A.r.sk.form;obtain⟨NA,nn,nc,rfl,_⟩:=A.n.sk.form;unfold d_ at ef;clear hf ht hG A hv hL z hw hi9 WB;go_enter func47,ntmps47;go_upto_region 1 with(fail)
 refine df ?_;intro W0 ⟨jE,pj⟩;have uj:=aj jE;have Y:=aj pj;obtain⟨x0,x1,x2,x3,x4,x5⟩:=dy pj;clear jE pj;go_upto_region 3 with(go_at_call 139;refine(HV _ uj).m ?_;rintro e W1 ⟨rfl,X⟩)
 have bc:=aq uj X;have cX:=ai Y X;refine MY λq0 a_ cA=>?_;have ba:=aj bc;have lJ:=aj cX;clear bc cX X x0 x1 x2 x3 x4 x5;go_cut [3] (λp wx=>∃Z pb,p=az Z/\Below W1 W1 wx/\af wx Z #[bs wd,Zp D,G,I,O,.func (.func F) #[] #[],Zp C,.func (.func y) #[] (cap pb)] 178/\af wx pb #[.func (.func 233) #[] #[]] 176)
 case first=>
  rename_i J K' hJ iV;have HJ:=aj hJ;have vH:=aj iV;clear hJ iV;go_region_held3 (λw'=>ae w' w (ah d.kind)) (go_simp)
   (first
     |(go_at_call 140;refine(lH _).m ?_;rintro e w2 ⟨M1,pb,rfl,hM,mf,mg,au⟩;have hF:=HF pb;refine IN λaZ=>?_;have lB:(Instr.lookup 179 (.map (some M1)) (.int .i64 d.kind) false).run prog w2= .ok (.agg #[.string (bs wd),.bool D,.int .i64 G,.int .i64 I,.int .i64 O,.func (.func F) #[] #[],.bool C,.func (.func y) #[] (cap pb)]) w2:=by have h:=sU (P:=prog) underlying179 underlying3 cJ hM (d.kind:Int) false (zeroValue178 _);rw[hF]at h;exact h
       have gD:∀o,(Yu 179 (.map (XL M1)) (ah d.kind) XQ).run X3 (w2.alloc o)= .ok (Zr #[bs wd,Zp D,G,I,O,.func (.func F) #[] #[],Zp C,.func (.func y) #[] (cap pb)]) (w2.alloc o):=λo=>by have h:=sU (P:=X3) YW XZ cJ (hM.later (ak (am w2) o)) (d.kind:Int) XQ (zeroValue178 _);rw[hF]at h;exact h
       have c0:=kc aZ q0;obtain⟨i',BO⟩:=oQ au;try(have ij:W1.heap.size<w2:=by(have hq:=au.size;simp at hq;omega))
       refine QR λbd gJ j_=>?_;have V:=aj mg;have Tf:=aj mf;clear hM au mg mf))
  all_goals
   dsimp only[Exit.then];refine vH _ _ (Met.intro (HJ _ _ ?_))
   (repeat apply Exists.intro)
   refine⟨?_,rfl⟩
  .exact⟨w2.heap.size,pb,rfl,ak aZ _,Yy w2 _,ai V (ak (am w2) _)⟩
  .exact⟨w2.heap.size,pb,rfl,ak aZ _,Yy w2 _,ai V (ak (am w2) _)⟩
  .have mf:W1.heap.size+1<=pb:=by have:=Tf.o;simpa using this
   have j:¬pb=W1.heap.size:=Zv;refine⟨W1.heap.size,pb,rfl,?_,?_,?_⟩
   .repeat' first|with_reducible exact aZ|with_reducible refine cV ?_ (ar _) _
   .exact bx4
   .exact mT (mT (mT (mT (mT (mT (mT (mT V j) j) j) j) j) j) j) j
 case rest=>
  obtain⟨Z,pb,rfl,aZ,p9,vT⟩:=hcut;have aX:=aj aZ;have Te:=aj vT;have cU:=aj (λW(h:Below wc wc W)=>XU (dy (ai lJ (aq aZ h))) (XD (ai p9 h)));clear aZ p9 vT q0;simp only[az];go_upto_region 4 with(fail)
  refine tz (S:=λw'=>Below wc wc w') 11 CX λhS=>?_;iterate 6 refine oO 11 11 ?_
  refine fg 6 λK hK=>?_;go_simp;refine(HT pb _ (aq ba (aq aX hS)) (ai Te hS)).m ?_;rintro e w2 ⟨u,rfl,hu,au⟩;have HU:=aj hu;try go_simp
  refine sY λhS=>?_;clear hK hu;refine aH ?_;refine fg 7 λK hK=>?_;go_simp;refine(ad1 [32] u L w2 (bR.slS HU) (by have:=HL.o;omega) U).m ?_;rintro e w3 ⟨rfl,aM⟩;try go_simp
  refine hK _ _ (aq hS aM) λhS=>?_;clear hK;refine aH ?_;refine cQ 8 19 ?_;refine cQ 9 20 ?_;refine cQ 10 2 ?_;refine rY ?_;go_upto_region 9 with(fail)
  go_ret;exact⟨by rw[<-HE.o];rfl,aq ba (aq aX hS)⟩
def kU.of{d:aG}{rv nv:XP}{w:XO}(h:dd w)(y:bg w w rv d.refs)(j:aS w w nv (d.nums.map λx:Nat=>(x:Int)))(c:bK d=XR):kU d rv nv w:=
 ⟨h,y,j,(F3 c).2.1,(mX c).2.2.1,(mX c).2.2.2.1,(F3 c).1⟩
def R3(n:Nat)(h:n<=1048576):(XS (n:Nat)).length<=21:=Lib.itoa_length_le _ Zv Zv
def gd9{d:aG}(h:bK d=XR):(b_ d).length<=100/\∀x∈b_ d,x.length<=1000:=by
 obtain⟨hr,hn,fG,_⟩:=F3 h;have j:=mX h;have a1:d.name.length<=1000:=Zv;have a2:∀i,(im d i).length<=1000:=λi=>by exact bx5
 have a3:∀i,(nw d i).length<=1000:=λi=>by
  unfold nw;rw[X9];cases e:d.nums[i]? with
  |none=>exact bC (R3 0 Zv) Zv
  |some x=>exact bC (R3 x (hn x (eE e))) Zv
 have y:∀l:List ay,l.length<=17->(∀x∈l,x∈d.refs)->(eQ l).length<=1000:=λl j hm=>by have z:(eQ l).length<=(31+2)*l.length:=JD [44,32] 31 l λx hx=>hr x (hm x hx);have:(31+2)*l.length<=(31+2)*17:=Zi _ j;omega
 have a5:=y d.refs j.2.2.1 λ_ h=>h;have a6:=y (d.refs.drop 1) (by rw[Ym];omega) λx hx=>Y6 hx;have a7:(xC d.by_).length<=1000:=by rw[bx2];have z:(eQ (uZ d.by_ 3)).length<=(7+2)*(uZ d.by_ 3).length:=JD [44,32] 7 _ (R0 d.by_ 3);have:(7+2)*(uZ d.by_ 3).length<=(7+2)*3:=Zi _ (JF d.by_ 3);omega
 have a8:(ua d.by_).length<=1000:=by exact bx7
 have a9:(ka d).length<=90/\∀x∈ka d,x.length<=1000:=by
  unfold ka;refine⟨by simp;omega,λx hx=>?_⟩;rcases List.mem_append.1 hx with hx|hx
  .have:=hr x hx;omega
  .obtain⟨n,iE,rfl⟩:=List.mem_map.1 hx;exact bC (R3 n (hn n iE)) Zv
 exact bx8
def ge0(d:aG)(rv nv:XP)(w:XO)(C:iC w)(Y:bg w w rv d.refs)(X:aS w w nv (d.nums.map λx:Nat=>(x:Int)))(A:bK d=XR):
 aR 47 #[Zr #[d.kind,bs d.name,rv,nv,d.by_,Zp d.always]] w (X2 (bs (cH d))):=by
 have j:=kU.of C.g Y X A;obtain⟨hL,hx⟩:=gd9 A;have Z:=(mX A).1;obtain⟨k,fk⟩:∃k,d.kind=k:=⟨_,rfl⟩;have F:∀pb,yU pb d.kind=XL (oU pb k):=λpb=>by rw[fk];exact bn0 pb Zv
 obtain⟨f1,f2,f3,f4⟩:=bf5 A fk Zv;have O:∀i,i<d.refs.length->∃a,d.refs[i]?=XL a:=λi h=>⟨_,XT h⟩;have I:∀i,i<d.nums.length->∃a,d.nums[i]?=XL a:=λi h=>⟨_,XT h⟩;rcases oJ (show k<=16 by omega)with rfl|rfl|rfl|rfl|rfl|rfl|rfl|rfl|rfl|rfl|rfl|rfl|rfl|rfl|rfl|rfl|rfl<;>simp only[pL]at f1 f2 f3
 .skip
  have fi:b_ d=[d.name]:=Kq;have z:∀(pb:Nat)(W:XO),Below w w W->W.heap[pb]?=XL (Zq #[.func (.func 233) #[] #[]] 176 (0,0))->X4 X3 232 #[Zr #[d.kind,bs d.name,rv,nv,d.by_,Zp d.always]] W (fY W ((b_ d).map bs)):=λpb W y D=>by rw[fi];exact bk0 (j.later y)
  rw[show cH d=kr++[32]++c_ [32] (b_ d)++[59]from by unfold cH;rw[fk];rfl];exact rO d rv nv w C j A (b_ d) kr 232 231 0 0 0 XR XQ (λpb=> #[]) (λpb=> #[Zr #[d.kind,bs d.name,rv,nv,d.by_,Zp d.always]]) (XX func232 aI rfl) F aD hL hx z (λpb=>by simp)
 .skip
  have fi:b_ d=[d.name]:=Kq;have z:∀(pb:Nat)(W:XO),Below w w W->W.heap[pb]?=XL (Zq #[.func (.func 233) #[] #[]] 176 (0,0))->X4 X3 232 #[Zr #[d.kind,bs d.name,rv,nv,d.by_,Zp d.always]] W (fY W ((b_ d).map bs)):=λpb W y D=>by rw[fi];exact bk0 (j.later y)
  rw[show cH d=ga++[32]++c_ [32] (b_ d)++[59]from by unfold cH;rw[fk];rfl];exact rO d rv nv w C j A (b_ d) ga 232 231 0 0 0 XR XQ (λpb=> #[]) (λpb=> #[Zr #[d.kind,bs d.name,rv,nv,d.by_,Zp d.always]]) (XX func232 aI rfl) F aD hL hx z (λpb=>by simp)
 .obtain⟨a,ha⟩:=O 0 (by omega);obtain⟨b,hb⟩:=O 1 (by omega);have fi:b_ d=[d.name,ll,a,eK,b]:=by first|(simp only[b_,fk,qh ha,qh hb];done)|(simp only[b_,fk,qh ha,qh hb];rfl)
  have z:∀(pb:Nat)(W:XO),Below w w W->W.heap[pb]?=XL (Zq #[.func (.func 233) #[] #[]] 176 (0,0))->X4 X3 236 #[Zr #[d.kind,bs d.name,rv,nv,d.by_,Zp d.always]] W (fY W ((b_ d).map bs)):=λpb W y D=>by rw[fi];exact fv8 (j.later y) a b ha hb
  rw[show cH d=fN++[32]++c_ [32] (b_ d)++[59]from by unfold cH;rw[fk];rfl];exact rO d rv nv w C j A (b_ d) fN 236 231 2 2 0 XR XQ (λpb=> #[]) (λpb=> #[Zr #[d.kind,bs d.name,rv,nv,d.by_,Zp d.always]]) (XX func236 aI rfl) F aD hL hx z (λpb=>by simp)
 .obtain⟨a,ha⟩:=O 0 (by omega);obtain⟨G,h0⟩:=I 0 (by omega);have fi:b_ d=[d.name,ll,a,qN,Lib.itoa (G:Nat)]:=by first|(simp only[b_,fk,qh ha,kz h0];done)|(simp only[b_,fk,qh ha,kz h0];rfl)
  have z:∀(pb:Nat)(W:XO),Below w w W->W.heap[pb]?=XL (Zq #[.func (.func 233) #[] #[]] 176 (0,0))->X4 X3 237 #[Zr #[d.kind,bs d.name,rv,nv,d.by_,Zp d.always]] W (fY W ((b_ d).map bs)):=λpb W y D=>by rw[fi];exact fv9 (j.later y) a ha G h0
  rw[show cH d=mR++[32]++c_ [32] (b_ d)++[59]from by unfold cH;rw[fk];rfl];exact rO d rv nv w C j A (b_ d) mR 237 231 1 1 1 XR XQ (λpb=> #[]) (λpb=> #[Zr #[d.kind,bs d.name,rv,nv,d.by_,Zp d.always]]) (XX func237 aI rfl) F aD hL hx z (λpb=>by simp)
 .skip
  refine Rq λfi=>?_;have z:∀(pb:Nat)(W:XO),Below w w W->W.heap[pb]?=XL (Zq #[.func (.func 233) #[] #[]] 176 (0,0))->X4 X3 233 #[Zr #[d.kind,bs d.name,rv,nv,d.by_,Zp d.always]] W (fY W ((b_ d).map bs)):=λpb W y D=>by rw[fi];exact M5 (j.later y)
  rw[show cH d=PG++[32]++c_ [32] (b_ d)++[59]from by unfold cH;rw[fk];rfl];exact rO d rv nv w C j A (b_ d) PG 233 231 2 2 1 XQ XQ (λpb=> #[]) (λpb=> #[Zr #[d.kind,bs d.name,rv,nv,d.by_,Zp d.always]]) (XX func233 aI rfl) F aD hL hx z (λpb=>by simp)
 .obtain⟨G,h0⟩:=I 0 (by omega);obtain⟨J,h1⟩:=I 1 (by omega);obtain⟨U,h2⟩:=I 2 (by omega);have fi:b_ d=[d.name,eK,eQ d.refs]++[iJ,Lib.itoa (G:Nat),iL,Lib.itoa (J:Nat),iK,Lib.itoa (U:Nat)]:=by first|(simp only[b_,fk,pu,Nat.zero_add,Nat.reduceAdd,kz h0,kz h1,kz h2];done)|(simp only[b_,fk,pu,Nat.zero_add,Nat.reduceAdd,kz h0,kz h1,kz h2];rfl)
  have z:∀(pb:Nat)(W:XO),Below w w W->W.heap[pb]?=XL (Zq #[.func (.func 233) #[] #[]] 176 (0,0))->X4 X3 238 #[Zr #[d.kind,bs d.name,rv,nv,d.by_,Zp d.always]] W (fY W ((b_ d).map bs)):=λpb W y D=>by rw[fi];exact fw4 (j.later y) G J U h0 h1 h2
  rw[show cH d=P2++[32]++c_ [32] (b_ d)++[59]from by unfold cH;rw[fk];rfl];exact rO d rv nv w C j A (b_ d) P2 238 231 1 16 3 XR XQ (λpb=> #[]) (λpb=> #[Zr #[d.kind,bs d.name,rv,nv,d.by_,Zp d.always]]) (XX func238 aI rfl) F aD hL hx z (λpb=>by simp)
 .obtain⟨c,hc⟩:=I 0 (by omega);obtain⟨G,h0⟩:=I 1 (by omega);obtain⟨J,h1⟩:=I 2 (by omega);obtain⟨U,h2⟩:=I 3 (by omega);have fi:b_ d=[d.name,Lib.itoa (c:Nat),eK,eQ d.refs]++[iJ,Lib.itoa (G:Nat),iL,Lib.itoa (J:Nat),iK,Lib.itoa (U:Nat)]:=by first|(simp only[b_,fk,pu,Nat.zero_add,Nat.reduceAdd,kz hc,kz h0,kz h1,kz h2];done)|(simp only[b_,fk,pu,Nat.zero_add,Nat.reduceAdd,kz hc,kz h0,kz h1,kz h2];rfl)
  have z:∀(pb:Nat)(W:XO),Below w w W->W.heap[pb]?=XL (Zq #[.func (.func 233) #[] #[]] 176 (0,0))->X4 X3 241 #[Zr #[d.kind,bs d.name,rv,nv,d.by_,Zp d.always]] W (fY W ((b_ d).map bs)):=λpb W y D=>by rw[fi];exact fw5 (j.later y) c hc G J U h0 h1 h2
  rw[show cH d=PJ++[32]++c_ [32] (b_ d)++[59]from by unfold cH;rw[fk];rfl];exact rO d rv nv w C j A (b_ d) PJ 241 231 1 16 4 XR XQ (λpb=> #[]) (λpb=> #[Zr #[d.kind,bs d.name,rv,nv,d.by_,Zp d.always]]) (XX func241 aI rfl) F aD hL hx z (λpb=>by simp)
 .obtain⟨a,ha⟩:=O 0 (by omega);obtain⟨G,h0⟩:=I 0 (by omega);obtain⟨J,h1⟩:=I 1 (by omega);obtain⟨U,h2⟩:=I 2 (by omega);have fi:b_ d=[d.name,eK,a]++[iJ,Lib.itoa (G:Nat),iL,Lib.itoa (J:Nat),iK,Lib.itoa (U:Nat)]:=by first|(simp only[b_,fk,pu,Nat.zero_add,Nat.reduceAdd,qh ha,kz h0,kz h1,kz h2];done)|(simp only[b_,fk,pu,Nat.zero_add,Nat.reduceAdd,qh ha,kz h0,kz h1,kz h2];rfl)
  have z:∀(pb:Nat)(W:XO),Below w w W->W.heap[pb]?=XL (Zq #[.func (.func 233) #[] #[]] 176 (0,0))->X4 X3 242 #[Zr #[d.kind,bs d.name,rv,nv,d.by_,Zp d.always]] W (fY W ((b_ d).map bs)):=λpb W y D=>by rw[fi];exact fw3 (j.later y) a ha G J U h0 h1 h2
  rw[show cH d=PE++[32]++c_ [32] (b_ d)++[59]from by unfold cH;rw[fk];rfl];exact rO d rv nv w C j A (b_ d) PE 242 231 1 1 3 XR XQ (λpb=> #[]) (λpb=> #[Zr #[d.kind,bs d.name,rv,nv,d.by_,Zp d.always]]) (XX func242 aI rfl) F aD hL hx z (λpb=>by simp)
 .obtain⟨a,ha⟩:=O 0 (by omega);obtain⟨G,h0⟩:=I 0 (by omega);obtain⟨J,h1⟩:=I 1 (by omega);have fi:b_ d=[a,qP,Lib.itoa (G:Nat),qO,Lib.itoa (J:Nat)]:=by first|(simp only[b_,fk,qh ha,kz h0,kz h1];done)|(simp only[b_,fk,qh ha,kz h0,kz h1];rfl)
  have z:∀(pb:Nat)(W:XO),Below w w W->W.heap[pb]?=XL (Zq #[.func (.func 233) #[] #[]] 176 (0,0))->X4 X3 243 #[Zr #[d.kind,bs d.name,rv,nv,d.by_,Zp d.always]] W (fY W ((b_ d).map bs)):=λpb W y D=>by rw[fi];exact fw0 (j.later y) a ha G J h0 h1
  rw[show cH d=PZ++[32]++c_ [32] (b_ d)++[59]from by unfold cH;rw[fk];rfl];exact rO d rv nv w C j A (b_ d) PZ 243 231 1 1 2 XQ XQ (λpb=> #[]) (λpb=> #[Zr #[d.kind,bs d.name,rv,nv,d.by_,Zp d.always]]) (XX func243 aI rfl) F aD hL hx z (λpb=>by simp)
 .have V:d.by_<=7:=by simp[DG]at f4;omega
  have fi:b_ d=[xC d.by_]:=Kq;have z:∀(pb:Nat)(W:XO),Below w w W->W.heap[pb]?=XL (Zq #[.func (.func 233) #[] #[]] 176 (0,0))->X4 X3 245 #[Zr #[d.kind,bs d.name,rv,nv,d.by_,Zp d.always]] W (fY W ((b_ d).map bs)):=λpb W y D=>by rw[fi];exact gd5 (j.later y) V
  rw[show cH d=P1++[32]++c_ [32] (b_ d)++[59]from by unfold cH;rw[fk];rfl];exact rO d rv nv w C j A (b_ d) P1 245 244 0 0 0 XQ XQ (λpb=> #[]) (λpb=> #[Zr #[d.kind,bs d.name,rv,nv,d.by_,Zp d.always]]) (XX func245 aI rfl) F aD hL hx z (λpb=>by simp)
 .skip
  refine Rq λfi=>?_;have z:∀(pb:Nat)(W:XO),Below w w W->W.heap[pb]?=XL (Zq #[.func (.func 233) #[] #[]] 176 (0,0))->X4 X3 233 #[Zr #[d.kind,bs d.name,rv,nv,d.by_,Zp d.always]] W (fY W ((b_ d).map bs)):=λpb W y D=>by rw[fi];exact M5 (j.later y)
  rw[show cH d=PK++[32]++c_ [32] (b_ d)++[59]from by unfold cH;rw[fk];rfl];exact rO d rv nv w C j A (b_ d) PK 233 231 1 1 0 XQ XQ (λpb=> #[]) (λpb=> #[Zr #[d.kind,bs d.name,rv,nv,d.by_,Zp d.always]]) (XX func233 aI rfl) F aD hL hx z (λpb=>by simp)
 .skip
  have fi:b_ d=if d.always then ka d++[dT]else ka d:=Kq
  have z:∀(pb:Nat)(W:XO),Below w w W->W.heap[pb]?=XL (Zq #[.func (.func 233) #[] #[]] 176 (0,0))->X4 X3 247 #[Zr #[d.kind,bs d.name,rv,nv,d.by_,Zp d.always],az pb] W (fY W ((b_ d).map bs)):=λpb W y D=>by rw[fi];exact gd7 (j.later y) pb (ag D rfl)
  rw[show cH d=PF++[32]++c_ [32] (b_ d)++[59]from by unfold cH;rw[fk];rfl];exact rO d rv nv w C j A (b_ d) PF 247 231 1 1 1 XQ XR (λpb=> #[az pb]) (λpb=> #[Zr #[d.kind,bs d.name,rv,nv,d.by_,Zp d.always],az pb]) (XX func247 aI rfl) F aD hL hx z (λpb=>by simp)
 .obtain⟨a,ha⟩:=O 0 (by omega);obtain⟨G,h0⟩:=I 0 (by omega);have fi:b_ d=[a,qK,Cs d.by_,Lib.itoa (G:Nat)]:=by first|(simp only[b_,fk,qh ha,kz h0];done)|(simp only[b_,fk,qh ha,kz h0];rfl)
  have z:∀(pb:Nat)(W:XO),Below w w W->W.heap[pb]?=XL (Zq #[.func (.func 233) #[] #[]] 176 (0,0))->X4 X3 250 #[Zr #[d.kind,bs d.name,rv,nv,d.by_,Zp d.always]] W (fY W ((b_ d).map bs)):=λpb W y D=>by rw[fi];exact fw2 (j.later y) a ha G h0
  rw[show cH d=PM++[32]++c_ [32] (b_ d)++[59]from by unfold cH;rw[fk];rfl];exact rO d rv nv w C j A (b_ d) PM 250 248 1 1 1 XQ XQ (λpb=> #[]) (λpb=> #[Zr #[d.kind,bs d.name,rv,nv,d.by_,Zp d.always]]) (XX func250 aI rfl) F aD hL hx z (λpb=>by simp)
 .obtain⟨a,ha⟩:=O 0 (by omega);have fi:b_ d=[a,eK,eQ d.refs.tail]:=by first|(simp only[b_,fk,qh ha,List.drop_one];done)|(simp only[b_,fk,qh ha,List.drop_one];rfl)
  have z:∀(pb:Nat)(W:XO),Below w w W->W.heap[pb]?=XL (Zq #[.func (.func 233) #[] #[]] 176 (0,0))->X4 X3 251 #[Zr #[d.kind,bs d.name,rv,nv,d.by_,Zp d.always]] W (fY W ((b_ d).map bs)):=λpb W y D=>by rw[fi];exact gd8 (j.later y) a ha Zv
  rw[show cH d=PH++[32]++c_ [32] (b_ d)++[59]from by unfold cH;rw[fk];rfl];exact rO d rv nv w C j A (b_ d) PH 251 231 2 17 0 XQ XQ (λpb=> #[]) (λpb=> #[Zr #[d.kind,bs d.name,rv,nv,d.by_,Zp d.always]]) (XX func251 aI rfl) F aD hL hx z (λpb=>by simp)
 .obtain⟨a,ha⟩:=O 0 (by omega);obtain⟨b,hb⟩:=O 1 (by omega);have fi:b_ d=[a,qJ,b]:=by first|(simp only[b_,fk,qh ha,qh hb];done)|(simp only[b_,fk,qh ha,qh hb];rfl)
  have z:∀(pb:Nat)(W:XO),Below w w W->W.heap[pb]?=XL (Zq #[.func (.func 233) #[] #[]] 176 (0,0))->X4 X3 252 #[Zr #[d.kind,bs d.name,rv,nv,d.by_,Zp d.always]] W (fY W ((b_ d).map bs)):=λpb W y D=>by rw[fi];exact fw1 (j.later y) a b ha hb
  rw[show cH d=PI++[32]++c_ [32] (b_ d)++[59]from by unfold cH;rw[fk];rfl];exact rO d rv nv w C j A (b_ d) PI 252 231 2 2 0 XQ XQ (λpb=> #[]) (λpb=> #[Zr #[d.kind,bs d.name,rv,nv,d.by_,Zp d.always]]) (XX func252 aI rfl) F aD hL hx z (λpb=>by simp)
 .skip
  refine Rq λfi=>?_;have z:∀(pb:Nat)(W:XO),Below w w W->W.heap[pb]?=XL (Zq #[.func (.func 233) #[] #[]] 176 (0,0))->X4 X3 233 #[Zr #[d.kind,bs d.name,rv,nv,d.by_,Zp d.always]] W (fY W ((b_ d).map bs)):=λpb W y D=>by rw[fi];exact M5 (j.later y)
  rw[show cH d=P0++[32]++c_ [32] (b_ d)++[59]from by unfold cH;rw[fk];rfl];exact rO d rv nv w C j A (b_ d) P0 233 231 0 0 1 XQ XQ (λpb=> #[]) (λpb=> #[Zr #[d.kind,bs d.name,rv,nv,d.by_,Zp d.always]]) (XX func233 aI rfl) F aD hL hx z (λpb=>by simp)
 .skip
  refine Rq λfi=>?_;have z:∀(pb:Nat)(W:XO),Below w w W->W.heap[pb]?=XL (Zq #[.func (.func 233) #[] #[]] 176 (0,0))->X4 X3 233 #[Zr #[d.kind,bs d.name,rv,nv,d.by_,Zp d.always]] W (fY W ((b_ d).map bs)):=λpb W y D=>by rw[fi];exact M5 (j.later y)
  rw[show cH d=PL++[32]++c_ [32] (b_ d)++[59]from by unfold cH;rw[fk];rfl];exact rO d rv nv w C j A (b_ d) PL 233 231 1 1 1 XQ XQ (λpb=> #[]) (λpb=> #[Zr #[d.kind,bs d.name,rv,nv,d.by_,Zp d.always]]) (XX func233 aI rfl) F aD hL hx z (λpb=>by simp)
def wt{α:Type}{l:List α}(h:l.length=1):∃a,l=[a]:=by
 match l,h with
 |[a],_=>exact⟨a,rfl⟩
def Ry{α:Type}{l:List α}(h:l.length=2):∃a b,l=[a,b]:=by
 match l,h with
 |[a,b],_=>exact⟨a,b,rfl⟩
def bz5{α:Type}{l:List α}(h:l.length=3):∃a b c,l=[a,b,c]:=by
 match l,h with
 |[a,b,c],_=>exact⟨a,b,c,rfl⟩
def gk9{α:Type}{l:List α}(h:l.length=4):∃a b c d,l=[a,b,c,d]:=by
 match l,h with
 |[a,b,c,d],_=>exact⟨a,b,c,d,rfl⟩
def Sh(n:Nat)(h:n<=1048576):(XS (n:Nat)).length<=21:=Lib.itoa_length_le _ Zv Zv
def gl0{d:aG}(h:bK d=XR):(b_ d).length<=100/\∀x∈b_ d,x.length<=1000:=by
 obtain⟨hr,hn,fG,_⟩:=F3 h;have j:=mX h;have a1:d.name.length<=1000:=Zv;have a2:∀i,(im d i).length<=1000:=λi=>by exact bx5
 have a3:∀i,(nw d i).length<=1000:=λi=>by
  unfold nw;rw[X9];cases e:d.nums[i]? with
  |none=>exact bC (Sh 0 Zv) Zv
  |some x=>exact bC (Sh x (hn x (eE e))) Zv
 have y:∀l:List ay,l.length<=17->(∀x∈l,x∈d.refs)->(eQ l).length<=1000:=λl j hm=>by have z:(eQ l).length<=(31+2)*l.length:=F5 31 l λx hx=>hr x (hm x hx);have:(31+2)*l.length<=(31+2)*17:=Zi _ j;omega
 have a5:=y d.refs j.2.2.1 λ_ h=>h;have a6:=y (d.refs.drop 1) (by rw[Ym];omega) λx hx=>Y6 hx;have a7:(xC d.by_).length<=1000:=by have:=ga2 d.by_;rw[eM]at this;omega
 have a8:(ua d.by_).length<=1000:=by exact bx7
 have a9:(ka d).length<=90/\∀x∈ka d,x.length<=1000:=by
  unfold ka;refine⟨by simp;omega,λx hx=>?_⟩;rcases List.mem_append.1 hx with hx|hx
  .have:=hr x hx;omega
  .obtain⟨n,iE,rfl⟩:=List.mem_map.1 hx;exact bC (Sh n (hn n iE)) Zv
 exact bx8
def gg1(d:aG)(rv nv:XP)(W:XO)(j:bg W W rv d.refs)(y:aS W W nv (d.nums.map λx:Nat=>(x:Int)))(I:bK d=XR):
 aR 181 #[Zr #[d.kind,bs d.name,rv,nv,d.by_,Zp d.always]] W (X2 (bs (c_ [32] (b_ d)))):=by
 obtain⟨p1,p2,p3,p4⟩:=F3 I;have O:=(mX I).1;obtain⟨k,fk⟩:∃k,d.kind=k:=⟨_,rfl⟩;obtain⟨f1,f2,f3,f4⟩:=bf5 I fk Zv;have G:∃A n c,rv=Zk A n c:=by obtain⟨A,n,c,h,_⟩:=j.sk.form;exact⟨A,n,c,h⟩
 have F:∃A n c,nv=Zk A n c:=by obtain⟨A,n,c,h,_⟩:=y.form;exact⟨A,n,c,h⟩
 have key:∀t,iS k d.name rv nv d.by_ d.always W t->bs (c_ [32] (b_ d))=t->aR 181 #[Zr #[d.kind,bs d.name,rv,nv,d.by_,Zp d.always]] W (X2 (bs (c_ [32] (b_ d)))):=λt h e=>by rw[e,fk];exact h
 have C:∀l:List ay,d.refs=l->∀x∈l,x.length<=31:=λl h=>h▸p1;have D:∀l:List Nat,d.nums=l->∀x∈l,x<=1048576:=λl h=>h▸p2;rcases oJ (show k<=16 by omega)with rfl|rfl|rfl|rfl|rfl|rfl|rfl|rfl|rfl|rfl|rfl|rfl|rfl|rfl|rfl|rfl|rfl<;>simp only[pL]at f1 f2 f3
 .exact key _ (gi8 d.name rv nv d.by_ d.always W G F) TB
 .exact key _ (gi9 d.name rv nv d.by_ d.always W G F) TB
 .obtain⟨a,b,hR⟩:=Ry (show d.refs.length=2 by omega);have q:=C _ hR;rw[hR]at j;exact key _ (gj0 d.name a b rv nv d.by_ d.always W j F ⟨p3,q a Zy,q b Zy⟩) Tz
 .obtain⟨a,hR⟩:=wt (show d.refs.length=1 by omega);obtain⟨n0,hN⟩:=wt f3;have q:=C _ hR;rw[hR]at j;have z:=D _ hN;rw[hN]at y;exact key _ (gj1 d.name a n0 rv nv d.by_ d.always W j y ⟨p3,q a Zy,z n0 Zy⟩) ED
 .obtain⟨a,b,hR⟩:=Ry (show d.refs.length=2 by omega);obtain⟨n0,hN⟩:=wt f3;have q:=C _ hR;rw[hR]at j;have z:=D _ hN;rw[hN]at y;exact key _ (gj2 d.name a b n0 rv nv d.by_ d.always W j y ⟨q a Zy,q b Zy,z n0 Zy⟩) ED
 .obtain⟨n0,n1,n2,hN⟩:=bz5 f3;have z:=D _ hN;rw[hN]at y;exact key _ (gj3 d.name d.refs n0 n1 n2 rv nv d.by_ d.always W j y ⟨p3,z n0 Zy,z n1 Zy,z n2 Zy,f2,p1⟩) cg4
 .obtain⟨n0,n1,n2,n3,hN⟩:=gk9 f3;have z:=D _ hN;rw[hN]at y;exact key _ (gj5 d.name d.refs n0 n1 n2 n3 rv nv d.by_ d.always W j y ⟨p3,z n0 Zy,z n1 Zy,z n2 Zy,z n3 Zy,f2,p1⟩) cg4
 .obtain⟨a,hR⟩:=wt (show d.refs.length=1 by omega);obtain⟨n0,n1,n2,hN⟩:=bz5 f3;have q:=C _ hR;rw[hR]at j;have z:=D _ hN;rw[hN]at y;exact key _ (gj4 d.name [a] n0 n1 n2 rv nv d.by_ d.always W j y ⟨p3,z n0 Zy,z n1 Zy,z n2 Zy,by simp,q⟩) (by simp[fU,b_,fk,im,nw,ka,pu,rZ,c_,ll,eK,qN,iJ,iL,iK,qP,qO,dT,qK,qJ,eQ,hR,hN])
 .obtain⟨a,hR⟩:=wt (show d.refs.length=1 by omega);obtain⟨n0,n1,hN⟩:=Ry f3;have q:=C _ hR;rw[hR]at j;have z:=D _ hN;rw[hN]at y;exact key _ (gj6 d.name a n0 n1 rv nv d.by_ d.always W j y ⟨q a Zy,z n0 Zy,z n1 Zy⟩) ED
 .exact key _ (gk6 d.name rv nv d.by_ d.always W G F ((by simp[DG]at f4;omega))) TB
 .obtain⟨a,hR⟩:=wt (show d.refs.length=1 by omega);have hN:d.nums=[]:=List.length_eq_zero_iff.1 f3;have q:=C _ hR;rw[hR]at j;exact key _ (gj7 d.name a rv nv d.by_ d.always W j F (q a Zy)) ED
 .obtain⟨a,hR⟩:=wt (show d.refs.length=1 by omega);obtain⟨n0,hN⟩:=wt f3;have q:=C _ hR;rw[hR]at j;have z:=D _ hN;rw[hN]at y;have J:∃b,d.always=b:=⟨_,rfl⟩;obtain⟨b,hb⟩:=J;cases b
  .exact key _ (by rw[hb];exact gj9 d.name a n0 rv nv d.by_ W j y ⟨q a Zy,z n0 Zy⟩) cg3
  .exact key _ (by rw[hb];exact gj8 d.name a n0 rv nv d.by_ W j y ⟨q a Zy,z n0 Zy⟩) cg3
 .obtain⟨a,hR⟩:=wt (show d.refs.length=1 by omega);obtain⟨n0,hN⟩:=wt f3;have q:=C _ hR;rw[hR]at j;have z:=D _ hN;rw[hN]at y;exact key _ (gk0 d.name a n0 rv nv d.by_ d.always W j y ⟨q a Zy,z n0 Zy,(by simp[DG]at f4;omega)⟩) ED
 .obtain⟨a,l,hR⟩:∃a l,d.refs=a::l:=by
   cases h:d.refs with
   |nil=>rw[h]at f1;simp at f1
   |cons a l=>exact⟨a,l,rfl⟩
  rw[hR]at f1 f2;simp only[YF]at f1 f2;have q:=C _ hR;rw[hR]at j;exact key _ (gk1 d.name a l rv nv d.by_ d.always W j F ⟨q a Zy,Zv,Zv,λx hx=>q x (List.mem_cons_of_mem _ hx)⟩) Tz
 .obtain⟨a,b,hR⟩:=Ry (show d.refs.length=2 by omega);have q:=C _ hR;rw[hR]at j;exact key _ (gk2 d.name a b rv nv d.by_ d.always W j F ⟨q a Zy,q b Zy⟩) Tz
 .obtain⟨n0,hN⟩:=wt f3;have hR:d.refs=[]:=List.length_eq_zero_iff.1 Zv;have z:=D _ hN;rw[hN]at y;exact key _ (gk3 d.name n0 rv nv d.by_ d.always W G y (z n0 Zy)) ED
 .obtain⟨a,hR⟩:=wt (show d.refs.length=1 by omega);obtain⟨n0,hN⟩:=wt f3;have q:=C _ hR;rw[hR]at j;have z:=D _ hN;rw[hN]at y;exact key _ (gk4 d.name a n0 rv nv d.by_ d.always W j y ⟨q a Zy,z n0 Zy⟩) ED
def bz6(n:Nat):∀(l:List ay),(∀x∈l,x.length<=n)->(c_ [32] l).length<=(n+1)*l.length
 |[],_=>by simp[c_]
 |[a],h=>by have:=h a Zy;simp[c_];omega
 |a::b::l,h=>by
  have j:=bz6 n (b::l) λx hx=>h x (List.mem_cons_of_mem _ hx);have c:=h a (List.mem_cons_self ..);have e:c_ [32] (a::b::l)=a++[32]++c_ [32] (b::l):=rfl;rw[e,X0,X0,Yl];have:(n+1)*(a::b::l).length=(n+1)*(b::l).length+(n+1):=by rw[YF,Nat.mul_succ]
  omega
def gg2(k:Nat)(h:k<=16):(yX k).length<=8:=by rcases oJ h with rfl|rfl|rfl|rfl|rfl|rfl|rfl|rfl|rfl|rfl|rfl|rfl|rfl|rfl|rfl|rfl|rfl<;>decide
def Si{d:aG}(c:bK d=XR):(cH d).length<=101000:=by obtain⟨h1,h2⟩:=gl0 c;have A:=(mX c).1;have y:=bz6 1000 (b_ d) h2;have z:(1000+1)*(b_ d).length<=(1000+1)*100:=Zi _ h1;have j:=gg2 d.kind Zv;unfold cH;simp only[X0,Yl];unfold yX at j;omega
def gg3(d:aG)(rv nv:XP)(w:XO)(A:bg w w rv d.refs)(z:aS w w nv (d.nums.map λx:Nat=>(x:Int)))(y:bK d=XR):
 aR 72 #[Zr #[d.kind,bs d.name,rv,nv,d.by_,Zp d.always]] w (X2 (bs (cH d))):=
 gk7 d rv nv w A z y (λW j=>gg1 d rv nv W ((A.below j (ar _)).more j.size) ((z.below j (ar _)).more j.size) y) (bC (Si y) Zv)
def Rz(n:Nat):∀l:List ay,(∀x∈l,x.length<=n)->(aJ l).length<=(n+1)*l.length
 |[],_=>by simp[aJ]
 |a::l,h=>by have j:=Rz n l λx hx=>h x (List.mem_cons_of_mem _ hx);have c:=h a (List.mem_cons_self ..);have e:aJ (a::l)=a++[10]++aJ l:=EH;rw[e,X0,X0,Yl,YF,Nat.mul_succ];omega
def gg4(v:XP)(l:List aG)(w:XO)(C:ci 6 mS w w v l)(c:∀d∈l,bK d=XR)(j:l.length<=900):
 aR 30 #[v] w (X2 (bs (aJ (l.map cH)))):=
 gk8 v l w C c (by
  have h:=Rz 101000 (l.map cH) λx hx=>by obtain⟨d,hd,rfl⟩:=List.mem_map.1 hx;exact Si (c d hd)
  rw[XY]at h;have:(101000+1)*l.length<=(101000+1)*900:=Zi _ j;omega) (λd rv nv W y z A=>gg3 d rv nv W y z A)
def gf6(V X Y Z a4 a5 a6 a7 a8 a9 cN U av:XP)(l:List Int)(j:Int)(w:XO)(G:aS w w U l)(hl:l.length<=10)(F:aN j)(m:aU)(acts:List aQ):
 aR 32 #[Zr #[V,X,Y,Z,a4,a5,a6,a7,a8,a9,cN,U,j,av]] w (X2 (bs (dY ⟨m,l,j,acts⟩))):=by
 obtain⟨A,n,c,rfl,hn,hc,fQ⟩:=G.form;have y:=aj G;have HN:=aj hn;rw[hn]at hl;go_enter func32,ntmps32;go_upto_region 1 with(fail)
 refine df ?_;intro z ⟨J,D⟩;have ij:=blk_lt D;have ba:=aj J;have lJ:=aj D;go_wp2_with fail
 go_loopw [3,4] (λs i wr=>∃k:Nat,k<=n/\i=ah k/\s=X2 (bs (vC (l.take k)))/\Below z z wr) (λ_ i _=>n - (X8 i).toNat)
 case atStart=>exact⟨0,bU _,rfl,rfl,am z⟩
 case round=>
  obtain⟨k,hk,rfl,rfl,hb⟩:=hrel;have iA:=aj hb;have hs:(bs (vC (l.take k))).size<=1000:=by rw[eM];exact fx8 (λx hx=>y.2 x (List.mem_of_mem_take hx)) (by rw[YK];omega)
  have I:=ai lJ hb;have c1:=ag (o:=11) I rfl;have c2:=ag (o:=12) I rfl;have O:Hid (Below w w wr):=aq ba hb;by_cases C:k<n
  .obtain⟨eC,bh⟩:=dt C;obtain⟨x,hx⟩:=iT HN C;obtain⟨b,o,rfl,fL,bo⟩:=aS.cell y hx;have cx:=kc O bo;have EU:aN x:=y.2 x (eE hx);have Iy:l.take (k+1)=l.take k++[x]:=by rw[List.take_add_one,hx];rfl
   have bL:(bs (XS x)).size<=21:=by rw[eM];exact Lib.itoa_length_le _ EU.1 EU.2
   by_cases h0:k=0
   .have HS:=aj (show bs (vC (l.take (k+1)))=bs (vC (l.take k))++bs (Lib.itoa x)by
     rw[Iy,h0,fU];rfl)
    have hg:¬(0:Int)<k:=Zv;exact cb4
   .have kZ:(bs (vC (l.take k))++⟨#[44,32]⟩:ByteArray).size<=1002:=by
     rw[ByteArray.size_append];have:(⟨#[44,32]⟩:ByteArray).size=2:=rfl;omega
    have HS:=aj (show bs (vC (l.take (k+1)))=bs (vC (l.take k))++⟨#[44,32]⟩++bs (XS x)by show _=bs (vC (l.take k))++bs [44,32]++bs (XS x);rw[Iy,fU,fU];congr 1;unfold vC;rw[Yp,List.map_singleton,ac2 _ _ _ (by intro e;have:=congrArg List.length e;rw[XY,YK,HN.o]at this;simp at this;omega)];simp);have hg:(0:Int)<k:=Zv;exact cb4
  .have hI:=eS C;have bL:(bs (Lib.itoa j)).size<=21:=by rw[eM];exact Lib.itoa_length_le _ F.1 F.2
   have kZ:(bs (vC (l.take k))++⟨#[32,99,108,105,101,110,116,115,32]⟩:ByteArray).size<=1009:=by rw[ByteArray.size_append];have:(⟨#[32,99,108,105,101,110,116,115,32]⟩:ByteArray).size=9:=rfl;omega
   have HS:=aj (show bs (dY ⟨m,l,j,acts⟩)=bs (vC (l.take k))++⟨#[32,99,108,105,101,110,116,115,32]⟩++bs (XS j)by show _=bs (vC (l.take k))++bs gB++bs (XS j);rw[Ye Hk,fU,fU];rfl);go_wp2_with(go_at_call 75;refine(Se _ F _).r λw1 aC=>?_)
   go_ret;exact⟨mQ HS.symm,aq O aC⟩
def RE{P:Zh}{ops:Array YO}{Q:Exit->Act->XO->Prop}{md:Y4}{S:XO->Prop}{fuel:Nat}{listed:Array Bool}{a:Act}{w:XO}(F:XO->Prop)(c:F w)(h:∀W,F W->wpAnyH P md ops Q S fuel listed a W):wpAnyH P md ops Q S fuel listed a w:=h w c
section
variable {W:XO} {b:Nat} {T:Ya} {u0 u1 u2 u3 u4 u5 u6:XP}
def RF(F:af W b #[u0,u1,u2,u3,u4,u5,u6] T)(c j y z A C D:XP):
 (((((((W.setCell b c).setCell (b 1 XM) j).setCell (b 2 XM) y).setCell (b 3 XM) z).setCell (b 4 XM) A).setCell (b 5 XM) C).setCell (b 6 XM) D).heap[b]?=XL (Zq #[c,j,y,z,A,C,D] T (0,0)):=
 (bf (bf (bf (bf (bf (bf (bf F 0 c) 1 j) 2 y) 3 z) 4 A) 5 C) 6 D).t aI
def Rm{c:Nat}{o:Obj}(j:W.heap[c]?=XL o)(h:¬c=b)(y z A C D F G:XP):
 (((((((W.setCell b y).setCell (b 1 XM) z).setCell (b 2 XM) A).setCell (b 3 XM) C).setCell (b 4 XM) D).setCell (b 5 XM) F).setCell (b 6 XM) G).heap[c]?=XL o:=
 mT (mT (mT (mT (mT (mT (mT j h) h) h) h) h) h) h
def Rn{w:XO}(h:Below w w W)(c:w.heap.size<=b)(j y z A C D F:XP):
 Below w w (((((((W.setCell b j).setCell (b 1 XM) y).setCell (b 2 XM) z).setCell (b 3 XM) A).setCell (b 4 XM) C).setCell (b 5 XM) D).setCell (b 6 XM) F):=
 cV (cV (cV (cV (cV (cV (cV h c j) c y) c z) c A) c C) c D) c F
end
def by9(A C:XP)(l:List ay)(w:XO)(y:bg w w A l)(z:bg w w C l):
 aR 97 #[A,C] w (Zp XR):=by
 obtain⟨A1,n,c1,rfl,gR,br,_⟩:=cP.form y;obtain⟨A2,n2,c2,rfl,lC,cM,_⟩:=cP.form z;obtain rfl:n=n2:=Zv;rw[XY]at gR;have D:=aj y;have F:=aj z;have G:=aj gR;have U:((n:Int)!=(n:Int))=false:=Zy;go_enter func97,ntmps97;go_wp2_with fail
 go_loopw [5] (λi wr=>∃k:Nat,k<=n/\i=ah k/\Below w w wr) (λi _=>n - (X8 i).toNat)
 case atStart=>exact⟨0,bU _,rfl,am w⟩
 case round=>
  obtain⟨k,hk,rfl,hB⟩:=hrel;have c:=aj hB;by_cases j:k<n
  .obtain⟨eC,I⟩:=dt j;obtain⟨x,hx⟩:=iT G j;obtain⟨b1,p1,rfl,aC,br⟩:=bg.cell D hx;obtain⟨b2,p2,rfl,au,cM⟩:=bg.cell F hx;have J:=(c.cell (p:=⟨b1,p1+k,none⟩) aC).t br;have O:=(c.cell (p:=⟨b2,p2+k,none⟩) au).t cM;have V:((bs x).toList !=(bs x).toList)=false:=by simp
   have X:((bs x).toList==(bs x).toList)=true:=Zy;go_upto_region 6 with(fail)
   refine eT (S:=λw'=>aa w' b1 (p1+k) (X2 (bs x))/\aa w' b2 (p2+k) (X2 (bs x))/\Below wr wr w') 9 9 (by exact⟨J,O,aW (am wr)⟩) λhS=>?_;iterate 9 refine da 9 17 ?_
   refine gc ?_;go_wp2_with fail
   exact⟨⟨k+1,by omega,by go_num,aq c hS.2.2⟩,by simp[X8];omega⟩
  .have I:=eS j;go_wp2_with fail
   go_ret;exact⟨rfl,c⟩
def go0(x:cF)(G I:XP)(w:XO)(j:aS w w G x.ms)(y:aS w w I x.ms):
 aR 98 #[Zr (x.vals G),Zr (x.vals I)] w (Zp XR):=by
 obtain⟨A1,n1,c1,rfl,gR,br,_⟩:=j.form;obtain⟨A2,n2,c2,rfl,lC,cM,_⟩:=y.form;have V:=aj (show ∀W,Below w w W->aR 43 #[Zk A1 n1 c1,Zk A2 n2 c2] W (Zp XR)from λW c=>(LX _ _ x.ms x.ms W W.heap.size ((j.below c (ar _)).more c.size) ((y.below c (ar _)).more c.size)).mono λe w'⟨U,O⟩=>⟨by rw[U];exact cD Zy,O⟩);rw[cF.vals_def,cF.vals_def];go_enter func98,ntmps98;go_upto_region 1 with(fail)
 refine ez (λW=>Below w w W/\af W w.heap.size #[x.kind,x.item,x.other,x.n,x.by_,Zp x.always,Zk A1 n1 c1] 88/\af W (w.heap.size+1) #[x.kind,x.item,x.other,x.n,x.by_,Zp x.always,Zk A2 n2 c2] 88) ⟨ak (ak (am w) _) _,ai (cR w _) (ak (am _) _),Gm w _ _⟩ ?_;intro X ⟨C,F,D⟩;have A:=aj C;obtain⟨a0,a1,a2,a3,a4,a5,a6⟩:=gM F;obtain⟨b0,b1,b2,b3,b4,b5,b6⟩:=gM D;go_wp2_with
  (go_at_call 43;refine(V _ A).r λY z=>?_;have J:=aj (aq A z))
 go_ret;exact⟨rfl,J⟩
def go1(m:aU)(v1 v2:MV)(w:XO)(G:m.In w w v1)(I:m.In w w v2):
 aR 42 #[Zr (m.cells v1),Zr (m.cells v2)] w (Zp XR):=by
 obtain⟨⟨S1,s1,bZ,_,_⟩,⟨F1,f1,bM,_,_⟩,⟨R1,r1,cd,hu2,hu3⟩,⟨M1,m1,O,VG,hs7⟩,⟨L1,l1,cW,O6,hr4⟩,⟨I1,i1,dg,hq8,hq9⟩,⟨U1,u1,dm,hx8,xj⟩⟩:=G.cells;have Ev:=aj (nD m bZ bM cd O cW dg dm);have V':=G.ss;have Vd:=G.fs;have V7:=G.rs;have VK:=G.ms;have VE:=G.ls;have Vk:=G.is;have Wj:=G.us;rw[bZ]at V';rw[bM]at Vd;rw[cd]at V7;rw[O]at VK;rw[cW]at VE;rw[dg]at Vk;rw[dm]at Wj;have dq6:=aj V';have dp3:=aj Vd;have dq4:=aj V7;have dq0:=aj VK;have dp7:=aj VE;have dp5:=aj Vk;have dq9:=aj Wj;clear V' Vd V7 VK VE Vk Wj;obtain⟨⟨S2,s2,bL,_,_⟩,⟨F2,f2,cj,_,_⟩,⟨R2,r2,cZ,hu4,hu5⟩,⟨M2,m2,J,hs8,hs9⟩,⟨L2,l2,dh,hr5,hr6⟩,⟨I2,i2,d',hr0,hr1⟩,⟨U2,u2,dr,hx9,hy0⟩⟩:=I.cells;have zE:=aj (nD m bL cj cZ J dh d' dr);have Wa:=I.ss;have Ve:=I.fs;have V8:=I.rs;have VL:=I.ms;have VF:=I.ls;have Vl:=I.is;have Wk:=I.us;rw[bL]at Wa;rw[cj]at Ve;rw[cZ]at V8;rw[J]at VL;rw[dh]at VF;rw[d']at Vl;rw[dr]at Wk;have dq7:=aj Wa;have dp4:=aj Ve;have dq5:=aj V8;have dq1:=aj VL;have dp8:=aj VF;have dp6:=aj Vl;have dr0:=aj Wk;clear Wa Ve V8 VL VF Vl Wk;have dm1:=aj λW(j:Below w w W)=>by9 _ _ m.sites W ((dq6.below j (ar _)).more j.size) ((dq7.below j (ar _)).more j.size);have dm4:=aj λW(j:Below w w W)=>by9 _ _ m.feeds W ((dp3.below j (ar _)).more j.size) ((dp4.below j (ar _)).more j.size);rw[Ev.o,zE.o];clear G bZ bM cd O cW dg dm;clear I bL cj cZ J dh d' dr;go_enter func42,ntmps42;go_upto_region 1 with(fail)
 refine ez (λW=>Below w w W/\af W w.heap.size #[Zk S1 m.sites.length s1,Zk F1 m.feeds.length f1,Zk R1 m.racks.length r1,Zk M1 m.machs.length m1,Zk L1 m.links.length l1,Zk I1 m.items.length i1,m.dark,m.slots,m.reserve,m.failures,Zk U1 m.rules.length u1] 29/\af W (w.heap.size+1) #[Zk S2 m.sites.length s2,Zk F2 m.feeds.length f2,Zk R2 m.racks.length r2,Zk M2 m.machs.length m2,Zk L2 m.links.length l2,Zk I2 m.items.length i2,m.dark,m.slots,m.reserve,m.failures,Zk U2 m.rules.length u2] 29) ⟨ak (ak (am w) _) _,ai (cR w _) (ak (am _) _),Gm w _ _⟩ ?_;intro C ⟨bc,O,J⟩;have ba:=aj bc;have tx:=aj O;have Hj:=aj J;obtain⟨a0,a1,a2,a3,a4,a5,a6,a7,a8,a9,cN⟩:=bQ O;obtain⟨b0,b1,b2,b3,b4,b5,b6,b7,b8,b9,x'⟩:=bQ J;clear bc O J;go_wp2_with
  (go_at_call 97;first
    |(refine(dm4 _ Z).r λw3 A=>?_;have bE:=aj (aq Z A);have V:=ai tx (aq pn A);have Y:=ai Hj (aq pn A);obtain⟨d0,d1,d2,d3,d4,d5,d6,d7,d8,d9,wR⟩:=bQ V;obtain⟨g0,g1,g2,g3,g4,g5,g6,g7,g8,g9,C6⟩:=bQ Y;have Z:=aj (aq pn A);clear A V Y)
    |(refine(dm1 _ ba).r λw2 au=>?_;have Z:=aj (aq ba au);have pn:=aj au;have V:=ai tx au;have Y:=ai Hj au;obtain⟨d0,d1,d2,d3,d4,d5,d6,d7,d8,d9,wR⟩:=bQ V;obtain⟨g0,g1,g2,g3,g4,g5,g6,g7,g8,g9,C6⟩:=bQ Y;clear au V Y))
 go_loopw [5] (λi wr=>∃k:Nat,k<=m.racks.length/\i=ah k/\Below C C wr) (λi _=>m.racks.length - (X8 i).toNat)
 case atStart=>exact⟨0,bU _,rfl,Z⟩
 case round=>
  obtain⟨k,hk,rfl,hB⟩:=hrel;have HB:=aj hB;refine oV λbq=>?_;refine Jm λjn mF=>?_;have z:=ag (o:=2) jn rfl;clear hB;by_cases c:k<m.racks.length
  .obtain⟨eC,D⟩:=dt c;obtain⟨x,hx⟩:=jd c;obtain⟨B1,p1,zP,rfl,aC,_,⟨rfl,_⟩,br⟩:=dq4.at_ hx;obtain⟨B2,p2,Ht,rfl,au,_,⟨rfl,_⟩,cM⟩:=dq5.at_ hx;refine RR λeB jN jB kL nQ nR=>?_;simp only[Nat.add_zero]at eB kL;clear br cM hx;have cU:=aj λW(h:Below wr wr W)=>And.intro ((show W.cell? ⟨w,2,none⟩=some (.slice (some ⟨B1,p1,none⟩) m.racks.length r1)from ag (ai jn h) rfl)) (And.intro ((show W.cell? ⟨(w.heap.size+1),2,none⟩=some (.slice (some ⟨B2,p2,none⟩) m.racks.length r2)from ag (ai mF h) rfl)) (And.intro (kc h eB) (And.intro (kc h jN) (And.intro (kc h jB) (And.intro (kc h kL) (And.intro (kc h nQ) (kc h nR)))))));clear jn mF eB jN jB kL nQ nR;go_upto_region 6 with(fail)
   refine eT (S:=Below wr wr) 11 11 (aW (am wr)) λhS=>?_;iterate 11 refine da 11 106 ?_
   exact Np
  .have D:=eS c;go_wp2_with fail
   clear jn mF z;go_loopw [6] (λi wr=>∃k:Nat,k<=m.machs.length/\i=ah k/\Below C C wr) (λi _=>m.machs.length - (X8 i).toNat)
   case atStart=>exact⟨0,bU _,rfl,HB⟩
   case round=>
    obtain⟨k,hk,rfl,hB⟩:=hrel;have HB:=aj hB;refine oV λbq=>?_;refine Jm λjn mF=>?_;have z:=ag (o:=3) jn rfl;clear hB;by_cases c:k<m.machs.length
    .obtain⟨eC,D⟩:=dt c;obtain⟨x,hx⟩:=jd c;obtain⟨B1,p1,zP,rfl,aC,_,⟨rfl,_⟩,br⟩:=dq0.at_ hx;obtain⟨B2,p2,Ht,rfl,au,_,⟨rfl,_⟩,cM⟩:=dq1.at_ hx;refine RR λeB jN jB kL nQ nR=>?_;simp only[Nat.add_zero]at eB kL;clear br cM hx;have cU:=aj λW(h:Below wr wr W)=>And.intro ((show W.cell? ⟨w,3,none⟩=some (.slice (some ⟨B1,p1,none⟩) m.machs.length m1)from ag (ai jn h) rfl)) (And.intro ((show W.cell? ⟨(w.heap.size+1),3,none⟩=some (.slice (some ⟨B2,p2,none⟩) m.machs.length m2)from ag (ai mF h) rfl)) (And.intro (kc h eB) (And.intro (kc h jN) (And.intro (kc h jB) (And.intro (kc h kL) (And.intro (kc h nQ) (kc h nR)))))));clear jn mF eB jN jB kL nQ nR;go_upto_region 11 with(fail)
     refine eT (S:=Below wr wr) 11 11 (aW (am wr)) λhS=>?_;iterate 11 refine da 11 124 ?_
     exact Np
    .have D:=eS c;go_wp2_with fail
     clear jn mF z;go_loopw [7] (λi wr=>∃k:Nat,k<=m.links.length/\i=ah k/\Below C C wr) (λi _=>m.links.length - (X8 i).toNat)
     case atStart=>exact⟨0,bU _,rfl,HB⟩
     case round=>
      obtain⟨k,hk,rfl,hB⟩:=hrel;have HB:=aj hB;refine oV λbq=>?_;refine Jm λjn mF=>?_;have z:=ag (o:=4) jn rfl;clear hB;by_cases c:k<m.links.length
      .obtain⟨eC,D⟩:=dt c;obtain⟨x,hx⟩:=jd c;obtain⟨B1,p1,zP,rfl,aC,_,⟨rfl,_⟩,br⟩:=dp7.at_ hx;obtain⟨B2,p2,Ht,rfl,au,_,⟨rfl,_⟩,cM⟩:=dp8.at_ hx;refine RR λeB jN jB kL nQ nR=>?_;simp only[Nat.add_zero]at eB kL;clear br cM hx;have cU:=aj λW(h:Below wr wr W)=>And.intro ((show W.cell? ⟨w,4,none⟩=some (.slice (some ⟨B1,p1,none⟩) m.links.length l1)from ag (ai jn h) rfl)) (And.intro ((show W.cell? ⟨(w.heap.size+1),4,none⟩=some (.slice (some ⟨B2,p2,none⟩) m.links.length l2)from ag (ai mF h) rfl)) (And.intro (kc h eB) (And.intro (kc h jN) (And.intro (kc h jB) (And.intro (kc h kL) (And.intro (kc h nQ) (kc h nR)))))));clear jn mF eB jN jB kL nQ nR;go_upto_region 16 with(fail)
       refine eT (S:=Below wr wr) 11 11 (aW (am wr)) λhS=>?_;iterate 11 refine da 11 142 ?_
       exact Np
      .have D:=eS c;go_wp2_with fail
       clear jn mF z;go_loopw [8,9,10] (λi _ _ wr=>∃k:Nat,k<=m.items.length/\i=ah k/\Below C C wr) (λi _ _ _=>m.items.length - (X8 i).toNat)
       case atStart=>exact⟨0,bU _,rfl,HB⟩
       case round=>
        obtain⟨k,hk,rfl,hB⟩:=hrel;have HB:=aj hB;refine oV λbq=>?_;refine Jm λjn mF=>?_;have z:=ag (o:=5) jn rfl;clear hB;by_cases c:k<m.items.length
        .obtain⟨eC,D⟩:=dt c;obtain⟨x,hx⟩:=jd c;obtain⟨B1,p1,zP,rfl,aC,_,⟨o1,rfl,BV,_⟩,br⟩:=dp5.at_ hx;obtain⟨B2,p2,Ht,rfl,au,_,⟨o2,rfl,vS,_⟩,cM⟩:=dp6.at_ hx;refine bz0 λeB jN jB nx lK nP oN kL nQ nR zT zU zV zW=>?_;simp only[Nat.add_zero]at eB kL;clear br cM hx;obtain⟨A1,n1,z,rfl,gR,br,_⟩:=BV.form;obtain⟨A2,n2,c2,rfl,lC,cM,_⟩:=vS.form;have cU:=aj λW(h:Below wr wr W)=>And.intro ((show W.cell? ⟨w,5,none⟩=some (.slice (some ⟨B1,p1,none⟩) m.items.length i1)from ag (ai jn h) rfl)) (And.intro ((show W.cell? ⟨(w.heap.size+1),5,none⟩=some (.slice (some ⟨B2,p2,none⟩) m.items.length i2)from ag (ai mF h) rfl)) (And.intro (kc h eB) (And.intro (kc h jN) (And.intro (kc h jB) (And.intro (kc h nx) (And.intro (kc h lK) (And.intro (kc h nP) (And.intro (kc h oN) (And.intro (kc h kL) (And.intro (kc h nQ) (And.intro (kc h nR) (And.intro (kc h zT) (And.intro (kc h zU) (And.intro (kc h zV) (kc h zW)))))))))))))));clear jn mF eB jN jB nx lK nP oN kL nQ nR zT zU zV zW;go_upto_region 21 with(fail)
         go_cut [9,10]from 153 to 217 (λp q wx=>∃xb yb,p=az xb/\q=az yb/\¬xb=yb/\Below wr wr wx/\af wx xb #[bs x.name,x.kind,x.count,x.load,x.size,x.share,Zk A1 n1 z] 86/\af wx yb #[bs x.name,x.kind,x.count,x.load,x.size,x.share,Zk A2 n2 c2] 86)
         case first=>
          refine tz (S:=Below wr wr) 14 (aW (am wr)) λhS=>?_;iterate 10 refine oO 14 160 ?_
          refine wpAnyH_ready (rs:=[10,11]) aI Zy ?_;refine AllReadyH.cons rfl (λK hK=>?_) (AllReadyH.cons rfl (λK hK=>?_) AllReadyH.nil)
          .go_simp;refine tV λhS=>?_;clear hK;refine aH ?_;refine fg 11 λK hK=>?_;go_simp;refine tV λhS=>?_;clear hK;refine aH ?_;refine RE (λy=>y.heap[wr.heap.size]?=some (.cells #[.string ⟨#[]⟩,.int .i64 0,.int .i64 0,.int .i64 0,.int .i64 0,.int .i64 0,.slice none 0 0] 86 (0,0))/\y.heap[wr.heap.size+1]?=some (.cells #[.string ⟨#[]⟩,.int .i64 0,.int .i64 0,.int .i64 0,.int .i64 0,.int .i64 0,.slice none 0 0] 86 (0,0))/\Below wr wr y) ⟨ai (cR (wr.drew) _) (ak (am _) _),Gm wr.drew _ _,hS⟩ ?_;intro W2 ⟨F,X,au⟩;clear hS;have hS:=au;obtain⟨q0,q1,q2,q3,q4,q5,q6⟩:=gM F;obtain⟨z0,z1,z2,z3,z4,z5,z6⟩:=DZ F;refine fg 12 λK hK=>?_;go_simp;refine hK _ _ (Rn au (by omega) _ _ _ _ _ _ _) λhS=>?_;clear hK;refine aH ?_;refine RE (λy=>y.heap[wr.heap.size]?=some (.cells #[.string (bs x.name),.int .i64 x.kind,.int .i64 x.count,.int .i64 x.load,.int .i64 x.size,.int .i64 x.share,.slice A1 n1 z] 86 (0,0))/\y.heap[wr.heap.size+1]?=some (.cells #[.string ⟨#[]⟩,.int .i64 0,.int .i64 0,.int .i64 0,.int .i64 0,.int .i64 0,.slice none 0 0] 86 (0,0))/\Below wr wr y) ⟨RF F _ _ _ _ _ _ _,Rm X (by omega) _ _ _ _ _ _ _,hS⟩ ?_;clear F X au hS q0 q1 q2 q3 q4 q5 q6 z0 z1 z2 z3 z4 z5 z6;intro W3 ⟨mi,U,A⟩;have hS:=A;obtain⟨q0,q1,q2,q3,q4,q5,q6⟩:=gM U;obtain⟨z0,z1,z2,z3,z4,z5,z6⟩:=DZ U;refine fg 13 λK hK=>?_;go_simp;refine hK _ _ (Rn A (by omega) _ _ _ _ _ _ _) λhS=>?_;clear hK;refine aH ?_;refine rY ?_;go_wp2_with fail
           go_meet;exact⟨wr.heap.size,wr.heap.size+1,rfl,rfl,by omega,hS,Rm mi Zv _ _ _ _ _ _ _,RF U _ _ _ _ _ _ _⟩
          .go_simp;refine tV λhS=>?_;clear hK;refine aH ?_;refine fg 10 λK hK=>?_;go_simp;refine tV λhS=>?_;clear hK;refine aH ?_;refine RE (λy=>y.heap[wr.heap.size+1]?=some (.cells #[.string ⟨#[]⟩,.int .i64 0,.int .i64 0,.int .i64 0,.int .i64 0,.int .i64 0,.slice none 0 0] 86 (0,0))/\y.heap[wr.heap.size]?=some (.cells #[.string ⟨#[]⟩,.int .i64 0,.int .i64 0,.int .i64 0,.int .i64 0,.int .i64 0,.slice none 0 0] 86 (0,0))/\Below wr wr y) ⟨Gm wr.drew _ _,ai (cR (wr.drew) _) (ak (am _) _),hS⟩ ?_;intro W2 ⟨F,X,au⟩;clear hS;have hS:=au;obtain⟨q0,q1,q2,q3,q4,q5,q6⟩:=gM F;obtain⟨z0,z1,z2,z3,z4,z5,z6⟩:=DZ F;refine fg 12 λK hK=>?_;go_simp;refine hK _ _ (Rn au (by omega) _ _ _ _ _ _ _) λhS=>?_;clear hK;refine aH ?_;refine RE (λy=>y.heap[wr.heap.size+1]?=some (.cells #[.string (bs x.name),.int .i64 x.kind,.int .i64 x.count,.int .i64 x.load,.int .i64 x.size,.int .i64 x.share,.slice A1 n1 z] 86 (0,0))/\y.heap[wr.heap.size]?=some (.cells #[.string ⟨#[]⟩,.int .i64 0,.int .i64 0,.int .i64 0,.int .i64 0,.int .i64 0,.slice none 0 0] 86 (0,0))/\Below wr wr y) ⟨RF F _ _ _ _ _ _ _,Rm X (by omega) _ _ _ _ _ _ _,hS⟩ ?_;clear F X au hS q0 q1 q2 q3 q4 q5 q6 z0 z1 z2 z3 z4 z5 z6;intro W3 ⟨mi,U,A⟩;have hS:=A;obtain⟨q0,q1,q2,q3,q4,q5,q6⟩:=gM U;obtain⟨z0,z1,z2,z3,z4,z5,z6⟩:=DZ U;refine fg 13 λK hK=>?_;go_simp;refine hK _ _ (Rn A (by omega) _ _ _ _ _ _ _) λhS=>?_;clear hK;refine aH ?_;refine rY ?_;go_wp2_with fail
           go_meet;exact⟨wr.heap.size+1,wr.heap.size,rfl,rfl,by omega,hS,Rm mi Zv _ _ _ _ _ _ _,RF U _ _ _ _ _ _ _⟩
         case rest=>
         obtain⟨xb,yb,rfl,rfl,aT,fE,fe,cy7⟩:=hcut;obtain⟨x0,x1,x2,x3,x4,x5,x6⟩:=gM fe;obtain⟨y0,y1,y2,y3,y4,y5,y6⟩:=gM cy7;have jA:=aj (aq HB fE);have lg:=aj (show ∀W,Below w w W->aR 43 #[Zk A1 n1 z,Zk A2 n2 c2] W (Zp XR)from λW j=>(LX _ _ x.on x.on W W.heap.size ((BV.below j (ar _)).more j.size) ((vS.below j (ar _)).more j.size)).mono λe w'⟨he,hb⟩=>⟨by rw[he];exact cD Zy,hb⟩);clear fE fe cy7 BV vS gR lC;simp only[az];go_wp2_with
          (go_at_call 43;refine(lg _ (aq ba jA)).r λw5 bx=>?_;have cT:=aj (aq jA bx);clear bx)
         exact⟨⟨k+1,by omega,by go_num,cT⟩,by simp[X8];omega⟩
        .have D:=eS c;go_wp2_with fail
         clear jn mF z;go_loopw [11] (λi wr=>∃k:Nat,k<=m.rules.length/\i=ah k/\Below C C wr) (λi _=>m.rules.length - (X8 i).toNat)
         case atStart=>exact⟨0,bU _,rfl,HB⟩
         case round=>
          obtain⟨k,hk,rfl,hB⟩:=hrel;have HB:=aj hB;refine oV λbq=>?_;refine Jm λjn mF=>?_;have z:=ag (o:=10) jn rfl;clear hB;by_cases c:k<m.rules.length
          .obtain⟨eC,D⟩:=dt c;obtain⟨x,hx⟩:=jd c;obtain⟨B1,p1,zP,rfl,aC,_,⟨o1,rfl,BV,_⟩,br⟩:=dq9.at_ hx;obtain⟨B2,p2,Ht,rfl,au,_,⟨o2,rfl,vS,_⟩,cM⟩:=dr0.at_ hx;refine bz0 λeB jN jB nx lK nP oN kL nQ nR zT zU zV zW=>?_;simp only[Nat.add_zero]at eB kL;clear br cM hx;have zo:=aj λW(j:Below w w W)=>go0 x o1 o2 W ((BV.below j (ar _)).more j.size) ((vS.below j (ar _)).more j.size);simp only[cF.vals_def]at zo;clear BV vS;have cU:=aj λW(h:Below wr wr W)=>And.intro ((show W.cell? ⟨w,10,none⟩=some (.slice (some ⟨B1,p1,none⟩) m.rules.length u1)from ag (ai jn h) rfl)) (And.intro ((show W.cell? ⟨(w.heap.size+1),10,none⟩=some (.slice (some ⟨B2,p2,none⟩) m.rules.length u2)from ag (ai mF h) rfl)) (And.intro (kc h eB) (And.intro (kc h jN) (And.intro (kc h jB) (And.intro (kc h nx) (And.intro (kc h lK) (And.intro (kc h nP) (And.intro (kc h oN) (And.intro (kc h kL) (And.intro (kc h nQ) (And.intro (kc h nR) (And.intro (kc h zT) (And.intro (kc h zU) (And.intro (kc h zV) (kc h zW)))))))))))))));clear jn mF eB jN jB nx lK nP oN kL nQ nR zT zU zV zW;go_upto_region 27 with(fail)
           refine eT (S:=Below wr wr) 12 12 (aW (am wr)) λhS=>?_;iterate 10 refine da 12 225 ?_
           refine bt 10 λK hK=>?_;go_simp;refine(zo _ (aq bq hS)).r λw4 aV=>?_;try go_simp
           refine Ct λhS=>?_;clear hK;refine aH ?_;refine ke 11 236 ?_;exact Np
          .have D:=eS c;clear jn mF;go_wp2_with fail
           go_ret;exact⟨rfl,bq⟩
def go2(m:aU)(l:List Int)(z:Int)(acts:List aQ)(v1 v2:MV)(c1 c2 V X:XP)(w:XO)(fS:m.In w w v1)(k_:m.In w w v2)(br:aS w w c1 l)(c:aS w w c2 l)(jV:ci 10 sX w w V acts)(O:ci 10 sX w w X acts):
 aR 11 #[Zr (m.cells v1++ #[c1,ah z,V]),Zr (m.cells v2++ #[c2,ah z,X])] w (Zp XR):=by
 obtain⟨C1,nc,pW,rfl,gR,Pb,_⟩:=br.form;obtain⟨C2,hg0,Uo,rfl,lC,ct3,_⟩:=c.form;obtain rfl:nc=hg0:=Zv;obtain⟨D1,y,oM,rfl,uT,OT,_⟩:=jV.form;obtain⟨D2,hf9,Ur,rfl,ha4,hp8,_⟩:=O.form;obtain rfl:y=hf9:=Zv;refine Nh λS1 s1 bZ F1 f1 bM R1 r1 cd M1 m1 cr L1 l1 cW I1 i1 dg U1 u1 dm ur=>?_;have Ev:=aj (F9 ur (Zk C1 nc pW) (ah z) (Zk D1 y oM));have zm:=aj jV;obtain⟨⟨S2,s2,bL,_,_⟩,⟨F2,f2,cj,_,_⟩,⟨R2,r2,cZ,_,_⟩,⟨M2,m2,C,_,_⟩,⟨L2,l2,dh,_,_⟩,⟨I2,i2,d',_,_⟩,⟨U2,u2,dr,_,_⟩⟩:=k_.cells;have J2:=aj (nD m bL cj cZ C dh d' dr);have zE:=aj (F9 J2 (Zk C2 nc Uo) (ah z) (Zk D2 y Ur));have NC:=aj O;have CP:=aj λW(j:Below w w W)=>go1 m v1 v2 W (fS.to j (ar _) j.size) (k_.to j (ar _) j.size);have lg:=aj (show ∀W,Below w w W->aR 43 #[Zk C1 nc pW,Zk C2 nc Uo] W (Zp XR)from λW j=>(LX _ _ l l W W.heap.size ((br.below j (ar _)).more j.size) ((c.below j (ar _)).more j.size)).mono λe w'⟨he,hb⟩=>⟨by rw[he];exact cD Zy,hb⟩);rw[ur.o,J2.o]at CP;rw[Ev.o,zE.o];have HN:=aj uT;have ec:(z !=z)=false:=Zy;have en:((y:Int)!=(y:Int))=false:=Zy;go_enter func11,ntmps11;go_upto_region 1 with(fail)
 refine ez (λW=>Below w w W/\af W w.heap.size #[Zk S1 m.sites.length s1,Zk F1 m.feeds.length f1,Zk R1 m.racks.length r1,Zk M1 m.machs.length m1,Zk L1 m.links.length l1,Zk I1 m.items.length i1,m.dark,m.slots,m.reserve,m.failures,Zk U1 m.rules.length u1,Zk C1 nc pW,z,Zk D1 y oM] 33/\af W (w.heap.size+1) #[Zk S2 m.sites.length s2,Zk F2 m.feeds.length f2,Zk R2 m.racks.length r2,Zk M2 m.machs.length m2,Zk L2 m.links.length l2,Zk I2 m.items.length i2,m.dark,m.slots,m.reserve,m.failures,Zk U2 m.rules.length u2,Zk C2 nc Uo,z,Zk D2 y Ur] 33) ⟨ak (ak (am w) _) _,ai (cR w _) (ak (am _) _),Gm w _ _⟩ ?_;intro U ⟨bc,cr,C⟩;have ba:=aj bc;have tx:=aj cr;have Hj:=aj C;obtain⟨a0,V,X,a3,a4,a5,a6,a7,a8,a9,cN,nr,pU,pV⟩:=js cr;obtain⟨b0,b1,b2,b3,b4,b5,b6,b7,b8,b9,x',Kz,KA,KB⟩:=js C
 go_wp2_with(first
  |(go_at_call 42;refine(CP U ba).r λw2 A=>?_;have aX:=aj A;have I:=ai tx A;have J:=ai Hj A;obtain⟨d0,d1,d2,d3,d4,d5,d6,d7,d8,d9,wR,zQ,zR,zS⟩:=js I;obtain⟨g0,g1,g2,g3,g4,g5,g6,g7,g8,g9,C6,Hu,Ow,EO⟩:=js J)
  |(go_at_call 43;refine(lg _ (aq ba aX)).r λw3 aM=>?_;have Z:=aj (aq aX aM);have I:=ai tx Z.o;have J:=ai Hj Z.o;obtain⟨x0,x1,x2,x3,x4,x5,x6,x7,x8,x9,ia7,ia8,ia9,ib0⟩:=js I;obtain⟨y0,y1,y2,y3,y4,y5,y6,y7,y8,y9,ib1,ib2,ib3,ib4⟩:=js J))
 go_loopw [5] (λi wr=>∃k:Nat,k<=y/\i=ah k/\Below U U wr) (λi _=>y - (X8 i).toNat)
 case atStart=>exact⟨0,bU _,rfl,Z⟩
 case round=>
  obtain⟨k,hk,rfl,hB⟩:=hrel;have HB:=aj hB;refine oV λbq=>?_;refine Jm λjn mF=>?_;have c1:=ag (o:=13) jn rfl;by_cases Y:k<y
  .obtain⟨eC,bh⟩:=dt Y;obtain⟨x,hx⟩:=iT HN Y;obtain⟨b1,p1,zP,rfl,aC,_,⟨AW,A_,rfl,eH,_⟩,br⟩:=zm.at_ hx;obtain⟨b2,p2,Ht,rfl,A,_,⟨cz6,cz8,rfl,ev,_⟩,c⟩:=NC.at_ hx;refine Rv λeB jN jB nx lK nP oN wS ye yf=>?_;have kL:wr.cell? ⟨b2,p2+k*10+0,none⟩=some (.int .i64 x.kind):=(bq.cell (p:=⟨b2,p2+k*10+0,none⟩) A).t (c 0 _ rfl);have nQ:=kc bq (c 1 _ rfl);have nR:=kc bq (c 2 _ rfl);have zT:=kc bq (c 3 _ rfl);have zU:=kc bq (c 4 _ rfl);have zV:=kc bq (c 5 _ rfl);have zW:=kc bq (c 6 _ rfl);have D:=kc bq (c 7 _ rfl);have F:=kc bq (c 8 _ rfl);have G:=kc bq (c 9 _ rfl);simp only[Nat.add_zero]at eB kL;have Ew:=aj (show ∀W,Below w w W->aR 15 #[.agg (x.cells AW A_),.agg (x.cells cz6 cz8)] W (.bool true)from λW j=>(WR x x AW A_ cz6 cz8 W ((eH.below j (ar _)).more j.size) ((ev.below j (ar _)).more j.size)).mono λe w'⟨he,hb⟩=>⟨by rw[he,aq8],hb⟩);simp only[aQ.cells_def]at Ew;obtain⟨N9,LN,Pw,rfl,_,_,_⟩:=eH.ms.form;obtain⟨hj9,hz5,hz4,rfl,_,_,_⟩:=ev.ms.form;obtain⟨N',Na,Py,rfl,_,_,_⟩:=eH.ss.form;obtain⟨hk0,ia5,ia4,rfl,_,_,_⟩:=ev.ss.form;have cU:=aj λW(h:Below wr wr W)=>And.intro ((show W.cell? ⟨w,13,none⟩=some (.slice (some ⟨b1,p1,none⟩) y oM)from ag (ai jn h) rfl)) (And.intro ((show W.cell? ⟨(w.heap.size+1),13,none⟩=some (.slice (some ⟨b2,p2,none⟩) y Ur)from ag (ai mF h) rfl)) (And.intro (kc h eB) (And.intro (kc h jN) (And.intro (kc h jB) (And.intro (kc h nx) (And.intro (kc h lK) (And.intro (kc h nP) (And.intro (kc h oN) (And.intro (kc h wS) (And.intro (kc h ye) (And.intro (kc h yf) (And.intro (kc h kL) (And.intro (kc h nQ) (And.intro (kc h nR) (And.intro (kc h zT) (And.intro (kc h zU) (And.intro (kc h zV) (And.intro (kc h zW) (And.intro (kc h D) (And.intro (kc h F) (kc h G)))))))))))))))))))));go_upto_region 6 with(fail)
   refine eT (S:=Below wr wr) 12 12 (aW (am wr)) λhS=>?_;iterate 10 refine da 12 43 ?_
   refine bt 10 λK hK=>?_;go_simp;refine(Ew _ (aq bq hS)).r λw4 aV=>?_;try go_simp
   refine Ct λhS=>?_;refine aH ?_;refine ke 11 54 ?_;exact Np
  .have bh:=eS Y;go_wp2_with fail
   go_ret;exact⟨rfl,bq⟩
end
section
open Go.ChangeShapes Go.WideShapes
open Go.ChangeMaps (open_string shut_string)
section
variable {H:Type} {enc:Ya×XP->H} {w:XO} {base:Nat} {spare:Nat->Bool} {uQ:Bool}
def kA{t:Ya}{fuel:Nat}{c:XP}{x:DataW H×List MemPlace}(y:Tryz.prog.underlying t=XL (.int .i64))(h:DataW.trod enc X3 w base spare uQ fuel t [c]=XL x):∃n,c= .int .i64 n/\aN n:=by obtain⟨n,j,_,hw⟩:=DataW.trod_int y h;injection j with j;exact⟨n,j,bounds_i64 hw⟩
def Ro{fuel:Nat}{c:XP}{x:DataW H×List MemPlace}(h:DataW.trod enc X3 w base spare uQ fuel 9 [c]=XL x):∃s:ay,c=X2 (bs s)/\(bs s).size<=9223372036854775807:=by obtain⟨s,j,_,hl⟩:=DataW.trod_string YP h;injection j with j;exact⟨s.data.toList,by rw[j,nY],by rw[nY];exact hl⟩
def DM{α:Type}{k:Nat}{R:XO->Nat->List XP->α->Prop}{t e:Ya}{fuel:Nat}{c:XP}{x:DataW H×List MemPlace}(ht:Tryz.prog.underlying t=XL (.slice e))(hc:Tryz.prog.cellsOf e=k)(hk:0<k)
 (hR:∀n C y,C.length=k->DataW.trod enc X3 w base spare uQ n e C=XL y->∃a,R w w C a)
 (h:DataW.trod enc X3 w base spare uQ fuel t [c]=XL x):∃xs:List α,ci k R w w c xs:=by
 rcases Deep.open_slice ht h with⟨A,_⟩|⟨a,len,cap,m,n,D,Pl,A,_,hl,hm,mG,_,hx⟩
 .injection A with A;subst A;exact⟨[],ci.nil_ _ _⟩
 injection A with A;subst A;have oy:len<=m:=by rw[mG];split<;>omega
 have X:∀i,i<len->∃p:List XP×α,p.1.length=k/\R w w p.1 p.2/\∀j u,p.1[j]?=XL u->w.cell? ((a.add (i*k)).add j)=XL u:=λi hi=>by obtain⟨C,h2,h3⟩:=hx i Zv;rw[hc]at h2;obtain⟨_,h4,h5⟩:=World.cells?_some h2;obtain⟨y,G⟩:=hR _ _ _ h4 h3;refine⟨(C,y),h4,G,λj u z=>?_⟩;rw[h5 j (by have:=(List.getElem?_eq_some_iff.1 z).1;show j<k;rw[<-h4];exact this),z]
 have J:∃f:Fin len->List XP×α,∀i:Fin len,(f i).1.length=k/\R w w (f i).1 (f i).2/\∀j u,(f i).1[j]?=XL u->w.cell? ((a.add (i.1*k)).add j)=XL u:=
  ⟨λi=>Classical.choose (X i.1 i.2),λi=>Classical.choose_spec (X i.1 i.2)⟩
 obtain⟨f,hf⟩:=J;refine⟨List.ofFn λi=>(f i).2,?_⟩;refine⟨XL a,cap,by rw[List.length_ofFn],by rw[List.length_ofFn];exact hl,hm,λY=>?_⟩;have F:0<len:=by
  rcases Nat.eq_zero_or_pos len with O|O
  .subst O;exact absurd Zy Y
  .exact O
 obtain⟨b,o,spot⟩:=a;have U:spot=none:=by obtain⟨q1,_,q3⟩:=hf ⟨0,F⟩;have hz:∃u,(f ⟨0,F⟩).1[0]?=XL u:=⟨_,XT Zv⟩;obtain⟨u,z⟩:=hz;have:=q3 0 u z;simpa[Addr.add]using World.cell?_spot this
 subst U;have V:∀(i:Fin len)(j:Nat)u,(f i).1[j]?=XL u->w.cell? ⟨b,o+i.1*k+j,XM⟩=XL u:=λi j u z=>by
  have:=(hf i).2.2 j u z
  rwa [Go.WideShapes.add_plain,Go.WideShapes.add_plain]at this
 have Z:b<w:=by obtain⟨q1,_,q3⟩:=hf ⟨0,F⟩;obtain⟨u,z⟩:∃u,(f ⟨0,F⟩).1[0]?=XL u:=⟨_,XT Zv⟩;exact bY w (b _ XM) (V ⟨0,F⟩ 0 u z)
 refine⟨b,o,rfl,Z,λj y G=>?_⟩;have I:j<len:=by have:=(List.getElem?_eq_some_iff.1 G).1;simpa using this
 have tO:(f ⟨j,I⟩).2=y:=by rw[List.getElem?_ofFn,dif_pos I]at G;exact YG G
 obtain⟨q1,q2,q3⟩:=hf ⟨j,I⟩;exact⟨_,q1,tO▸q2,λi u z=>V ⟨j,I⟩ i u z⟩
def cC:Tryz.prog.cellsOf 3=1/\Tryz.prog.cellsOf 2=1/\Tryz.prog.cellsOf 30=1/\Tryz.prog.cellsOf 9=1/\Tryz.prog.cellsOf 4=1:=⟨by kernel_rfl,by kernel_rfl,by kernel_rfl,by kernel_rfl,by kernel_rfl⟩
def bz2{β:Type}{f:β->XP}{p:β->Prop}{xs:List β}{c:XP}(h:ci 1 (λ_ _ z u=>z=[f u]/\p u) w w c xs):Sl w w c (xs.map f)/\∀x∈xs,p x:=by
 obtain⟨A,cap,rfl,h1,h2,h3⟩:=h;refine⟨⟨A,cap,by rw[XY],by rw[XY];exact h1,h2,λD=>?_⟩,λx hx=>?_⟩
 .obtain⟨b,o,rfl,hb,hc⟩:=h3 (λe=>D (by rw[e];rfl));refine⟨b,o,rfl,hb,λj u C=>?_⟩;rw[X5]at C;obtain⟨y,hy,rfl⟩:=Option.map_eq_some_iff.1 C;obtain⟨z,_,⟨rfl,_⟩,oZ⟩:=hc j y hy;have:=oZ 0 (f y) rfl;simpa using this
 .obtain⟨b,o,_,_,hc⟩:=h3 (List.ne_nil_of_mem hx);obtain⟨j,hj⟩:=List.mem_iff_getElem?.1 hx;obtain⟨z,_,⟨_,hp⟩,_⟩:=hc j x hj;exact hp
def Nq{fuel:Nat}{c:XP}{x:DataW H×List MemPlace}(h:DataW.trod enc X3 w base spare uQ fuel 30 [c]=XL x):∃l,aS w w c l:=by
 obtain⟨xs,h1⟩:=DM (R:=λ_ _ j u=>j=[ah u]/\aN u) underlying30 cC.1 aD (λn j y z A=>by
  match j,z with
  |[u],_=>obtain⟨n,rfl,hn⟩:=kA XZ A;exact⟨n,rfl,hn⟩) h
 exact⟨xs,bz2 h1⟩
def ce1{fuel:Nat}{c:XP}{x:DataW H×List MemPlace}(h:DataW.trod enc X3 w base spare uQ fuel 22 [c]=XL x):∃l,bg w w c l:=by
 obtain⟨xs,h1⟩:=DM (R:=λ_ _ j(u:ay)=>j=[X2 (bs u)]/\True) Zo cC.2.2.2.1 aD (λn j y z A=>by
  match j,z with
  |[u],_=>obtain⟨s,rfl,_⟩:=Ro A;exact⟨s,rfl,trivial⟩) h
 refine⟨xs,?_⟩;have:=(bz2 (f:=λu:ay=>X2 (bs u)) h1).1;unfold bg cP;rw[YM];exact this
def gl4{fuel:Nat}{c:XP}{x:DataW H×List MemPlace}(h:DataW.trod enc X3 w base spare uQ fuel 4 [c]=XL x):∃s:Bool,c=Zp s:=by obtain⟨s,j,_⟩:=DataW.trod_bool underlying4 h;injection j with j;exact⟨s,j⟩
def gl5{fuel:Nat}{c:List XP}{x:DataW H×List MemPlace}(j:c.length=3)(h:DataW.trod enc X3 w base spare uQ fuel 82 c=XL x):∃a:nC,qn w w c a:=by
 match c,j with
 |[y,z,A],_=>obtain⟨xs,n,_,_,_,bG,hg⟩:=DataW.trod_struct underlying82 h;exact ce2
def gl6{fuel:Nat}{c:List XP}{x:DataW H×List MemPlace}(j:c.length=3)(h:DataW.trod enc X3 w base spare uQ fuel 84 c=XL x):∃a:rq,v_ w w c a:=by
 match c,j with
 |[y,z,A],_=>obtain⟨xs,n,_,_,_,bG,hg⟩:=DataW.trod_struct underlying84 h;exact ce2
def gl7{fuel:Nat}{c:List XP}{x:DataW H×List MemPlace}(A:c.length=3)(h:DataW.trod enc X3 w base spare uQ fuel 104 c=XL x):∃a:t5,qp w w c a:=by
 match c,A with
 |[C,D,F],_=>
  obtain⟨xs,n,_,_,_,bG,hg⟩:=DataW.trod_struct underlying104 h
  match xs,bG with
  |[G,I,J],_=>have j:=hg 0 _ rfl;simp[cC.1,cC.2.2.1,cC.2.2.2.1,cC.2.2.2.2]at j;obtain⟨a0,rfl,i0⟩:=kA XZ j;have y:=hg 1 _ rfl;simp[cC.1,cC.2.2.1,cC.2.2.2.1,cC.2.2.2.2]at y;obtain⟨a1,rfl,i1⟩:=kA XZ y;have z:=hg 2 _ rfl;simp[cC.1,cC.2.2.1,cC.2.2.2.1,cC.2.2.2.2]at z;obtain⟨a2,rfl,i2⟩:=kA XZ z;exact⟨⟨a0,a1,a2⟩,rfl,i0,i1,i2⟩
def gl8{fuel:Nat}{c:List XP}{x:DataW H×List MemPlace}(G:c.length=7)(h:DataW.trod enc X3 w base spare uQ fuel 86 c=XL x):∃a:fq,DX w w c a:=by
 match c,G with
 |[I,J,O,U,V,X,Y],_=>
  obtain⟨xs,n,_,_,_,bG,hg⟩:=DataW.trod_struct underlying86 h
  match xs,bG with
  |[Z,y1,y2,y3,y4,y5,y6],_=>have j:=hg 0 _ rfl;simp[cC.1,cC.2.2.1,cC.2.2.2.1,cC.2.2.2.2]at j;obtain⟨a0,rfl,_⟩:=Ro j;have y:=hg 1 _ rfl;simp[cC.1,cC.2.2.1,cC.2.2.2.1,cC.2.2.2.2]at y;obtain⟨a1,rfl,i1⟩:=kA XZ y;have z:=hg 2 _ rfl;simp[cC.1,cC.2.2.1,cC.2.2.2.1,cC.2.2.2.2]at z;obtain⟨a2,rfl,i2⟩:=kA XZ z;have A:=hg 3 _ rfl;simp[cC.1,cC.2.2.1,cC.2.2.2.1,cC.2.2.2.2]at A;obtain⟨a3,rfl,i3⟩:=kA XZ A;have C:=hg 4 _ rfl;simp[cC.1,cC.2.2.1,cC.2.2.2.1,cC.2.2.2.2]at C;obtain⟨a4,rfl,i4⟩:=kA XZ C;have D:=hg 5 _ rfl;simp[cC.1,cC.2.2.1,cC.2.2.2.1,cC.2.2.2.2]at D;obtain⟨a5,rfl,i5⟩:=kA XZ D;have F:=hg 6 _ rfl;simp[cC.1,cC.2.2.1,cC.2.2.2.1,cC.2.2.2.2]at F;obtain⟨a6,i6⟩:=Nq F;exact⟨⟨a0,a1,a2,a3,a4,a5,a6⟩,_,rfl,i6,i1,i2,i3,i4,i5⟩
def gl9{fuel:Nat}{c:List XP}{x:DataW H×List MemPlace}(G:c.length=7)(h:DataW.trod enc X3 w base spare uQ fuel 88 c=XL x):∃a:cF,DY w w c a:=by
 match c,G with
 |[I,J,O,U,V,X,Y],_=>
  obtain⟨xs,n,_,_,_,bG,hg⟩:=DataW.trod_struct underlying88 h
  match xs,bG with
  |[Z,y1,y2,y3,y4,y5,y6],_=>have j:=hg 0 _ rfl;simp[cC.1,cC.2.2.1,cC.2.2.2.1,cC.2.2.2.2]at j;obtain⟨a0,rfl,i0⟩:=kA XZ j;have y:=hg 1 _ rfl;simp[cC.1,cC.2.2.1,cC.2.2.2.1,cC.2.2.2.2]at y;obtain⟨a1,rfl,i1⟩:=kA XZ y;have z:=hg 2 _ rfl;simp[cC.1,cC.2.2.1,cC.2.2.2.1,cC.2.2.2.2]at z;obtain⟨a2,rfl,i2⟩:=kA XZ z;have A:=hg 3 _ rfl;simp[cC.1,cC.2.2.1,cC.2.2.2.1,cC.2.2.2.2]at A;obtain⟨a3,rfl,i3⟩:=kA XZ A;have C:=hg 4 _ rfl;simp[cC.1,cC.2.2.1,cC.2.2.2.1,cC.2.2.2.2]at C;obtain⟨a4,rfl,i4⟩:=kA XZ C;have D:=hg 5 _ rfl;simp[cC.1,cC.2.2.1,cC.2.2.2.1,cC.2.2.2.2]at D;obtain⟨a5,rfl⟩:=gl4 D;have F:=hg 6 _ rfl;simp[cC.1,cC.2.2.1,cC.2.2.2.1,cC.2.2.2.2]at F;obtain⟨a6,i6⟩:=Nq F;exact⟨⟨a0,a1,a2,a3,a4,a5,a6⟩,_,rfl,i6,i0,i1,i2,i3,i4⟩
def gm0:Tryz.prog.cellsOf 43=4:=aI
def gm1{fuel:Nat}{c:List XP}{x:DataW H×List MemPlace}(J:c.length=10)(h:DataW.trod enc X3 w base spare uQ fuel 45 c=XL x):∃a:aQ,yW w w c a:=by
 match c,J with
 |[O,U,V,X,Y,Z,c6,c7,c8,c9],_=>
  obtain⟨xs,n,_,_,_,bG,hg⟩:=DataW.trod_struct underlying45 h
  match xs,bG with
  |[y0,y1,y2,y3,y4,y5,y6],_=>
   have j:=hg 0 _ rfl;simp[cC.1]at j;have y:=hg 1 _ rfl;simp[cC.1]at y;have z:=hg 2 _ rfl;simp[cC.1]at z;have A:=hg 3 _ rfl;simp[cC.1]at A;have C:=hg 4 _ rfl;simp[gm0]at C;have D:=hg 5 _ rfl;simp[cC.2.2.1]at D;have F:=hg 6 _ rfl;simp[cC.2.2.1]at F;obtain⟨xs',n',_,_,_,VB,hk⟩:=DataW.trod_struct underlying43 C
   match xs',VB with
   |[z0,z1,z2,z3],_=>have k0:=hk 0 _ rfl;simp[cC.1]at k0;have k1:=hk 1 _ rfl;simp[cC.2.2.2.1]at k1;have G:=hk 2 _ rfl;simp[cC.2.1]at G;have I:=hk 3 _ rfl;simp[cC.2.1]at I;obtain⟨a0,rfl,i0⟩:=kA XZ j;obtain⟨a1,rfl,i1⟩:=kA XZ y;obtain⟨a2,rfl,i2⟩:=kA XZ z;obtain⟨a3,rfl,i3⟩:=kA XZ A;obtain⟨a4,rfl,i4⟩:=kA XZ k0;obtain⟨s5,rfl,l5⟩:=Ro k1;obtain⟨a6,rfl,i6⟩:=kA underlying2 G;obtain⟨a7,rfl,i7⟩:=kA underlying2 I;obtain⟨lm,hc6⟩:=Nq D;obtain⟨ls,dB⟩:=Nq F;exact⟨⟨a0,a1,a2,a3,a4,bs s5,a6,a7,lm,ls⟩,_,_,rfl,i0,i1,i2,i3,i4,l5,i6,i7,hc6,dB⟩
def DN:Tryz.prog.cellsOf 82=3/\Tryz.prog.cellsOf 84=3/\Tryz.prog.cellsOf 104=3/\Tryz.prog.cellsOf 86=7/\Tryz.prog.cellsOf 88=7/\Tryz.prog.cellsOf 45=10/\Tryz.prog.cellsOf 29=11/\Tryz.prog.cellsOf 33=14:=
 ⟨by kernel_rfl,by kernel_rfl,by kernel_rfl,by kernel_rfl,by kernel_rfl,by kernel_rfl,by kernel_rfl,by kernel_rfl⟩
def DO:Tryz.prog.cellsOf 22=1/\Tryz.prog.cellsOf 23=1/\Tryz.prog.cellsOf 24=1/\Tryz.prog.cellsOf 25=1/\Tryz.prog.cellsOf 26=1/\Tryz.prog.cellsOf 27=1/\Tryz.prog.cellsOf 31=1:=
 ⟨by kernel_rfl,by kernel_rfl,by kernel_rfl,by kernel_rfl,by kernel_rfl,by kernel_rfl,by kernel_rfl⟩
def gm2{base0:Nat}{v:XP}{d:DataW H}{p:List MemPlace}(hv:Value.okWide X3 w .any base0 33 v)(h:DataW.Trod enc X3 w base spare uQ 33 v d p):
 ∃(m:aU)(l:List Int)(D:Int)(acts:List aQ)(mv:MV)(F C:XP),v=Zr (m.cells mv++ #[F,ah D,C])/\m.In w w mv/\aS w w F l/\aN D/\ci 10 yW w w C acts:=by
 obtain⟨⟨cs⟩,rfl,bm⟩:=okWide_struct underlying33 hv;have c:cs.length=14:=bm.t DN.2.2.2.2.2.2.2;obtain⟨fuel,hf⟩:=h;obtain⟨xs,n,_,_,_,bG,hg⟩:=DataW.trod_struct underlying33 hf
 match cs,c with
 |[c0,c1,c2,c3,c4,c5,c6,c7,c8,c9,y,Hs,c12,z],_=>
  match xs,bG with
  |[y0,y1,y2,y3],_=>
   have G:=hg 0 _ rfl;simp[Value.cells,DN.2.2.2.2.2.2.1]at G;have I:=hg 1 _ rfl;simp[Value.cells,cC.2.2.1]at I;have J:=hg 2 _ rfl;simp[Value.cells,cC.1]at J;have O:=hg 3 _ rfl;simp[Value.cells,DO.2.2.2.2.2.2]at O;obtain⟨xs',n',_,_,_,VB,hk⟩:=DataW.trod_struct underlying29 G
   match xs',VB with
   |[z0,z1,z2,z3,z4,z5,z6,z7,z8,z9,RI],_=>have k0:=hk 0 _ rfl;simp[DO.1]at k0;have k1:=hk 1 _ rfl;simp[DO.1]at k1;have U:=hk 2 _ rfl;simp[DO.2.1]at U;have V:=hk 3 _ rfl;simp[DO.2.2.1]at V;have X:=hk 4 _ rfl;simp[DO.2.2.2.1]at X;have Y:=hk 5 _ rfl;simp[DO.2.2.2.2.1]at Y;have Z:=hk 6 _ rfl;simp[cC.1]at Z;have k7:=hk 7 _ rfl;simp[cC.1]at k7;have k8:=hk 8 _ rfl;simp[cC.1]at k8;have k9:=hk 9 _ rfl;simp[cC.1]at k9;have A:=hk 10 _ rfl;simp[DO.2.2.2.2.2.1]at A;obtain⟨l0,i0⟩:=ce1 k0;obtain⟨l1,i1⟩:=ce1 k1;obtain⟨l2,i2⟩:=DM underlying23 DN.1 aD (λ_ _ _ c j=>gl5 c j) U;obtain⟨l3,i3⟩:=DM underlying24 DN.2.1 aD (λ_ _ _ c j=>gl6 c j) V;obtain⟨l4,i4⟩:=DM underlying25 DN.2.2.1 aD (λ_ _ _ c j=>gl7 c j) X;obtain⟨l5,i5⟩:=DM underlying26 DN.2.2.2.1 aD (λ_ _ _ c j=>gl8 c j) Y;obtain⟨a6,rfl,i6⟩:=kA XZ Z;obtain⟨a7,rfl,i7⟩:=kA XZ k7;obtain⟨a8,rfl,i8⟩:=kA XZ k8;obtain⟨a9,rfl,i9⟩:=kA XZ k9;obtain⟨hf8,cz4⟩:=DM underlying27 DN.2.2.2.2.1 aD (λ_ _ _ c j=>gl9 c j) A;obtain⟨lc,ic⟩:=Nq I;obtain⟨acl,rfl,icl⟩:=kA XZ J;obtain⟨la,ia⟩:=DM underlying31 DN.2.2.2.2.2.1 aD (λ_ _ _ c j=>gm1 c j) O;exact⟨⟨l0,l1,l2,l3,l4,l5,a6,a7,a8,a9,hf8⟩,lc,acl,la,⟨c0,c1,c2,c3,c4,c5,y⟩,Hs,z,rfl,⟨i0,i1,i2,i3,i4,i5,cz4,i6,i7,i8,i9⟩,ic,icl,ia⟩
end
end
end Go.Proofs.YtihhpjmclebfpaaGreatDoor
