/- A part of the proof. Here: scripts that stand often. -/
import Derived.Test.YtihhpjmclebfpaaGreatDoorQz
import Derived.WalkSpells
import Derived.Deep.AppendLies
import Derived.Lib.ItoaLen
import Derived.Lib.AppendIntMem
import Derived.Deep.RegionHeld3
import Derived.Laws.AppendOwnNone
import Derived.Laws.EntriesVeiled
import Derived.Deep.DeepCutAuto
import Derived.RangeFuncBox
import Derived.Lib.OwnBridge
import Derived.Laws.Cover1
import Derived.ProofKit
import Derived.OpenShut
import Derived.Deep.Slices
import Derived.LaidMore
import Derived.Lay
import Derived.Stop.LaidErr
import Derived.Deep.DeepWitnessRowRef
import Derived.SevenTiedAt
set_option linter.defProp false
set_option linter.unusedVariables false
set_option linter.unusedSimpArgs false
set_option maxRecDepth 100000
set_option maxHeartbeats 32000000
open Option renaming some->XL,none->XM
open Decidable renaming decide->XN
open Go renaming World->XO,Value->XP,Calls->X4,TypeId->Ya,maxLen->Yd,execOp->Y7,Addr->Zf
open Bool renaming false->XQ,true->XR
open Go.Lib renaming itoa->XS,joinTail->YJ
open And renaming intro->XU
open Go.RowKit renaming Hid->XV
open Go.Proofs renaming intOf->X8
open Go.Proofs.Tryz renaming prog->X3,underlying235->Yx,underlying179->YW,underlying22->Zo
open Go.Value renaming int->X1,string->X2,ownBlock->YC,oneCell'->YH,slice->Zk,bool->Zp,agg->Zr,pointer->Zs
open Nat renaming lt_succ_of_lt->Yw
open Go.World renaming setCell->YS,cell?->Zc
open Go.IntKind renaming i64->Yo
open Go.Instr renaming lookup->Yu
open Go.Ending renaming returned->YT
open Go.Oper renaming wp->Zm
open Go.Obj renaming cells->Zq
open Go.Operand renaming tmp->Zt,const->Zu
namespace Go.RowKit
theorem Hid.o {p:Prop} (h:Hid p):p:=h
end Go.RowKit
theorem Go.Shut.o {p:Prop} (h:Shut p):p:=h
namespace Go
def Calls.m:=@Calls.mono
def CallsIn.m:=@CallsIn.mono
def Rows.m:=@Rows.mono
def RoundIn.m:=@RoundIn.mono
variable {P:Program}{f:FuncId}{a:Array Value}{w:World}{Q:Ending->World->Prop}
theorem Calls.r {x:World->Value}{S:World->Prop}(h:Calls P f a w fun e w'=>e=.returned (x w')/\S w')(k:∀w',S w'->Q (.returned (x w')) w'):Calls P f a w Q:=h.mono (by rintro e w' ⟨rfl,h⟩;exact k w' h)
theorem Calls.q {A:Sort _}{x:A->World->Value}{S T:A->World->Prop}(h:Calls P f a w fun e w'=>∃u,e=.returned (x u w')/\S u w'/\T u w')(k:∀w' u,S u w'->T u w'->Q (.returned (x u w')) w'):Calls P f a w Q:=h.mono (by rintro e w' ⟨u,rfl,h,t⟩;exact k w' u h t)
theorem Calls.z {x:Value}{W:World}(h:Calls P f a w fun e w'=>e=.returned x/\w'=W)(k:Q (.returned x) W):Calls P f a w Q:=h.mono (by rintro e w' ⟨rfl,rfl⟩;exact k)
end Go
namespace Go.Proofs.YtihhpjmclebfpaaGreatDoor
open Go Go.RowKit Go.Proofs.Tryz
def X0:=@List.length_append
def X5:=@List.getElem?_map
def X6:=@Go.World.ownsRow.lt
def X7:=@Nat.add_zero
def X9:=@List.getD_eq_getElem?_getD
def XT:=@List.getElem?_eq_getElem
def XW:=@Bool.and_eq_true
def XX:=@Go.Proofs.enters_of
def XY:=@List.length_map
def XZ:=@Go.Proofs.Tryz.underlying3
def Y0:=@Go.info_parts
def Y1:=@Go.World.cell?_of_block
def Y5:=@Nat.le_succ
def Y6:=@List.mem_of_mem_drop
def Y9:=@Nat.zero_add
def YA:=@List.nil_append
def YE:=@List.take_add_one
def YF:=@List.length_cons
def YG:=@Option.some.inj
def YI:=@Go.RowKit.Below.refl
def YK:=@List.length_take
def YL:=@List.mem_append
def YM:=@List.map_map
def YN:=@List.getElem?_append_left
def YP:=@Go.Proofs.Tryz.underlying9
def YU:=@Nat.lt_succ_self
def YV:=@Go.wpList_append_own
def YX:=@Bool.or_eq_true
def YY:=@Go.World.size_alloc
def YZ:=@Bool.not_eq_true'
def Yc:=@Go.World.ownsRow_nil
def Ye:=@List.take_of_length_le
def Yf:=@Bool.eq_iff_iff
def Yg:=@List.map_cons
def Yh:=@Bool.false_eq_true
def Yi:=@List.append_assoc
def Yj:=@Go.World.cell?_alloc_new
def Yk:=@List.cons_append
def Yl:=@List.length_singleton
def Ym:=@List.length_drop
def Yn:=@List.all_eq_true
def Yp:=@List.map_append
def Yq:=@List.not_mem_nil
def Yr:=@Go.IntWalk.i64_in
def Ys:=@List.mem_cons
def Yt:=@Nat.lt_or_ge
def Yy:=@Go.heap_alloc_new
def Za:=@List.getElem?_append_right
def Zd:=@List.append_nil
def Zg:=@Go.World.cell?_alloc_lt
def Zj:=@ByteArray.size_extract
def Zl:=@Go.World.grownBy.refl
def Zn:=@List.length_nil
instance:CoeFun Nat (fun _=>Nat->Option Nat->Addr):=⟨Addr.mk⟩
instance:CoeFun World (fun _=>Nat->Option Nat->Addr):=⟨fun w=>Addr.mk w.heap.size⟩
instance:Coe Nat Addr:=⟨fun b=>⟨b,0,XM⟩⟩
instance:Coe World Nat:=⟨fun w=>w.heap.size⟩
instance:Coe Int Value:=⟨Value.int .i64⟩
instance:Coe Nat Value:=⟨fun n=>Value.int .i64 n⟩
instance:Coe ByteArray Value:=⟨Value.string⟩
structure TQ (p:Prop) where
instance{p:Prop}:CoeSort (TQ p) Prop:=⟨fun _=>p⟩
def aa (w:World) (b o:Nat) (v:Value):TQ (w.cell? ⟨b,o,XM⟩=some v):=⟨⟩
def ae (w:World) (a:Addr) (v:Value):TQ (w.cell? a=some v):=⟨⟩
def af (w:World) (b:Nat) (c:Array Value) (t:TypeId):TQ (w.heap[b]? =some (Obj.cells c t (0,0))):=⟨⟩
def _root_.Eq.t:=@Eq.trans
def _root_.Iff.t:=@Iff.trans
def _root_.HEq.t:=@HEq.trans
def _root_.Go.RowKit.Below.t:=@Go.RowKit.Below.trans
def _root_.Go.World.grownBy.t:=@Go.World.grownBy.trans
def _root_.Go.World.mapTurned.t:=@Go.World.mapTurned.trans
def _root_.List.IsSuffix.t:=@List.IsSuffix.trans
def _root_.List.IsPrefix.t:=@List.IsPrefix.trans
def _root_.List.Sublist.t:=@List.Sublist.trans
def _root_.List.Perm.t:=@List.Perm.trans
structure TK where
instance:CoeFun TK (fun _=>Int->Value):=⟨fun _=>Value.int .i64⟩
def ah:TK:=⟨⟩
abbrev aR (f:Nat) (args:Array XP) (w:XO) (x:XP):Prop:=X4 X3 f args w λe w'=>e=YT x/\Below w w w'
def aj{p:Prop}(h:p):XV p:=Lib.hid h
def ar(n:Nat):n<=n:=Nat.le_refl n
def bJ{a b c:Nat}(h:a<b)(k:b<=c):a<c:=Nat.lt_of_lt_of_le h k
def bC{a b c:Nat}(h:a<=b)(k:b<=c):a<=c:=Nat.le_trans h k
def fK{a b:Nat}(h:a<b):a<=b:=Nat.le_of_lt h
def bU(n:Nat):0<=n:=Nat.zero_le n
def bY(w:XO)(a:Zf){v:XP}(h:ae w a v):a.block<w:=World.block_lt_of_cell? w a h
def eE{α:Type}{l:List α}{i:Nat}{a:α}(h:l[i]?=XL a):a∈l:=List.mem_of_getElem? h
variable {p q:Prop} (h:q)
def Zv(h:p:=by omega):p:=h
def aI(h:p:=by kernel_rfl):p:=h
def aD(h:p:=by decide):p:=h
def Zy(h:p:=by simp):p:=h
def bN(h:p:=by simp;omega):p:=h
def eN(h:p:=by rw[hk];rfl):p:=h
def Bw(h:p:=by first|exact(ak (ak (ak (am w) _) _) _)|exact aW (ak (ak (ak (am w) _) _) _)):p:=h
def mr(h:p:=by first|omega|(simp;omega)):p:=h
def Ty(h:p:=by first|exact HR.symm|(rw[HR.o];simp_all;done)|(rw[HR.o];by_cases g1:x.other=0<;>by_cases g2:x.by_=0<;>by_cases g3:x.n=0<;>cases al<;>simp_all;done)|(rw[HR.o,Yf];simp_all<;>omega)):p:=h
def fH(h:p:=by simp[Yd]):p:=h
def ED(h:p:=by simp[fU,b_,fk,im,nw,ka,pu,rZ,c_,ll,eK,qN,iJ,iL,iK,qP,qO,dT,qK,qJ,hR,hN]):p:=h
def de(h:p:=by rfl):p:=h
def EE(h:p:=by have:=(List.getElem?_eq_some_iff.1 ha).1;omega):p:=h
def oL(h:p:=by simpa using h4):p:=h
def jM(h:p:=by go_simp):p:=h
def Bx(h:p:=by simp[results,results68,go_sem]):p:=h
def qE(h:p:=by simpa using h5):p:=h
def Kq(h:p:=by first|(simp only[b_,fk];done)|(simp only[b_,fk];rfl)):p:=h
def EF(h:p:=by simp[results,results121,go_sem,qQ, *]):p:=h
def CS(h:p:=by rw[hk,beq_eq_false_iff_ne];omega):p:=h
def uD(h:p:=by show _<10;decide):p:=h
def CU(h:p:=by have:=hO.len;have:=h.Mle;omega):p:=h
def wO(h:p:=by rw[eM];exact hl.1):p:=h
def uE(h:p:=by simp[Yd];omega):p:=h
def Ob(h:p:=by injection e with e;injection e with e;subst e;simp;omega):p:=h
def Oc(h:p:=by simp[results,results186,go_sem,jZ,bs,c0,c1,c2,c3,hz]):p:=h
def Tz(h:p:=by simp[fU,b_,fk,im,nw,ka,pu,rZ,c_,ll,eK,qN,iJ,iL,iK,qP,qO,dT,qK,qJ,hR]):p:=h
def CV(h:p:=by unfold lL;split<;>omega):p:=h
def TA(h:p:=by intro u hu;simp at hu;rcases hu with rfl|rfl|rfl|rfl|rfl|rfl<;>rfl):p:=h
def TB(h:p:=by simp[fU,b_,fk,im,nw,ka,pu,rZ,c_,ll,eK,qN,iJ,iL,iK,qP,qO,dT,qK,qJ]):p:=h
def Kr(h:p:=by obtain⟨y,_,rfl⟩:=List.mem_map.1 h;rfl):p:=h
def hk5(h:p:=by rw[XS,if_neg (by decide)];exact LO (by decide)):p:=h
def Br(h:p:=by have:=HZ.o;omega):p:=h
def cf6(h:p:=by simp only[Y7,dO,Option.map_none,Sem.run_bind,run_makeMap,Result.andThen_ok,Sem.run_pure]):p:=h
def Oa(h:p:=by first|exact zX aZ _|exact zX (zX aZ _) _):p:=h
def cf7(h:p:=by exact⟨Ub,ya,Uc,Ud,Uf,Ug,Uh,Ui,Uj,Uk,Ul,Um,Ue,CZ,tB,qG,qH,C5,tC,Un⟩):p:=h
def Bt(h:p:=by dsimp only;omega):p:=h
def Bv(h:p:=by simp only[fv,hk]):p:=h
def cf8(h:p:=by simp[results,results310,go_sem,jZ,HX.o,t0,t1,t2,t3,r0,r1,r2,r3,aT,ha5,FB,eh]):p:=h
def CR(h:p:=by simp[cI,aQ.cells]):p:=h
def zH(h:p:=by simpa using h):p:=h
def zI(h:p:=by rw[LK,hk];rfl):p:=h
def zJ(h:p:=by rw[eM];decide):p:=h
def Hn(h:p:=by rw[<-he];exact ag hm rfl):p:=h
def cg2(h:p:=by intro e;have:=congrArg List.length e;simp at this;rw[this]at hi;simp at hi):p:=h
def cg3(h:p:=by simp[fU,b_,fk,im,nw,ka,pu,rZ,c_,ll,eK,qN,iJ,iL,iK,qP,qO,dT,qK,qJ,hR,hN,hb]):p:=h
def uF(h:p:=by simp[YH]):p:=h
def uG(h:p:=by simp[hy]):p:=h
def Bz(h:p:=by simpa using hj):p:=h
def Om(h:p:=by first|exact HF.o|(rw[HF.o];rfl)):p:=h
def TM(h:p:=by unfold bK at h;simp only[XW]at h;exact h.1.1):p:=h
def CX(h:p:=by exact aW (am _)):p:=h
def cg4(h:p:=by simp[fU,b_,fk,im,nw,ka,pu,rZ,c_,ll,eK,qN,iJ,iL,iK,qP,qO,dT,qK,qJ,hN]):p:=h
def CY(h:p:=by simp[Hid,dH,hk]):p:=h
def x_(h:p:=by assumption):p:=h
def On(h:p:=by intro e;injection e with e;omega):p:=h
def Ho(h:p:=by rw[HL.o];exact ap):p:=h
def cg5(h:p:=by intro e;have:=congrArg List.length e;rw[ka,X0,XY,Zn]at this;omega):p:=h
def TN(h:p:=by unfold dY at wW;simp only[X0]at wW;omega):p:=h
def hk9(h:p:=by rw[hd];exact cP.none_ (by simp)):p:=h
def BA(h:p:=by simp[HK.o]):p:=h
def BC(h:p:=by rw[Zj];omega):p:=h
def Hp(h:p:=by rw[hF.size];decide):p:=h
def cg6(h:p:=by unfold aJ;rw[<-List.flatten_append,<-Yp,List.take_append_drop]):p:=h
def Kx(h:p:=by rw[hF.size];exact hs.1):p:=h
def Oo(h:p:=by intro e;exact aT (by rw[e])):p:=h
def cg7(h:p:=by unfold ew at h;simp only[XW]at h;exact h.1.1.1.1.1.1.1.1.1):p:=h
def hk6(h:p:=by unfold sK;rw[if_neg (by omega),hq];rfl):p:=h
def TF(h:p:=by rw[xq (lk h1) (by simp[iY,sc h1])];rfl):p:=h
def hk7(h:p:=by unfold sL;rw[if_neg (by omega),hq];rfl):p:=h
def cf9(h:p:=by constructor;all_goals first|kernel_rfl|(intros;kernel_rfl)):p:=h
def xZ(h:p:=by simp[kJ]):p:=h
def Ku(h:p:=by rw[li.o];exact ap):p:=h
def Oh(h:p:=by rw[Array.length_toList];rfl):p:=h
def wP(h:p:=by trivial):p:=h
def Oi(h:p:=by rw[decide_eq_decide];omega):p:=h
def Hk(h:p:=by rw[HN.o];omega):p:=h
def Hl(h:p:=by rw[h.1];exact hj):p:=h
def cg0(h:p:=by obtain⟨A,c,rfl,h1,h2,_⟩:=h;exact⟨A,_,c,rfl,rfl,h1,h2⟩):p:=h
def cg1(h:p:=by exact((aW (ak (am W) _)).block _ ap |>.trans HB)):p:=h
def Oj(h:p:=by simp at hy⊢;exact .inr hy):p:=h
def hk8(h:p:=by have:=h;rw[mC,Gj (hk a (by simp))]at this;exact this):p:=h
def TG(h:p:=by rw[<-HP.o,hx];intro q hq;cases hq):p:=h
def Hm(h:p:=by show _<6;decide):p:=h
def Kv(h:p:=by simp[eO];try omega):p:=h
def Kw(h:p:=by simp[aE];try omega):p:=h
def TH(h:p:=by rw[List.not_any_eq_all_not];simp):p:=h
def EG(h:p:=by simp<;>omega):p:=h
def Ol(h:p:=by simp[World.frozen?,r1]):p:=h
def By(h:p:=by simp[hx]):p:=h
def TI(h:p:=by rw[List.drop_eq_nil_iff];omega):p:=h
def TJ(h:p:=by apply decide_eq_decide.2;omega):p:=h
def TL(h:p:=by exact⟨kc aV hS.1,aq hS.2 aV⟩):p:=h
def Ks(h:p:=by simp at hn;omega):p:=h
def Od(h:p:=by have:=hV.2.2.1;omega):p:=h
def TC(h:p:=by rw[List.not_all_eq_any_not]):p:=h
def Kt(h:p:=by rw[HO.o];simp):p:=h
def CW(h:p:=by rw[hj,e]):p:=h
def TD(h:p:=by simpa[gx,pw,im,nT]using h):p:=h
def TE(h:p:=by simpa[gx,pw,im,Aw]using h):p:=h
def Oe(h:p:=by rw[<-HP.o,hx];rfl):p:=h
def Of(h:p:=by rw[li.o];omega):p:=h
def Og(h:p:=by rw[HT.o,HD.o]):p:=h
def Hq(h:p:=by rw[ho];rfl):p:=h
def EH(h:p:=by simp[aJ]):p:=h
def Ky(h:p:=by rw[FD h];rfl):p:=h
def g_(h:p:=by kernel_rfl):p:=h
def Oq(h:p:=by rw[XS,if_neg aD];exact LO aD):p:=h
def Ot(h:p:=by rw[hd];exact cP.none_ Zy):p:=h
def TO(h:p:=by unfold sK;rw[if_neg Zv,hq];rfl):p:=h
def TP(h:p:=by unfold sL;rw[if_neg Zv,hq];rfl):p:=h
def hZ(h:p:=by kernel_rfl):p:=h
def rF(e:XV q->p:=by intro abj;have qa:∀(fn:Fn)(first cap:Array XP)(w:XO),(Instr.makeFunc fn first cap).run X3 w= .ok (.func fn first cap) w:=λ_ _ _ _=>rfl;revert qa;exact abj.o):=e h
def sV(e:XV q->p:=by intro abj;obtain⟨⟨Sa,sc,hs,bZ,bL⟩,⟨Fa,fc,bS,bM,cj⟩,⟨Ra,rc,hr,cd,cZ⟩,⟨Ma,mc,hm,cr,co⟩,⟨La,lc,hl,cW,dh⟩,⟨Ia,ic,hi,dg,d'⟩,⟨Ua,uc,hu,dm,dr⟩⟩:=hv.cells;have HS:=aj (nD m hs bS hr hm hl hi hu);revert Sa sc hs bZ bL Fa fc bS bM cj Ra rc hr cd cZ Ma mc hm cr co La lc hl cW dh Ia ic hi dg d' Ua uc hu dm dr HS;exact abj.o):=e h
def aa4(e:XV q->p:=by
 intro abj;have d4:aa w1 pa 4 (ah 0):=by simp[Zc,r1]
 have f4:w1.frozen? (pa 4 XM)=false:=Ol;have d5:aa w1 pa 5 (X2 ⟨#[]⟩):=by simp[Zc,r1]
 have f5:w1.frozen? (pa 5 XM)=false:=Ol;have d6:aa w1 pa 6 (ah 0):=by simp[Zc,r1]
 have f6:w1.frozen? (pa 6 XM)=false:=Ol;have d7:aa w1 pa 7 (ah 0):=by simp[Zc,r1]
 have f7:w1.frozen? (pa 7 XM)=false:=Ol;have Fm:pa<w1:=bJ ap aC.size;have aT:¬pa=w1:=Zv;have iF:¬w1.heap.size=pa:=Zv;have R1:=aj r1;revert d4 f4 d5 f5 d6 f6 d7 f7 Fm aT iF R1;exact abj.o):=e h
def QX(e:XV q->p:=by intro abj;have e0:ae w7 xb (ah d.kind):=(lW.cell ct4).t d0;have e1:aa w7 xb 1 (X2 (bs d.name)):=(lW.cell ct4).t d1;have qe:ae w7 rb (.map (XL Mb)):=(lW.cell ha8).t yH;have Eh:=aj (G0.blk (lW.2.2 Mb ha6));have tr:=aj (rW.blk (lW.2.2 (w+1) Zv));have uk:=aj (qY.of_eq λx=>(tg x).symm);have j':Hid (aL w Mb w w7):=nL.t (aL.turnB lW (ar _));revert e0 e1 qe Eh tr uk j';exact abj.o):=e h
def QV(e:XV q->p:=by intro abj;have c0:ae w5 xb (ah d.kind):=(jU.cell ct5).t b0;have c1:aa w5 xb 1 (X2 (bs d.name)):=(jU.cell ct5).t b1;have mh:ae w5 rb (.map (XL Mb)):=(jU.cell ha9).t sE;have zv:=aj (vI.blk (jU.2.2 Mb ha7));have CC:=aj (CB.blk (jU.2.2 w Zv));have nN:=aj (qX.of_eq λx=>(bs8 x).symm);have gK:Hid (aL w Mb w w5):=il.t (aL.turnB jU Zv);revert c0 c1 mh zv CC nN gK;exact abj.o):=e h
def Rv(e:XV q->p:=by intro abj;have eB:aa wr b1 (p1+k*10+0) (ah x.kind):=(bq.cell (p:=⟨b1,p1+k*10+0,XM⟩) aC).t (br 0 _ rfl);have jN:=kc bq (br 1 _ rfl);have jB:=kc bq (br 2 _ rfl);have nx:=kc bq (br 3 _ rfl);have lK:=kc bq (br 4 _ rfl);have nP:=kc bq (br 5 _ rfl);have oN:=kc bq (br 6 _ rfl);have wS:=kc bq (br 7 _ rfl);have ye:=kc bq (br 8 _ rfl);have yf:=kc bq (br 9 _ rfl);revert eB jN jB nx lK nP oN wS ye yf;exact abj.o):=e h
def xO(e:XV q->p:=by intro abj;have valid':=λW hb=>am1 x (Zk Am nm cm) (Zk As ns cs) W ((HX.below hb (ar _)).more (Below.size hb));revert valid';exact abj.o):=e h
def bz0(e:XV q->p:=by intro abj;have eB:=(bq.cell (p:=⟨B1,p1+k*7+0,XM⟩) aC).t (br 0 _ rfl);have jN:=(bq.cell (p:=⟨B1,p1+k*7+1,XM⟩) aC).t (br 1 _ rfl);have jB:=(bq.cell (p:=⟨B1,p1+k*7+2,XM⟩) aC).t (br 2 _ rfl);have nx:=(bq.cell (p:=⟨B1,p1+k*7+3,XM⟩) aC).t (br 3 _ rfl);have lK:=(bq.cell (p:=⟨B1,p1+k*7+4,XM⟩) aC).t (br 4 _ rfl);have nP:=(bq.cell (p:=⟨B1,p1+k*7+5,XM⟩) aC).t (br 5 _ rfl);have oN:=(bq.cell (p:=⟨B1,p1+k*7+6,XM⟩) aC).t (br 6 _ rfl);have kL:=(bq.cell (p:=⟨B2,p2+k*7+0,XM⟩) au).t (cM 0 _ rfl);have nQ:=(bq.cell (p:=⟨B2,p2+k*7+1,XM⟩) au).t (cM 1 _ rfl);have nR:=(bq.cell (p:=⟨B2,p2+k*7+2,XM⟩) au).t (cM 2 _ rfl);have zT:=(bq.cell (p:=⟨B2,p2+k*7+3,XM⟩) au).t (cM 3 _ rfl);have zU:=(bq.cell (p:=⟨B2,p2+k*7+4,XM⟩) au).t (cM 4 _ rfl);have zV:=(bq.cell (p:=⟨B2,p2+k*7+5,XM⟩) au).t (cM 5 _ rfl);have zW:=(bq.cell (p:=⟨B2,p2+k*7+6,XM⟩) au).t (cM 6 _ rfl);revert eB jN jB nx lK nP oN kL nQ nR zT zU zV zW;exact abj.o):=e h
def bd3(e:XV q->p:=by
 intro abj;have tJ:pa<(((((w1.setCell (pa 4 XM) (ah p0)).setCell (pa 5 XM) (X2 p1)).setCell (pa 6 XM) (ah p2)).setCell (pa 7 XM) (ah p3))).heap.size:=by simpa[YS]using Fm
 have ir:=eu3 (xw (xw (xw (xw (AN aC (Zl w1 (XL pa))) 4 (ah p0)) 5 (X2 p1)) 6 (ah p2)) 7 (ah p3)) (Zq #[p0,p1,p2,p3] 43);have r2:=(Below.heap_alloc _ (Zq #[p0,p1,p2,p3] 43) pa tJ).t (ku (ku (ku (ku R1 4 (ah p0)) 5 (X2 p1)) 6 (ah p2)) 7 (ah p3));have fL:=(((((aC.mono (fK ap)).setCell (p:=pa 4 XM) (ar _) (ah p0)).setCell (p:=pa 5 XM) (ar _) (X2 p1)).setCell (p:=pa 6 XM) (ar _) (ah p2)).setCell (p:=pa 7 XM) (ar _) (ah p3)).alloc (fK tJ) (Zq #[p0,p1,p2,p3] 43);revert tJ ir r2 fL;exact abj.o):=e h
def Gu(e:XV q->p:=by intro abj;have bB:=aj (Below.t bE (hb.mono (Y5 _)));have eh:=bC Aj hb.size;have fT:=aj (gl jc hb (YU _));obtain⟨a0,a1,a2,a3,a4,a5,a6,a7,a8,a9,cN⟩:=bQ fT.o;revert bB eh fT a0 a1 a2 a3 a4 a5 a6 a7 a8 a9 cN;exact abj.o):=e h
def IM(e:XV q->p:=by intro abj;obtain⟨⟨Sa,sc,hs,bZ,bL⟩,⟨Fa,fc,hf,bM,cj⟩,⟨Ra,rc,hr,cd,cZ⟩,⟨Ma,mc,hm,cr,co⟩,⟨La,lc,hl,cW,dh⟩,⟨Ia,ic,hi,dg,d'⟩,⟨Ua,uc,hu,dm,dr⟩⟩:=hv.cells;have HS:=aj (nD m hs hf hr hm hl hi hu);have jb:=aj λW(hW:Below w w W)=>bb8 m v x.item W (hv.to hW (ar _) hW.size);revert Sa sc hs bZ bL Fa fc hf bM cj Ra rc hr cd cZ Ma mc hm cr co La lc hl cW dh Ia ic hi dg d' Ua uc hu dm dr HS jb;exact abj.o):=e h
def RR(e:XV q->p:=by intro abj;have eB:=(bq.cell (p:=⟨B1,p1+k*3+0,XM⟩) aC).t (br 0 _ rfl);have jN:=(bq.cell (p:=⟨B1,p1+k*3+1,XM⟩) aC).t (br 1 _ rfl);have jB:=(bq.cell (p:=⟨B1,p1+k*3+2,XM⟩) aC).t (br 2 _ rfl);have kL:=(bq.cell (p:=⟨B2,p2+k*3+0,XM⟩) au).t (cM 0 _ rfl);have nQ:=(bq.cell (p:=⟨B2,p2+k*3+1,XM⟩) au).t (cM 1 _ rfl);have nR:=(bq.cell (p:=⟨B2,p2+k*3+2,XM⟩) au).t (cM 2 _ rfl);revert eB jN jB kL nQ nR;exact abj.o):=e h
def Z9(e:XV q->p:=by intro abj;have bp:=aj (aq (ak (ak (am w) _) _) aC);have c2:=ai (mp _) aC;have c3:=ai (NU _) aC;have HZ:=aj (blk_lt c3);have e0:=ag (o:=0) c2 rfl;have e1:=ag (o:=1) c2 rfl;have e2:=ag (o:=2) c2 rfl;have e3:=ag (o:=3) c2 rfl;have e4:=ag (o:=4) c2 rfl;have e5:=ag (o:=5) c2 rfl;have e6:=ag (o:=6) c2 rfl;have e7:=ag (o:=7) c2 rfl;have e8:=ag (o:=8) c2 rfl;have e9:=ag (o:=9) c2 rfl;have eB:=ag (o:=10) c2 rfl;have d1:=ag (o:=1) c3 rfl;have d2:=ag (o:=2) c3 rfl;revert bp c2 c3 HZ e0 e1 e2 e3 e4 e5 e6 e7 e8 e9 eB d1 d2;exact abj.o):=e h
def PD(e:XV q->p:=by intro abj;have z1:aa W px 1 (ah 0):=lR hp (o:=1) uD;have f1:W.frozen? (px 1 XM)=false:=py hp 1;have z2:aa W px 2 (ah 0):=lR hp (o:=2) uD;have f2:W.frozen? (px 2 XM)=false:=py hp 2;revert z1 f1 z2 f2;exact abj.o):=e h
def QT(e:XV q->p:=by intro abj;have b0:=kc aV BD;have b1:=kc aV vL;have sE:=kc aV lF;have bW:=aj (aq GG aV);have vI:=aj (zx.later bW);have CB:=aj (JM.later bW);have pR:=aj (gi.later bW);have il:Hid (aL w Mb w w4):=nM.t (aL.of_below bW B6 bW.size);revert b0 b1 sE bW vI CB pR il;exact abj.o):=e h
def RP(e:XV q->p:=by intro abj;have du:=aq (ak (ak aZ _) _) aM;have gJ:w.heap.size<w3:=dQ aM bN;have nj:w2.heap.size<w3:=dQ aM bN;obtain⟨kE,pF⟩:=dE aM;have Ps:w2.heap.size<w2+1+1:=Zv;have rj:¬9223372036854775807<(bs (cb 10)).size+(bs (fV [x.a,x.b])).size+5:=Zv;have cd:¬9223372036854775807<(bs (cb 10)).size+(bs (fV [x.a,x.b])).size+5+x.key.size:=Zv;revert du gJ nj kE pF Ps rj cd;exact abj.o):=e h
def QW(e:XV q->p:=by intro abj;have d0:=kc cL c0;have d1:=kc cL c1;have yH:=kc cL mh;have G0:=aj (zv.later cL);have te:=aj (CC.later cL);have rW:=aj (nN.later cL);have nL:Hid (aL w Mb w w6):=gK.t (aL.of_below cL gK.size cL.size);revert d0 d1 yH G0 te rW nL;exact abj.o):=e h
def Gq(e:XV q->p:=by intro abj;have a_:=blk_lt hx;have yI:rb<W1:=bJ bk hB.size;have wZ:nb<W1:=bJ mH hB.size;revert a_ yI wZ;exact abj.o):=e h
def vg(e:XV q->p:=by intro abj;have mG:=fun(t:Ya)(w:XO)=>run_makeMap (P:=X3) t w;revert mG;exact abj.o):=e h
def bd0(e:XV q->p:=by intro abj;have HT:=aj (h.take_ 2 Zv);have HS:=aj λs(hs:s∈l.take 2)=>bm s (List.mem_of_mem_take hs);have HZ:=aj (bm _ (Cb (k:=2) Zv));have HQ:=aj hq;have uq:=aj (show(l.take 2).length<=100000 by simp;omega);have Hy:dd (W.alloc (Zq #[Zs (XL (pa 1 XM)),Zs (XL (pa 2 XM))] 158)).drew:=hG.step (aW (ak (am W) _));have If:Below pa W (W.alloc (Zq #[Zs (XL (pa 1 XM)),Zs (XL (pa 2 XM))] 158)).drew:=FE (((am W).mono (fK ap)).alloc (fK ap) _);have aT:¬pa=W:=Zv;have iF:¬W.heap.size=pa:=Zv;have i2:(2:Int)<=c:=Zv;have n2:2<=c:=Zv;revert HT HS HZ HQ uq Hy If aT iF i2 n2;exact abj.o):=e h
def oV(e:XV q->p:=by intro abj;have bq:Hid (Below w w wr):=aq ba hB;revert bq;exact abj.o):=e h
def Jt(e:XV q->p:=by intro abj;have bB:=aj (Below.t bE (hb.mono (fK bd)));have eh:=fK hj.lt;have dG:=gl jc hb bd;have fT:=aj dG;revert bB eh dG fT;exact abj.o):=e h
def Rj(e:XV q->p:=by intro abj;have jK:(0:Int)<=j:=Zv;have nf:(j:Int)+1 - 1=j:=Zv;have lA:(j:Int)<m.sites.length:=Zv;have uR:j<m.sites.length:=Zv;have sy:IntKind.i64.wrap (j:Int)=j:=Yr _ Zv;revert jK nf lA uR sy;exact abj.o):=e h
def az1(e:XV q->p:=by intro abj;have LI:w2.heap.size=w1.heap.size+1+1:=hT.2.1.t Zy;obtain⟨l0,l1,l2,l3,l4,l5,l6,l7,l8,l9⟩:=kM.turns (zt.below (ak (ak (am w1) _) _) a_) hT Zv;obtain⟨q0,q1,q2,q3,q4,q5,q6,q7,q8,q9⟩:=lU.lies;have p3:aa w2 w1 3 (.func (.func gf) #[] caps):=(hT.cell Zy).t jM;have aZ:=hT.1 w1 w1 (ak (ak (am w1) _) _) Zv;have Bc:=aj (aq bp aZ);have aX:=aj aZ;have bd:w.heap.size<w2:=Zv;have lD:w1.heap.size<w2:=Zv;have lE:w1.heap.size+1<w2:=Zv;have SC:=dt4 x y (Zk Am nm cm) (Zk As ns cs) m' s' w2 ((HX.below Bc (ar _)).more Bc.size) ((HY.below Bc (ar _)).more Bc.size);revert LI l0 l1 l2 l3 l4 l5 l6 l7 l8 l9 q0 q1 q2 q3 q4 q5 q6 q7 q8 q9 p3 aZ Bc aX bd lD lE SC;exact abj.o):=e h
def WT(e:XV q->p:=by intro abj;have used':=λW hb=>du4 x (Zk Am nm cm) (Zk As ns cs) W ((HX.below hb (ar _)).more (Below.size hb));have same':=λW m' s' hb(hu:(cI x).In W W m' s')=>WR x (cI x) (Zk Am nm cm) (Zk As ns cs) m' s' W ((HX.below hb (ar _)).more (Below.size hb)) hu;revert used' same';exact abj.o):=e h
def XF(e:XV q->p:=by intro abj;have Hb:=aj dr;have dP:Hid (Below w w w6):=cT.grown hg (by have:=cT.size;omega) (λk hk=>by injection hk with hk;omega);have hr:=(hg.block _ (by have:=blk_lt Ep.o;omega) On).t Ep.o;obtain⟨⟨d0,d1,d2,d3⟩,f0,f1,f2,f3⟩:=IW hr;obtain⟨⟨o0,o1,o2,o3⟩,-⟩:=IW hb;revert Hb dP hr d0 d1 d2 d3 f0 f1 f2 f3 o0 o1 o2 o3;exact abj.o):=e h
def QJ(e:XV q->p:=by intro abj;have x0:aa wr mb (mo+k*3) (X2 (bs nm)):=(bB.cell (p:=⟨mb,mo+k*3,XM⟩) gw).t (eG 0 _ rfl);have x1:=kc bB (eG 1 _ rfl);have x2:=kc bB (eG 2 _ rfl);revert x0 x1 x2;exact abj.o):=e h
def cc5(e:XV q->p:=by intro abj;have e0:=(bq.cell (p:=⟨b,o+k*7+0,XM⟩) hb).t (bo 0 _ rfl);have e1:=(bq.cell (p:=⟨b,o+k*7+1,XM⟩) hb).t (bo 1 _ rfl);have e2:=(bq.cell (p:=⟨b,o+k*7+2,XM⟩) hb).t (bo 2 _ rfl);have e3:=(bq.cell (p:=⟨b,o+k*7+3,XM⟩) hb).t (bo 3 _ rfl);have e4:=(bq.cell (p:=⟨b,o+k*7+4,XM⟩) hb).t (bo 4 _ rfl);have e5:=(bq.cell (p:=⟨b,o+k*7+5,XM⟩) hb).t (bo 5 _ rfl);have e6:=(bq.cell (p:=⟨b,o+k*7+6,XM⟩) hb).t (bo 6 _ rfl);revert e0 e1 e2 e3 e4 e5 e6;exact abj.o):=e h
def QL(e:XV q->p:=by intro abj;have cU:=aj λW(h:Below Wx Wx W)=>(XU (bQ (ai (ai fT fE) h)) (XU (IV (ai kj h)) (XU (kc h (kc fE ej)) (kc h (kc fE ei)))));revert cU;exact abj.o):=e h
def QM(e:XV q->p:=by intro abj;have x1:=kc bB (eG 1 _ rfl);have x2:=kc bB (eG 2 _ rfl);have x3:=kc bB (eG 3 _ rfl);have x4:=kc bB (eG 4 _ rfl);have x5:=kc bB (eG 5 _ rfl);have x6:=kc bB (eG 6 _ rfl);revert x1 x2 x3 x4 x5 x6;exact abj.o):=e h
def Nh(e:XV q->p:=by intro abj;obtain⟨⟨S1,s1,bZ,-,-⟩,⟨F1,f1,bM,-,-⟩,⟨R1,r1,cd,-,-⟩,⟨M1,m1,cr,-,-⟩,⟨L1,l1,cW,-,-⟩,⟨I1,i1,dg,-,-⟩,⟨U1,u1,dm,-,-⟩⟩:=fS.cells;have ur:=aj (nD m bZ bM cd cr cW dg dm);revert S1 s1 bZ F1 f1 bM R1 r1 cd M1 m1 cr L1 l1 cW I1 i1 dg U1 u1 dm ur;exact abj.o):=e h
def DW(e:XV q->p:=by intro abj;obtain⟨l0,l1,l2,l3,l4,l5,l6,l7,l8,l9⟩:=id ha;have BT:¬px=pa:=aT;have iF:¬pa=px:=λe=>aT e.symm;have HP:=aj hp;revert l0 l1 l2 l3 l4 l5 l6 l7 l8 l9 BT iF HP;exact abj.o):=e h
def af8(e:XV q->p:=by intro abj;obtain⟨i0,hi,cA,a_,bd⟩:=Y0 (show(Tryz.prog.info? 86).map (λi=>(i.zero,i.size,i.bytes))=XL (XL (Zr #[X2 ⟨#[]⟩,ah 0,ah 0,ah 0,ah 0,ah 0,Zk XM 0 0]),7,80)by kernel_rfl);have ap:=X6 bD;have pQ:=aj ap;revert i0 hi cA a_ bd ap pQ;exact abj.o):=e h
def I9(e:XV q->p:=by intro abj;have ng:(0:Int)<=n:=Zv;have gh:(n:Int)<=s.size:=Zv;have oz:(s.size:Int)<=16384:=Zv;revert ng gh oz;exact abj.o):=e h
def L5(e:XV q->p:=by intro abj;obtain⟨i0,hi,cA,a_,bd⟩:=Y0 (show(Tryz.prog.info? 3).map (λi=>(i.zero,i.size,i.bytes))=XL (XL (ah 0),1,8)by kernel_rfl);revert i0 hi cA a_ bd;exact abj.o):=e h
def IN(e:XV q->p:=by
 intro abj;have aZ:Below W1 W1 w2:=by first|exact aq (aW (am W1)) au|exact aq (aW (ak (am W1) _)) au
 revert aZ;exact abj.o):=e h
def az8(e:XV q->p:=by intro abj;have i0:(0:Int)<(n:Int):=Zv;have n0:0<n:=Zv;have i1:(1:Int)<=(n:Int):=Zv;have i2:(n:Int)<=(c:Int):=Zv;have i3:(1:Int)<=(c:Int):=Zv;have n2:1<=c:=Zv;have HV:=aj hv;have HN:=aj hn;have HR:=aj (show w1.heap[w.heap.size]?=XL (Zq ((cG 0).cells aP aP) 45 (0,0))from(aC.block w Zy).t (Yy w _));have a_:w.heap.size<w1:=dQ aC Zy;have bp:=aj (aq (ak (am w) _) aC);revert i0 n0 i1 i2 i3 n2 HV HN HR a_ bp;exact abj.o):=e h
def va(e:XV q->p:=by intro abj;have aX:Hid (Below w w w2):=aq ba au;revert aX;exact abj.o):=e h
def bd1(e:XV q->p:=by intro abj;have rp:∀s∈l.drop 2,s.size<=1000000:=λs hs=>bm s (Y6 hs);have UX:¬c=2:=cM _ _ _ rfl;have i1:(2:Int)<=n:=Zv;have g0:¬((n:Int)<2):=Zv;have i2:(n:Int)<=c:=Zv;have i3:(2:Int)<=c:=Zv;have n1:2<=n:=Zv;have n2:2<=c:=Zv;have L0:=ah6 _ (l.drop 2) W hG ((h.drop 2 Zv).more (fK ap)) rp;have eq:(if(l.drop 2).length<2 then XM else xB (l.drop 2))=t_ (l.drop 2):=rfl;revert rp UX i1 g0 i2 i3 n1 n2 L0 eq;exact abj.o):=e h
def aa3(e:XV q->p:=by intro abj;have HL:=aj L0;have HB:=aj hb;have HT:=aj (h.take_ 2 Zv);have HS:=aj λs(hs:s∈l.take 2)=>bm s (List.mem_of_mem_take hs);have uq:=aj (show(l.take 2).length<=100000 by simp;omega);have HG:=aj hG;revert HL HB HT HS uq HG;exact abj.o):=e h
def af9(e:XV q->p:=by intro abj;have sJ:=bc.size;have tG:(0:Int)<(m:Int)+3:=Zv;obtain⟨x0,x1,x2,x3,x4,x5⟩:=dy cX;have gS:=ai hr bc;have c0:=ag (o:=0) (ai hm bc) rfl;have c1:aa W1 rb 6 v:=ag gS hC;have c2:=ag (o:=0) (ai hp bc) rfl;revert sJ tG x0 x1 x2 x3 x4 x5 gS c0 c1 c2;exact abj.o):=e h
def bc5(e:XV q->p:=by intro abj;have jz:=aj (gd.1 _ _ (fP.1 _ _ (eY.1 _ _ (ak (ak (ak (am w) _) _) _) Zv) Zv) Zv);have HX:=aj λi(hi:¬i=w.heap.size+1+1)=>(gd.2.2 i hi).t ((fP.2.2 i hi).t (eY.2.2 i hi));have yC:=(HX w Zv).t (gl aX.1 (ak (am _) _) (blk_lt aX.1));have mi:=(HX (w+1) Zv).t (gl aX.2 (ak (am _) _) (blk_lt aX.2));have a1:=ag (o:=1) mi rfl;revert jz HX yC mi a1;exact abj.o):=e h
def FK(e:XV q->p:=by intro abj;have p1:aa w1 pb 1 (ah p.e):=ag pE rfl;have yG:=blk_lt pE;revert p1 yG;exact abj.o):=e h
def ax5(e:XV q->p:=by intro abj;have gQ:=gl (show((w5.alloc _).drew).heap[w5.heap.size]?=XL _ from cR w5 _) cL Zy;have fy:=gl (gl HB (aW (ak (am w5) _)) mK) cL bN;have FB:=blk_lt gQ;have eh:=blk_lt fy;have t0:=ag (o:=0) gQ rfl;have t1:=ag (o:=1) gQ rfl;have t2:=ag (o:=2) gQ rfl;have t3:=ag (o:=3) gQ rfl;obtain⟨q0,q1,q2,q3⟩:=AH gQ;have r0:=ag (o:=0) fy rfl;have r1:=ag (o:=1) fy rfl;have r2:=ag (o:=2) fy rfl;have r3:=ag (o:=3) fy rfl;obtain⟨p0,p1,p2,p3⟩:=AH fy;have ES:=aq (aW (ak kV _)) cL;revert gQ fy FB eh t0 t1 t2 t3 q0 q1 q2 q3 r0 r1 r2 r3 p0 p1 p2 p3 ES;exact abj.o):=e h
def M3(e:XV q->p:=by intro abj;have q0:=kc hB C0.o;have cU:=aj λW(h:Below W1 W1 W)=>XU (dy (ai HX h)) (kc h q0);revert q0 cU;exact abj.o):=e h
def Nj(e:XV q->p:=by intro abj;have y1:¬9223372036854775807<s0.size+4:=Zv;have y2:¬9223372036854775807<s0.size+4+s1.size:=Zv;revert y1 y2;exact abj.o):=e h
def Nl(e:XV q->p:=by intro abj;have y1:¬9223372036854775807<s0.size+1:=Zv;have y2:¬9223372036854775807<s0.size+1+s1.size:=Zv;revert y1 y2;exact abj.o):=e h
def Nk(e:XV q->p:=by intro abj;have bd:=bJ a_ hw.size;have BY:=bJ yI hw.size;have Ag:=bJ wZ hw.size;revert bd BY Ag;exact abj.o):=e h
def RO(e:XV q->p:=by intro abj;have bZ:=DQ [x.a,x.b] (by simpa using⟨ia,ib⟩) Zy;have kZ:=WU x.val iv;have LB:=WU x.old io;have HA:Hid (dH x=[XS x.a,XS x.b]++kN x):=CY;revert bZ kZ LB HA;exact abj.o):=e h
def bc6(e:XV q->p:=by intro abj;have bW:=aj (aq jz aV);have pH:=ai GZ aV;have sH:=ai jc aV;have e0:=ag (o:=0) pH rfl;have e1:=ag (o:=1) pH rfl;have e2:=ag (o:=2) pH rfl;have e3:=ag (o:=3) pH rfl;have e4:=ag (o:=4) pH rfl;have e5:=ag (o:=5) pH rfl;have e6:=ag (o:=6) pH rfl;have e7:=ag (o:=7) pH rfl;have e8:=ag (o:=8) pH rfl;have e9:=ag (o:=9) pH rfl;have eB:=ag (o:=10) pH rfl;have a6:=ag (o:=6) sH rfl;have wK:=aj sH;revert bW pH sH e0 e1 e2 e3 e4 e5 e6 e7 e8 e9 eB a6 wK;exact abj.o):=e h
def Qb(e:XV q->p:=by intro abj;obtain⟨i0,hi,cA,a_,bd⟩:=Y0 (show(Tryz.prog.info? 9).map (λi=>(i.zero,i.size,i.bytes))=XL (XL (X2 ⟨#[]⟩),1,16)by kernel_rfl);revert i0 hi cA a_ bd;exact abj.o):=e h
def FI(e:XV q->p:=by intro abj;have cU:=aj λW(h:Below W1 W1 W)=>dy (ai HX h);revert cU;exact abj.o):=e h
def QR(e:XV q->p:=by intro abj;have bd:w.heap.size<w2:=bJ a_ aZ.size;have gJ:¬w.heap.size=w2.heap.size:=Zv;have j_:=aj au.block;revert bd gJ j_;exact abj.o):=e h
def cc0(e:XV q->p:=by intro abj;have q0:XN ((0:Int)<(k:Int))=true:=decide_eq_true Zv;have Jj:XN (0<k)=true:=decide_eq_true Zv;have q1:IntKind.i64.wrap ((k:Int) - 1)=(k:Int) - 1:=Yr _ Zv;have q2:((k:Int) - 1).toNat=k - 1:=Zv;have q3:(0:Int)<=(k:Int) - 1:=Zv;have WA:(1:Int)<=(k:Int):=Zv;have q4:(k:Int) - 1<n:=Zv;revert q0 Jj q1 q2 q3 WA q4;exact abj.o):=e h
def P7(e:XV q->p:=by intro abj;have c0:=ag (o:=0) jl rfl;have yc:=ag (o:=1) jl rfl;have vK:=ag (o:=2) jl rfl;have yd:=ag (o:=3) jl rfl;obtain⟨f0,f1,f2,f3⟩:=AH jl;revert c0 yc vK yd f0 f1 f2 f3;exact abj.o):=e h
def DF(e:XV q->p:=by intro abj;have h0:=bo 0 _ rfl;have h1:=bo 1 _ rfl;have h2:=bo 2 _ rfl;revert h0 h1 h2;exact abj.o):=e h
def bk8(e:XV q->p:=by intro abj;have xm:=ai N7 iu.o;have y0:=ag (o:=0) xm rfl;have y2:=ag (o:=2) xm rfl;have RG:aa w8 sb so (X2 (bs s0)):=((aq xP iu).cell (p:=sb so XM) rm).t Ka.o;have RH:aa w8 sb (so+1) (X2 (bs s1)):=((aq xP iu).cell (p:=sb (so+1) XM) rm).t Ev.o;revert xm y0 y2 RG RH;exact abj.o):=e h
def DK(e:XV q->p:=by intro abj;obtain⟨⟨Sa,sc,hs,bZ,bL⟩,⟨Fa,fc,bS,bM,cj⟩,⟨Ra,rc,hr,cd,cZ⟩,⟨Ma,mc,gF,cr,co⟩,⟨La,lc,ee,cW,dh⟩,⟨Ia,ic,hi,dg,d'⟩,⟨Ua,uc,hu,dm,dr⟩⟩:=hm.cells;revert Sa sc hs bZ bL Fa fc bS bM cj Ra rc hr cd cZ Ma mc gF cr co La lc ee cW dh Ia ic hi dg d' Ua uc hu dm dr;exact abj.o):=e h
def ba2(e:XV q->p:=by intro abj;have ba:=aj bc;have j_:=aj jm;have JX:Hid (dd W.drew):=HG.step (aW (aq (aq bp aX) bc));have h8:8<=wc.heap.size:=bC HG.size (bC bp.size aX.size);have sJ:w.heap.size<W:=Zv;have Kg:=aj (aW (aq (aq bp aX) bc));have Er:=aj ((bc.block w bd).t zC);revert ba j_ JX h8 sJ Kg Er;exact abj.o):=e h
def RT(e:XV q->p:=by intro abj;have uW:=ai Bp bx;have vL:=ag (o:=1) uW rfl;have uH:=ag (o:=2) uW rfl;have uI:=ag (o:=3) uW rfl;have lG:=aj (aq vE bx);have Bq:=aj uW;have OV:=kc bx ya;revert uW vL uH uI lG Bq OV;exact abj.o):=e h
def Q_(e:XV q->p:=by intro abj;have gR:=ai bs3 aC;obtain⟨e0,e1,e2,e3,e4,e5,e6,e7,e8,e9,eB⟩:=bQ gR;have a_:=blk_lt gR;have bp:=aj (aq (ak (am w) _) aC);have jq:=aj gR;revert gR e0 e1 e2 e3 e4 e5 e6 e7 e8 e9 eB a_ bp jq;exact abj.o):=e h
def MY(e:XV q->p:=by intro abj;have q0:=ag (o:=0) cX rfl;have a_:=blk_lt cX;have cA:¬w.heap.size=W1.heap.size:=Zv;revert q0 a_ cA;exact abj.o):=e h
def ad2(e:XV q->p:=by intro abj;have e1:=(bq.cell (p:=⟨b,o+k*3+1,XM⟩) hb).t (bo 1 _ rfl);have e2:=(bq.cell (p:=⟨b,o+k*3+2,XM⟩) hb).t (bo 2 _ rfl);revert e1 e2;exact abj.o):=e h
def af2(e:XV q->p:=by intro abj;have lH:=aj λW=>ae6 W;have HF:=aj hf;have GH:=aj mZ;have kI:=aj λW(hW:Below w w W)=>ZG d.name W (hG.step hW);revert lH HF GH kI;exact abj.o):=e h
def ab3(e:XV q->p:=by intro abj;have f1:w3.frozen? (rb 6 XM)=false:=cO (jD (ai (ai qD bW) (ak (am _) _)) bF λj hj e=>jy CW) 6;revert f1;exact abj.o):=e h
def ay1(e:XV q->p:=by intro abj;have HO:Hid (fO m=(aE (m.sites.length:Nat) 1 4&&XN (m.feeds.length<=16)&&XN (m.racks.length<=16)&&aE (m.machs.length:Nat) 1 16&&XN (m.links.length<=12)&&eD (jI m) [] m.racks&&eD (vY m) [] m.machs&&eD (jJ m) [] m.links)):=rfl;revert HO;exact abj.o):=e h
def P9(e:XV q->p:=by intro abj;have aZ:=aq bP au;have jl:=ai (ai (cR w _) aC) au;have HB:=aj jl;have bd:=blk_lt jl;revert aZ jl HB bd;exact abj.o):=e h
def Dx(e:XV q->p:=by intro abj;have r1:w1.heap[pa]?=_:=(aC.block _ ap).t HB.o;revert r1;exact abj.o):=e h
def Rq(e:XV q->p:=by intro abj;have fi:b_ d=ka d:=Kq;revert fi;exact abj.o):=e h
def Sd(e:XV q->p:=by intro abj;have HR:=aj (Sb jr ap (by rw[HF.o]<;>rfl));have cU:=aj λW(h:Below wr wr W)=>ME (ai dG h);revert HR cU;exact abj.o):=e h
def ce9(e:XV q->p:=by intro abj;have du:Below w w w3:=Kg.grown kF Kg.size (λk' e=>by injection e with e;omega);have BI:=(kF.block w (show w.heap.size<W from sJ) (λe=>by injection e with e;omega)).t Er.o;have bE:=aj du;have qA:=aj BI;revert du BI bE qA;exact abj.o):=e h
def Qc(e:XV q->p:=by intro abj;have G:=aj (XU g1 (XU g2 (XU g3 (XU g4 (XU fu hq)))));revert G;exact abj.o):=e h
def MO(e:XV q->p:=by intro abj;have BP:(0:Int)<=i:=Zv;have dg:(i:Int)+1 - 1=i:=Zv;revert BP dg;exact abj.o):=e h
def ac5(e:XV q->p:=by intro abj;have HM:=aj (nD m hs bS hr hm ee hi hu);have HS:=aj (F9 HM (Zk A n c) (ah cl) (Zk A2 n2 c2));revert HM HS;exact abj.o):=e h
def Mq(e:XV q->p:=by intro abj;have hz:s.size<=9223372036854775807:=Zv;have fl:=ax4 cy s;revert hz fl;exact abj.o):=e h
def cc6(e:XV q->p:=by intro abj;have cU:=aj λW(h:Below wr wr W)=>XU (bQ (ai dG h)) (XU (kc h e0) (XU (kc h e1) (XU (kc h e2) (XU (kc h e3) (XU (kc h e4) (XU (kc h e5) (kc h e6)))))));revert cU;exact abj.o):=e h
def cf0(e:XV q->p:=by intro abj;have fe:=ai Ko aV;have o_:=ai Kn aV;have tB:=ag (o:=1) fe rfl;have qG:=ag (o:=2) fe rfl;have qH:=ag (o:=3) fe rfl;have tC:=ag (o:=5) fe rfl;have ya:=ag (o:=1) o_ rfl;have Hr:=ag (o:=6) o_ rfl;have vE:=aj (aq D9 aV);have Bp:=aj fe;revert fe o_ tB qG qH tC ya Hr vE Bp;exact abj.o):=e h
def ap2(e:XV q->p:=by intro abj;have h4:=aO.word aD h3;have h5:aO (PS.part _ .number) _ _:=aO.number h4;have h6:=aO.word aD h5;have h7:aO (PS.part _ .number) _ _:=aO.number h6;have h8:=aO.word aD h7;have h9:aO (PS.part _ .number) _ _:=aO.number h8;revert h4 h5 h6 h7 h8 h9;exact abj.o):=e h
def ba0(e:XV q->p:=by intro abj;have mg:pb<wc:=(Array.getElem?_eq_some_iff.1 C8).1;have wB:=aj hF;have mM:=aj BR;have bd:w.heap.size<wc:=bJ a_ aZ.size;have aX:=aj aZ;have zC:=aj ((aZ.block w a_).t HR);revert mg wB mM bd aX zC;exact abj.o):=e h
def Pz(e:XV q->p:=by intro abj;have i3:IntKind.i64.wrap ((k:Int)+1)=(k:Int)+1:=Yr _ Zv;revert i3;exact abj.o):=e h
def ab1(e:XV q->p:=by intro abj;have bW:Hid (Below W1 W1 w4):=aq (aW (am W1)) aV;have pR:=aj ho;have J5:=aj (eI ko bW);revert bW pR J5;exact abj.o):=e h
def Nn(e:XV q->p:=by intro abj;have HU:=aj (tT (ZV hu) (bC xl hS.size));revert HU;exact abj.o):=e h
def ca6(e:XV q->p:=by intro abj;have lj:=aj (eI lj (ak (am _) (Zq #[X1 .i64 (cq:Int)] 3)));have mO:=aj (rQ hS (Wx+1) (w.heap.size+1) iN #[X1 .i64 (cq:Int)] 1 3 Zy fH rfl);revert lj mO;exact abj.o):=e h
def MP(e:XV q->p:=by intro abj;have Il:IntKind.i64.wrap (i:Int)=i:=Yr _ Zv;revert Il;exact abj.o):=e h
def RL(e:XV q->p:=by intro abj;have HU:=aj (eI HU (ak (am _) wv));have HP:=aj (Nm hS (w5.heap.size) wv Zy);revert HU HP;exact abj.o):=e h
def ca4(e:XV q->p:=by intro abj;have vF:=aj E9;have pr:=aj (ox.blk Hi (blk_lt Hi) Zv);have xV:=aj (qi tr GL aD ox);have iu:=aj (iG.t ((ox.below Zv).mono Zv));have Au:=ox.size;revert vF pr xV iu Au;exact abj.o):=e h
def QA(e:XV q->p:=by intro abj;have h1:aO (PS.part _ .name) _ _:=aO.name hn hq;have h2:=aO.word aD h1;revert h1 h2;exact abj.o):=e h
def bf7(e:XV q->p:=by intro abj;have jA:=aj (aq ba bB);have ck:=kc jA i';have ce:aa wr mb (mo+j*3) (X2 (bs y.name)):=(jA.cell (p:=⟨mb,mo+j*3,XM⟩) gw).t (eG 0 _ rfl);revert jA ck ce;exact abj.o):=e h
def ca9(e:XV q->p:=by intro abj;have BZ:=QH (bu2 x (eE hx));have H5:=aj (fn3 BZ);have Ey:=aj λW(hW:Below w w W)=>N6 W hW x ov BZ ((oB.below hW (ar _)).more hW.size);revert BZ H5 Ey;exact abj.o):=e h
def Mc(e:XV q->p:=by
 intro abj;obtain⟨t,q,ht,h1,h2,h3,h4⟩:=h.cons;have hh:p.head=t:=by simp[PS.head,ht]
 revert t q ht h1 h2 h3 h4 hh;exact abj.o):=e h
def QB(e:XV q->p:=by intro abj;have h1:aO (PS.part _ .ref) _ _:=aO.ref mD hq;have h2:=aO.word aD h1;revert h1 h2;exact abj.o):=e h
def bg1(e:XV q->p:=by intro abj;have Ej:=aj iy;have lG:=aj BL;have cU:=aj λW(h:Below wc wc W)=>XU (bQ (ai (ai fT (aq jA BL)) h)) (gM (ai (ai wL BL) h));revert Ej lG cU;exact abj.o):=e h
def bg3(e:XV q->p:=by intro abj;have ej:=kc jA nH;have jK:(0:Int)<=dj:=Zv;have nf:(dj:Int)+1 - 1=dj:=Zv;have lA:(dj:Int)<m.sites.length:=Zv;have sy:IntKind.i64.wrap (dj:Int)=dj:=Yr _ Zv;revert ej jK nf lA sy;exact abj.o):=e h
def Qp(e:XV q->p:=by intro abj;have f0:=fr 0;have f1:=fr 1;have f2:=fr 2;have f3:=fr 3;have f4:=fr 4;have f5:=fr 5;revert f0 f1 f2 f3 f4 f5;exact abj.o):=e h
def QK(e:XV q->p:=by intro abj;have lh:=aj (fC.t (fE.mono eh));have ij:=bC eh fE.size;have jL:=aj (fM.later fE);revert lh ij jL;exact abj.o):=e h
def Jv(e:XV q->p:=by intro abj;have gS:=ai hr bc;have c0:=ag (o:=0) (ai hm bc) rfl;revert gS c0;exact abj.o):=e h
def ca7(e:XV q->p:=by intro abj;have cA:=eh;have cU:=aj λW(h:Below wr wr W)=>XU (bQ (ai fT h)) (XU (kc h x0) (XU (kc h x1) (XU (kc h x2) (XU (kc h x3) (XU (kc h x4) (XU (kc h x5) (kc h x6)))))));revert cA cU;exact abj.o):=e h
def aa7(e:XV q->p:=by intro abj;have bp:=aj (aq (ak (am w) _) aC);have zt:=aj ((kM.new w 45 x (Zk Am nm cm) (Zk As ns cs)).below aC Zy);revert bp zt;exact abj.o):=e h
def bg0(e:XV q->p:=by intro abj;have ei:=kc bB uO;have x0:aa wr mb (mo+k*3) (ah ((j:Int)+1)):=(bB.cell (p:=⟨mb,mo+k*3,XM⟩) gw).t (eG 0 _ rfl);have x1:=kc bB (eG 1 _ rfl);have x2:=kc bB (eG 2 _ rfl);revert ei x0 x1 x2;exact abj.o):=e h
def ag0(e:XV q->p:=by intro abj;have ko:=aj (eI bD bc);have qC:Hid (∀W,Below W1 W1 W->_):=λW hW=>qC W (aq bc hW);revert ko qC;exact abj.o):=e h
def MN(e:XV q->p:=by intro abj;have sy:IntKind.i64.wrap (j:Int)=j:=Yr _ Zv;revert sy;exact abj.o):=e h
def Jm(e:XV q->p:=by intro abj;have jn:=ai tx hB;have mF:=ai Hj hB;revert jn mF;exact abj.o):=e h
def RN(e:XV q->p:=by intro abj;have lh:=aj (fC.t (fE.mono eh));have iN:=bC eh fE.size;have jL:=aj (fM.later fE);revert lh iN jL;exact abj.o):=e h
def aH(e:XV q->p:=by
 intro abj;try simp only[Act.put,ug,ui,uh]
 exact abj.o):=e h
def bb1(e:XV q->p:=by intro abj;refine tz (S:=λw'=>ae w' fb (.func (.func go) #[] #[])/\aa w' fb 1 (.func (.func gn) #[] #[])/\ae w' w (Zk Sa m.sites.length sc)/\aa w' w 1 (Zk Fa m.feeds.length fc)/\aa w' w 2 (Zk Ra m.racks.length rc)/\aa w' w 3 (Zk Ma m.machs.length mc)/\aa w' w 4 (Zk La m.links.length lc)/\aa w' w 5 (Zk Ia m.items.length ic)/\aa w' w 6 (ah m.dark)/\aa w' w 7 (ah m.slots)/\aa w' w 8 (ah m.reserve)/\aa w' w 9 (ah m.failures)/\aa w' w 10 (Zk Ua m.rules.length uc)/\aa w' (w+1) 0 (ah x.kind)/\aa w' (w+1) 1 (ah x.item)/\aa w' (w+1) 2 (ah x.other)/\aa w' (w+1) 3 (ah x.n)/\aa w' (w+1) 4 (ah x.by_)/\aa w' (w+1) 5 (Zp x.always)/\aa w' (w+1) 6 (Zk A n c)) 17 (by exact⟨EI,EJ,TX,TY,T3,T4,T5,T6,T7,T8,T9,T_,TZ,zK,wQ,zL,zM,zN,zO,T'⟩) ?_;exact abj.o):=e h
def ip(e:XV q->p:=by intro abj;refine hK _ _ (by exact aq hS (ak (am _) _)) ?_;exact abj.o):=e h
def bo0(e:XV q->p:=by intro abj;refine hK _ _ (by exact⟨((ak (am _) _).cell (p:=mb) (bY _ _ (hS.1))).t (hS.1),((ak (am _) _).cell (p:=rb 6 XM) (bY _ _ (hS.2.1))).t (hS.2.1),((ak (am _) _).cell (p:=pb) (bY _ _ (hS.2.2.1))).t (hS.2.2.1),((ak (am _) _).cell (p:=w) (bY _ _ (hS.2.2.2.1))).t (hS.2.2.2.1),((ak (am _) _).cell (p:=w 1 XM) (bY _ _ (hS.2.2.2.2.1))).t (hS.2.2.2.2.1),((ak (am _) _).cell (p:=w 2 XM) (bY _ _ (hS.2.2.2.2.2.1))).t (hS.2.2.2.2.2.1),((ak (am _) _).cell (p:=w 3 XM) (bY _ _ (hS.2.2.2.2.2.2.1))).t (hS.2.2.2.2.2.2.1),((ak (am _) _).cell (p:=w 4 XM) (bY _ _ (hS.2.2.2.2.2.2.2.1))).t (hS.2.2.2.2.2.2.2.1),((ak (am _) _).cell (p:=w 5 XM) (bY _ _ (hS.2.2.2.2.2.2.2.2))).t (hS.2.2.2.2.2.2.2.2)⟩) ?_;exact abj.o):=e h
def lq(e:XV q->p:=by intro abj;refine hK _ _ (by exact⟨kc (kC) x0,kc (kC) c2,kC⟩) ?_;exact abj.o):=e h
def QZ(e:XV q->p:=by intro abj;refine hK _ _ (by refine(fun(hb:Below wr wr _)=>⟨kc hb c0,kc hb c2,kc hb cs,fT.later hb,hb⟩) ?_;first|exact aW (ak (am wr) _)|exact ak (aW (am wr)) _|exact cV (aW (ak (am wr) _)) (ar _) _|exact cV (ak (aW (am wr)) _) (ar _) _|exact cV (cV (aW (ak (am wr) _)) (ar _) _) (ar _) _|exact aW (cV (cV (ak (am wr) _) (ar _) _) (ar _) _)|exact aW (ak (am wr) _)) ?_;exact abj.o):=e h
def bo1(e:XV q->p:=by intro abj;refine hK _ _ (by exact⟨(fZ bF (bY _ _ (hS.1)) vW).t (hS.1),(fZ bF (bY _ _ (hS.2.1)) jy).t (hS.2.1),(fZ bF (bY _ _ (hS.2.2.1)) Pp).t (hS.2.2.1),(fZ bF (bY _ _ (hS.2.2.2.1)) gH).t (hS.2.2.2.1),(fZ bF (bY _ _ (hS.2.2.2.2.1)) gH).t (hS.2.2.2.2.1),(fZ bF (bY _ _ (hS.2.2.2.2.2.1)) gH).t (hS.2.2.2.2.2.1),(fZ bF (bY _ _ (hS.2.2.2.2.2.2.1)) gH).t (hS.2.2.2.2.2.2.1),(fZ bF (bY _ _ (hS.2.2.2.2.2.2.2.1)) gH).t (hS.2.2.2.2.2.2.2.1),(fZ bF (bY _ _ (hS.2.2.2.2.2.2.2.2)) gH).t (hS.2.2.2.2.2.2.2.2)⟩) ?_;exact abj.o):=e h
def ba8(e:XV q->p:=by intro abj;refine ez (λW=>Below w w W/\af W w.heap.size #[Zk Sa m.sites.length sc,Zk Fa m.feeds.length fc,Zk Ra m.racks.length rc,Zk Ma m.machs.length mc,Zk La m.links.length lc,Zk Ia m.items.length ic,m.dark,m.slots,m.reserve,m.failures,Zk Ua m.rules.length uc] 29/\af W (w.heap.size+1) #[x.kind,x.item,x.other,x.n,x.by_,Zp x.always,Zk A n c] 88) ⟨ak (ak (am w) _) _,(tR w _ _ _ _).1,(tR w _ _ _ _).2⟩ ?_;exact abj.o):=e h
def ab2(e:XV q->p:=by intro abj;refine step_append_lies _ de _ _ _ de B 86 i0 _ 7 80 underlying26 hi cA a_ bd rfl Zv _ _ _ de ((J5).alloc _) ⟨_,0,XM⟩ 1 1 (yT u (Zk OA om oc)) de de (pA rfl) (by simp[yT,YH]) Zv uE mr (by have:=bW.size;first|omega|(simp;omega)) _ rfl ?_;exact abj.o):=e h
def ad6(e:XV q->p:=by intro abj;refine eT (S:=λw'=>aa w' w 2 (Zk Ra m.racks.length rc)/\aa w' w 3 (Zk (XL (b o XM)) m.machs.length mc)/\aa w' b (o+k*3+1) (ah x.rack)/\aa w' b (o+k*3+2) (ah x.cap)/\Below wr wr w') 21 21 (by exact⟨c2,c3,e1,e2,aW (am wr)⟩) ?_;exact abj.o):=e h
def ad3(e:XV q->p:=by intro abj;refine eT (S:=λw'=>aa w' w 2 (Zk (XL (b o XM)) m.racks.length rc)/\aa w' xb 1 (ah x.site)/\aa w' xb 2 (ah x.feed)/\aa w' b (o+j*3+1) (ah y.site)/\aa w' b (o+j*3+2) (ah y.feed)) 20 20 (by exact⟨d2,EM,EN,y1,y2⟩) ?_;exact abj.o):=e h
def ad5(e:XV q->p:=by intro abj;refine eT (S:=λw'=>aa w' w 4 (Zk (XL (b o XM)) m.links.length lc)/\ae w' xb (ah x.a)/\aa w' xb 1 (ah x.b)/\aa w' b (o+j*3) (ah y.a)/\aa w' b (o+j*3+1) (ah y.b)) 20 20 (by exact⟨d2,EM,EN,y1,y2⟩) ?_;exact abj.o):=e h
def fD(e:XV q->p:=by intro abj;refine hK _ _ ?_;exact abj.o):=e h
def xL(e:XV q->p:=by intro abj;refine hK _ _ (by exact⟨kc (lr) x0,kc (lr) c2,lr⟩) ?_;exact abj.o):=e h
def bo2(e:XV q->p:=by intro abj;refine hK _ _ (by refine(fun(hb:Below w3 w3 _)=>⟨kc hb y0,kc hb y4,kc hb y5,kc hb aa0,hb⟩) ?_;first|exact aW (ak (am w3) _)|exact ak (aW (am w3)) _|(repeat' first|with_reducible exact am w3|with_reducible refine aW ?_ |with_reducible refine cV ?_ (by first|omega|(simp;done)) _|with_reducible refine ak ?_ _)) ?_;exact abj.o):=e h
def be3(e:XV q->p:=by intro abj;refine step_append_lies _ de _ _ _ de B 9 i0 _ 1 16 Zo hi cA a_ bd rfl Zv _ _ _ de ((ko).alloc _) ⟨_,0,XM⟩ 1 1 [X2 (bs d.name)] de de (pA rfl) uF Zv uE mr mr _ rfl ?_;exact abj.o):=e h
def ae2(e:XV q->p:=by intro abj;refine ez (λW=>Below w w W/\af W w.heap.size #[d.kind,bs d.name,Zk RA rn rc,Zk NA nn nc,d.by_,Zp d.always] 100) ⟨ak (am w) _,cR w _⟩ ?_;exact abj.o):=e h
def Q0(e:XV q->p:=by intro abj;refine qx rfl (Zt 42) (Zu (ah 13)) (Zt 53) 235 (.inr rfl) 3 22 (.int Yo) Yx XZ cJ _ _ rfl lv (13:Int) _ rfl rfl ?_;exact abj.o):=e h
def sY(e:XV q->p:=by intro abj;refine hK _ _ (aq hS au) ?_;exact abj.o):=e h
def Q1(e:XV q->p:=by intro abj;refine qx rfl (Zt 42) (Zu (ah 6)) (Zt 46) 235 (.inr rfl) 3 22 (.int Yo) Yx XZ cJ _ _ rfl lv (6:Int) _ rfl rfl ?_;exact abj.o):=e h
def Q2(e:XV q->p:=by intro abj;refine qx rfl (Zt 42) (Zu (ah 5)) (Zt 44) 235 (.inr rfl) 3 22 (.int Yo) Yx XZ cJ _ _ rfl lv (5:Int) _ rfl rfl ?_;exact abj.o):=e h
def bo6(e:XV q->p:=by intro abj;refine eT (S:=λw'=>ae w' rb (.map (XL Mb))/\aa w' w 2 (Zk (XL (sb so XM)) rn rc)/\aa w' sb (so+k) (X2 (bs s))/\dN mW w' Mb (mz t)/\Below wr wr w') 16 16 (by exact⟨c0,c2,cs,fT,aW (am wr)⟩) ?_;exact abj.o):=e h
def bk9(e:XV q->p:=by intro abj;refine eT (S:=λw'=>ae w' w (ah d.kind)/\aa w' w 2 (Zk (XL (sb so XM)) 2 rc)/\aa w' sb so (X2 (bs s0))/\aa w' sb (so+1) (X2 (bs s1))) 19 19 (by exact⟨y0,y2,RG,RH⟩) ?_;exact abj.o):=e h
def tV(e:XV q->p:=by intro abj;refine hK _ _ (ak hS _) ?_;exact abj.o):=e h
def DL(e:XV q->p:=by intro abj;refine ez (λW=>Below W1 W1 W) (qj (am W1) _) ?_;exact abj.o):=e h
def cc1(e:XV q->p:=by intro abj;refine eT (S:=λw'=>aa w' w 3 (Zk Ma m.machs.length mc)/\aa w' ub (uo+k) (ah x)/\aa w' ub (uo+(k - 1)) (ah y)/\Below wr wr w') 25 25 (by exact⟨c3,cs,cp,aW (am wr)⟩) ?_;exact abj.o):=e h
def ca3(e:XV q->p:=by intro abj;refine ez (fun(W:XO)=>af W db #[ah (10+KD),X2 ⟨#[]⟩,(Zk vA vn vc),Zk XM 0 0,Y,Zp AL] 100/\aL w7 db w7 W) ⟨(bf GL 2 _).t rfl,(aL.refl w7 db w7).set (.inl rfl) _⟩ ?_;exact abj.o):=e h
def be4(e:XV q->p:=by intro abj;refine hK _ _ (by exact⟨(fZ bF (bY _ _ (hS.1)) vW).t (hS.1),(fZ bF (bY _ _ (hS.2.1)) jy).t (hS.2.1),(fZ bF (bY _ _ (hS.2.2)) gH).t (hS.2.2)⟩) ?_;exact abj.o):=e h
def rN(e:XV q->p:=by intro abj;refine(fw6 _ _ _).mono ?_;exact abj.o):=e h
def xN(e:XV q->p:=by intro abj;refine hK _ _ (by exact hS) ?_;exact abj.o):=e h
def be5(e:XV q->p:=by intro abj;refine ez (λW=>Below w w W/\af W w.heap.size #[d.kind,bs d.name,Zk RA rn rc,Zk (XL (qb qo XM)) (nn+1) nc,d.by_,Zp d.always] 100) ⟨ak (am w) _,cR w _⟩ ?_;exact abj.o):=e h
def Gp(e:XV q->p:=by intro abj;refine eT (S:=Below wr wr) 34 34 (aW (am wr)) ?_;exact abj.o):=e h
def ba1(e:XV q->p:=by intro abj;refine aa1 (λW=>Below wc wc W/\fX W wc (cG k) aP aP/\aa W pb 4 (.func (.func gr) #[] #[])/\wc.heap.size<W) ⟨ak (am wc) _,ey0 wc k _ mM,by go_simp,by simp⟩ ?_;exact abj.o):=e h
def yS(e:XV q->p:=by intro abj;refine _root_.Go.wpList_step ?_;exact abj.o):=e h
def R5(e:XV q->p:=by intro abj;refine eT (S:=λw'=>aa w' ub (uo+k) (X2 (bs s))/\Below wr wr w') 16 16 (by exact⟨cs,aW (am wr)⟩) ?_;exact abj.o):=e h
def bk2(e:XV q->p:=by intro abj;refine Jq rfl (Zt 54) (Zt 56) 235 XQ rfl 3 22 (.int Yo) Yx XZ cJ _ _ rfl (qV.of_eq (fd6 _ _)) (d.kind:Int) (Zk XM 0 0) rfl (zeroValue22 _) _ (Jr _ _ _) ?_;exact abj.o):=e h
def bk3(e:XV q->p:=by intro abj;refine Jq rfl (Zt 54) (Zt 56) 235 XQ rfl 3 22 (.int Yo) Yx XZ cJ _ _ rfl (qV.of_eq (fm2 _ _)) (d.kind:Int) (Zk XM 0 0) rfl (zeroValue22 _) _ (Jr _ _ _) ?_;exact abj.o):=e h
def bk4(e:XV q->p:=by intro abj;refine Jq rfl (Zt 54) (Zt 56) 235 XQ rfl 3 22 (.int Yo) Yx XZ cJ _ _ rfl (qV.of_eq (fm3 _ _)) (d.kind:Int) (Zk XM 0 0) rfl (zeroValue22 _) _ (Jr _ _ _) ?_;exact abj.o):=e h
def bk5(e:XV q->p:=by intro abj;refine Jq rfl (Zt 54) (Zt 56) 235 XQ rfl 3 22 (.int Yo) Yx XZ cJ _ _ rfl (qV.of_eq (fm4 _ _)) (d.kind:Int) (Zk XM 0 0) rfl (zeroValue22 _) _ (Jr _ _ _) ?_;exact abj.o):=e h
def bk6(e:XV q->p:=by intro abj;refine Jq rfl (Zt 54) (Zt 56) 235 XQ rfl 3 22 (.int Yo) Yx XZ cJ _ _ rfl (qV.of_eq (fm5 _ _)) (d.kind:Int) (Zk XM 0 0) rfl (zeroValue22 _) _ (Jr _ _ _) ?_;exact abj.o):=e h
def bk7(e:XV q->p:=by intro abj;refine Jq rfl (Zt 54) (Zt 56) 235 XQ rfl 3 22 (.int Yo) Yx XZ cJ _ _ rfl (qV.of_eq (fm6 _ _)) (d.kind:Int) (Zk XM 0 0) rfl (zeroValue22 _) _ (Jr _ _ _) ?_;exact abj.o):=e h
def Jz(e:XV q->p:=by intro abj;refine hK _ _ (by exact⟨kc (oY) x0,kc (oY) c2,oY⟩) ?_;exact abj.o):=e h
def cb9(e:XV q->p:=by intro abj;refine eT (S:=λw'=>aa w' w 3 (Zk Ma m.machs.length mc)/\aa w' ub (uo+k) (ah x)/\Below wr wr w') 25 25 (by exact⟨c3,cs,aW (am wr)⟩) ?_;exact abj.o):=e h
def ah5(e:XV q->p:=by intro abj;refine(PX (aK l 2) ob 3 43 #[ah 2,X2 (aK l 1),ah 0,ah 0] _ (HG.step cT) (uw _ (Cb Hk)) (by have:=HG.size;omega) nN Zy).mono ?_;exact abj.o):=e h
def M4(e:XV q->p:=by intro abj;refine tz (S:=λw'=>Below W1 W1 w') 10 CX ?_;exact abj.o):=e h
def JE(e:XV q->p:=by intro abj;refine((HD.later (aq ba hS)).load H0 H1 H2).mono ?_;exact abj.o):=e h
def ab7(e:XV q->p:=by intro abj;refine(uy _ wc Zy (ag (cR wc _) rfl) ((tq.below (ak (am wc) _) (ar _)).more Zy)).mono ?_;exact abj.o):=e h
def bn9(e:XV q->p:=by intro abj;refine hK _ _ (by exact⟨kc (bW) c0,kc (bW) c1,kc (bW) c2,kc (bW) x0,kc (bW) x1,kc (bW) x2,kc (bW) x3,kc (bW) x4,kc (bW) x5⟩) ?_;exact abj.o):=e h
def Ct(e:XV q->p:=by intro abj;refine hK _ _ (aq hS aV) ?_;exact abj.o):=e h
def Jl(e:XV q->p:=by intro abj;refine hK _ _ (by exact aq hS (ak (am _) _)) ?_;exact abj.o):=e h
def az0(e:XV q->p:=by intro abj;refine(HU w1 ⟨word,kind,gu,gf,caps,gr,gt⟩ _ (w1+1) w wB (fb9 w1 _ k _ HK) (zt.below (ak (ak (am w1) _) _) a_) Zv).mono ?_;exact abj.o):=e h
def AJ(e:XV q->p:=by intro abj;refine(iP W1 ba).mono ?_;exact abj.o):=e h
def cf1(e:XV q->p:=by intro abj;refine qx rfl (Zt 42) (Zu (ah 13)) (Zt 53) 235 (.inr rfl) 3 22 (.int Yo) Yx XZ cJ _ _ rfl lu (13:Int) _ rfl rfl ?_;exact abj.o):=e h
def cf2(e:XV q->p:=by intro abj;refine qx rfl (Zt 42) (Zu (ah 6)) (Zt 46) 235 (.inr rfl) 3 22 (.int Yo) Yx XZ cJ _ _ rfl lu (6:Int) _ rfl rfl ?_;exact abj.o):=e h
def cf3(e:XV q->p:=by intro abj;refine qx rfl (Zt 42) (Zu (ah 5)) (Zt 44) 235 (.inr rfl) 3 22 (.int Yo) Yx XZ cJ _ _ rfl lu (5:Int) _ rfl rfl ?_;exact abj.o):=e h
def ba3(e:XV q->p:=by intro abj;refine(wB.read (Zk (XL (bl (ol+1) XM)) (n - 1) (c - 1)) ((eP s).drop 1) W.drew wc JX j_ h8 J' GM xQ).mono ?_;exact abj.o):=e h
def Mv(e:XV q->p:=by intro abj;refine(HW _ eK mr).mono ?_;exact abj.o):=e h
def ba5(e:XV q->p:=by intro abj;refine(wB.read (Zk (XL (bl ol XM)) 0 0) ((eP s).drop 1) W.drew wc JX j_ h8 J' GM xQ).mono ?_;exact abj.o):=e h
def at4(e:XV q->p:=by intro abj;refine bodyPost_ret (v:= .tuple #[jZ 0 [] 0 0,x]) Oc rfl ?_;exact abj.o):=e h
def ML(e:XV q->p:=by intro abj;refine bh5 ho hg hd hp hn aD hF fB (am w) ?_;exact abj.o):=e h
def Rf(e:XV q->p:=by intro abj;refine bh5 ho hg hd hp hn hs.2 hF fB (ak (am w) _) ?_;exact abj.o):=e h
def Jn(h:p:=by
 refine lq λhS=>?_;clear hK;refine aH ?_;refine ke 19 9 ?_;refine gc ?_;go_wp2_with fail
 go_meet;exact⟨HL _ _ (by first|exact kC|exact aW kC),by first|exact kC|exact aW kC⟩):p:=h
def bk1(h:p:=by
 iterate 2 refine da 21 42 ?_
 iterate 2 refine da 22 41 ?_
 iterate 7 refine da 23 40 ?_
 iterate 2 refine da 25 39 ?_
 refine bt 0 λK hK=>?_;refine bj2 (enc:=ju) rfl 235 rfl ?_;intro w0 vM KF;have jE:Below wr wr w0:=aq (aW (am wr)) KF;clear KF;refine hK _ _ (by exact⟨kc (jE) x0,kc (jE) c2,jE⟩) λhS=>?_;clear hK;refine aH ?_;refine ny (rs:=[3,6,14]) aI Zy ?_;refine dC.cons1 rfl (λK hK=>?_) (dC.cons1 rfl (λK hK=>?_) (dC.cons1 rfl (λK hK=>?_) (dC.nil)))
 .refine qx rfl (.tmp 42) (.const (.int .i64 5)) (.tmp 44) 235 (.inr rfl) 3 22 (.int .i64) underlying235 underlying3 cJ _ _ rfl vM (5:Int) _ rfl rfl ?_;intro wa lu qZ;have oY:=qZ.1 _ _ jE (ar _);clear qZ vM;refine Jz λhS=>?_;clear hK;refine aH ?_;refine ny (rs:=[6,14]) (by kernel_rfl) (by simp) ?_;refine dC.cons1 rfl (λK hK=>?_) (dC.cons1 rfl (λK hK=>?_) (dC.nil))
  .refine cf2 ?_;intro wb lv iW;have lr:=iW.1 _ _ oY (ar _);clear iW lu;refine xL λhS=>?_;clear hK;refine aH ?_;refine bt 14 λK hK=>?_;refine Q0 ?_;intro wc qV iX;have kC:=iX.1 _ _ lr (ar _);clear iX lv;refine lq λhS=>?_;clear hK;refine aH ?_;refine bt 15 λK hK=>?_;go_simp;refine lq λhS=>?_;clear hK;refine aH ?_;refine bt 18 λK hK=>?_;refine bk2 ?_;exact Jn
  .refine cf1 ?_;intro wb lv iW;have lr:=iW.1 _ _ oY (ar _);clear iW lu;refine xL λhS=>?_;clear hK;refine aH ?_;refine bt 6 λK hK=>?_;refine Q1 ?_;intro wc qV iX;have kC:=iX.1 _ _ lr (ar _);clear iX lv;refine lq λhS=>?_;clear hK;refine aH ?_;refine bt 15 λK hK=>?_;go_simp;refine lq λhS=>?_;clear hK;refine aH ?_;refine bt 18 λK hK=>?_;refine bk3 ?_;exact Jn
 .refine qx rfl (.tmp 42) (.const (.int .i64 6)) (.tmp 46) 235 (.inr rfl) 3 22 (.int .i64) underlying235 underlying3 cJ _ _ rfl vM (6:Int) _ rfl rfl ?_;intro wa lu qZ;have oY:=qZ.1 _ _ jE (ar _);clear qZ vM;refine Jz λhS=>?_;clear hK;refine aH ?_;refine ny (rs:=[3,14]) (by kernel_rfl) (by simp) ?_;refine dC.cons1 rfl (λK hK=>?_) (dC.cons1 rfl (λK hK=>?_) (dC.nil))
  .refine cf3 ?_;intro wb lv iW;have lr:=iW.1 _ _ oY (ar _);clear iW lu;refine xL λhS=>?_;clear hK;refine aH ?_;refine bt 14 λK hK=>?_;refine Q0 ?_;intro wc qV iX;have kC:=iX.1 _ _ lr (ar _);clear iX lv;refine lq λhS=>?_;clear hK;refine aH ?_;refine bt 15 λK hK=>?_;go_simp;refine lq λhS=>?_;clear hK;refine aH ?_;refine bt 18 λK hK=>?_;refine bk4 ?_;exact Jn
  .refine cf1 ?_;intro wb lv iW;have lr:=iW.1 _ _ oY (ar _);clear iW lu;refine xL λhS=>?_;clear hK;refine aH ?_;refine bt 3 λK hK=>?_;refine Q2 ?_;intro wc qV iX;have kC:=iX.1 _ _ lr (ar _);clear iX lv;refine lq λhS=>?_;clear hK;refine aH ?_;refine bt 15 λK hK=>?_;go_simp;refine lq λhS=>?_;clear hK;refine aH ?_;refine bt 18 λK hK=>?_;refine bk5 ?_;exact Jn
 .refine qx rfl (.tmp 42) (.const (.int .i64 13)) (.tmp 53) 235 (.inr rfl) 3 22 (.int .i64) underlying235 underlying3 cJ _ _ rfl vM (13:Int) _ rfl rfl ?_;intro wa lu qZ;have oY:=qZ.1 _ _ jE (ar _);clear qZ vM;refine Jz λhS=>?_;clear hK;refine aH ?_;refine ny (rs:=[3,6]) (by kernel_rfl) (by simp) ?_;refine dC.cons1 rfl (λK hK=>?_) (dC.cons1 rfl (λK hK=>?_) (dC.nil))
  .refine cf3 ?_;intro wb lv iW;have lr:=iW.1 _ _ oY (ar _);clear iW lu;refine xL λhS=>?_;clear hK;refine aH ?_;refine bt 6 λK hK=>?_;refine Q1 ?_;intro wc qV iX;have kC:=iX.1 _ _ lr (ar _);clear iX lv;refine lq λhS=>?_;clear hK;refine aH ?_;refine bt 15 λK hK=>?_;go_simp;refine lq λhS=>?_;clear hK;refine aH ?_;refine bt 18 λK hK=>?_;refine bk6 ?_;exact Jn
  .refine cf2 ?_;intro wb lv iW;have lr:=iW.1 _ _ oY (ar _);clear iW lu;refine xL λhS=>?_;clear hK;refine aH ?_;refine bt 3 λK hK=>?_;refine Q2 ?_;intro wc qV iX;have kC:=iX.1 _ _ lr (ar _);clear iX lv;refine lq λhS=>?_;clear hK;refine aH ?_;refine bt 15 λK hK=>?_;go_simp;refine lq λhS=>?_;clear hK;refine aH ?_;refine bt 18 λK hK=>?_;refine bk7 ?_;exact Jn):p:=h
def Ql(h:p:=by
 go_enter func59,ntmps59;go_wp2_with first
  |(refine fh rfl (Zt 7) (Zu (ah 0)) (Zt 8) 199 (.inr rfl) 3 35 (.int Yo) underlying199 XZ cJ (w+1+1) (λ_=>XM) rfl (oG _ _) 0 (.func (.func 162) #[] #[az (w+1)]) rfl rfl ?_;intro w1 jR eY)
  |(refine fh rfl (Zt 7) (Zu (ah 1)) (Zt 9) 199 (.inr rfl) 3 35 (.int Yo) underlying199 XZ cJ (w+1+1) _ rfl jR 1 (.func (.func 163) #[] #[az (w+1)]) rfl rfl ?_;intro w2 jS fP)
  |(refine fh rfl (Zt 7) (Zu (ah 2)) (Zt 10) 199 (.inr rfl) 3 35 (.int Yo) underlying199 XZ cJ (w+1+1) _ rfl jS 2 (.func (.func 164) #[] #[az (w+1)]) rfl rfl ?_;intro w3 jT gd;refine bc5 λjz HX yC mi a1=>?_;have GZ:=aj yC;have jc:=aj mi;have tl:=aj jT;clear jR eY jS fP jT gd yC mi)
  |(at_lookup;refine Cn rfl (.tmp 12) (.tmp 14) 199 false rfl 3 35 (.int .i64) underlying199 underlying3 cJ (w+1+1) _ rfl tl x.kind .nilFunc rfl (zeroValue35 _) ?_
    rw[show aY (aY (aY (λ_=>XM) 0 (Value.func (.func 162) #[] #[az (w+1)])) 1 (.func (.func 163) #[] #[az (w+1)])) 2 (.func (.func 164) #[] #[az (w+1)]) x.kind=XL (.func (.func g) #[] #[Zs (XL ⟨w+1,0,XM⟩)])from HF.o];simp only[Option.getD_some,Yh,if_false])
  |(refine(HG _ jz jc).r λw4 aV=>?_;refine bc6 λbW pH sH e0 e1 e2 e3 e4 e5 e6 e7 e8 e9 eB a6 wK=>?_;clear aV pH sH)
  |(go_at_call 165;refine(HM _ bW).r λw5 bx=>?_;have cT:=aj (aq bW bx);have oF:=ai wK bx;have a3:=ag (o:=3) oF rfl;have a4:=ag (o:=4) oF rfl;have a5:=ag (o:=5) oF rfl;clear bx oF)
  |(go_at_call_of 54 (ah x.load);refine(uz _).z ?_)
  |(go_at_call_of 54 (ah x.size);refine(uB _).z ?_)
  |(go_at_call_of 54 (ah x.share);refine(wJ _).z ?_)
 go_ret;exact⟨by simp,cT⟩):p:=h
def bg5(h:p:=by
 intro Wd ⟨hj,hb⟩;have GQ:=aj hj;have Bi:=aj hb;obtain⟨a0,a1,a2,a3,a4,a5,a6,a7,a8,a9,cN⟩:=bQ (gl jc hb bd);clear hj hb cz3;go_upto_region 42 with(fail)
 clear a0 a1 a2 a3 a4 a5 a6 a7 a8 a9 cN;go_loopw [187] (λi wr=>∃k:Nat,k<=m.rules.length/\i=ah k/\gY ob (dS m++dF m++dR m++dM m++dL m++dI m++dD m++dX m++(m.rules.take k).map (ch m)) wr/\Below ob W3 wr) (λi _=>m.rules.length - (X8 i).toNat)
 case atStart=>exact⟨0,bU _,rfl,GQ.to Zy,Bi⟩
 case round=>
  obtain⟨k,hk,rfl,hj,hb⟩:=hrel;have fM:=aj hj;have fC:=aj hb;have bB:=aj (Below.t bE (hb.mono (fK bd)));have eh:=fK hj.lt;have fT:=aj (gl jc hb bd);clear hj hb GQ Bi;by_cases ap:k<m.rules.length
  .obtain⟨kh,bh⟩:=dt ap;have fp:=aj ap;obtain⟨x,hx⟩:=jd ap;have HT:=aj (vz (f:=(ch m)) (dS m++dF m++dR m++dM m++dL m++dI m++dD m++dX m) hx);have bG:(dS m++dF m++dR m++dM m++dL m++dI m++dD m++dX m++(m.rules.take k).map (ch m)).length<1000000:=by simp[dS,dF,dR,dM,dL,dI,dD,dX];split<;>simp<;>omega
   obtain⟨mb,mo,cs,rfl,gw,_,⟨ov,rfl,oB,_⟩,eG⟩:=xX.at_ hx;refine ca9 λBZ H5 Ey=>?_;obtain⟨oA,on,oc,rfl,_,_,_⟩:=oB.sk.form;obtain⟨LL,KP⟩:∃q,(dS m++dF m++dR m++dM m++dL m++dI m++dD m++dX m++(m.rules.take k).map (ch m)).length=q:=⟨_,rfl⟩;have br8:=aj KP;have hn8:LL<1000000:=Zv;clear KP;have x0:aa wr mb (mo+k*7) (ah x.kind):=(bB.cell (p:=⟨mb,mo+k*7,XM⟩) gw).t (eG 0 _ rfl);refine QM λx1 x2 x3 x4 x5 x6=>?_;clear hx eG gw oB BZ ap bG;go_upto_region 44 with(fail)
   clear bh;refine df ?_;intro Wx ⟨fE,kj⟩;have lh:=aj (fC.t (fE.mono eh));have ij:=bC eh fE.size;have jA:=aj (aq bB fE);have oz:=ai fT fE;have he0:=blk_lt kj;obtain⟨u,rows,jw,bD,⟨A,nn,c,rfl⟩,pB⟩:=fM.later fE;have uu:=aj jw;have HO:=aj bD;have uv:=aj pB;have wL:=aj kj;have Ei:=aj oz;have hb1:=blk_lt jw;have cU:=aj fun(W:XO)(h:af W ob #[Zk A nn c] 59/\af W w.heap.size #[Zk (XL (bj oj XM)) m.sites.length sc,Zk Fa m.feeds.length fc,Zk Ra m.racks.length rc,Zk Ma m.machs.length mc,Zk La m.links.length lc,Zk Ia m.items.length ic,m.dark,m.slots,m.reserve,m.failures,Zk (XL (mb mo XM)) m.rules.length uc] 29/\af W wr.heap.size #[x.kind,x.item,x.other,x.n,x.by_,Zp x.always,Zk oA on oc] 88)=>XU (show ae W ob (Zk A nn c)from ag h.1 rfl) (XU (bQ h.2.1) (gM h.2.2));clear fE kj jw bD pB oz x0 x1 x2 x3 x4 x5 x6;refine eT (S:=λW=>af W ob #[Zk A nn c] 59/\af W w.heap.size #[Zk (XL (bj oj XM)) m.sites.length sc,Zk Fa m.feeds.length fc,Zk Ra m.racks.length rc,Zk Ma m.machs.length mc,Zk La m.links.length lc,Zk Ia m.items.length ic,m.dark,m.slots,m.reserve,m.failures,Zk (XL (mb mo XM)) m.rules.length uc] 29/\af W wr.heap.size #[x.kind,x.item,x.other,x.n,x.by_,Zp x.always,Zk oA on oc] 88) 6 7 (by exact⟨uu,Ei,wL⟩) λhS=>?_;iterate 3 refine da 7 191 ?_
   refine bt 3 λK hK=>?_;go_simp;refine(Ey _ (aW jA)).m ?_;rintro e w5 ⟨rv,nv,rfl,mh,qc,bx⟩;obtain⟨rA,rn,rc',rfl⟩:=eW mh;obtain⟨nA,nm,nc,rfl⟩:=eW qc;have p7:=aq (aW (am Wx)) bx;have Ep:=aj mh;have NV:=aj qc;have cT:=aj p7;have mK:=p7.size;try go_simp
   refine hK _ _ (by exact⟨ai uu p7,ai Ei p7,ai wL p7⟩) λhS=>?_;clear hK mh qc;refine aH ?_;refine bt 4 λK hK=>?_;go_simp;refine hK _ _ (by exact⟨ai (ai uu p7) (ak (am _) _),ai (ai Ei p7) (ak (am _) _),ai (ai wL p7) (ak (am _) _)⟩) λhS=>?_;clear hK;refine aH ?_;have oh:w5.ownsRow ob 100 6 (Zk A nn c) LL rows.flatten:=by rw[<-br8.o];exact eI HO p7
   refine bt 5 λK hK=>?_;refine step_append_lies _ de _ _ _ de ob 100 j0 _ 6 88 underlying59 rd cr8 cr9 cs0 rfl Zv (Zk A nn c) LL rows.flatten de (World.ownsRow.alloc oh _) (w5 0 XM) 1 1 [ah (ch m x).kind,X2 (bs (ch m x).name),Zk rA rn rc',Zk nA nm nc,ah (ch m x).by_,Zp (ch m x).always] de de (pA rfl) uF Zv (by simp only[Yd];omega) Zv bN _ rfl ?_;intro gg cap w6 cu1 bF iZ hs5;have hP:=gY.push (ch m x) (Zk rA rn rc') (Zk nA nm nc) (ai uu p7) (eI HO p7) (uv.kp (aL.of_below p7 (ar _) mK)) hb1 Ep NV H5 (by rw[br8.o];exact cu1) bF;have U7:=jD (ai (ai uu p7) (ak (am _) _)) bF (yR oh (ai uu p7) aD);have cy1:=jD (ai (ai Ei p7) (ak (am _) _)) bF (yR oh (ai Ei p7) aD);have cy5:=jD (ai (ai wL p7) (ak (am _) _)) bF (yR oh (ai wL p7) aD);refine hK _ _ (by exact⟨U7,cy1,cy5⟩) λhS=>?_;clear hK;refine aH ?_;have f0:=cO U7 0;have d0:=ag (o:=0) U7 rfl;have HP:=aj hP;clear hP cu1 bF iZ cy1 cy5 oh;refine eA 6 λK hK=>?_;go_simp;refine fD ?_;clear hK f0 d0;refine aH ?_;refine gc ?_;go_wp2_with fail
   exact⟨⟨k+1,fp,by go_num,HP.1.to (by rw[HT.o]),(lh.t (cT.mono ij)).t HP.2⟩,by have:=fp.o;simp[X8];omega⟩
  .have bh:=eS ap;obtain⟨u,rows,jw,bD,⟨A,nn,c,rfl⟩,pB⟩:=fM.to (vB (f:=(ch m)) (dS m++dF m++dR m++dM m++dL m++dI m++dD m++dX m) (Nat.le_of_not_lt ap));have c0:=ag (o:=0) jw rfl;have HE:=aj (rH.sl pB bD);clear jw bD pB;go_wp2_with fail
   go_ret;refine⟨Zk A nn c,rfl,?_,bB⟩;rw[HEq.o];simpa only[Yi,uJ]using HE.o):p:=h
def wn(h:p:=by
 go_wp2_with first
  |(go_at_call 175;refine rN ?_;rintro e w3 ⟨rfl,hw⟩;obtain rfl:=hw.symm;first|rw[em.o]|rw[gT.o])
  |(go_at_call 176;refine(Gn _ _ _ _).r λw3 hw=>?_;obtain rfl:=hw.symm;first|rw[ul.o]|rw[Ef.o]|rw[HE6.o])
 all_goals
  go_ret;exact⟨cD Ty,ba⟩):p:=h
def cf4(h:p:=by exact⟨by repeat' first|with_reducible exact hB|with_reducible refine cV ?_ Bt _|with_reducible refine ak ?_ _,rfl⟩):p:=h
def at3(h:p:=by
 refine h_ 11 λK hK=>?_;go_simp;refine(P6 _).m ?_;rintro e w3 ⟨g3,c3,rfl,uM,aM⟩;try go_simp
 refine hK _ _ ?_;clear hK K;refine aH ?_;refine h_ 12 λK hK=>?_;go_simp;refine(Xr _).m ?_;rintro e w4 ⟨g4,c4,rfl,C_,aV⟩;try go_simp
 refine hK _ _ ?_;clear hK K;refine aH ?_;refine h_ 13 λK hK=>?_;go_simp;refine hK _ _ ?_;clear hK K;refine aH ?_;have hS:=ax7 w4 _ _ _ _ (uM.later aV) C_;refine h_ 14 λK hK=>?_;go_simp;refine(Xs _ _ _ hS).m ?_;rintro e w5 ⟨g5,c5,rfl,C',bx⟩;try go_simp
 refine hK _ _ ?_;clear hK K;refine aH ?_;refine h_ 15 λK hK=>?_;go_simp;refine(HQ w5 _ (C'.congr ax3)).r λw6 cL=>?_;try go_simp
 refine hK _ _ ?_;clear hK K;refine aH ?_;iterate 2 refine kB 18 11 ?_
 refine yg ?_;have uL:=aq (aq (ak (aq (aq (aW aZ) aM) aV) _) bx) cL;have jl:=ai (gl HB (aq (ak (aq (aq (aW (am w2)) aM) aV) _) bx) bd) cL;refine P7 λc0 yc vK yd f0 f1 f2 f3=>?_;have qg:=blk_lt jl;have dP:=aj jl;clear jl aM aV bx cL hS uM C_ C' aZ HB HR HQ;go_wp2_with fail
 refine ez (λW=>af W w6.heap.size #[ah 3,X2 (s.extract 0 n),ah 0,ah 0] 135/\af W w.heap.size #[ah 0,X2 ⟨#[]⟩,ah 0,ah 0] 135/\
  (∀j,j<n->W.cell? ⟨w6+1,j,XM⟩=XL (.int .u8 (t.getD j 0).toNat))/\Below w w W) ?_ ?_
 .refine⟨?_,?_,λj hj=>?_,?_⟩
  .rw[Lib.bytesWorld_at_old _ _ _ _ Zy];exact cR w6 _
  .rw[Lib.bytesWorld_at_old _ _ _ _ bN];exact gl dP (ak (am w6) _) qg
  .have:=Lib.bytesWorld_cell (w6.alloc (Zq #[ah 3,X2 (s.extract 0 n),ah 0,ah 0] 135)) 5 (s.extract 0 n) j BC;rw[HX.o,ie]at this;rw[HX.o];simpa using this
  .exact eg1 (ak uL _)
 intro W0 KT;have HW:=aj KT;have aT:¬w6.heap.size=w.heap.size:=Zv;have iF:¬w.heap.size=w6.heap.size:=Zv;have Lr:¬w6.heap.size+1=w6.heap.size:=Zv;clear KT c0 yc vK yd f0 f1 f2 f3 kc uL dP;go_loopw [38] (λi wr=>∃k a:Nat,k<=n/\i=ah k/\nB 0 t=nB a (t.drop k)/\a<=1048576/\af wr w6.heap.size #[ah 3,X2 (s.extract 0 n),a,ah 0] 135/\
  wr.heap[w.heap.size]?=XL (Zq #[ah 0,X2 ⟨#[]⟩,ah 0,ah 0] 135 (0,0))/\(∀j,j<n->wr.cell? ⟨w6+1,j,XM⟩=XL (.int .u8 (t.getD j 0).toNat))/\Below w w wr) (λi _=>n - (X8 i).toNat)
 case atStart=>exact⟨0,0,bU _,rfl,rfl,by omega,HW.1,HW.2.1,HW.2.2.1,HW.2.2.2⟩
 case round=>
  obtain⟨k,a,hk,rfl,hv,ha,gQ,fy,ep,hB⟩:=hrel;have FB:=blk_lt gQ;have eh:=blk_lt fy;have t0:=ag (o:=0) gQ rfl;have t1:=ag (o:=1) gQ rfl;have t2:=ag (o:=2) gQ rfl;have t3:=ag (o:=3) gQ rfl;have q2:=cO gQ 2;have r0:=ag (o:=0) fy rfl;have r1:=ag (o:=1) fy rfl;have r2:=ag (o:=2) fy rfl;have r3:=ag (o:=3) fy rfl;obtain⟨p0,p1,p2,p3⟩:=AH fy;have dc7:=aj gQ;have bB:=aj fy;have Be:=aj ep;have HV:=aj hv;clear gQ fy ep hv;by_cases ap:k<n
  .obtain⟨eC,bh⟩:=dt ap;have UZ:=Be k ap;have cq6:=HD k ap;have sF:nB a (t.drop k)=nB a ((t.getD k 0)::t.drop (k+1)):=by rw[List.drop_eq_getElem_cons (by rw[HL.o];exact ap),List.getD_eq_getElem?_getD,List.getElem?_eq_getElem (by rw[HL.o];exact ap)];rfl
   rw[ax8]at sF;have pT:=aj (HV.t sF);obtain⟨x,hx⟩:∃x,(t.getD k 0).toNat=x:=⟨_,rfl⟩;rw[hx]at UZ cq6 pT;obtain⟨y,hy⟩:∃y,10*a+(x - 48)=y:=⟨_,rfl⟩;rw[hy]at pT;have eH:(48:Int)<=x:=Zv;have ev:(x:Int)<=57:=Zv;have jV:(0:Int)<=a:=Zv;have OL:(a:Int)<=1048576:=Zv;have sI:(10:Int)*a+((x:Int) - 48)=y:=Zv;have HY:=aj sI;clear sF cq6 hx sI;by_cases Dd:1048576<y
   .have gy7:(1048576:Int)<(10:Int)*a+((x:Int) - 48):=by have:=HY.o;omega
    have ND:=aj Dd;clear Dd hy HY;go_wp2_with fail
    refine bodyPost_ret (v:= .tuple #[jZ 0 [] 0 0,ah 2]) (by simp[results,results311,go_sem,jZ,bs,r0,r1,r2,r3,aT,iF,FB,eh]) rfl ?_;rw[show Gi t= .error 2 by unfold Gi;rw[pT.o,if_pos ND.o]];exact cf4
   .have gy7:¬(1048576:Int)<(10:Int)*a+((x:Int) - 48):=by have:=HY.o;omega
    have ND:=aj Dd;clear Dd hy;go_wp2_with fail
    have hs:=pT.o;rw[if_neg ND.o]at hs;refine⟨⟨k+1,y,by omega,by go_num,hs,by have:=ND.o;omega,?_,mT bB iF,λj hj=>(ak4 Lr).t (Be j hj),cV hB Bt _⟩,by simp[X8];omega⟩;have:=bf dc7 2 (ah y);rw[<-HY.o]at this;simpa[<-HY.o]using this
  .go_wp2_with fail
   obtain rfl:k=n:=Zv;refine bodyPost_ret (v:= .tuple #[jZ 3 t a 0,ah 0]) (by simp[results,results311,go_sem,jZ,HX.o,t0,t1,t2,t3,r0,r1,r2,r3,aT,iF,FB,eh]) rfl ?_;have hv:=HV.o;rw[List.drop_of_length_le (by rw[HL.o];omega)]at hv;rw[show Gi t= .ok (3,t,a)by unfold Gi;rw[hv];rfl];exact cf4):p:=h
def ac6(h:p:=by
 go_wp2_with(first
  |(go_at_call 23;refine(JL _ ba).r λw2 au=>?_;have bL:=ai EC au;have g0:ae w2 w (Zk Sa m.sites.length sc):=ag bL rfl;have g1:aa w2 w 1 (Zk Fa m.feeds.length fc):=ag bL rfl;have g2:aa w2 w 2 (Zk Ra m.racks.length rc):=ag bL rfl;have g3:aa w2 w 3 (Zk Ma m.machs.length mc):=ag bL rfl;have g4:aa w2 w 4 (Zk La m.links.length lc):=ag bL rfl;have g5:aa w2 w 5 (Zk Ia m.items.length ic):=ag bL rfl;have g6:aa w2 w 6 (ah m.dark):=ag bL rfl;have g7:aa w2 w 7 (ah m.slots):=ag bL rfl;have g8:aa w2 w 8 (ah m.reserve):=ag bL rfl;have g9:aa w2 w 9 (ah m.failures):=ag bL rfl;have C6:aa w2 w 10 (Zk Ua m.rules.length uc):=ag bL rfl;have Hu:aa w2 w 11 (Zk A n c):=ag bL rfl;have Ow:aa w2 w 12 (ah cl):=ag bL rfl;have EO:aa w2 w 13 (Zk A2 n2 c2):=ag bL rfl;have aX:=aj (aq ba au);have EB:=aj bL;clear au bL)
  |(go_at_call 24;refine(J6 wP _ aX).r λw3 aM=>?_;have kZ:=ai EB aM;have IL:aa w3 w 12 (ah cl):=ag kZ rfl;have hf6:aa w3 w 13 (Zk A2 n2 c2):=ag kZ rfl;have bE:=aj (aq aX aM);clear aM kZ))
 go_ret;exact⟨by rw[HR.o];rfl,bE⟩):p:=h
def rz(h:p:=by
 go_wp2_with(first
  |(go_at_call 69;refine(PP _ _ _ _).m ?_;rintro e w3 ⟨rfl,rfl⟩)
  |(go_at_call 70;refine(al4 x _).r λw3 aM=>?_))
 all_goals go_ret
 all_goals exact⟨cD (zD _ (by simp[oP, *])).symm,Oa⟩):p:=h
def bn5(h:p:=by
 obtain⟨rfl,fo,rfl,o_,aZ,cap,p9⟩:=hcut;have xp:=ai lJ aZ;obtain⟨zK,wQ,zL,zM,zN,zO⟩:=dy xp;obtain⟨EI,EJ,TR,TS,TT,TU,TV,TW⟩:=XD p9;have D9:=aj (aq ba aZ);have Ko:=aj xp;have Kn:=aj p9;clear xp p9 aZ q0;simp only[az]
 go_upto_region 4 with(first
  |(refine(GH _ D9).r λw4 aV=>?_;refine cf0 λfe o_ tB qG qH tC ya Hr vE Bp=>?_;clear aV fe o_ zK wQ zL zM zN zO EI EJ TR TS TT TU TV TW))
 cases NM with
 |true=>
  cases ni with
  |false=>
   go_wp2_with first
    |(go_at_call 56;refine(kI _ vE).r λw5 bx=>?_;refine RT λuW vL uH uI lG Bq OV=>?_;clear bx uW tB qG qH tC ya Hr)
   all_goals go_ret
   all_goals exact⟨A8 (by(try simp[]);(try omega)),lG⟩
  |true=>
   cases ra with
   |false=>
    go_wp2_with first
     |(go_at_call 56;refine(kI _ vE).r λw5 bx=>?_;refine RT λuW vL uH uI lG Bq OV=>?_;clear bx uW tB qG qH tC ya Hr)
     |(go_at_call 229;refine(nO _ lG).r λw6 cL=>?_;have yL:=ai Bq cL;have Ou:=ag (o:=3) yL rfl;have nK:=aj (aq lG cL);clear cL yL uH uI)
    all_goals go_ret
    all_goals exact⟨A8 (by(try simp[]);(try omega)),nK⟩
   |true=>
    go_wp2_with first
     |(go_at_call 56;refine(kI _ vE).r λw5 bx=>?_;refine RT λuW vL uH uI lG Bq OV=>?_;clear bx uW tB qG qH tC ya Hr)
     |(go_at_call 229;refine(nO _ lG).r λw6 cL=>?_;have yL:=ai Bq cL;have Ou:=ag (o:=3) yL rfl;have nK:=aj (aq lG cL);clear cL yL uH uI)
     |(go_at_call 109;refine(ut _ nK).r λw7 jj=>?_;have jz:=aj (aq nK jj);clear jj)
    all_goals go_ret
    all_goals exact⟨A8 (by(try simp[]);(try omega)),jz⟩
 |false=>
  cases ne with
  |false=>
   have kn:=xT.o;go_wp2_with fail
   all_goals go_ret
   all_goals exact⟨A8 (by(try simp[]);(try omega)),vE⟩
  |true=>
   have kn:=xT.o;cases ra with
   |false=>
    go_wp2_with first
     |(go_at_call 229;refine(nO _ vE).r λw6 cL=>?_;have yL:=ai Bp cL;have Ou:=ag (o:=3) yL rfl;have nK:=aj (aq vE cL);clear cL yL qG qH)
    all_goals go_ret
    all_goals exact⟨A8 (by(try simp[]);(try omega)),nK⟩
   |true=>
    go_wp2_with first
     |(go_at_call 229;refine(nO _ vE).r λw6 cL=>?_;have yL:=ai Bp cL;have Ou:=ag (o:=3) yL rfl;have nK:=aj (aq vE cL);clear cL yL qG qH)
     |(go_at_call 109;refine(ut _ nK).r λw7 jj=>?_;have jz:=aj (aq nK jj);clear jj)
    all_goals go_ret
    all_goals exact⟨A8 (by(try simp[]);(try omega)),jz⟩):p:=h
def Qg(h:p:=by
 go_wp2_with fail
 refine⟨⟨k+1,by omega,by go_num,λj hj=>?_,iq⟩,by simp[X8];omega⟩;by_cases e:j=k
 .subst e;exact HP
 .exact HA j Zv):p:=h
def QI(h:p:=by
 have HC:=aj BM;clear bo hr ep BM;go_wp2_with fail
 refine HC.r λw' gC=>?_;have iq:=aq hB gC;cases hp:P k with
 |true=>
  have HP:=aj hp;clear hp;go_wp2_with fail
  go_ret;exact⟨by rw[aw1 ap HP HA.o];rfl,iq⟩
 |false=>have HP:=aj hp;clear hp;exact Qg):p:=h
def ai6(h:p:=by rw[ds0 l k Ku,<-List.singleton_append,<-Yi];refine am5 _ _ ?_;rw[PU,HV.o,h];rfl):p:=h
def am9(h:p:=by
 have hz:(aK l k).size<=1000000:=uw _ (Cb Ku);obtain⟨i1,i2⟩:=dt ap;have Ae:t8 offs k<(sM cs (offs.take k) vs).size:=by rw[L4];exact HI k (by rw[GX.o];exact ap)
 have fy:b<wr:=bJ cp3 ti.size;have OQ:bu<wr:=bJ oq ti.size;have stop:bX (aK l k)=XM->eU l=none:=λh=>by exact ai6
 have STOP:=aj stop;clear stop;cases hp:Lib.atoiAll (aK l k).data.toList with
 |ok v=>
  have Po:aN v:=by
   have KC:Lib.parseIntB 64 (aK l k).data.toList= .ok v:=by rw[Lib.parseIntB_64];exact hp
   have:=Lib.parseIntB_bounds KC;exact⟨by omega,by omega⟩
  have iZ:=λW=>ds8 (aK l k) Zv v hp W;have iz:=aj iZ;have HP:=aj hp;clear iZ hp;by_cases he:bs (XS v)=aK l k
  .have gx3:((bs (Lib.itoa v)).toList==(aK l k).toList)=true:=by rw[he];simp
   have HE:=aj he;clear he
   go_wp2_with(first
    |(go_at_call 216;refine(iz _).r λw1 aC=>?_;have ir:=AC ti aC)
    |(go_at_call 21;refine(LV _ Po _ (HG.grown ir gm)).r λw2 au=>?_;have pe:=AC ir au;have yq:af w2 b (sM cs (offs.take k) vs) t:=((au.block b (bJ fy aC.size)).t (aC.block b fy)).t iA.o;have gu1:aa w2 bu k (Zs (XL ⟨b,t8 offs k,XM⟩)):=((au.cell (bJ OQ aC.size)).t (aC.cell OQ)).t h2;have gx2:=lR yq Ae;have gy5:=py yq (t8 offs k)))
   have Ao:eU (l.take (k+1))=XL (vs++[v]):=by rw[WW l k Ku,PU,HV.o];simp[bX,HP.o,HE.o]
   exact⟨⟨k+1,vs++[v],by omega,by go_num,Ao,xw pe _ _,by rw[dr9 offs k (by rw[GX.o];exact ap),am4 _ _ _ _ _ (by rw[DT HV.o,YK,YK,li.o,GX.o])];exact ku yq _ _⟩,by simp[X8];omega⟩
  .have gx3:((bs (Lib.itoa v)).toList==(aK l k).toList)=false:=by
    rw[beq_eq_false_iff_ne];intro h;exact he (by rw[<-nY (aK l k),<-je,<-h,je,ie])
   have HE:=aj he;clear he
   go_wp2_with(first
    |(go_at_call 216;refine(iz _).r λw1 aC=>?_;have ir:=AC ti aC)
    |(go_at_call 21;refine(LV _ Po _ (HG.grown ir gm)).r λw2 au=>?_;have pe:=AC ir au;have yq:af w2 b (sM cs (offs.take k) vs) t:=((au.block b (bJ fy aC.size)).t (aC.block b fy)).t iA.o;have gu1:aa w2 bu k (Zs (XL ⟨b,t8 offs k,XM⟩)):=((au.cell (bJ OQ aC.size)).t (aC.cell OQ)).t h2;have gx2:=lR yq Ae;have gy5:=py yq (t8 offs k)))
   go_ret;refine⟨pe,?_⟩;rw[STOP (by simp[bX,HP.o,HE.o])];exact⟨rfl,_,yq,L4 _ _ _⟩
 |_=>
  have iZ:=λW=>ds9 (aK l k) Zv (by intro v h;rw[hp]at h;cases h) W;have iz:=aj iZ;have HP:=aj hp;clear iZ hp
  go_wp2_with(first
   |(go_at_call 216;refine(iz _ (HG.grown ti gm)).m ?_;rintro e w1 ⟨v1,t1,p1,rfl,aC⟩;have ir:=AC ti aC))
  go_ret;refine⟨ir,?_⟩;rw[STOP (by simp[bX,HP.o])];exact⟨rfl,_,(aC.block b fy).t iA,L4 _ _ _⟩):p:=h
def Xy(h:p:=by
 go_simp;refine hK _ _ ?_;clear hK K;refine aH ?_;refine h_ 10 λK hK=>?_;refine step_append_lies _ de _ _ _ de B 9 i0 _ 1 16 Zo hi cA a_ bd rfl Zv _ _ _ de (bD.alloc _) ⟨_,0,XM⟩ 1 1 [X2 (bs t.text)] de de (pA rfl) uF Zv uE bN bN _ rfl ?_;intro gg cap w3 jX bF iZ ap;refine hK _ _ ?_;clear hK K;refine aH ?_;have aM:=jD (ai G.1 (ak (am w2) _)) bF (λk hk e=>aT (by rw[hk,e]));have f3:=cO aM 4;have c3:=ag (o:=4) aM rfl;iterate 3 refine kB 15 2 ?_
 refine h_ 14 λK hK=>?_;go_simp;refine hK _ _ ?_;clear hK K;refine aH ?_;refine yg ?_
 go_end0
 obtain⟨g1,g2,g3,g4,fu,hq⟩:=G.o;have k0:aL B pb w2 w3:=((aL.refl B pb w2).alloc g6 _).grown (eI g3 (ak (am w2) _)) bF g6;have k1:aL B pb w2 (w3.setCell (pb 4 XM) (Zk (XL (gg 0 XM)) (q.d.refs.length+1) cap)):=k0.set (.inl rfl) _;have ho:=av0 (eI g3 (ak (am w2) _)) (eI g4 (ak (am w2) _)) aD bF;have hn:w3.ownsRow B 9 1 (Zk (XL (gg 0 XM)) (q.d.refs.length+1) cap) (q.d.refs++[t.text]).length ((q.d.refs++[t.text]).map λs=>X2 (bs s)):=by rw[Yp,X0];exact jX
 have V0:p'={q with d:={q.d with refs:=q.d.refs++[t.text]}}:=HQ.o;have bA:=wC.o;subst V0;refine⟨rfl,⟨Nr,_,n2,bf aM 4 _,g2.to oe.ab (k1.below Zv) (ar _) (ar _),nE hn (λj hj=>by have:=(X6 hn j hj).1;omega) _ _,nE ho (λj hj=>by have:=(X6 ho j hj).1;omega) _ _,g5,bC g6 k1.size,bA.1⟩,bA.2,((aL.refl B pb w).drew.t (fu.mono bm.2)).t k1⟩):p:=h
def Xz(h:p:=by
 go_simp;refine hK _ _ ?_;clear hK K;refine aH ?_;refine h_ 10 λK hK=>?_;refine step_append_lies _ de _ _ _ de B 3 i0 _ 1 8 underlying30 hi cA a_ bd rfl Zv _ _ _ de (bD.alloc _) ⟨_,0,XM⟩ 1 1 [ah t.n] de de (pA rfl) uF Zv uE bN bN _ rfl ?_;intro gg cap w3 jX bF iZ ap;refine hK _ _ ?_;clear hK K;refine aH ?_;have aM:=jD (ai G.1 (ak (am w2) _)) bF (λk hk e=>aT (by rw[hk,e]));have f3:=cO aM 5;have c3:=ag (o:=5) aM rfl;iterate 3 refine kB 15 2 ?_
 refine h_ 14 λK hK=>?_;go_simp;refine hK _ _ ?_;clear hK K;refine aH ?_;refine yg ?_
 go_end0
 obtain⟨g1,g2,g3,g4,fu,hq⟩:=G.o;have k0:aL B pb w2 w3:=((aL.refl B pb w2).alloc g6 _).grown (eI g4 (ak (am w2) _)) bF g6;have k1:aL B pb w2 (w3.setCell (pb 5 XM) (Zk (XL (gg 0 XM)) (q.d.nums.length+1) cap)):=k0.set (.inl rfl) _;have ho:=av0 (eI g4 (ak (am w2) _)) (eI g3 (ak (am w2) _)) aD bF;have hn:w3.ownsRow B 3 1 (Zk (XL (gg 0 XM)) (q.d.nums.length+1) cap) (q.d.nums++[t.n]).length ((q.d.nums++[t.n]).map fun(k:Nat)=>X1 .i64 k):=by rw[Yp,X0];exact jX
 have V0:p'={q with d:={q.d with nums:=q.d.nums++[t.n]}}:=HQ.o;have bA:=wC.o;subst V0;refine⟨rfl,⟨Nr,r2,_,bf aM 5 _,g2.to oe.ab (k1.below Zv) (ar _) (ar _),nE ho (λj hj=>by have:=(X6 ho j hj).1;omega) _ _,nE hn (λj hj=>by have:=(X6 hn j hj).1;omega) _ _,g5,bC g6 k1.size,bA.1⟩,bA.2,((aL.refl B pb w).drew.t (fu.mono bm.2)).t k1⟩):p:=h
def ba6(h:p:=by
 rw[Es.o];rintro e w3 ⟨kF,rfl,nj⟩;refine ce9 λdu BI bE qA=>?_;clear du BI;obtain⟨m,t,oo,yC,We,Fc,Fd⟩:=nj y rfl;obtain⟨l0,l1,l2,l3,l4,l5,l6,l7,l8,l9⟩:=oo.lies;obtain⟨Am,nm,cm,rfl,fG,_,_⟩:=yC.form;obtain⟨At,nt,ct,rfl,Pd,_,_⟩:=We.form;have IG:=ex9 Es (ey1 HK) (λx hx=>GY.2 x (Y6 hx)) yC We;have Pu:=az6 Es.o;have VC:=Q8 y _ _ w3 IG (by have:=xQ.o;omega) (by have:=xQ.o;omega);rw[bu6.o]at VC;have dm9:=aj VC;have do4:=aj IG;have lH:=aj Fc;have JR:=aj Fd;have Af:wc.heap.size<w3:=bJ Ir kF.size;have hf5:w.heap.size<w3:=Zv;clear nj oo yC We fG Pd IG Pu VC Fc Fd kF;go_simp;refine hK _ _ ?_;clear hK K;refine aH ?_;iterate 2 refine kB 11 24 ?_
 refine h_ 7 λK hK=>?_;go_simp;refine hK _ _ ?_;clear hK K;refine aH ?_;refine h_ 8 λK hK=>?_;go_simp;refine dm9.r λw4 aV=>?_;obtain⟨mE,o9⟩:=dE aV;have bW:=aj (aq bE aV);have wD:=aj ((aV.block w hf5).t qA);have do5:=aj ((do4.below aV (ar _)).more aV.size);have m0:=(mE wc 0 Af).t l0;have m1:=(mE wc 1 Af).t l1;have m2:=(mE wc 2 Af).t l2;have m3:=(mE wc 3 Af).t l3;have m4:=(mE wc 4 Af).t l4;have m5:=(mE wc 5 Af).t l5;have m6:=(mE wc 6 Af).t l6;have m7:=(mE wc 7 Af).t l7;have m8:=(mE wc 8 Af).t l8;have m9:=(mE wc 9 Af).t l9;clear aV mE o9 l0 l1 l2 l3 l4 l5 l6 l7 l8 l9;go_simp;refine hK _ _ ?_;clear hK K;refine aH ?_;iterate 2 refine kB 11 24 ?_
 refine yg ?_;have E1:=wD.o;rw[qm]at E1;obtain⟨⟨d0,d1,d2,d3,d4,d5,d6,d7,d8,d9⟩,fr⟩:=az5 E1;refine Qp λf0 f1 f2 f3 f4 f5=>?_;have f6:=fr 6;have f7:=fr 7;have f8:=fr 8;have f9:=fr 9;clear E1 fr;go_wp2_with fail
 refine bodyPost_ret (v:= .tuple #[Zr (y.cells (Zk Am nm cm) (Zk At nt ct)),ah 0]) (by simp[results,results13,go_sem,aQ.cells_def,aP,d0,d1,d2,d3,d4,d5,d6,d7,d8,d9]) rfl ?_;refine⟨?_,?_⟩
 .have hb:=bW.o;repeat' first|with_reducible exact hb|with_reducible refine cV ?_ (ar _) _
 .rw[Nf HK.o,Es.o];simp only[Option.bind_some,bu6.o,if_true];refine⟨_,_,rfl,?_,λa n c e=>by have:W.heap.size<=a.block:=lH a n c e;omega,λa n c e=>by have:W.heap.size<=a.block:=JR a n c e;omega⟩;have sI:=do5.o;have Fc:∀a n c,Value.slice Am nm cm= .slice (some a) n c->¬a.block=w:=λa n c e=>by have:W.heap.size<=a.block:=lH a n c e;omega
  have Fd:∀a n c,Zk At nt ct=Zk (XL a) n c->¬a.block=w:=λa n c e=>by have:W.heap.size<=a.block:=JR a n c e;omega
  repeat' first|with_reducible exact sI|with_reducible refine In.set ?_ Fc Fd _ _):p:=h
def MJ(h:p:=by
 go_enter func23,ntmps23;go_wp2_with first
  |(go_at_call 53;refine(G9 _ (ak (am w) _)).r λw1 aC=>?_;refine Q_ λgR e0 e1 e2 e3 e4 e5 e6 e7 e8 e9 eB a_ bp jq=>?_;clear aC gR)
  |(go_at_call_of 54 (ah m.dark);refine(uz _).m ?_;rintro e w2 ⟨rfl,rfl⟩)
  |(go_at_call_of 54 (ah m.slots);refine(uB _).m ?_;rintro e w2 ⟨rfl,rfl⟩)
  |(go_at_call_of 54 (ah m.reserve);refine(wJ _).m ?_;rintro e w2 ⟨rfl,rfl⟩)
  |(go_at_call_of 54 (ah m.failures);refine(Kf _).z ?_)
 go_ret;exact⟨by rw[HO.o];simp;try omega,bp⟩):p:=h
def cf5(h:p:=by exact⟨w2.heap.size,⟨word,kind,gu,gf,caps,gr,gt⟩,rfl,aZ.size,aa6 bu7 br3 (rJ.alloc HX _),ak aZ _,Yy w2 _⟩):p:=h
def az9(h:p:=by
 rename_i J K' hJ iV;have HJ:=aj hJ;have vH:=aj iV;clear hJ iV;go_region_held3 (λw'=>aa w' bl ol (X2 (aK (eP s) 0))) (go_simp)
  (first
    |(go_at_call 44;refine(HP _).m ?_;rintro e w2 ⟨M,b,rfl,hL,hX,Ac,hM,au⟩;have aZ:Below w1 w1 w2:=by first|exact aq (aW (am w1)) au|exact aq (aW (ak (am w1) _)) au
      obtain⟨j,⟨word,kind,gu,gf,caps,gr,gt⟩,hx,hj,Dj,kG⟩:=ex7 b HK.o;have lB:(Yu 95 (.map (XL M)) (X2 (aK (eP s) 0)) XR).run X3 w2= .ok (.tuple #[Zr #[bs word,kind,.func (.func gu) #[] #[],.func (.func gf) #[] caps,.func (.func gr) #[] #[],.func (.func gt) #[] #[]],Zp XR]) w2:=My underlying95 YP hL XR zd (az3 b) Dj kG;have gD:∀o,(Yu 95 (.map (XL M)) (X2 (aK (eP s) 0)) XR).run X3 (w2.alloc o)= .ok (.tuple #[Zr #[bs word,kind,.func (.func gu) #[] #[],.func (.func gf) #[] caps,.func (.func gr) #[] #[],.func (.func gt) #[] #[]],Zp XR]) (w2.alloc o):=λo=>My underlying95 YP (hL.later (ak (am w2) o)) XR zd (az3 b) Dj kG;have bu7:=aj hx;have br3:=aj hj;have GO:=aj (show ∀i,i<10->¬b i=w1.heap.size from λi hi=>by have:=Ac i hi;simp at this;omega);have j_:=aj au.block;clear Dj kG hx hj;have cM:∀b o,b<w1.heap.size->w2.cell? ⟨b,o,XM⟩=w1.cell? ⟨b,o,XM⟩:=λb o h=>aZ.cell (p:=⟨b,o,XM⟩) h;obtain⟨i',BO⟩:=oQ au;try(have ij:w1.heap.size<w2:=by(have hq:=au.size;simp at hq;omega))
      have ho7:bl<w2:=bJ jG aZ.size;have ho8:¬bl=w2:=Zv;have bd:w.heap.size<w2:=bJ a_ aZ.size;have HL:=aj hL;have HX:=aj hX;clear hL hX Ac hM au))
 all_goals
  dsimp only[Exit.then];refine vH _ _ (Met.intro (HJ _ _ ?_))
  (repeat apply Exists.intro)
  refine⟨⟨rfl,?_⟩,rfl⟩
 .exact cf5
 .exact cf5
 .refine⟨w1.heap.size,⟨word,kind,gu,gf,caps,gr,gt⟩,rfl,ar _,aa6 bu7 br3 ?_,?_,?_⟩
  .repeat' first|with_reducible exact HX.o|with_reducible refine rJ.set ?_ GO.o _ _
  .repeat' first|with_reducible exact aZ|with_reducible refine cV ?_ (ar _) _
  .have h0:=(j_ w1 Zy).t (Yy w1 _);exact(ku (ku (ku (ku (ku (ku h0 _ _) _ _) _ _) _ _) _ _) _ _).t rfl):p:=h
def Ru(h:p:=by
 go_wp2_with first
  |(go_at_call 175;refine rN ?_;rintro e w3 ⟨rfl,hw⟩;obtain rfl:=hw.symm;first|rw[em.o]|rw[gT.o])
  |(go_at_call 176;refine(Gn _ _ _ _).r λw3 hw=>?_;obtain rfl:=hw.symm;first|rw[ul.o]|rw[Ef.o]|rw[HE6.o])
  |(go_at_call 294;refine(zw _ ba).r λw2 au=>?_;rw[rU.o];have ev:=ai lJ au;obtain⟨y0,y1,y2,y3,y4,y5,y6⟩:=gM ev;refine va λaX=>?_;clear au ev)
 all_goals
  go_ret;exact⟨cD Ty,by first|exact aX.o|exact ba⟩):p:=h
def bn7(h:p:=by
 refine tz (S:=λw'=>ae w' rb (.map (XL Mb))/\ae w' xb (ah d.kind)/\aa w' xb 1 (X2 (bs d.name))/\dN ju w' w (Cq (l.take (k+1)))) 15 (by exact⟨qe,e0,e1,uk⟩) λhS=>?_;iterate 11 refine oO 15 72 ?_
 refine fg 11 λK hK=>?_;go_simp;refine(wG _).r λw8 gm=>?_;have iu:Hid (Below w7 w7 w8):=aq (aW (am w7)) gm;clear gm;try go_simp
 clear hS;refine hK _ _ (by exact⟨kc iu qe,kc iu e0,kc iu e1,uk.later iu⟩) λhS=>?_;clear hK;refine aH ?_;refine ba7 (i:=12) (v:=ah ((cn:Int)+1)) (XL 84) rfl rfl aI aI aI (λ_ _ _ h=>h) (Or.inl ⟨by rfl,?_⟩) hS ?_
 .intro wq jF;try dsimp only at jF
  have h:=sU (P:=X3) underlying224 XZ cJ jF.2.2.2 (sc:Int) XQ (zeroValue3 _);rw[NH.o]at h;have lB:(Yu 224 (.map (XL w.heap.size)) (ah sc) XQ).run X3 wq= .ok (ah ((cn:Int)+1)) wq:=h;clear h;go_simp;try with_reducible rfl
 refine aH ?_;refine cQ 13 85 ?_;refine fg 14 λK hK=>?_;obtain⟨ob,fB,cm5⟩:=Qk (P:=X3) underlying143 YP FT (Eh.later iu) d.name (Zr #[d.kind,ah ((cn:Int)+1)]);have hc2:(Instr.mapUpdate 143 (.map (XL Mb)) (X2 (bs d.name)) (Zr #[d.kind,ah ((cn:Int)+1)])).run X3 w8=_:=fB;have pC:=IS w8 Mb ob;generalize ChangeMaps.setBlock w8 Mb ob=w9 at fB hc2 cm5 pC;go_simp;refine hK _ _ (by exact⟨(pC.cell aT).t hS.1,(pC.cell ct6).t hS.2.1,(pC.cell ct6).t hS.2.2.1,hS.2.2.2.blk (pC.2.2 _ Zv)⟩) λhS=>?_;clear hK;refine aH ?_;refine rY ?_;go_wp2_with fail
 have gz9:el t d.name=none:=by
  have:=xX.o;cases hq:el t d.name with
  |none=>rfl
  |some q=>rw[hq]at this;cases this
 refine⟨⟨k+1,t++[(d.name,d.kind,cn+1)],by omega,by go_num,?_,cm5.of_eq (λy=>(fm0 (d.kind,cn+1) gz9 y).symm),hS.2.2.2,((tr.later iu).blk (pC.2.2 _ Zv)),(j'.t (aL.of_below iu j'.size iu.size)).t (aL.turn pC)⟩,by simp[X8];omega⟩;rw[zq Hc (by rw[nK.o];rfl),if_neg (of_decide_eq_false nk)]):p:=h
def au2(h:p:=by
 refine(Xu pb B M p _ 3 ((HP.later bp).later (ak (am w1) _)) Zv).m ?_;rintro e w2 ⟨rfl,e_,fu,jv⟩;have eh:=blk_lt D8.o;have fy:=fu.blk (gl D8 (ak (am w1) _) eh) bN Zv;obtain⟨r0,r1,r2,r3⟩:=XC fy;obtain⟨q0,q1,q2,q3⟩:=AH fy;have bd:=blk_lt fy;have iH:=aj e_;have ik:=aj fu;have iO:=aj jv;clear e_ fu jv;have bB:=aj fy;clear fy;go_wp2_with fail
 refine bodyPost_ret (v:=Cl ⟨0,[],0,0⟩) (by simp[results,results192,go_sem,Cl,bs,r0,r1,r2,r3,bd]) rfl ?_;rw[HT.o];refine⟨rfl,iH.set4 bB aD mg,?_⟩;have iw:aL w pb w w2:=((aL.of_below bp (ar _) bp.size).alloc (ar _) _).t (ik.mono bN);refine⟨(((iw.set (.inr (ar _)) _).set (.inr (ar _)) _).set (.inr (ar _)) _).set (.inr (ar _)) _,?_⟩;exact(((((lo.of_below bp mg).t (lo.of_below (ak (am w1) _) yG)).t iO).set (.inl Zv) _).set (.inl Zv) _).set (.inl Zv) _ |>.set (.inl Zv) _):p:=h
def af0(h:p:=by have h:=sU (P:=X3) YW XZ cJ hM (d.kind:Int) XR (zeroValue178 _);rw[hF]at h;exact h):p:=h
def af1(h:p:=by have h:=sU (P:=X3) YW XZ cJ (hM.later (ak (am w2) o)) (d.kind:Int) XR (zeroValue178 _);rw[hF]at h;exact h):p:=h
def QS(h:p:=by exact⟨w2.heap.size,rfl,aZ.size,ak aZ _,cap,Yy w2 _⟩):p:=h
def bx4(h:p:=by have h0:=(j_ W1 Zy).t (Yy W1 _);exact(bf (bf (bf (bf (bf (bf (bf (bf h0 _ _) _ _) _ _) _ _) _ _) _ _) _ _) _ _).t rfl):p:=h
def bn4(h:p:=by
 refine⟨W1.heap.size,rfl,ar _,?_,cap,?_⟩
 .repeat' first|with_reducible exact aZ|with_reducible refine cV ?_ (ar _) _
 .exact bx4):p:=h
def bn2(h:p:=by
 rename_i J K' hJ iV;have HJ:=aj hJ;have vH:=aj iV;clear hJ iV;go_region_held3 (λw'=>ae w' w (ah d.kind)) (go_simp)
  (first
    |(go_at_call 140;refine(lH _).m ?_;rintro e w2 ⟨M1,pb,rfl,hM,_,_,au⟩;obtain⟨cap,hF⟩:=HF pb;refine IN λaZ=>?_;have lB:(Instr.lookup 179 (.map (some M1)) (.int .i64 d.kind) true).run prog w2= .ok (.tuple #[.agg #[.string wd,.bool NM,.int .i64 L,.int .i64 M,.int .i64 N,.func (.func fb) #[] #[],.bool AL,.func (.func ft) #[] cap],.bool true]) w2:=by exact af0
      have gD:∀o,(Yu 179 (.map (XL M1)) (ah d.kind) XR).run X3 (w2.alloc o)= .ok (.tuple #[Zr #[wd,Zp NM,L,M,N,.func (.func fb) #[] #[],Zp AL,.func (.func ft) #[] cap],Zp XR]) (w2.alloc o):=λo=>by exact af1
      have c0:=kc aZ q0;obtain⟨i',BO⟩:=oQ au;try(have ij:W1.heap.size<w2:=by(have hq:=au.size;simp at hq;omega))
      refine QR λbd gJ j_=>?_;clear hM au))
 all_goals
  dsimp only[Exit.then];refine vH _ _ (Met.intro (HJ _ _ ?_))
  (repeat apply Exists.intro)
  refine⟨⟨rfl,?_⟩,rfl⟩
 .exact QS
 .exact QS
 .exact bn4):p:=h
def ZH(h:p:=by
 go_enter func53,ntmps53
 go_wp2_with(first
  |(go_at_call_of 143 (ah (m.sites.length:Nat));refine(em _).m ?_;rintro e w1 ⟨rfl,rfl⟩)
  |(go_at_call 143;refine(gT _).m ?_;rintro e w1 ⟨rfl,rfl⟩)
  |(go_at_call 144;refine(HR _ (ak (am w) _) HN).r λw1 aC=>?_;have bp:=aj (aq (ak (am w) _) aC);have jq:=aj (ai HN aC);have e3:aa w1 w 3 (Zk Ma m.machs.length mc):=ag jq rfl;have e4:aa w1 w 4 (Zk La m.links.length lc):=ag jq rfl;clear aC)
  |(go_at_call 148;refine(HM _ bp jq).r λw2 au=>?_;have aX:=aj (aq bp au);have mp:=aj (ai jq au);have e4:aa w2 w 4 (Zk La m.links.length lc):=ag mp rfl;clear au)
  |(go_at_call 151;refine(HL _ aX mp).r λw3 aM=>?_;have bE:=aj (aq aX aM);clear aM))
 go_ret;exact⟨by rw[HO.o];simp[G1.o,G2.o,G4.o],bE⟩):p:=h
def au1(h:p:=by
 simp only[az];go_enter func192,ntmps192;go_wp2_with first
  |(go_at_call 82;refine(HN _ (HP.later (ak (am w) _))).r λw1 aC=>?_;have pE:=ai (ai H1 (ak (am w) _)) aC;have p0:w1.cell? ⟨pb,0,none⟩=some (.slice (some ⟨tb,tf,none⟩) tn tc):=ag pE rfl;refine FK λp1 yG=>?_;have D8:=aj (ai (cR w _) aC);have bp:=aj (aq (ak (am w) _) aC);have f0:=cO pE 0;have fy:=D8.o;obtain⟨r0,r1,r2,r3⟩:=XC fy;obtain⟨q0,q1,q2,q3⟩:=AH fy;have a_:=blk_lt fy;have bd:¬w.heap.size=w1.heap.size:=by omega
    clear pE aC fy)
  |(go_at_call 159;refine(P5 _ l t.text _ _ ((HL.below bp (ar _)).below (ak (am w1) _) (by have:=bp.size;omega))).z ?_)
 refine bodyPost_ret (v:=Cl t) (by simp[results,results192,go_sem,Cl,r0,r1,r2,r3,a_,cA,bd]) rfl ?_;rw[HY.o,HH.o];have UG:cK w1 pb B M p:=HP.later bp.o;have cn2:ci 4 oe w1 pb (Zk (XL (tb (tf+4) XM)) (tn - 1) (tc - 1)) p.ts.tail:=by
  have h:=H2.below oe.ab bp Zv;rw[To.o]at h⊢
  exact h.drop1
 have e_:=UG.setTs cn2 (H7.tail (by rw[To.o,Pk];simp));refine⟨rfl,(e_.set4 (mT D8 cA) aD mg).later (ak (am _) _),?_⟩;have iw:aL w pb w w1:=aL.of_below bp (ar _) bp.size;refine⟨(((((iw.set (.inl rfl) _).set (.inr (ar _)) _).set (.inr (ar _)) _).set (.inr (ar _)) _).set (.inr (ar _)) _).alloc (ar _) _,?_⟩;exact(((((((lo.of_below bp mg).set (.inr Zv) _).set (.inl Zv) _).set (.inl Zv) _).set (.inl Zv) _).set (.inl Zv) _)).t (lo.of_below (ak (am _) _) (by simp[YS];omega))):p:=h
def bz3(h:p:=by
 obtain⟨rA,rn,rc,rfl,dz,lF,_⟩:=hr.sk.form;obtain⟨nA,nn,nc,rfl,cS,ph,_⟩:=hn.form;obtain rfl:3=nn:=cS;have z0:(bs nm).size<=31:=wO;have z1:=Sf hl.2.2.2.2;have z2:=cd8 n0 n1 n2 ⟨hl.2.1,hl.2.2.1,hl.2.2.2.1⟩;have jp:=aj (λW(hW:Below w w W)=>Rw _ l W ((hr.below hW (ar _)).more hW.size) (by have:=hl.2.2.2.2.1;omega) (λx hx=>by have:=hl.2.2.2.2.2 x hx;omega));have iO:=aj λW(hW:Below w w W)=>cd3 _ n0 n1 n2 [(n0:Int),(n1:Int),(n2:Int)] W ((hn.below hW (ar _)).more hW.size) rfl rfl rfl ⟨hl.2.1,hl.2.2.1,hl.2.2.2.1⟩;unfold iS;generalize bs nm=s0 at z0⊢
 generalize bs (eQ l)=s1 at z1 jp⊢
 generalize bs (rZ n0 n1 n2)=s2 at z2 iO⊢
 refine Nj λy1 y2=>?_;have y3:¬9223372036854775807<s0.size+4+s1.size+s2.size:=Zv;clear hr hn hl;go_enter func181,ntmps181;go_upto_region 1 with(fail)
 refine df ?_;intro W1 ⟨hB,hx⟩;have HB:=aj hB;have HX:=aj hx;have a_:=blk_lt hx;clear hB hx;obtain⟨x0,x1,x2,x3,x4,x5⟩:=dy HX.o;go_quiet (fail)
 go_upto_region 14 with(fail)
 refine DL ?_;intro W2 hw;have HW:=aj (aq HB hw);have bd:=bJ a_ hw.size;clear x0 x1 x2 x3 x4 x5;obtain⟨x0,x1,x2,x3,x4,x5⟩:=dy (ai HX hw);clear hw;go_region_held3 (λw'=>aa w' w 1 (X2 s0)) (go_simp)
  (first
    |(go_at_call 300;refine(jp _ (aW HW)).r λw3 aM=>?_;have du:=aq (aW HW) aM;have gJ:=dQ aM bd;obtain⟨kE,pF⟩:=oQ aM)
    |(go_at_call 301;refine(iO _ du).r λw4 aV=>?_;have gP:=aq du aV;obtain⟨mE,o9⟩:=dE aV))
 go_wp2_with fail
 go_ret;exact⟨rfl,gP⟩):p:=h
def tU(h:p:=by exact af5 d rv nv w hG _ _ _ _ _ _ _ _ _ (XX func231 aI rfl) hr hn (λpb=>⟨_,lX pb⟩) λW _=>fj1 d.by_ W):p:=h
def XB(h:p:=by
 try clear he
 try clear hk
 try clear ht
 simp only[az];go_enter func318,ntmps318;go_wp2_with first
  |(go_at_call 82;refine(HN _ HP).r λw1 aC=>?_;have pE:=ai H1 aC;refine FK λp1 yG=>?_;have bp:=aj aC;clear pE aC)
  |(go_at_call 192;refine(HT _ ((HP.later bp).later (ak (am w1) _))).mono ?_;unfold sS;rintro e w2 ⟨rfl,e_,fu,jv⟩;obtain⟨lD,cj,c1,c2,c3,c6,c7⟩:=e_.cells;have f7:=cj 7;have iH:=aj e_;have ik:=aj fu;clear e_ fu jv cj)
 go_end0
 rw[HC.o];exact⟨rfl,((HP.later bp).later (ak (am w1) _)).more (Y5 M),λ_=>wC.o,(aL.of_below bp bm.2 bp.size).alloc bm.2 _⟩):p:=h
def ai1(h:p:=by
 have ir:=xw (AN aC (Zl w1 (XL pa))) 9 (Zk (XL (bu 0 XM)) nu cu);have r2:=ku r1 9 (Zk (XL (bu 0 XM)) nu cu);have dr:=aS.set (o:=9) (u:=Zk (XL (bu 0 XM)) nu cu) hu (show ¬bu=pa by omega);have fL:Below pa W (w1.setCell (pa 9 XM) (Zk (XL (bu 0 XM)) nu cu)):=(aC.mono (fK ap)).setCell (ar _) _;generalize uV:w1.setCell (pa 9 XM) (Zk (XL (bu 0 XM)) nu cu)=w2 at ir r2 dr fL⊢
 have tJ:pa<w2:=bJ ap ir.size;have aT:¬pa=w2:=Zv;have iF:¬w2.heap.size=pa:=Zv;have Uv:dd w2:=HG.grown ir h8;clear uV hu aC
 go_region_with (go_at_call 95;refine(F_ _ [aK l 0] [1] 1 w2 _ pa 45 _ _ (Uv.step (aW (ak (am w2) _))) pa rfl (Sl.below HT (FE (fL.alloc (fK tJ) _))) (ar _) bN (by simpa using HZ.o) Zy (λj hj=>by
  match j,hj with
  |0,_=>go_simp;try rfl) iF Zy h8 (((aW (ak (am w2) _)).block _ tJ).t r2) (λj hj=>by
  match j,hj with
  |0,_=>show _<10;decide)).m ?_;rintro e w3 hp;have he:=hp.ret;subst he)
 all_goals (go_wp2_with fail)
 all_goals
  go_ret;have kF:=AN (aW (ak (am w2) _)) hp.1;have lD:=hp.2;refine⟨XG ir kF,?_,λy hy=>?_⟩
  .show YT (Zp (iB [aK l 0] 1).isSome)=_;rw[ai0,Option.isSome_map,Option.isSome_map]
  .obtain⟨a,ha,rfl⟩:=Option.map_eq_some_iff.1 hy;have e1:iB [aK l 0] [1].length=some [a]:=by show iB [aK l 0] 1=_;rw[ai0,ha];rfl
   rw[e1]at lD;exact⟨aP,_,lD.2.t rfl,aS.nil_ _ _,aS.grown' dr kF (show ¬bu=pa by omega),kO.nil _,kO.mk_ Ac⟩):p:=h
def bd2(h:p:=by
 refine bd3 λtJ ir r2 fL=>?_;generalize uV:((((((w1.setCell (pa 4 XM) (ah p0)).setCell (pa 5 XM) (X2 p1)).setCell (pa 6 XM) (ah p2)).setCell (pa 7 XM) (ah p3))).alloc (Zq #[p0,p1,p2,p3] 43))=w2 at ir r2 fL⊢
 have dh:pa<w2:=bJ ap ir.size;clear uV tJ d4 f4 d5 f5 d6 f6 d7 f7 aT iF Fm aC R1;have R2:=aj r2;clear r2;have aT:¬pa=w2:=Zv;have iF:¬w2.heap.size=pa:=Zv;refine ty 14 ?_;iterate 2 refine kB 14 20 ?_
 iterate 10 refine FC 14 20 ?_
 refine nX 12 32 ?_;refine nX 13 4 ?_;refine yg ?_;go_wp2_with fail
 go_ret;exact⟨ah7 ir,rfl,λy hy=>by cases hy⟩):p:=h
def Xw(h:p:=by
 try clear he
 try clear hk
 simp only[az];go_enter func349,ntmps349;go_wp2_with first
  |(go_at_call 82;refine(HN _ HP).r λw1 aC=>?_;have pE:=ai H1 aC;refine FK λp1 yG=>?_;have bp:=aj aC;clear pE aC)
  |(go_at_call 192;refine(HT _ ((HP.later bp).later (ak (am w1) _))).mono ?_;unfold sS;rintro e w2 ⟨rfl,e_,fu,jv⟩;have iH:=aj e_;have ik:=aj fu;have iO:=aj jv;clear e_ fu jv)
 go_ret;rw[HC.o];exact⟨rfl,(HP.later bp).later (ak (am w1) _),(aL.of_below bp (ar _) bp.size).alloc (ar _) _,(lo.of_below bp mg).t (lo.of_below (ak (am w1) _) yG)⟩):p:=h
def Ng(h:p:=by
 go_wp2_with first
  |(go_at_call 175;refine rN ?_;rintro e w3 ⟨rfl,hw⟩;obtain rfl:=hw.symm;first|rw[em.o]|rw[gT.o])
 all_goals
  go_ret;exact⟨cD Ty,ba⟩):p:=h
def ab4(h:p:=by
 go_simp;refine fD ?_;clear hK;refine aH ?_;refine gc ?_;go_wp2_with fail
 go_end0
 have vX:=bW.size;refine⟨⟨_,rfl⟩,Zk OA om oc,oS.mk' (ai (ai qD bW) (ak (am _) _)) (aq ba (aq bW (ak (am _) _))) bF jy jX iZ mr (iZ.elim (λh e=>jy (by rw[h,e])) (λh e=>by simp at h;omega)),?_⟩;have hL:=pQ.o;have sD:=pR.o;have Ae:=X6 sD;have Ds:W1.drew.heap.size=W1.heap.size:=rfl;rw[Ds]at Ae sD;refine nE (QY (World.ownsRow.kept (eI sD (ak (am w4) _)) bF ?_) sJ) (λj hj e=>by have:=Ae j hj;omega) _ _;cases hq:YC (Zk OA om oc)with
 |none=>exact .inl rfl
 |some j=>exact .inr (λe=>by have:=Ae j hq;have:=hL j e.symm;omega)):p:=h
def at0(h:p:=by
 refine h_ 11 λK hK=>?_;go_simp;refine(P6 _).m ?_;rintro e w3 ⟨g3,c3,rfl,uM,aM⟩;try go_simp
 refine hK _ _ ?_;clear hK K;refine aH ?_;refine h_ 12 λK hK=>?_;go_simp;refine(Xr _).m ?_;rintro e w4 ⟨g4,c4,rfl,C_,aV⟩;try go_simp
 refine hK _ _ ?_;clear hK K;refine aH ?_;refine h_ 13 λK hK=>?_;go_simp;refine hK _ _ ?_;clear hK K;refine aH ?_;have hS:=ax7 w4 _ _ _ _ (uM.later aV) C_;refine h_ 14 λK hK=>?_;go_simp;refine(Xs _ _ _ hS).m ?_;rintro e w5 ⟨g5,c5,rfl,C',bx⟩;try go_simp
 refine hK _ _ ?_;clear hK K;refine aH ?_;refine h_ 15 λK hK=>?_;go_simp;refine(HQ w5 _ (C'.congr ax3)).r λw6 cL=>?_;try go_simp
 refine hK _ _ ?_;clear hK K;refine aH ?_;iterate 2 refine kB 18 11 ?_
 refine yg ?_;have uL:=aq (aq (ak (aq (aq (aW aZ) aM) aV) _) bx) cL;have jl:=ai (gl HB (aq (ak (aq (aq (aW (am w2)) aM) aV) _) bx) bd) cL;refine P7 λc0 yc vK yd f0 f1 f2 f3=>?_;have qg:=blk_lt jl;have dP:=aj jl;clear jl aM aV bx cL hS uM C_ C' aZ HB HR HQ;go_wp2_with fail
 refine bodyPost_ret (v:= .tuple #[jZ 0 [] 0 0,ah 3]) (by simp[results,results311,go_sem,jZ,bs,c0,yc,vK,yd,qg]) rfl ?_;exact⟨rfl,by repeat' first|with_reducible exact uL|with_reducible refine cV ?_ Bt _|with_reducible refine ak ?_ _⟩):p:=h
def Rs(h:p:=by
 go_wp2_with first
  |(go_at_call 294;refine(zw _ ba).r λw2 au=>?_;rw[em.o];have ev:=ai lJ au;obtain⟨y0,y1,y2,y3,y4,y5,y6⟩:=gM ev;refine va λaX=>?_;clear au ev)
  |(go_at_call 176;refine(Gn _ _ _ _).r λw3 hw=>?_;obtain rfl:=hw.symm;first|rw[gT.o]|rw[rU.o]|rw[ul.o]|skip)
 go_ret;exact⟨cD Kt,aX⟩):p:=h
def Sg(h:p:=by
 refine DL ?_;intro W2 hw;have HW:=aj (aq HB hw);have q0:=kc hw q0;have m0:=kc hw m0;refine Nk λbd BY Ag=>?_;clear x0 x1 x2 x3 x4 x5;obtain⟨x0,x1,x2,x3,x4,x5⟩:=dy (ai HX hw);clear hw;go_region_held3 (λw'=>aa w' rb ro (X2 s0)/\aa w' nb no (ah n0)) (go_simp)
  (first
    |(go_at_call 299;refine(jp _ (aW HW)).r λw3 aM=>?_;have du:=aq (aW HW) aM;obtain⟨kE,pF⟩:=oQ aM))
 go_wp2_with fail
 go_ret;exact⟨rfl,du⟩):p:=h
def MT(h:p:=by
 go_simp;refine fD ?_;clear hK;refine aH ?_;refine gc ?_;go_wp2_with fail
 go_end0
 exact⟨⟨_,rfl⟩,oS.mk' (ai qD (ak (aW (am W1)) _)) (aq (aW ba) (ak (am _) _)) bF jy jX iZ mr (iZ.elim (λh e=>jy (by rw[h,e])) (λh e=>by simp at h;omega))⟩):p:=h
def JA(h:p:=by
 refine lq λhS=>?_;clear hK;refine aH ?_;refine ke 19 9 ?_;refine gc ?_;go_wp2_with fail
 go_meet;exact⟨HL _ (by first|exact kC|exact aW kC),by first|exact kC|exact aW kC⟩):p:=h
def R6(h:p:=by
 try rw[HN.o]at HR
 go_wp2_with first
  |(go_at_call 294;refine(zw _ ba).r λw2 au=>?_;rw[em.o];have ev:=ai lJ au;obtain⟨y0,y1,y2,y3,y4,y5,y6⟩:=gM ev;refine va λaX=>?_;clear au ev)
  |(go_at_call 176;refine(Gn _ _ _ _).r λw3 hw=>?_;obtain rfl:=hw.symm;first|rw[gT.o]|rw[rU.o]|rw[ul.o]|skip)
 all_goals
  go_ret;exact⟨cD (by first|exact HR.symm|(rw[HR.o];simp_all;done)|(rw[HR.o,Yf];simp_all<;>omega)),aX⟩):p:=h
def Gk(h:p:=by
 have HR:=aj (show r=XQ by rw[HO.o,Bool.eq_false_iff];intro h;simp only[XW,decide_eq_true_eq,aE]at h;omega);go_wp2_with fail
 go_ret;exact⟨by rw[HR.o];rfl,ba⟩):p:=h
def ba4(h:p:=by
 rw[Es.o];rintro e w3 ⟨kF,rfl,nj⟩;refine ce9 λdu BI bE qA=>?_;clear du BI;clear kF nj;go_simp;refine hK _ _ ?_;clear hK K;refine aH ?_;iterate 2 refine kB 11 24 ?_
 iterate 3 refine FC 11 24 ?_
 refine nX 10 34 ?_;refine yg ?_;have E1:=qA.o;rw[qm]at E1;obtain⟨⟨d0,d1,d2,d3,d4,d5,d6,d7,d8,d9⟩,fr⟩:=az5 E1;refine Qp λf0 f1 f2 f3 f4 f5=>?_;have f6:=fr 6;have f7:=fr 7;have f8:=fr 8;have f9:=fr 9;clear E1 fr;go_wp2_with fail
 refine bodyPost_ret (v:= .tuple #[Zr ((cG 0).cells aP aP),ah 3]) (by simp[results,results13,go_sem,qm,aP,d0,d1,d2,d3,d4,d5,d6,d7,d8,d9];try rfl) rfl ?_;refine⟨?_,?_⟩
 .have hb:=bE.o;repeat' first|with_reducible exact hb|with_reducible refine cV ?_ (ar _) _
 .rw[Nf HK.o,Es.o];rfl):p:=h
def Qj(h:p:=by
 go_wp2_with(first
  |(go_at_call 275;refine(jb _ (ak (ak (am w) _) _)).r λw1 aC=>?_;have bp:=aj (aq (ak (ak (am w) _) _) aC);obtain⟨br,bM⟩:=dE aC;have a_:w.heap.size+1<w1:=dQ aC Zy;clear aC)
  |(go_at_call 54;refine(HW _).z ?_)
  |fail)
 go_ret;exact⟨by simp,bp⟩):p:=h
def ay2(h:p:=by
 go_enter func53,ntmps53
 go_wp2_with(first
  |(go_at_call_of 143 (ah (m.sites.length:Nat));refine(em _).m ?_;rintro e w1 ⟨rfl,rfl⟩)
  |(go_at_call 143;refine(gT _).m ?_;rintro e w1 ⟨rfl,rfl⟩)
  |(go_at_call 144;refine(HR _ (ak (am w) _) HN).r λw1 aC=>?_;have bp:=aj (aq (ak (am w) _) aC);have jq:=aj (ai HN aC);have e3:aa w1 w 3 (Zk Ma m.machs.length mc):=ag jq rfl;have e4:aa w1 w 4 (Zk La m.links.length lc):=ag jq rfl;clear aC)
  |(go_at_call 148;refine(HM _ bp jq).r λw2 au=>?_;have aX:=aj (aq bp au);have mp:=aj (ai jq au);have e4:aa w2 w 4 (Zk La m.links.length lc):=ag mp rfl;clear au)
  |(go_at_call 151;refine(HL _ aX mp).r λw3 aM=>?_;have bE:=aj (aq aX aM);clear aM))
 go_ret;exact⟨by rw[HO.o];simp;(try have hq:=trivial);(try omega),ak (am w) _⟩):p:=h
def MQ(h:p:=by
 rintro e w5 ⟨rfl,Vo,bx⟩;try go_simp
 refine fD ?_;clear hK;refine aH ?_;refine gc ?_;go_wp2_with fail
 exact⟨⟨k+1,fp,by go_num,Vo.to Og,(lh.t (hS.mono ij)).t bx⟩,by have:=fp.o;simp[X8];omega⟩):p:=h
def FR(h:p:=by exact⟨rfl,by repeat' first|with_reducible exact am w|with_reducible refine cV ?_ Bt _|with_reducible refine cV ?_ (Y5 _) _|with_reducible refine ak ?_ _⟩):p:=h
def Sc(h:p:=by
 clear cS;go_wp2_with
  (go_at_call 66;refine AJ ?_;rintro e w2 ⟨rfl,au⟩;have co:=ai iI au;obtain⟨b0,b1,b2,b3,b4,b5,b6,b7,b8,b9,x',Kz,KA,KB⟩:=js co;have pn:=aj au;refine va λaX=>?_;clear au co)
 go_meet;exact⟨by first|rfl|simp[br,cM]|(simp only[Value.bool.injEq,Bool.or_eq_false_iff,decide_eq_false_iff_not];omega),pn⟩):p:=h
def Q4(h:p:=by
 have HR:=aj (show r=XQ by rw[HO.o,Em.o,wj (by rw[HN.o];exact ap) hF];rfl);clear hF;go_wp2_with fail
 go_quiet (fail)
 go_wp2_with fail
 go_ret;exact⟨by rw[HR.o];rfl,qj bq _⟩):p:=h
def cb8(h:p:=by
 have HR:=aj (by3 jr ap Om);go_upto_region 4 with(fail)
 refine cb9 λhS=>?_;iterate 7 refine da 25 12 ?_
 refine bt 7 λK hK=>?_;go_simp;refine rN ?_;rintro e w4 ⟨rfl,rfl⟩;rw[em.o];try go_simp
 refine hK _ _ (hS) λhS=>?_;clear hK;refine aH ?_;iterate 2 refine da 25 12 ?_
 iterate 14 refine ta 25 12 ?_
 refine ke 24 36 ?_;refine gc ?_;go_wp2_with fail
 go_ret;exact⟨by rw[HR.o];rfl,aq bq hS.2.2⟩):p:=h
def R_(h:p:=by
 go_wp2_with first
  |(go_at_call 175;refine rN ?_;rintro e w3 ⟨rfl,hw⟩;obtain rfl:=hw.symm;rw[bq1.o])
  |(go_at_call 176;refine(Gn _ _ _ _).r λw3 hw=>?_;obtain rfl:=hw.symm;first|rw[uz.o]|rw[uB.o]|rw[wJ.o])
 go_ret;exact⟨cD Kt,bq⟩):p:=h
def R9(h:p:=by
 refine gc ?_;go_wp2_with fail
 exact⟨⟨k+1,by omega,by go_num,λq hq=>by
  rcases Yt q k with h|h
  .exact gi q h
  .have:q=k:=by omega
   subst this;exact lf,aq HB hS⟩,by simp[X8];omega⟩):p:=h
def MM(h:p:=by
 try simp only[AV,wN]
 by_cases h1:k=5
 .subst h1;simp
 .by_cases h2:k=6
  .subst h2;simp
  .by_cases h3:k=13
   .subst h3;simp
   .simp[h1,h2,h3]):p:=h
def cb1(h:p:=by
 clear hk;rw[aQ.cells_def];go_enter func33,ntmps33
 go_wp2_with(first
  |(go_at_call 29;refine(HV _ (ak (am w) _)).r λw1 aC=>?_;have bP:=aq (ak (am w) _) aC;have a_:w.heap.size<w1:=dQ aC Zy;obtain⟨br,bM⟩:=dE aC)
  |(go_at_call 76;refine(HW _).r λw2 au=>?_;have aZ:=aq bP au;have bd:w.heap.size<w2:=dQ au a_;obtain⟨cM,cj⟩:=dE au;have pm:w.heap.size<w2+1:=Yw bd;have Ar:w.heap.size<w2+1+1:=Yw pm))
 go_ret;refine⟨mQ ?_,ak aZ _⟩;rw[HT.o,HA.o];rfl):p:=h
def RU(h:p:=by
 refine rY ?_;go_upto_region 9 with(fail)
 go_ret;exact⟨v',rfl,vZ h5 ba.size,aq ba bx⟩):p:=h
def bv9(h:p:=by have HV:=aj hv;have HU:=aj hu;have Cz:=aj hS;refine fg 10 λK hK=>?_;refine xA rfl (Zt 10) (Zt 12) rfl W1.heap.size _ _ [bs d.name,bs (XS (k:Nat)),bs eK,bs (eQ d.refs)] ([iJ,XS (n0:Nat),iL,XS (n1:Nat),iK,XS (n2:Nat)].map bs) rfl rfl HV HU.src Zy Cz.size ?_;intro v' w5 h5 g5;have bx:=bR.grown HV Cz g5;refine hK _ _ bx λhS=>?_;clear hK;change wpAnyH _ _ _ _ _ _ _ (Act.put _ (XL 13) _) _;simp only[Act.put,ug,ui,uh];refine cQ 11 2 ?_;exact RU):p:=h
def bv8(h:p:=by have HV:=aj hv;have HU:=aj hu;have Cz:=aj hS;refine fg 8 λK hK=>?_;refine xA rfl (Zt 8) (Zt 10) rfl W1.heap.size _ _ [bs d.name,bs eK,bs (eQ d.refs)] ([iJ,XS (n0:Nat),iL,XS (n1:Nat),iK,XS (n2:Nat)].map bs) rfl rfl HV HU.src Zy Cz.size ?_;intro v' w5 h5 g5;have bx:=bR.grown HV Cz g5;refine hK _ _ bx λhS=>?_;clear hK;change wpAnyH _ _ _ _ _ _ _ (Act.put _ (XL 11) _) _;simp only[Act.put,ug,ui,uh];refine cQ 9 2 ?_;exact RU):p:=h
def bv7(h:p:=by have HV:=aj hv;have HU:=aj hu;have Cz:=aj hS;refine fg 9 λK hK=>?_;refine xA rfl (Zt 9) (Zt 11) rfl W1.heap.size _ _ [bs d.name,bs eK,bs a] ([iJ,XS (n0:Nat),iL,XS (n1:Nat),iK,XS (n2:Nat)].map bs) rfl rfl HV HU.src Zy Cz.size ?_;intro v' w5 h5 g5;have bx:=bR.grown HV Cz g5;refine hK _ _ bx λhS=>?_;clear hK;change wpAnyH _ _ _ _ _ _ _ (Act.put _ (XL 12) _) _;simp only[Act.put,ug,ui,uh];refine cQ 10 2 ?_;exact RU):p:=h
def bh9(h:p:=by
 by_cases ap:k<len
 .obtain⟨fn,tmps,assign,body,hy,hR⟩:=hY _ (f k) wr EV (by rw[fe4];exact ap);have hp6:=i' ap
  gi_wp2
  refine hR.m ?_;rintro e W3 (⟨rfl,UB,pG⟩|⟨rfl,gv5⟩)
  .gi_wp2
   go_roundw
   case rel=>exact⟨k+1,by omega,by simp,by rw[bh8];exact UB,yE.t pG⟩
   case measure=>simp[X8];omega
  .gi_wp2
   refine bodyPost_ret (results_none rfl _ _ _) rfl ?_;exact⟨⟨_,rfl⟩,.inr ⟨_,⟨k+1,by omega,(bh8 _ _).symm⟩,gv5⟩⟩
 .obtain rfl:k=len:=by omega
  gi_wp2
  go_end0
  exact⟨⟨_,rfl⟩,.inl ⟨_,rfl,EV⟩⟩):p:=h
def Gw(h:p:=by
 have g:=decide_eq_true h;clear h
 as_aux_lemma=>
  go_wp2_with fail
  go_ret;exact⟨_,rfl,trivial,HB⟩):p:=h
def bx8(h:p:=by
 have a0:∀k∈[ll,eK,qN,iJ,iL,iK,qP,qO,dT,qK,qJ],k.length<=1000:=aD;have b1:=a9.1;have b2:∀(p:ay->Prop)x,x∈([]:List ay)->p x:=λ_ _ h=>by cases h
 constructor
 .unfold b_;split<;>(try split)<;>(try simp[pu])<;>omega
 .unfold b_;split<;>(try split)<;>(try simp only[pu,List.forall_mem_append,List.forall_mem_cons])<;>(repeat' apply XU)<;>first|exact a9.2|exact b2 _|exact a1|exact a2 _|exact a3 _|exact a5|exact a6|exact a7|exact a8|exact a0 _ aD):p:=h
def bn3(h:p:=by
 go_wp2_with first
  |(refine(GH _ D9).r λw4 aV=>?_;refine cf0 λfe o_ tB qG qH tC ya Hr vE Bp=>?_;clear aV fe o_ zK wQ zL zM zN zO EI EJ TR TS TT TU TV TW)
 all_goals go_ret
 all_goals exact⟨A8 (by(try simp[]);(try omega)),vE⟩):p:=h
def Rp(h:p:=by
 go_wp2_with first
  |(go_at_call 289;refine(Q6 _ _).r λw4 hw=>?_;obtain rfl:=hw.symm;rw[ul.o])
 go_ret;exact⟨by rw[HR.o];rfl,aq bq aX⟩):p:=h
def JH(h:p:=by
 refine gc ?_;go_wp2_with fail
 go_ret;exact⟨cD (by rw[HO.o,HR.o];simp),aq bq hS⟩):p:=h
def bc1(h:p:=by
 go_enter func279,ntmps279
 go_wp2_with(first
  |(go_at_call 275;refine(jb _ (ak (ak (am w) _) _)).r λw1 aC=>?_;have bp:=aj (aq (ak (ak (am w) _) _) aC);obtain⟨br,bM⟩:=dE aC;have a_:w.heap.size+1<w1:=dQ aC Zy;clear aC)
  |(go_at_call 54;refine(HW _).z ?_)
  |(go_at_call 63;refine(HC _ _ _ (aS.lits _ [2,3,4] (by simp[aN]) Zy _)).z ?_)
  |fail)
 go_ret;exact⟨by simp,bp⟩):p:=h
def bw7(h:p:=by
 have HR:=aj (show ∀j,j<k+1->F j=XR from λq hq=>by
  rcases Yt q k with h|h
  .exact gi q h
  .have:q=k:=by omega
   subst this;rw[lf.o];rfl)
 go_wp2_with(first
  |(go_at_call 296;refine(zu _).r λw1 hw=>?_;obtain rfl:=hw.symm)
  |(go_at_call 298;refine(Ee _).r λw1 hw=>?_;obtain rfl:=hw.symm))
 exact⟨⟨k+1,by omega,by go_num,HR,by trivial⟩,by simp[X8];omega⟩):p:=h
def ce2(h:p:=by
 match xs,bG with
 |[y0,y1,y2],_=>have g0:=hg 0 _ rfl;simp[cC.1,cC.2.2.1,cC.2.2.2.1,cC.2.2.2.2]at g0;obtain⟨a0,rfl,_⟩:=Ro g0;have g1:=hg 1 _ rfl;simp[cC.1,cC.2.2.1,cC.2.2.2.1,cC.2.2.2.2]at g1;obtain⟨a1,rfl,i1⟩:=kA XZ g1;have g2:=hg 2 _ rfl;simp[cC.1,cC.2.2.1,cC.2.2.2.1,cC.2.2.2.2]at g2;obtain⟨a2,rfl,i2⟩:=kA XZ g2;exact⟨⟨a0,a1,a2⟩,rfl,i1,i2⟩):p:=h
def Qq(h:p:=by simp only[List.setIfInBounds_toArray,List.set_cons_succ,List.set_cons_zero];rfl):p:=h
def ak0(h:p:=by
 go_wp2_with fail
 go_region
 all_goals
  go_end0
  refine⟨⟨_,rfl⟩,?_,?_⟩
  .repeat' first|with_reducible refine MC ?_ _ _|with_reducible refine MB ?_ |with_reducible exact MA _ _
  .have h:=HP.o;clear HP;unfold fX at h⊢
   rw[qm]at h;try rw[MD]
   refine(ku (ku (ku (h) _ _) _ _) _ _).t ?_;exact Qq):p:=h
def bv3(h:p:=by
 refine rY ?_;go_upto_region 9 with(fail)
 go_ret;exact⟨_,rfl,bR.lits _ (l:=[_,_,_,_,_]) jz.size Zy Zy,ak jz _⟩):p:=h
def bv4(h:p:=by
 rintro e w2 ⟨rfl,au⟩;try go_simp
 refine sY λhS=>?_;clear hK;refine aH ?_;have jz:=aj (aq ba hS);refine fg 8 λK hK=>?_;go_simp;refine tV λhS=>?_;clear hK;refine aH ?_;refine cQ 9 2 ?_;exact bv3):p:=h
def cc7(h:p:=by
 have HR:=aj (show aE cl 0 8=XQ by simp[aE];omega);go_wp2_with
  (go_at_call 66;refine AJ ?_;rintro e w2 ⟨rfl,au⟩;have co:=ai iI au;obtain⟨b0,b1,b2,b3,b4,b5,b6,b7,b8,b9,x',Kz,KA,KB⟩:=js co;have pn:=aj au;refine va λaX=>?_;clear au co)
 go_ret;exact⟨cD (by rw[HO.o,HR.o];simp),aX⟩):p:=h
def aj9(h:p:=by
 go_wp2_with fail
 go_region
 all_goals
  go_end0
  refine⟨⟨_,rfl⟩,?_,?_⟩
  .repeat' first|with_reducible refine MC ?_ _ _|with_reducible refine MB ?_ |with_reducible exact MA _ _
  .have h:=HP.o;clear HP;unfold fX at h⊢
   rw[qm]at h;try rw[MD]
   refine(ku (ku (h) _ _) _ _).t ?_;exact Qq):p:=h
def No(h:p:=by
 go_wp2_with fail
 exact⟨⟨_,k+1,fp,by go_num,rfl,bB⟩,by have:=fp.o;simp[X8];omega⟩):p:=h
def QU(h:p:=by have h:=sU (P:=X3) underlying225 XZ cJ pR (d.kind:Int) XQ (zeroValue4 _);rw[bs7.o]at h;exact h):p:=h
def P_(h:p:=by exact⟨by repeat' first|with_reducible exact du|with_reducible refine cV ?_ Bt _|with_reducible refine ak ?_ _,rfl⟩):p:=h
def Np(h:p:=by
 refine gc ?_;go_wp2_with fail
 exact⟨⟨k+1,by omega,by go_num,aq HB hS⟩,by simp[X8];omega⟩):p:=h
def ai3(h:p:=by
 cases hs:bX s with
 |some u=>
  have e1:eU [s]=XL [u]:=by simp[eU,hs]
  rw[e1]at hp;exact⟨hp.1,hg,_,hp.2,by simp[sM],λu' h=>by injection h with h;subst h;rfl⟩
 |none=>
  have e1:eU [s]=none:=by simp[eU,hs]
  rw[e1]at hp;obtain⟨he,cs',h1,h2⟩:=hp;exact⟨he,hg,cs',h1,h2,λu' h=>by cases h⟩):p:=h
def bo7(h:p:=by
 intro wq jF;try dsimp only at jF
 have h:=sU (P:=X3) underlying143 YP FT jF.2.2.2.1 s XR (zeroValue227 _);rw[zu.o]at h;have lB:(Yu 143 (.map (XL Mb)) (X2 (bs s)) XR).run X3 wq= .ok (.tuple #[Zr #[ah (xa:Nat),ah (xn:Nat)],Zp XR]) wq:=h;clear h;go_simp;try with_reducible rfl):p:=h
def ca8(h:p:=by
 intro A' n' c' w4 sw aV;refine fD ?_;clear hK;refine aH ?_;refine eA 10 λK hK=>?_;go_simp;refine fD ?_;clear hK;refine aH ?_;refine gc ?_;go_wp2_with fail
 exact⟨⟨k+1,fp,by go_num,sw.to (by rw[HT.o]),(fC.t (hS.mono eh)).t aV⟩,by have:=fp.o;simp[X8];omega⟩):p:=h
def ad4(h:p:=by
 have bh:=eS ap;have HR:=aj (show res=XR from by rw[jr.o];exact AU λj hj=>gi j Zv);go_wp2_with fail
 go_ret;exact⟨by rw[HR.o];rfl,bq⟩):p:=h
def bz4(h:p:=by
 clear hB hx;obtain⟨x0,x1,x2,x3,x4,x5⟩:=dy HX.o;go_quiet (fail)
 go_wp2_with fail
 go_ret;exact⟨rfl,qj HB _⟩):p:=h
def ce0(h:p:=by
 obtain⟨rA,rn,rc,rfl⟩:=hr;obtain⟨nA,nn,nc,rfl⟩:=hn;unfold iS;go_enter func181,ntmps181;go_upto_region 1 with(fail)
 refine df ?_;intro W1 ⟨hB,hx⟩;have HB:=aj hB;have HX:=aj hx;exact bz4):p:=h
def al0(h:p:=by
 injection he with e1 e2 e3;subst e1;have hl:l.length=n:=by simpa using e2.symm
 obtain⟨b,o,hA,hb,hc⟩:=h3 (λe=>by have:l=[]:=by simpa using e
                                  subst this;simp at hl;omega)
 exact⟨b,o,hA,hb,λj hj=>hc j _ (by rw[X5];simp[cY,aK,XT (show j<l.length by omega)])⟩):p:=h
def bi5(h:p:=by go_ret;have h1:=Go.Lib.ownsRow_putRow (q:=q) (ys:=ss) HO HL (ar _);rw[Ye (by rw[HL.o];exact ar _)]at h1;exact⟨_,rfl,eI h1 (bi3 _ _),(Go.Lib.below_putRow HB ir).t ((bi3 _ _).mono (by have:=HB.size;simp[Go.Sort.putRow,Go.Sort.mapBlock,Go.Sort.ahead];omega))⟩):p:=h
def ZZ(h:p:=by
 have hI:=eS ap;go_wp2_with fail
 go_ret;exact⟨_,rfl,vZ (by rw[Ye Hk]at HO;exact HO) ba.size,aq ba bB⟩):p:=h
def ab6(h:p:=by rintro e w' ⟨h1,o,h2,h3⟩;exact⟨h1,lP.addI bk hB hO qf hX h2 (by rw[g3];exact ft0 (QY h3 hB) (by rw[(Jp _).length_eq,XY])) g2 g1⟩):p:=h
def ca5(h:p:=by
 intro A' n' c' w4 sw aV;refine yS λK hK=>?_;go_simp;refine hK _ _ ?_;clear hK;refine aH ?_;refine _root_.Go.wpList_nil ?_;go_wp2_with fail
 exact⟨⟨k+1,fp,by go_num,sw.to HT.symm,fC.t (((ak (am _) _).mono eh).t aV)⟩,by have:=fp.o;simp[X8];omega⟩):p:=h
def Q7(h:p:=by
 refine gc ?_;go_wp2_with fail
 exact⟨⟨j+1,by omega,by go_num,CM,aW jA⟩,by simp[X8];omega⟩):p:=h
def bg2(h:p:=by
 rintro e w6 ⟨rfl,gz3,cL⟩;try go_simp
 refine fD ?_;clear hK;refine aH ?_;refine gc ?_;go_wp2_with fail
 exact⟨⟨k+1,fp,by go_num,gz3.to (by rw[HT.o,HD kn rfl,pp.o]),(lh.t ((aq lG hS).mono ij)).t cL⟩,by have:=fp.o;simp[X8];omega⟩):p:=h
def af3(h:p:=by rw[List.not_all_eq_any_not,List.any_map];congr 1;funext x;have:XN ((x:Int)<=1048576)=XN (x<=1048576):=Oi;simp[this]):p:=h
def bv6(h:p:=by
 have jz:=aj (aq ba hS);refine fg 8 λK hK=>?_;go_simp;refine tV λhS=>?_;clear hK;refine aH ?_;refine cQ 9 2 ?_;refine rY ?_;go_upto_region 9 with(fail)
 go_ret;exact⟨_,rfl,bR.lits _ (l:=[_,_,_]) jz.size Zy Zy,ak jz _⟩):p:=h
def bi2(h:p:=by
 rintro D ys W hD rfl ⟨⟨v,hv,eJ,_⟩,hB⟩ hK;have hc:=hv.cell
 gi_wp2
 refine⟨by simp,.inl ⟨_,_,rfl,run_takeDeferred hK,?_⟩⟩;exact⟨_,results_tmp rfl _ _ _,v,rfl,ownsRow_putObj eJ _ hK rfl,hB.t (belowK_b (w:=w) (ar _) W D _ _ (by simp at hD;omega) hK rfl rfl)⟩):p:=h
def PW(h:p:=by
 rcases Yt b w with h|h
 .exact h
 .rw[Array.getElem?_eq_none h]at jm;cases jm):p:=h
def ai2(h:p:=by
 go_wp2_with fail
 go_ret;have pf:k=n:=Zv;have hl:eU l=XL vs:=by have:=HV.o;rwa [Ye Of]at this
 refine⟨ti,?_⟩;rw[hl];refine⟨rfl,?_⟩;have:=iA.o
 rwa [Ye (by rw[GX.o];omega)]at this):p:=h
def bw1(h:p:=by
 have HR:=aj (Cu jr ap (by rw[HF.o];rfl));go_wp2_with first
  |(go_at_call 175;refine rN ?_;rintro e w4 ⟨rfl,hw⟩;obtain rfl:=hw.symm;first|rw[em.o]|rw[gT.o])
 go_ret;exact⟨by rw[HR.o];rfl,aq bq aX⟩):p:=h
def bm1(h:p:=by
 go_wp2_with fail
 go_quiet (fail)
 go_wp2_with fail
 exact⟨⟨k+1,by omega,by go_num,λq hq=>by
  rcases Yt q k with h|h
  .exact gi q h
  .have:q=k:=by omega
   subst this;exact lf,qj HB _⟩,by simp[X8];omega⟩):p:=h
def FW(h:p:=by
 go_wp2_with fail
 go_ret;exact⟨⟨_,rfl⟩,rfl⟩):p:=h
def ak9(h:p:=by subst hw;refine⟨_,he,⟨_,_,by rw[XY,bG],by simp[bG],by simp[Yd];omega,λ_=>⟨w.heap.size,0,rfl,by simp,λj u hj=>?_⟩⟩,bG,(YI _ _).alloc (ar _) _⟩;rw[Yj];simpa using hj):p:=h
def bx7(h:p:=by
 unfold ua;by_cases h2:d.by_=2
 .rw[if_pos h2];decide
 by_cases h3:d.by_=3
 .rw[if_neg h2,if_pos h3];decide
 by_cases h4:d.by_=4
 .rw[if_neg h2,if_neg h3,if_pos h4];decide
 rw[if_neg h2,if_neg h3,if_neg h4];exact bU _):p:=h
def bw3(h:p:=by
 go_wp2_with fail
 exact⟨⟨k+1,by omega,by go_num,λq hq=>by
  rcases Yt q k with h|h
  .exact gi q h
  .have:q=k:=by omega
   subst this;exact lf,aq HB (aq aX jA)⟩,by simp[X8];omega⟩):p:=h
def Z6(h:p:=by
 have iq:=aq HQ (aq (aW (ak (am wr) _)) gC);go_wp2_with fail
 go_ret;exact⟨by rw[wj ap HP.o];try rfl,iq⟩):p:=h
def bb2(h:p:=by
 subst e';rcases h.2 with⟨rfl,_⟩|⟨g,cap,cur,rfl,_,hg,_⟩
 .simp[YC]at hk
 .have:g=b:=by simpa[Value.ownBlock]using hk
  subst this;rw[hg]at hb;injection hb with hb;injection hb with _ hb _;exact ht hb.symm):p:=h
def Dv(h:p:=by
 go_wp2_with fail
 go_ret;exact⟨rfl,rfl⟩):p:=h
def aj3(h:p:=by
 constructor
 .rintro⟨k,h1,h2⟩;exact⟨k,by omega,h2⟩
 .rintro⟨k,h1,h2,h3⟩;refine⟨k,?_,h2,h3⟩;rcases Nat.lt_or_ge pos k with h|h
  .omega
  .have:k=pos:=by omega
   subst this;rw[ho]at h3;cases h3):p:=h
def Q'(h:p:=by
 rw[e];go_enter func196,ntmps196;go_wp2_with fail
 go_ret;exact⟨rfl,am w⟩):p:=h
def QQ(h:p:=by
 go_wp2_with fail
 go_ret;refine⟨A8 ?_,am w⟩;rw[Yf];simp;try omega):p:=h
def bf9(h:p:=by
 simp only[az]at nJ;clear hx i' fe dG;go_wp2_with(go_at_call 48;refine nJ.m ?_;rintro e w4 ⟨rfl,sw,aV⟩)
 exact⟨⟨k+1,by omega,by go_num,sw.to HT.symm,fC.t aV⟩,by simp[X8];omega⟩):p:=h
def bg4(h:p:=by
 rintro e w5 ⟨rfl,Vo,bx⟩;try go_simp
 refine fD ?_;clear hK;refine aH ?_;refine gc ?_;go_wp2_with fail
 go_meet;exact⟨Vo.to (by rw[<-wA.o]),(lh.t (hS.mono B6)).t bx⟩):p:=h
def aj1(h:p:=by
 split
 .split
  .simp;omega
  .simp
 .split
  .split
   .rename_i hc;simp at hc⊢;omega
   .simp
  .split
   .split
    .rename_i hc;simp at hc⊢;omega
    .simp
   .simp):p:=h
def bi0(h:p:=by
 rintro e W' ⟨he,⟨ys,rfl,hj⟩|⟨pre,⟨k,hk,rfl⟩,hj⟩⟩
 .exact⟨he,.inl ⟨_,fe5 zs _,hj⟩⟩
 .exact⟨he,.inr ⟨_,by rw[fe6 zs _ hk];exact List.take_prefix _ _,hj⟩⟩):p:=h
def cb4(h:p:=by
 clear h0 Iy hx bo;go_wp2_with(go_at_call 75;refine(Se _ EU _).r λw1 aC=>?_)
 exact⟨⟨k+1,by omega,by go_num,by rw[HS.o],aq iA aC⟩,by simp[X8];omega⟩):p:=h
def bw2(h:p:=by
 rw[List.any_eq_false];intro y hy;obtain⟨q,hq⟩:=List.mem_iff_getElem?.1 hy;rw[List.getElem?_take]at hq;split at hq
 .rename_i V1;rw[G3 q y Zv hq];exact Bool.false_ne_true
 .cases hq):p:=h
def PC(h:p:=by exact⟨λh=>absurd h aD,λ⟨k,h1,h2,_⟩=>by omega⟩):p:=h
def ag9(h:p:=by
 have h1:=dx e he hb;have h0:=(mem_ready.1 hr).1;rw[heq]at h1;rcases Yt i listed.size with h'|h'
 .simp[h']at h0 h1;rw[h0]at h1;cases h1
 .simp[Array.getElem?_eq_none h']at h1):p:=h
def at2(h:p:=by have:=Lib.run_convert_string_bytes (P:=X3) W 9 51 5 (s.extract 0 n) YP underlying51 underlying5;rw[this];rw[Zj,Nat.min_eq_left fl,Nat.sub_zero]):p:=h
def ag8(h:p:=by
 refine⟨λh=>(by rw[h]at hr;cases hr),λj hj=>?_⟩;by_cases rd:j=i
 .subst rd;exact hy.wpOp hi hS ⟨λ_=>hS,H⟩
 .have:=ready_mono hj rd;rw[H.1]at this;cases this):p:=h
def bz1(h:p:=by
 go_wp2_with fail
 exact⟨⟨j+1,acc,rows,av,by omega,by go_num,rV.t (by rw[zp.o];exact go6 HX),gw2,GV,wH,uv,xW⟩,by simp[X8];omega⟩):p:=h
def Rt(h:p:=by simp only[dw,h];rw[Yf];simp[and_assoc];try grind):p:=h
def M7(h:p:=by
 go_wp2_with fail
 go_meet;exact⟨by rw[HZ.o],rfl⟩):p:=h
def at1(h:p:=by
 have fA:k<t.length:=by rw[HL.o];exact hk
 have:=Bf _ (List.getElem_mem fA);rw[X9,XT fA];unfold cy at this;simpa using this):p:=h
def af4(h:p:=by
 go_wp2_with fail
 all_goals go_ret
 all_goals exact⟨A8 (by(try simp[]);(try omega)),D9⟩):p:=h
def bn8(h:p:=by refine⟨⟨k+1,t,by omega,by go_num,?_,Eh,uk,tr,j'⟩,by simp[X8];omega⟩;rw[zq Hc (by rw[nK.o];rfl),if_pos (of_decide_eq_true nk)]):p:=h
def am2(h:p:=by refine⟨⟨_,l.length,by simp,by simp,by simp only[Yd];omega,λ_=>⟨W.heap.size,0,rfl,by simp,λj u hj=>?_⟩⟩,hl⟩;rw[Yj];simpa using hj):p:=h
def WX(h:p:=by
 rcases dO with dO|dO<;>
 .simp[Y7,dO,hm,hx,hv,fB,Result.andThen];exact h4):p:=h
def ca2(h:p:=by rw[zz.o];exact qi ((show W5.ownsRow w 3 1 _ 1 [X1 .i64 ((N.toNat:Nat):Int)]from by rw[Int.toNat_of_nonneg n0];exact NV)) uC aD hk):p:=h
def zc(h:p:=by go_ret;exact⟨rfl,aC⟩):p:=h
def Z7(h:p:=by
 go_wp2_with fail
 go_ret;exact⟨by rw[AU (λj hj=>HA j Zv)];rfl,hB⟩):p:=h
def P8(h:p:=by
 have:=Mj (s.extract n s.size) F gW W uY h
 rwa [hq]at this):p:=h
def ag2(h:p:=by
 rcases h.2 with⟨oD,_⟩|⟨g',cap',_,oD,_,_,h1,h2,_⟩
 .rw[hv]at oD;cases oD
 .rw[hv]at oD;injection oD with _ _ h3;subst h3;exact⟨h1,h2⟩):p:=h
def bx5(h:p:=by
 unfold im;rw[X9];cases e:d.refs[i]? with
 |none=>exact bU _
 |some x=>have:=hr x (eE e);show x.length<=_;omega):p:=h
def cb2(h:p:=by obtain⟨kl,Io⟩:∃kl,x.key=bs kl:=⟨_,(nY _).symm⟩;rw[HT.o,HA.o,HO.o,Io,ie];simp only[fU,IQ];simp[YJ]):p:=h
def Mh(h:p:=by simp[ch,nU,show(0:Int)<i by omega]):p:=h
def bb9(h:p:=by obtain⟨b,o,cs,hA,hb,_,hR,hc⟩:=h.sk.at_ hx;unfold R1 at hR;subst hR;have:=hc 0 _ rfl;rw[Nat.mul_one,X7]at this;exact⟨b,o,hA,hb,this⟩):p:=h
def Xb(h:p:=by go_ret;exact⟨_,rfl,vZ hu bN,aq (ak (ak (am w) _) _) aC⟩):p:=h
def ak1(h:p:=by unfold Zm;simp[Y7,ho,resolve,invoke,builtin,hs,hx,fB,Result.andThen];exact h v w (by rw[Zd];exact bD) (Zl w _)):p:=h
def bb0(h:p:=by have h:=sU (P:=X3) underlying206 XZ cJ (hM.later (ak (am w2) o)) x.kind XR (zeroValue204 _);rw[HF.o]at h;exact h):p:=h
def at5(h:p:=by rw[wI.o];exact⟨by repeat' first|with_reducible exact uL|with_reducible refine cV ?_ Bt _|with_reducible refine ak ?_ _,rfl⟩):p:=h
def Mr(h:p:=by
 have:=Mj s F cy W hz h
 rwa [hn]at this):p:=h
def ar5(h:p:=by
 simp only[Ys,Yq,or_false]at hw;rcases hw with rfl|rfl|rfl
 .exact lit _ aD
 .exact gA
 .exact MG _):p:=h
def WI(h:p:=by rw[Array.getD_eq_getD_getElem?,Array.getElem?_setIfInBounds];simp;split<;>simp):p:=h
def Mk(h:p:=by go_ret;exact⟨rfl,aq (ak (am w) _) aC⟩):p:=h
def WZ(h:p:=by unfold Zm;simp[Y7,dO,hm,hx,fB,Result.andThen];exact iV _ _ hK):p:=h
def ab8(h:p:=by
 refine gc ?_;go_wp2_with fail
 go_ret;exact⟨rfl,aq xP (aW iu)⟩):p:=h
def ax6(h:p:=by exact⟨by repeat' first|with_reducible exact ES|with_reducible refine cV ?_ Bt _|with_reducible refine ak ?_ _,rfl⟩):p:=h
def bd9(h:p:=by
 simp only[Ys,Yq,or_false]at hw;rcases hw with rfl|rfl|rfl
 .exact lit _ aD
 .exact gA
 .exact it _):p:=h
def ah0(h:p:=by rw[XW,XW]at hk;obtain⟨h1,h2,h3,hd⟩:=Jf hk.1 hi;exact WK _ hi hd hk.2.1 h1 h2 h3 hk.2.2 hQ hy hS h):p:=h
def ah3(h:p:=by rw[XW,XW]at hk;obtain⟨h1,h2,h3,hd⟩:=Jf hk.1 hi;exact ds5 _ hi hd hk.2.1 h1 h2 h3 hk.2.2 hQ hy hS h):p:=h
def R7(h:p:=by simp only[dw,qy,h];rw[Yf];simp[and_assoc];try grind):p:=h
def am8(h:p:=by rw[Y1 (ti.block bu oq (by intro e;injection e with e;exact bp1 e))];exact HU k (by rw[GX.o];exact ap)):p:=h
def ba9(h:p:=by have h:=sU (P:=X3) underlying206 XZ cJ hM x.kind XR (zeroValue204 _);rw[HF.o]at h;exact h):p:=h
def ai5(h:p:=by
 rcases Yt w wr with h|h
 .exact h
 .have:=iA.o;rw[Array.getElem?_eq_none h]at this;cases this):p:=h
def af6(h:p:=by exact nomatch mP.symm.t (Ef Hc (by rw[nK.o];rfl))):p:=h
def ag7(h:p:=by have:=List.all_eq_true.1 h j (List.mem_range.2 hj);have hd:XN (j<N)=false:=decide_eq_false Zv;simpa[hd]using this):p:=h
def ar8(h:p:=by refine⟨?_,IR hv,aN.zero,by simp[aK],by show aN _;exact⟨by simp,by simp⟩⟩;simp[ci2,e1,h3,oD,nY]):p:=h
def av8(h:p:=by exact sR (QE hT _ (λi=> .inl de) x.on 0 (.inr λi=>by rfl) h3) (by simpa[kJ]using h6) Zy):p:=h
def RC(h:p:=by rw[HT.o,HA.o,fU,IQ];try rfl):p:=h
def cd2(h:p:=by
 clear h0 hx bo hb;go_wp2_with fail
 exact⟨⟨k+1,by omega,by go_num,by rw[HT.o],iA⟩,by simp[X8];omega⟩):p:=h
def P3(h:p:=by
 go_wp2_with fail
 go_ret;exact⟨by rw[aw2 (λj hj=>HA j Zv)];rfl,hB⟩):p:=h
def Xk(h:p:=by
 go_wp2_with fail
 go_loopw [8] (λi wr=>∃k:Nat,k<=n/\i=ah k/\(∀j,j<k->P j=XQ)/\Below w w wr) (λi _=>n - (X8 i).toNat)
 case atStart=>exact⟨0,bU _,rfl,by omega,am w⟩
 case round=>
  obtain⟨k,hk,rfl,dx,hB⟩:=hrel;have HA:=aj dx;clear dx;by_cases ap:k<n
  .obtain⟨eC,bh⟩:=dt ap;obtain⟨x,hx⟩:=iT HL ap;obtain⟨b,o,cs,rfl,fL,ep,hr,bo⟩:=(H.to hR hB (ar _) hB.size).at_ hx;have BM:=HG k x cs wr hx hB hr ep;obtain⟨u0,u1,u2,rfl⟩:=ek5 ep;refine DF λh0 h1 h2=>?_;simp only[X7]at h0;exact QI
  .exact P3):p:=h
def Xi(h:p:=by
 go_wp2_with fail
 go_loopw [8] (λi wr=>∃k:Nat,k<=n/\i=ah k/\(∀j,j<k->P j=XQ)/\Below w w wr) (λi _=>n - (X8 i).toNat)
 case atStart=>exact⟨0,bU _,rfl,by omega,am w⟩
 case round=>
  obtain⟨k,hk,rfl,dx,hB⟩:=hrel;have HA:=aj dx;clear dx;by_cases ap:k<n
  .obtain⟨eC,bh⟩:=dt ap;obtain⟨x,hx⟩:=iT HL ap;obtain⟨b,o,cs,rfl,fL,ep,hr,bo⟩:=(H.to hR hB (ar _) hB.size).at_ hx;have BM:=HG k x cs wr hx hB hr ep;obtain⟨u0,rfl⟩:=ek6 ep;have h0:=bo 0 _ rfl;simp only[Nat.mul_one,X7]at h0;exact QI
  .exact P3):p:=h
def aw5(h:p:=by
 go_wp2_with fail
 go_loopw [8] (λi wr=>∃k:Nat,k<=n/\i=ah k/\(∀j,j<k->P j=XQ)/\Below w w wr) (λi _=>n - (X8 i).toNat)
 case atStart=>exact⟨0,bU _,rfl,by omega,am w⟩
 case round=>
  obtain⟨k,hk,rfl,dx,hB⟩:=hrel;have HA:=aj dx;clear dx;by_cases ap:k<n
  .obtain⟨eC,bh⟩:=dt ap;obtain⟨x,hx⟩:=iT HL ap;obtain⟨b,o,cs,rfl,fL,ep,hr,bo⟩:=(H.to hR hB (ar _) hB.size).at_ hx;have BM:=HG k x cs wr hx hB hr ep;obtain⟨u0,u1,u2,u3,u4,u5,u6,rfl⟩:=ek7 ep;refine DF λh0 h1 h2=>?_;have h3:=bo 3 _ rfl;have h4:=bo 4 _ rfl;have h5:=bo 5 _ rfl;have h6:=bo 6 _ rfl;simp only[X7]at h0;exact QI
  .exact P3):p:=h
def au3(h:p:=by
 simp only[az];go_enter func192,ntmps192;go_wp2_with(go_at_call 82;refine(HN _ (HP.later (ak (am w) _))).r λw1 aC=>?_;have pE:=ai (ai H1 (ak (am w) _)) aC;refine FK λp1 yG=>?_;have D8:=aj (ai (cR w _) aC);have bp:=aj (aq (ak (am w) _) aC);clear pE aC)
 exact au2):p:=h
def aj7(h:p:=by
 go_wp2_with fail
 all_goals
  go_end0
  refine⟨⟨_,rfl⟩,?_,?_⟩
  .repeat' first|with_reducible refine MC ?_ _ _|with_reducible refine MB ?_ |with_reducible exact MA _ _
  .have h:=HP.o;clear HP;unfold fX at h⊢
   rw[qm]at h;try rw[MD]
   refine(ku (h) _ _).t ?_;exact Qq):p:=h
def cc8(h:p:=by
 refine ke 29 78 ?_;refine ke 30 79 ?_;refine ke 31 80 ?_;refine bt 28 λK hK=>?_;go_simp;refine(JO _ (aq bq hS)).r λw4 aV=>?_;try go_simp
 refine Ct λhS=>?_;clear hK;refine aH ?_;iterate 2 refine da 34 49 ?_
 exact JH):p:=h
def cc9(h:p:=by
 refine ke 29 78 ?_;refine ke 30 79 ?_;refine ke 31 80 ?_;refine bt 28 λK hK=>?_;go_simp;refine(JO _ (aq bq hS)).r λw4 aV=>?_;try go_simp
 refine Ct λhS=>?_;clear hK;refine aH ?_;iterate 2 refine da 34 49 ?_
 exact R9):p:=h
def bm0(h:p:=by
 have hF:F k=false:=by rw[HF.o];unfold gG;rw[pT.o,q4];simp
 have q5:(z.site==m.dark)=true:=by rw[q4];simp
 clear q1 q2 q4 k0;exact Q4):p:=h
def bm2(h:p:=by
 have HR:=aj (show r=false by rw[wF.o];have:aE cl 0 8=false:=by simp[aE];omega
                              rw[this];rfl)
 exact ac6):p:=h
end Go.Proofs.YtihhpjmclebfpaaGreatDoor
