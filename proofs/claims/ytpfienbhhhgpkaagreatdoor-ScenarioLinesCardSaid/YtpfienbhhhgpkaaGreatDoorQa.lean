/- A part of the proof. Here: scripts that stand often. -/
import Derived.Test.YtpfienbhhhgpkaaGreatDoorQz
import Derived.WalkSpells
import Derived.Deep.AppendLies
import Derived.Lib.ItoaLen
import Derived.Lib.AppendIntMem
import Derived.Deep.RegionHeld3
import Derived.Laws.AppendOwnNone
import Derived.Laws.EntriesVeiled
import Derived.Deep.DeepCutAuto
import Derived.RangeFuncBox
import Derived.Lib.OwnBridge
import Derived.Laws.Cover1
import Derived.ProofKit
import Derived.OpenShut
import Derived.Deep.Slices
import Derived.LaidMore
import Derived.Lay
import Derived.Stop.LaidErr
import Derived.Deep.DeepWitnessRowRef
import Derived.SevenTiedAt
set_option linter.defProp false
set_option linter.unusedVariables false
set_option linter.unusedSimpArgs false
set_option maxRecDepth 100000
set_option maxHeartbeats 32000000
open Option renaming some->WX,none->WY
open Decidable renaming decide->WZ
open Go renaming World->Xa,Value->Xb,Calls->Xq,TypeId->Xv,maxLen->XF,execOp->Yr,Addr->Yy
open Bool renaming false->Xc,true->Xe
open Go.RowKit renaming Hid->Xf
open Go.Lib renaming itoa->Xg,joinTail->Yd
open And renaming intro->Xi
open Go.Proofs.Tryz renaming prog->Xn,underlying193->X7,underlying238->Yl
open Go.Proofs renaming intOf->Xw
open Go.Value renaming int->Xo,string->Xp,ownBlock->X2,oneCell'->X4,slice->YG,bool->YH,agg->YJ,pointer->YK
open Nat renaming lt_succ_of_lt->XT
open Go.Instr renaming lookup->XB
open Go.World renaming setCell->Ye,cell?->Yx
open Go.IntKind renaming i64->XO
open Go.Ending renaming returned->Ya
open ByteArray renaming size_append->Yo
open Go.Oper renaming wp->YE
open Go.Obj renaming cells->YI
open Go.Operand renaming tmp->YL,const->YM
namespace Go.RowKit
theorem Hid.o {p:Prop} (h:Hid p):p:=h
end Go.RowKit
namespace Go
def Calls.m:=@Calls.mono
def CallsIn.m:=@CallsIn.mono
def Rows.m:=@Rows.mono
def RoundIn.m:=@RoundIn.mono
end Go
namespace Go.Proofs.YtpfienbhhhgpkaaGreatDoor
open Go Go.RowKit Go.Proofs.Tryz
def X0:=@Go.Proofs.Tryz.underlying9
def X1:=@Go.heap_alloc_new
def X3:=@List.getElem?_append_left
def X5:=@List.map_map
def X6:=@Go.RowKit.Below.refl
def X8:=@List.mem_of_mem_drop
def X9:=@List.mem_append
def XA:=@List.map_cons
def XC:=@Bool.false_eq_true
def XD:=@Go.World.ownsRow_nil
def XE:=@Go.World.cell?_alloc_new
def XG:=@List.length_drop
def XH:=@List.length_singleton
def XI:=@List.cons_append
def XJ:=@List.append_assoc
def XK:=@Go.IntWalk.i64_in
def XM:=@List.all_eq_true
def XN:=@Nat.lt_or_ge
def XP:=@List.not_mem_nil
def XQ:=@List.length_take
def XR:=@List.mem_cons
def XU:=@List.take_add_one
def XV:=@List.length_cons
def XX:=@List.map_append
def XY:=@Option.some.inj
def XZ:=@List.nil_append
def Xd:=@List.getElem?_eq_getElem
def Xh:=@Bool.and_eq_true
def Xj:=@Go.Proofs.Tryz.underlying3
def Xk:=@Go.Proofs.enters_of
def Xl:=@List.length_map
def Xm:=@List.length_append
def Xr:=@List.getElem?_map
def Xs:=@Go.World.ownsRow.lt
def Xt:=@Nat.add_zero
def Xu:=@List.take_of_length_le
def Xy:=@List.getD_eq_getElem?_getD
def Xz:=@Bool.eq_iff_iff
def YB:=@Go.info_parts
def YC:=@Go.World.grownBy.refl
def YF:=@List.length_nil
def Yb:=@List.getElem?_append_right
def Yh:=@Go.World.size_alloc
def Yi:=@Nat.le_succ
def Yk:=@Bool.not_eq_true'
def Ym:=@Bool.or_eq_true
def Yp:=@Go.World.cell?_of_block
def Yt:=@Go.wpList_append_own
def Yv:=@ByteArray.size_extract
def Yw:=@Go.World.cell?_alloc_lt
def Yz:=@List.append_nil
instance:CoeFun Nat (fun _=>Nat->Option Nat->Addr):=⟨Addr.mk⟩
instance:CoeFun World (fun _=>Nat->Option Nat->Addr):=⟨fun w=>Addr.mk w.heap.size⟩
instance:Coe Nat Addr:=⟨fun b=>⟨b,0,WY⟩⟩
instance:Coe World Nat:=⟨fun w=>w.heap.size⟩
instance:Coe Int Value:=⟨Value.int .i64⟩
instance:Coe Nat Value:=⟨fun n=>Value.int .i64 n⟩
instance:Coe ByteArray Value:=⟨Value.string⟩
abbrev aR (f:Nat) (args:Array Xb) (w:Xa) (x:Xb):Prop:=Xq Xn f args w λe w'=>e=Ya x/\Below w w w'
def ah{p:Prop}(h:p):Xf p:=Lib.hid h
def am(n:Nat):n<=n:=Nat.le_refl n
def bt{a b c:Nat}(h:a<b)(k:b<=c):a<c:=Nat.lt_of_lt_of_le h k
def bQ{a b c:Nat}(h:a<=b)(k:b<=c):a<=c:=Nat.le_trans h k
def eX{a b:Nat}(h:a<b):a<=b:=Nat.le_of_lt h
def cb(n:Nat):0<=n:=Nat.zero_le n
def bK(w:Xa)(a:Yy){v:Xb}(h:w.cell? a=WX v):a.block<w:=World.block_lt_of_cell? w a h
def fK{α:Type}{l:List α}{i:Nat}{a:α}(h:l[i]?=WX a):a∈l:=List.mem_of_getElem? h
variable {p q:Prop} (h:q)
def YN(h:p:=by omega):p:=h
def aI(h:p:=by kernel_rfl):p:=h
def aF(h:p:=by decide):p:=h
def YQ(h:p:=by simp):p:=h
def bP(h:p:=by simp;omega):p:=h
def gw2(h:p:=by have g:=I_.o;exact⟨g.os.trans aU.o.os,g.tape.trans aU.o.tape,g.output.trans aU.o.output,by have:=g.size;simp at this<;>omega,λi hi aV=>(g.block i (by simp<;>omega) aV).trans ((Below.heap_alloc _ _ _ (by simp<;>omega)).trans ((Below.heap_alloc _ _ _ (by omega)).trans (aU.o.block i hi)))⟩):p:=h
def dS(h:p:=by rw[hk];rfl):p:=h
def Au(h:p:=by first|exact(ai (ai (ai (aj w) _) _) _)|exact a_ (ai (ai (ai (aj w) _) _) _)):p:=h
def kV(h:p:=by first|omega|(simp;omega)):p:=h
def kB(h:p:=by rw[HN.o];exact az):p:=h
def b_(h:p:=by rfl):p:=h
def R3(h:p:=by first|exact HR.o.symm|(rw[HR.o];simp_all;done)|(rw[HR.o];by_cases g1:x.other=0<;>by_cases g2:x.by_=0<;>by_cases g3:x.n=0<;>cases al<;>simp_all;done)|(rw[HR.o,Xz];simp_all<;>omega)):p:=h
def gw3(h:p:=by simp[eP,sS,xt,iH,rH,t5,yW,rG,iG,nB,gT,vE,lN,lP,lO,vG,vF,eD,vD,vC,hR,hN]):p:=h
def pm(h:p:=by simp[XF]):p:=h
def Ar(h:p:=by simp[results,results112,go_sem]):p:=h
def oo(h:p:=by simpa using h4):p:=h
def gw1(h:p:=by simp[rF,rB,rE,rD,tY,rC,mU,mt];omega):p:=h
def tU(h:p:=by rw[HL.o];exact az):p:=h
def pn(h:p:=by simpa using h5):p:=h
def B3(h:p:=by rw[hk,beq_eq_false_iff_ne];omega):p:=h
def DV(h:p:=by simp[results,results91,go_sem,pz, *]):p:=h
def sQ(h:p:=by show _<10;decide):p:=h
def sR(h:p:=by rw[HN.o];omega):p:=h
def B5(h:p:=by have:=hO.len;have:=h.Mle;omega):p:=h
def vp(h:p:=by have:=HZ.o;omega):p:=h
def vq(h:p:=by rw[dd];exact hl.1):p:=h
def NB(h:p:=by injection e with e;injection e with e;subst e;simp;omega):p:=h
def Ay(h:p:=by unfold j5;split<;>omega):p:=h
def tV(h:p:=by simp[XF];omega):p:=h
def NC(h:p:=by simp[results,results132,go_sem,ja,bs,c0,c1,c2,c3,hz]):p:=h
def gw9(h:p:=by simp[eP,sS,xt,iH,rH,t5,yW,rG,iG,nB,gT,vE,lN,lP,lO,vG,vF,eD,vD,vC,hR]):p:=h
def R9(h:p:=by intro u hu;simp at hu;rcases hu with rfl|rfl|rfl|rfl|rfl|rfl<;>rfl):p:=h
def gx0(h:p:=by simp[eP,sS,xt,iH,rH,t5,yW,rG,iG,nB,gT,vE,lN,lP,lO,vG,vF,eD,vD,vC]):p:=h
def JL(h:p:=by obtain⟨y,_,rfl⟩:=List.mem_map.1 h;rfl):p:=h
def gx1(h:p:=by rw[Xg,if_neg (by decide)];exact KX (by decide)):p:=h
def bx4(h:p:=by have:=pe.o;obtain⟨A',c',he,_⟩:=this;injection he with _ he _;rw[Xl]at he;exact he.symm):p:=h
def bx5(h:p:=by simp only[Yr,dJ,Option.map_none,Sem.run_bind,run_makeMap,Result.andThen_ok,Sem.run_pure]):p:=h
def ND(h:p:=by first|exact yX ba _|exact yX (yX ba _) _):p:=h
def bx6(h:p:=by exact⟨SI,wN,SJ,SK,SM,SN,SO,SQ,SR,SS,ST,SU,SL,B9,ry,pp,pq,B_,rz,SV⟩):p:=h
def Az(h:p:=by dsimp only;omega):p:=h
def AA(h:p:=by simp only[eE,hk]):p:=h
def gx2(h:p:=by rw[hd];exact cB.none_ (by simp)):p:=h
def bx7(h:p:=by simp[results,results215,go_sem,ja,HX.o,t0,t1,t2,t3,r0,r1,r2,r3,aV,gk6,EV,iP]):p:=h
def rr(h:p:=by simp[hy]):p:=h
def DW(h:p:=by simp<;>omega):p:=h
def B6(h:p:=by simp[cy,aS.cells]):p:=h
def yI(h:p:=by simpa using h):p:=h
def qq(h:p:=by go_simp):p:=h
def yJ(h:p:=by rw[KS,hk];rfl):p:=h
def yG(h:p:=by rw[dd];decide):p:=h
def GB(h:p:=by rw[<-he];exact ap hm rfl):p:=h
def bx0(h:p:=by intro e;have:=congrArg List.length e;simp at this;rw[this]at hi;simp at hi):p:=h
def gw5(h:p:=by simp[eP,sS,xt,iH,rH,t5,yW,rG,iG,nB,gT,vE,lN,lP,lO,vG,vF,eD,vD,vC,hR,hN,hb]):p:=h
def Aw(h:p:=by simpa using hj):p:=h
def Nw(h:p:=by first|exact HF.o|(rw[HF.o];rfl)):p:=h
def yH(h:p:=by rw[Yv];omega):p:=h
def R6(h:p:=by unfold bS at h;simp only[Xh]at h;exact h.1.1):p:=h
def GC(h:p:=by rw[rg.o];exact az):p:=h
def gw6(h:p:=by simp[eP,sS,xt,iH,rH,t5,yW,rG,iG,nB,gT,vE,lN,lP,lO,vG,vF,eD,vD,vC,hN]):p:=h
def B4(h:p:=by simp[Hid,cT,hk]):p:=h
def Nx(h:p:=by intro e;injection e with e;omega):p:=h
def bx1(h:p:=by intro e;have:=congrArg List.length e;rw[t5,Xm,Xl,YF]at this;omega):p:=h
def Ax(h:p:=by simp[HK.o]):p:=h
def GD(h:p:=by rw[hF.size];decide):p:=h
def bx2(h:p:=by unfold aE;rw[<-List.flatten_append,<-XX,List.take_append_drop]):p:=h
def JJ(h:p:=by rw[hF.size];exact hs.1):p:=h
def Ny(h:p:=by intro e;exact aV (by rw[e])):p:=h
def bx3(h:p:=by unfold ev at h;simp only[Xh]at h;exact h.1.1.1.1.1.1.1.1.1):p:=h
def gw7(h:p:=by unfold qW;rw[if_neg (by omega),hq];rfl):p:=h
def R7(h:p:=by rw[vZ (lk h1) (by simp[iJ,sc h1])];rfl):p:=h
def gw8(h:p:=by unfold qX;rw[if_neg (by omega),hq];rfl):p:=h
def wM(h:p:=by simp[jM]):p:=h
def JK(h:p:=by rw[kT.o];exact az):p:=h
def Nz(h:p:=by rw[Array.length_toList];rfl):p:=h
def R8(h:p:=by rw[List.drop_eq_nil_iff,HN.o];omega):p:=h
def Nu(h:p:=by rw[decide_eq_decide];omega):p:=h
def Gz(h:p:=by rw[h.1];exact hj):p:=h
def bw8(h:p:=by obtain⟨A,c,rfl,h1,h2,_⟩:=h;exact⟨A,_,c,rfl,rfl,h1,h2⟩):p:=h
def bw9(h:p:=by exact((a_ (ai (aj W) _)).block _ az |>.trans HB.o)):p:=h
def Nv(h:p:=by simp at hy⊢;exact .inr hy):p:=h
def gw4(h:p:=by have:=h;rw[kY,FP (hk a (by simp))]at this;exact this):p:=h
def R4(h:p:=by rw[<-HP.o,hx];intro q hq;cases hq):p:=h
def yF(h:p:=by simp[X4]):p:=h
def GA(h:p:=by show _<6;decide):p:=h
def R5(h:p:=by rw[decide_eq_false_iff_not];omega):p:=h
def JN(h:p:=by simp[dU];try omega):p:=h
def JO(h:p:=by simp[aD];try omega):p:=h
def Sc(h:p:=by rw[List.not_any_eq_all_not];simp):p:=h
def yK(h:p:=by trivial):p:=h
def NF(h:p:=by simp[World.frozen?,r1]):p:=h
def AB(h:p:=by simp[hx]):p:=h
def Sd(h:p:=by rw[List.drop_eq_nil_iff];omega):p:=h
def B7(h:p:=by simp[aE]):p:=h
def Se(h:p:=by exact⟨kc aQ hS.1,ak hS.2 aQ⟩):p:=h
def Sf(h:p:=by apply decide_eq_decide.2;omega):p:=h
def JP(h:p:=by simp at hn;omega):p:=h
def Sg(h:p:=by have:=yu.o.1;rw[XG];omega):p:=h
def NG(h:p:=by have:=hV.2.2.1;omega):p:=h
def Sh(h:p:=by rw[List.not_all_eq_any_not]):p:=h
def GE(h:p:=by rw[dd];omega):p:=h
def JQ(h:p:=by rw[HO.o];simp):p:=h
def B8(h:p:=by rw[hj,e]):p:=h
def Si(h:p:=by simpa[fA,nD,iH,nT]using h):p:=h
def Sj(h:p:=by simpa[fA,nD,iH,zr]using h):p:=h
def NH(h:p:=by rw[<-HP.o,hx];rfl):p:=h
def NI(h:p:=by rw[kT.o];omega):p:=h
def GF(h:p:=by rw[ho];rfl):p:=h
def JR(h:p:=by rw[XQ];omega):p:=h
def JS(h:p:=by rw[EZ h];rfl):p:=h
def gl(h:p:=by kernel_rfl):p:=h
def Sk(h:p:=by have g:=I_.o;exact⟨g.os.trans aU.o.os,g.tape.trans aU.o.tape,g.output.trans aU.o.output,by have:=g.size;simp at this<;>omega,λi hi aV=>(g.block i DW aV).trans ((Below.heap_alloc _ _ _ DW).trans ((Below.heap_alloc _ _ _ YN).trans (aU.o.block i hi)))⟩):p:=h
def JM(h:p:=by rw[hd];exact cB.none_ YQ):p:=h
def NE(h:p:=by rw[Xg,if_neg aF];exact KX aF):p:=h
def R_(h:p:=by unfold qW;rw[if_neg YN,hq];rfl):p:=h
def Sb(h:p:=by unfold qX;rw[if_neg YN,hq];rfl):p:=h
def gi(h:p:=by kernel_rfl):p:=h
def nL(e:Xf q->p:=by intro aaF;have nq:∀(fn:Fn)(first cap:Array Xb)(w:Xa),(Instr.makeFunc fn first cap).run Xn w= .ok (.func fn first cap) w:=λ_ _ _ _=>rfl;revert nq;exact aaF.o):p:=e (ah h)
def qP(e:Xf q->p:=by intro aaF;obtain⟨⟨Sa,sc,hs,cz,bD⟩,⟨Fa,fc,cC,bT,cG⟩,⟨Ra,rc,hr,ca,cQ⟩,⟨Ma,mc,hm,cJ,cD⟩,⟨La,lc,hl,cS,du⟩,⟨Ia,ic,hi,dG,ew⟩,⟨Ua,uc,hu,dH,dC⟩⟩:=hv.cells;have HS:=ah (oy m hs cC hr hm hl hi hu);revert Sa sc hs cz bD Fa fc cC bT cG Ra rc hr ca cQ Ma mc hm cJ cD La lc hl cS du Ia ic hi dG ew Ua uc hu dH dC HS;exact aaF.o):p:=e (ah h)
def Fh(e:Xf q->p:=by intro aaF;have b0:=kc aQ vv;have b1:=kc aQ qr;have ji:=kc aQ jj;have bB:=ah (ak F0.o aQ);have ql:=ah (Gj.o.later bB.o);have wD:=ah (Du.o.later bB.o);have lM:=ah (eO.o.later bB.o);have gH:Hid (aK w Mb w w4):=lq.o.trans (aK.of_below bB.o ET bB.o.size);revert b0 b1 ji bB ql wD lM gH;exact aaF.o):p:=e (ah h)
def VZ(e:Xf q->p:=by
 intro aaF;have d4:w1.cell? (pa 4 WY)=WX (Xo XO 0):=by simp[Yx,r1]
 have f4:w1.frozen? (pa 4 WY)=false:=NF;have d5:w1.cell? (pa 5 WY)=WX (Xp ⟨#[]⟩):=by simp[Yx,r1]
 have f5:w1.frozen? (pa 5 WY)=false:=NF;have d6:w1.cell? (pa 6 WY)=WX (Xo XO 0):=by simp[Yx,r1]
 have f6:w1.frozen? (pa 6 WY)=false:=NF;have d7:w1.cell? (pa 7 WY)=WX (Xo XO 0):=by simp[Yx,r1]
 have f7:w1.frozen? (pa 7 WY)=false:=NF;have EA:pa<w1:=bt az ay.size;have aV:¬pa=w1:=YN;have gQ:¬w1.heap.size=pa:=YN;have R1:=ah r1;revert d4 f4 d5 f5 d6 f6 d7 f7 EA aV gQ R1;exact aaF.o):p:=e (ah h)
def PN(e:Xf q->p:=by intro aaF;have e0:w7.cell? xb=WX (Xo XO d.kind):=(kM.cell ck2).trans d0;have e1:w7.cell? (xb 1 WY)=WX (Xp (bs d.name)):=(kM.cell ck2).trans d1;have oI:w7.cell? rb=WX (.map (WX Mb)):=(kM.cell gl1).trans xE;have DB:=ah (Gi.o.blk (kM.2.2 Mb gk9));have tP:=ah (qn.o.blk (kM.2.2 (w+1) YN));have qh:=ah (pG.of_eq (λx=>(oY.o x).symm));have mQ:Hid (aK w Mb w w7):=Ah.o.trans (aK.turnB kM (am _));revert e0 e1 oI DB tP qh mQ;exact aaF.o):p:=e (ah h)
def P8(e:Xf q->p:=by intro aaF;have i0:(0:Int)<(n:Int):=YN;have n0:0<n:=YN;have i1:(1:Int)<=(n:Int):=YN;have i2:(n:Int)<=(c:Int):=YN;have i3:(1:Int)<=(c:Int):=YN;have n2:1<=c:=YN;have HV:=ah hv;have HN:=ah hn;have HR:=ah (show w1.heap[w.heap.size]?=WX (YI ((bW 0).cells aM aM) 45 (0,0))from(ay.block w YQ).trans (X1 w _));have aZ:w.heap.size<w1:=dB ay YQ;have bk:=ah (ak (ai (aj w) _) ay);revert i0 n0 i1 i2 i3 n2 HV HN HR aZ bk;exact aaF.o):p:=e (ah h)
def PL(e:Xf q->p:=by intro aaF;have c0:w5.cell? xb=WX (Xo XO d.kind):=(iZ.cell ck3).trans b0;have c1:w5.cell? (xb 1 WY)=WX (Xp (bs d.name)):=(iZ.cell ck3).trans b1;have ug:w5.cell? rb=WX (.map (WX Mb)):=(iZ.cell gl2).trans ji;have yv:=ah (ql.o.blk (iZ.2.2 Mb gl0));have BK:=ah (wD.o.blk (iZ.2.2 w YN));have mj:=ah (pF.of_eq (λx=>(bn0.o x).symm));have gJ:Hid (aK w Mb w w5):=gH.o.trans (aK.turnB iZ YN);revert c0 c1 ug yv BK mj gJ;exact aaF.o):p:=e (ah h)
def Va(e:Xf q->p:=by intro aaF;have dL:wr.cell? ⟨b1,p1+k*10+0,WY⟩=WX (Xo XO x.kind):=(bm.o.cell (p:=⟨b1,p1+k*10+0,WY⟩) ay).trans (bA 0 _ rfl);have j6:=kc bm.o (bA 1 _ rfl);have jN:=kc bm.o (bA 2 _ rfl);have pw:=kc bm.o (bA 3 _ rfl);have mV:=kc bm.o (bA 4 _ rfl);have qs:=kc bm.o (bA 5 _ rfl);have py:=kc bm.o (bA 6 _ rfl);have D3:=kc bm.o (bA 7 _ rfl);have yV:=kc bm.o (bA 8 _ rfl);have GI:=kc bm.o (bA 9 _ rfl);revert dL j6 jN pw mV qs py D3 yV GI;exact aaF.o):p:=e (ah h)
def wt(e:Xf q->p:=by intro aaF;have valid':=λW hb=>aa0 x (YG Am nm cm) (YG As ns cs) W ((HX.o.below hb (am _)).more (Below.size hb));revert valid';exact aaF.o):p:=e (ah h)
def bv5(e:Xf q->p:=by intro aaF;have dL:=(bm.o.cell (p:=⟨B1,p1+k*7+0,WY⟩) ay).trans (bA 0 _ rfl);have j6:=(bm.o.cell (p:=⟨B1,p1+k*7+1,WY⟩) ay).trans (bA 1 _ rfl);have jN:=(bm.o.cell (p:=⟨B1,p1+k*7+2,WY⟩) ay).trans (bA 2 _ rfl);have pw:=(bm.o.cell (p:=⟨B1,p1+k*7+3,WY⟩) ay).trans (bA 3 _ rfl);have mV:=(bm.o.cell (p:=⟨B1,p1+k*7+4,WY⟩) ay).trans (bA 4 _ rfl);have qs:=(bm.o.cell (p:=⟨B1,p1+k*7+5,WY⟩) ay).trans (bA 5 _ rfl);have py:=(bm.o.cell (p:=⟨B1,p1+k*7+6,WY⟩) ay).trans (bA 6 _ rfl);have lu:=(bm.o.cell (p:=⟨B2,p2+k*7+0,WY⟩) au).trans (dp 0 _ rfl);have oq:=(bm.o.cell (p:=⟨B2,p2+k*7+1,WY⟩) au).trans (dp 1 _ rfl);have ot:=(bm.o.cell (p:=⟨B2,p2+k*7+2,WY⟩) au).trans (dp 2 _ rfl);have D4:=(bm.o.cell (p:=⟨B2,p2+k*7+3,WY⟩) au).trans (dp 3 _ rfl);have D5:=(bm.o.cell (p:=⟨B2,p2+k*7+4,WY⟩) au).trans (dp 4 _ rfl);have D6:=(bm.o.cell (p:=⟨B2,p2+k*7+5,WY⟩) au).trans (dp 5 _ rfl);have D7:=(bm.o.cell (p:=⟨B2,p2+k*7+6,WY⟩) au).trans (dp 6 _ rfl);revert dL j6 jN pw mV qs py lu oq ot D4 D5 D6 D7;exact aaF.o):p:=e (ah h)
def ao5(e:Xf q->p:=by
 intro aaF;have td:pa<(((((w1.setCell (pa 4 WY) (Xo XO p0)).setCell (pa 5 WY) (Xp p1)).setCell (pa 6 WY) (Xo XO p2)).setCell (pa 7 WY) (Xo XO p3))).heap.size:=by simpa[Ye]using EA
 have eU:=eh3 (uw (uw (uw (uw (zX ay (YC w1 (WX pa))) 4 (Xo XO p0)) 5 (Xp p1)) 6 (Xo XO p2)) 7 (Xo XO p3)) (YI #[p0,p1,p2,p3] 43);have r2:=(Below.heap_alloc _ (YI #[p0,p1,p2,p3] 43) pa td).trans (jF (jF (jF (jF R1.o 4 (Xo XO p0)) 5 (Xp p1)) 6 (Xo XO p2)) 7 (Xo XO p3));have fQ:=(((((ay.mono (eX az)).setCell (p:=pa 4 WY) (am _) (Xo XO p0)).setCell (p:=pa 5 WY) (am _) (Xp p1)).setCell (p:=pa 6 WY) (am _) (Xo XO p2)).setCell (p:=pa 7 WY) (am _) (Xo XO p3)).alloc (eX td) (YI #[p0,p1,p2,p3] 43);revert td eU r2 fQ;exact aaF.o):p:=e (ah h)
def hm6(e:Xf q->p:=by intro aaF;have di:=ah (Below.trans bx.o (hb.mono (Yi _)));have iP:=bQ Hh hb.size;have re:=ah (jO qp.o hb (Nat.lt_succ_self _));obtain⟨a0,a1,a2,a3,a4,a5,a6,a7,a8,a9,ez⟩:=eR re.o;revert di iP re a0 a1 a2 a3 a4 a5 a6 a7 a8 a9 ez;exact aaF.o):p:=e (ah h)
def Ii(e:Xf q->p:=by intro aaF;obtain⟨⟨Sa,sc,hs,cz,bD⟩,⟨Fa,fc,hf,bT,cG⟩,⟨Ra,rc,hr,ca,cQ⟩,⟨Ma,mc,hm,cJ,cD⟩,⟨La,lc,hl,cS,du⟩,⟨Ia,ic,hi,dG,ew⟩,⟨Ua,uc,hu,dH,dC⟩⟩:=hv.cells;have HS:=ah (oy m hs hf hr hm hl hi hu);have ik:=ah (λW(hW:Below w w W)=>as0 m v x.item W (hv.to hW (am _) hW.size));revert Sa sc hs cz bD Fa fc hf bT cG Ra rc hr ca cQ Ma mc hm cJ cD La lc hl cS du Ia ic hi dG ew Ua uc hu dH dC HS ik;exact aaF.o):p:=e (ah h)
def Zv(e:Xf q->p:=by intro aaF;have dL:=(bm.o.cell (p:=⟨B1,p1+k*3+0,WY⟩) ay).trans (bA 0 _ rfl);have j6:=(bm.o.cell (p:=⟨B1,p1+k*3+1,WY⟩) ay).trans (bA 1 _ rfl);have jN:=(bm.o.cell (p:=⟨B1,p1+k*3+2,WY⟩) ay).trans (bA 2 _ rfl);have lu:=(bm.o.cell (p:=⟨B2,p2+k*3+0,WY⟩) au).trans (dp 0 _ rfl);have oq:=(bm.o.cell (p:=⟨B2,p2+k*3+1,WY⟩) au).trans (dp 1 _ rfl);have ot:=(bm.o.cell (p:=⟨B2,p2+k*3+2,WY⟩) au).trans (dp 2 _ rfl);revert dL j6 jN lu oq ot;exact aaF.o):p:=e (ah h)
def WD(e:Xf q->p:=by intro aaF;have bk:=ah (ak (ai (ai (aj w) _) _) ay);have c2:=aC (ga.o _) ay;have c3:=aC (Nc.o _) ay;have HZ:=ah (blk_lt c3);have e0:=ap (o:=0) c2 rfl;have e1:=ap (o:=1) c2 rfl;have e2:=ap (o:=2) c2 rfl;have e3:=ap (o:=3) c2 rfl;have e4:=ap (o:=4) c2 rfl;have e5:=ap (o:=5) c2 rfl;have e6:=ap (o:=6) c2 rfl;have e7:=ap (o:=7) c2 rfl;have e8:=ap (o:=8) c2 rfl;have e9:=ap (o:=9) c2 rfl;have dL:=ap (o:=10) c2 rfl;have d1:=ap (o:=1) c3 rfl;have d2:=ap (o:=2) c3 rfl;revert bk c2 c3 HZ e0 e1 e2 e3 e4 e5 e6 e7 e8 e9 dL d1 d2;exact aaF.o):p:=e (ah h)
def Pt(e:Xf q->p:=by intro aaF;have z1:W.cell? (px 1 WY)=WX (Xo XO 0):=j8 hp (o:=1) sQ;have f1:W.frozen? (px 1 WY)=false:=mZ hp 1;have z2:W.cell? (px 2 WY)=WX (Xo XO 0):=j8 hp (o:=2) sQ;have f2:W.frozen? (px 2 WY)=false:=mZ hp 2;revert z1 f1 z2 f2;exact aaF.o):p:=e (ah h)
def Zt(e:Xf q->p:=by intro aaF;have c_:=ak (ai (ai ba _) _) aN;have iC:w.heap.size<w3:=dB aN bP;have kz:w2.heap.size<w3:=dB aN bP;obtain⟨kg,nS⟩:=dr aN;have OG:w2.heap.size<w2+1+1:=YN;have pN:¬9223372036854775807<(bs (bH 10)).size+(bs (eY [x.a,x.b])).size+5:=YN;have ca:¬9223372036854775807<(bs (bH 10)).size+(bs (eY [x.a,x.b])).size+5+x.key.size:=YN;revert c_ iC kz kg nS OG pN ca;exact aaF.o):p:=e (ah h)
def zK(e:Xf q->p:=by intro aaF;have cI:Hid (Below w5 w5 w6):=ak (a_ (aj w5)) bJ;have HH:=ah (ct0.o w6 _ u cI.o hu);revert cI HH;exact aaF.o):p:=e (ah h)
def PM(e:Xf q->p:=by intro aaF;have d0:=kc bJ c0;have d1:=kc bJ c1;have xE:=kc bJ ug;have Gi:=ah (yv.o.later bJ);have q_:=ah (BK.o.later bJ);have qn:=ah (mj.o.later bJ);have Ah:Hid (aK w Mb w w6):=gJ.o.trans (aK.of_below bJ gJ.o.size bJ.size);revert d0 d1 xE Gi q_ qn Ah;exact aaF.o):p:=e (ah h)
def Fs(e:Xf q->p:=by intro aaF;have aZ:=blk_lt hx;have xF:rb<W1:=bt bg hB.size;have vR:nb<W1:=bt lD hB.size;revert aZ xF vR;exact aaF.o):p:=e (ah h)
def Wd(e:Xf q->p:=by intro aaF;have bo:=ah aY;have iU:=ah gW;have F':Hid (cV W.drew):=HG.o.step (a_ (ak (ak bk.o aU.o) aY));have h8:8<=wc.heap.size:=bQ HG.o.size (bQ bk.o.size aU.o.size);have pR:w.heap.size<W:=YN;have Gv:=ah (a_ (ak (ak bk.o aU.o) aY));have BU:=ah ((aY.block w bh).trans uX.o);revert bo iU F' h8 pR Gv BU;exact aaF.o):p:=e (ah h)
def ao2(e:Xf q->p:=by intro aaF;have HT:=ah (h.take_ 2 YN);have HS:=ah (λs(hs:s∈l.take 2)=>bd s (List.mem_of_mem_take hs));have HZ:=ah (bd _ (Bo (k:=2) YN));have HQ:=ah hq;have sI:=ah (show(l.take 2).length<=100000 by simp;omega);have GM:cV (W.alloc (YI #[YK (WX (pa 1 WY)),YK (WX (pa 2 WY))] 132)).drew:=hG.step (a_ (ai (aj W) _));have GX:Below pa W (W.alloc (YI #[YK (WX (pa 1 WY)),YK (WX (pa 2 WY))] 132)).drew:=E0 (((aj W).mono (eX az)).alloc (eX az) _);have aV:¬pa=W:=YN;have gQ:¬W.heap.size=pa:=YN;have i2:(2:Int)<=c:=YN;have n2:2<=c:=YN;revert HT HS HZ HQ sI GM GX aV gQ i2 n2;exact aaF.o):p:=e (ah h)
def nE(e:Xf q->p:=by intro aaF;have bm:Hid (Below w w wr):=ak bo.o hB;revert bm;exact aaF.o):p:=e (ah h)
def uC(e:Xf q->p:=by intro aaF;have lZ:=fun(t:Xv)(w:Xa)=>run_makeMap (P:=Xn) t w;revert lZ;exact aaF.o):p:=e (ah h)
def ap1(e:Xf q->p:=by intro aaF;have KP:w2.heap.size=w1.heap.size+1+1:=hT.2.1.trans YQ;obtain⟨l0,l1,l2,l3,l4,l5,l6,l7,l8,l9⟩:=jP.turns (yq.o.below (ai (ai (aj w1) _) _) aZ) hT YN;obtain⟨q0,q1,q2,q3,q4,q5,q6,q7,q8,q9⟩:=jv.lies;have p3:w2.cell? (w1 3 WY)=WX (.func (.func gf) #[] caps):=(hT.cell YQ).trans qq;have ba:=hT.1 w1 w1 (ai (ai (aj w1) _) _) YN;have Ab:=ah (ak bk.o ba);have aU:=ah ba;have bh:w.heap.size<w2:=YN;have kr:w1.heap.size<w2:=YN;have ku:w1.heap.size+1<w2:=YN;have SC:=dk8 x y (YG Am nm cm) (YG As ns cs) m' s' w2 ((HX.o.below Ab.o (am _)).more Ab.o.size) ((HY.o.below Ab.o (am _)).more Ab.o.size);revert KP l0 l1 l2 l3 l4 l5 l6 l7 l8 l9 q0 q1 q2 q3 q4 q5 q6 q7 q8 q9 p3 ba Ab aU bh kr ku SC;exact aaF.o):p:=e (ah h)
def VM(e:Xf q->p:=by intro aaF;have used':=λW hb=>dl8 x (YG Am nm cm) (YG As ns cs) W ((HX.o.below hb (am _)).more (Below.size hb));have same':=λW m' s' hb(hu:(cy x).In W W m' s')=>cs2 x (cy x) (YG Am nm cm) (YG As ns cs) m' s' W ((HX.o.below hb (am _)).more (Below.size hb)) hu;revert used' same';exact aaF.o):p:=e (ah h)
def Vh(e:Xf q->p:=by intro aaF;have Gu:=ah dC;have cI:Hid (Below w w w6):=bR.o.grown hg (by have:=bR.o.size;omega) (λk hk=>by injection hk with hk;omega);have hr:=(hg.block _ (by have:=blk_lt bn6.o;omega) Nx).trans bn6.o;obtain⟨⟨d0,d1,d2,d3⟩,f0,f1,f2,f3⟩:=IK hr;obtain⟨⟨o0,o1,o2,o3⟩,-⟩:=IK hb;revert Gu cI hr d0 d1 d2 d3 f0 f1 f2 f3 o0 o1 o2 o3;exact aaF.o):p:=e (ah h)
def bq2(e:Xf q->p:=by intro aaF;have e0:=(bm.o.cell (p:=⟨b,o+k*7+0,WY⟩) hb).trans (bb 0 _ rfl);have e1:=(bm.o.cell (p:=⟨b,o+k*7+1,WY⟩) hb).trans (bb 1 _ rfl);have e2:=(bm.o.cell (p:=⟨b,o+k*7+2,WY⟩) hb).trans (bb 2 _ rfl);have e3:=(bm.o.cell (p:=⟨b,o+k*7+3,WY⟩) hb).trans (bb 3 _ rfl);have e4:=(bm.o.cell (p:=⟨b,o+k*7+4,WY⟩) hb).trans (bb 4 _ rfl);have e5:=(bm.o.cell (p:=⟨b,o+k*7+5,WY⟩) hb).trans (bb 5 _ rfl);have e6:=(bm.o.cell (p:=⟨b,o+k*7+6,WY⟩) hb).trans (bb 6 _ rfl);revert e0 e1 e2 e3 e4 e5 e6;exact aaF.o):p:=e (ah h)
def bt5(e:Xf q->p:=by intro aaF;obtain⟨jI,li⟩:=dr aQ;have bB:=ah (ak bx.o aQ);have og:=ah ((aQ.block w cp7).trans pg.o);have Np:=ah ((bp3.o.below aQ (am _)).more aQ.size);have m0:=(jI wc 0 xx).trans l0;have m1:=(jI wc 1 xx).trans l1;have m2:=(jI wc 2 xx).trans l2;have m3:=(jI wc 3 xx).trans l3;have m4:=(jI wc 4 xx).trans l4;have m5:=(jI wc 5 xx).trans l5;have m6:=(jI wc 6 xx).trans l6;have m7:=(jI wc 7 xx).trans l7;have m8:=(jI wc 8 xx).trans l8;have m9:=(jI wc 9 xx).trans l9;revert jI li bB og Np m0 m1 m2 m3 m4 m5 m6 m7 m8 m9;exact aaF.o):p:=e (ah h)
def OR(e:Xf q->p:=by intro aaF;obtain⟨⟨S1,s1,cz,-,-⟩,⟨F1,f1,bT,-,-⟩,⟨R1,r1,ca,-,-⟩,⟨M1,m1,cJ,-,-⟩,⟨L1,l1,cS,-,-⟩,⟨I1,i1,dG,-,-⟩,⟨U1,u1,dH,-,-⟩⟩:=fg.cells;have wH:=ah (oy m cz bT ca cJ cS dG dH);revert S1 s1 cz F1 f1 bT R1 r1 ca M1 m1 cJ L1 l1 cS I1 i1 dG U1 u1 dH wH;exact aaF.o):p:=e (ah h)
def CN(e:Xf q->p:=by intro aaF;obtain⟨l0,l1,l2,l3,l4,l5,l6,l7,l8,l9⟩:=id ha;have AY:¬px=pa:=aV;have gQ:¬pa=px:=λe=>aV e.symm;have HP:=ah hp;revert l0 l1 l2 l3 l4 l5 l6 l7 l8 l9 AY gQ HP;exact aaF.o):p:=e (ah h)
def X'(e:Xf q->p:=by intro aaF;obtain⟨i0,hi,cE,aZ,bh⟩:=YB (show(Tryz.prog.info? 92).map (λi=>(i.zero,i.size,i.bytes))=WX (WX (YJ #[Xp ⟨#[]⟩,Xo XO 0,Xo XO 0,Xo XO 0,Xo XO 0,Xo XO 0,YG WY 0 0]),7,80)by kernel_rfl);have az:=Xs bN;have oe:=ah az;revert i0 hi cE aZ bh az oe;exact aaF.o):p:=e (ah h)
def LT(e:Xf q->p:=by intro aaF;obtain⟨i0,hi,cE,aZ,bh⟩:=YB (show(Tryz.prog.info? 9).map (λi=>(i.zero,i.size,i.bytes))=WX (WX (Xp ⟨#[]⟩),1,16)by kernel_rfl);revert i0 hi cE aZ bh;exact aaF.o):p:=e (ah h)
def QN(e:Xf q->p:=by intro aaF;have c_:Below w w w3:=Gv.o.grown fW Gv.o.size (λk' e=>by injection e with e;omega);have wT:=(fW.block w (show w.heap.size<W from pR) (λe=>by injection e with e;omega)).trans BU.o;have bx:=ah c_;have pg:=ah wT;revert c_ wT bx pg;exact aaF.o):p:=e (ah h)
def Ij(e:Xf q->p:=by intro aaF;have lj:(0:Int)<=n:=YN;have fl:(n:Int)<=s.size:=YN;have Cm:(s.size:Int)<=16384:=YN;revert lj fl Cm;exact aaF.o):p:=e (ah h)
def KY(e:Xf q->p:=by intro aaF;obtain⟨i0,hi,cE,aZ,bh⟩:=YB (show(Tryz.prog.info? 3).map (λi=>(i.zero,i.size,i.bytes))=WX (WX (Xo XO 0),1,8)by kernel_rfl);revert i0 hi cE aZ bh;exact aaF.o):p:=e (ah h)
def tr(e:Xf q->p:=by intro aaF;have aU:Hid (Below w w w2):=ak bo.o au;revert aU;exact aaF.o):p:=e (ah h)
def Wb(e:Xf q->p:=by intro aaF;have ks:pb<wc:=(Array.getElem?_eq_some_iff.1 vI).1;have tK:=ah hF;have gw:=ah t_;have bh:w.heap.size<wc:=bt aZ ba.size;have aU:=ah ba;have uX:=ah ((ba.block w aZ).trans HR.o);revert ks tK gw bh aU uX;exact aaF.o):p:=e (ah h)
def ao3(e:Xf q->p:=by intro aaF;have pP:∀s∈l.drop 2,s.size<=1000000:=λs hs=>bd s (X8 hs);have Tr:¬c=2:=dp _ _ _ rfl;have i1:(2:Int)<=n:=YN;have g0:¬((n:Int)<2):=YN;have i2:(n:Int)<=c:=YN;have i3:(2:Int)<=c:=YN;have n1:2<=n:=YN;have n2:2<=c:=YN;have L0:=ad4 _ (l.drop 2) W hG ((h.drop 2 YN).more (eX az)) pP;have eq:(if(l.drop 2).length<2 then WY else wg (l.drop 2))=sy (l.drop 2):=rfl;revert pP Tr i1 g0 i2 i3 n1 n2 L0 eq;exact aaF.o):p:=e (ah h)
def VY(e:Xf q->p:=by intro aaF;have HL:=ah L0;have HB:=ah hb;have HT:=ah (h.take_ 2 YN);have HS:=ah (λs(hs:s∈l.take 2)=>bd s (List.mem_of_mem_take hs));have sI:=ah (show(l.take 2).length<=100000 by simp;omega);have HG:=ah hG;revert HL HB HT HS sI HG;exact aaF.o):p:=e (ah h)
def YO(e:Xf q->p:=by intro aaF;have pR:=aY.size;have rQ:(0:Int)<(m:Int)+3:=YN;obtain⟨x0,x1,x2,x3,x4,x5⟩:=dW cO;have fS:=aC hr aY;have c0:=ap (o:=0) (aC hm aY) rfl;have c1:W1.cell? (rb 6 WY)=WX v:=ap fS hC;have c2:=ap (o:=0) (aC hp aY) rfl;revert pR rQ x0 x1 x2 x3 x4 x5 fS c0 c1 c2;exact aaF.o):p:=e (ah h)
def Ht(e:Xf q->p:=by intro aaF;have qy:(0:Int)<=k:=YN;have fu:=ah az;revert qy fu;exact aaF.o):p:=e (ah h)
def as7(e:Xf q->p:=by intro aaF;have nz:=ah (gP.1 _ _ (gO.1 _ _ (ep.1 _ _ (ai (ai (ai (aj w) _) _) _) YN) YN) YN);have HX:=ah (λi(hi:¬i=w.heap.size+1+1)=>(gP.2.2 i hi).trans ((gO.2.2 i hi).trans (ep.2.2 i hi)));have te:=(HX.o w YN).trans (jO aU.o.1 (ai (aj _) _) (blk_lt aU.o.1));have kQ:=(HX.o (w+1) YN).trans (jO aU.o.2 (ai (aj _) _) (blk_lt aU.o.2));have a1:=ap (o:=1) kQ rfl;revert nz HX te kQ a1;exact aaF.o):p:=e (ah h)
def FG(e:Xf q->p:=by intro aaF;have p1:w1.cell? (pb 1 WY)=WX (Xo XO p.e):=ap nR rfl;have xD:=blk_lt nR;revert p1 xD;exact aaF.o):p:=e (ah h)
def aw8(e:Xf q->p:=by intro aaF;have jg:=jO (show((w5.alloc _).drew).heap[w5.heap.size]?=WX _ from cN w5 _) bJ YQ;have eA:=jO (jO HB.o (a_ (ai (aj w5) _)) rY) bJ bP;have EV:=blk_lt jg;have iP:=blk_lt eA;have t0:=ap (o:=0) jg rfl;have t1:=ap (o:=1) jg rfl;have t2:=ap (o:=2) jg rfl;have t3:=ap (o:=3) jg rfl;obtain⟨q0,q1,q2,q3⟩:=zU jg;have r0:=ap (o:=0) eA rfl;have r1:=ap (o:=1) eA rfl;have r2:=ap (o:=2) eA rfl;have r3:=ap (o:=3) eA rfl;obtain⟨p0,p1,p2,p3⟩:=zU eA;have D_:=ak (a_ (ai rK _)) bJ;revert jg eA EV iP t0 t1 t2 t3 q0 q1 q2 q3 r0 r1 r2 r3 p0 p1 p2 p3 D_;exact aaF.o):p:=e (ah h)
def Ml(e:Xf q->p:=by intro aaF;have y1:¬9223372036854775807<s0.size+4:=YN;have y2:¬9223372036854775807<s0.size+4+s1.size:=YN;revert y1 y2;exact aaF.o):p:=e (ah h)
def Mo(e:Xf q->p:=by intro aaF;have y1:¬9223372036854775807<s0.size+1:=YN;have y2:¬9223372036854775807<s0.size+1+s1.size:=YN;revert y1 y2;exact aaF.o):p:=e (ah h)
def gs8(e:Xf q->p:=by intro aaF;have x1:=kc di.o (jY 1 _ rfl);have x2:=kc di.o (jY 2 _ rfl);have x3:=kc di.o (jY 3 _ rfl);have x4:=kc di.o (jY 4 _ rfl);have x5:=kc di.o (jY 5 _ rfl);have x6:=kc di.o (jY 6 _ rfl);have cE:=iP;have fP:=ah (λW(h:Below wr wr W)=>Xi (eR (aC re.o h)) (Xi (kc h x0) (Xi (kc h x1) (Xi (kc h x2) (Xi (kc h x3) (Xi (kc h x4) (Xi (kc h x5) (kc h x6))))))));revert x1 x2 x3 x4 x5 x6 cE fP;exact aaF.o):p:=e (ah h)
def Mn(e:Xf q->p:=by intro aaF;have bh:=bt aZ hw.size;have Ba:=bt xF hw.size;have ze:=bt vR hw.size;revert bh Ba ze;exact aaF.o):p:=e (ah h)
def Zs(e:Xf q->p:=by intro aaF;have cz:=CD [x.a,x.b] (by simpa using⟨ia,ib⟩) YQ;have lF:=VN x.val iv;have KL:=VN x.old io;have HA:Hid (cT x=[Xg x.a,Xg x.b]++kG x):=B4;revert cz lF KL HA;exact aaF.o):p:=e (ah h)
def as8(e:Xf q->p:=by intro aaF;have bB:=ah (ak nz.o aQ);have nW:=aC Gh.o aQ;have qE:=aC qp.o aQ;have e0:=ap (o:=0) nW rfl;have e1:=ap (o:=1) nW rfl;have e2:=ap (o:=2) nW rfl;have e3:=ap (o:=3) nW rfl;have e4:=ap (o:=4) nW rfl;have e5:=ap (o:=5) nW rfl;have e6:=ap (o:=6) nW rfl;have e7:=ap (o:=7) nW rfl;have e8:=ap (o:=8) nW rfl;have e9:=ap (o:=9) nW rfl;have dL:=ap (o:=10) nW rfl;have a6:=ap (o:=6) qE rfl;have wL:=ah qE;revert bB nW qE e0 e1 e2 e3 e4 e5 e6 e7 e8 e9 dL a6 wL;exact aaF.o):p:=e (ah h)
def LK(e:Xf q->p:=by
 intro aaF;have ba:Below W1 W1 w2:=by first|exact ak (a_ (aj W1)) au|exact ak (a_ (ai (aj W1) _)) au
 revert ba;exact aaF.o):p:=e (ah h)
def bp7(e:Xf q->p:=by intro aaF;have q0:WZ ((0:Int)<(k:Int))=true:=decide_eq_true YN;have IT:WZ (0<k)=true:=decide_eq_true YN;have q1:IntKind.i64.wrap ((k:Int) - 1)=(k:Int) - 1:=XK _ YN;have q2:((k:Int) - 1).toNat=k - 1:=YN;have q3:(0:Int)<=(k:Int) - 1:=YN;have U6:(1:Int)<=(k:Int):=YN;have q4:(k:Int) - 1<n:=YN;revert q0 IT q1 q2 q3 U6 q4;exact aaF.o):p:=e (ah h)
def Qa(e:Xf q->p:=by intro aaF;have c0:=ap (o:=0) iA rfl;have wO:=ap (o:=1) iA rfl;have tX:=ap (o:=2) iA rfl;have wP:=ap (o:=3) iA rfl;obtain⟨f0,f1,f2,f3⟩:=zU iA;revert c0 wO tX wP f0 f1 f2 f3;exact aaF.o):p:=e (ah h)
def C_(e:Xf q->p:=by intro aaF;have h0:=bb 0 _ rfl;have h1:=bb 1 _ rfl;have h2:=bb 2 _ rfl;revert h0 h1 h2;exact aaF.o):p:=e (ah h)
def bw2(e:Xf q->p:=by intro aaF;have gJ:Hid (aK (pb+1) pb W0 w5):=aK.grown ((qj.o.trans (gH.o.mono UX)).trans (aK.of_below (ai (aj w4) (YI #[d.kind,bs d.name,YG rA rn rc,YG nA n2 nc,d.by_,YH d.always] 82)) (bQ UX oL) YQ)) yx.o bE (by have:=RV.o;omega);have Hj:=mp.o.cells.1;have AF:=mp.o.cells.2.2.1;revert gJ Hj AF;exact aaF.o):p:=e (ah h)
def P7(e:Xf q->p:=by intro aaF;have An:=ah SP;have HP:=ah (λW=>ao1 W);have HG:=ah hG;have yu:=ah (ap5 s hs);have HK:=ah hk;revert An HP HG yu HK;exact aaF.o):p:=e (ah h)
def az4(e:Xf q->p:=by intro aaF;have xI:=aC Nn.o ee.o;have y0:=ap (o:=0) xI rfl;have y2:=ap (o:=2) xI rfl;have QG:w8.cell? (sb so WY)=WX (Xp (bs s0)):=((ak uR.o ee.o).cell (p:=sb so WY) nw).trans Js.o;have QH:w8.cell? (sb (so+1) WY)=WX (Xp (bs s1)):=((ak uR.o ee.o).cell (p:=sb (so+1) WY) nw).trans Jt.o;revert xI y0 y2 QG QH;exact aaF.o):p:=e (ah h)
def P9(e:Xf q->p:=by intro aaF;have f0:=fr 0;have f1:=fr 1;have f2:=fr 2;have f3:=fr 3;have f4:=fr 4;have f5:=fr 5;have f6:=fr 6;have f7:=fr 7;have f8:=fr 8;have f9:=fr 9;revert f0 f1 f2 f3 f4 f5 f6 f7 f8 f9;exact aaF.o):p:=e (ah h)
def QO(e:Xf q->p:=by intro aaF;have th:=aC Ap.o bf;have qr:=ap (o:=1) th rfl;have pr:=ap (o:=2) th rfl;have pu:=ap (o:=3) th rfl;have oW:=ah (ak tI.o bf);have Aq:=ah th;have N9:=kc bf wN;revert th qr pr pu oW Aq N9;exact aaF.o):p:=e (ah h)
def PF(e:Xf q->p:=by intro aaF;have gv:=aC bm3.o ay;obtain⟨e0,e1,e2,e3,e4,e5,e6,e7,e8,e9,dL⟩:=eR gv;have aZ:=blk_lt gv;have bk:=ah (ak (ai (aj w) _) ay);have iF:=ah gv;revert gv e0 e1 e2 e3 e4 e5 e6 e7 e8 e9 dL aZ bk iF;exact aaF.o):p:=e (ah h)
def ZO(e:Xf q->p:=by intro aaF;have e1:=(bm.o.cell (p:=⟨b,o+k*3+1,WY⟩) hb).trans (bb 1 _ rfl);have e2:=(bm.o.cell (p:=⟨b,o+k*3+2,WY⟩) hb).trans (bb 2 _ rfl);revert e1 e2;exact aaF.o):p:=e (ah h)
def WT(e:Xf q->p:=by intro aaF;have kS:=ah (λW=>bc9 W);have HF:=ah hf;have yh:=ah lA;have mh:=ah (λW(hW:Below w w W)=>Za d.name W (hG.step hW));revert kS HF yh mh;exact aaF.o):p:=e (ah h)
def Zy(e:Xf q->p:=by intro aaF;have f1:w3.frozen? (rb 6 WY)=false:=cK (nf (aC (aC pk.o bB.o) (ai (aj _) _)) bE (λj hj e=>iO B8)) 6;revert f1;exact aaF.o):p:=e (ah h)
def av7(e:Xf q->p:=by intro aaF;have HO:Hid (fF m=(aD (m.sites.length:Nat) 1 4&&WZ (m.feeds.length<=16)&&WZ (m.racks.length<=16)&&aD (m.machs.length:Nat) 1 16&&WZ (m.links.length<=12)&&dZ (jl m) [] m.racks&&dZ (ur m) [] m.machs&&dZ (jm m) [] m.links)):=rfl;revert HO;exact aaF.o):p:=e (ah h)
def gs6(e:Xf q->p:=by intro aaF;have yp:=ah (BO.o.trans (oF.mono iP));have ck6:=bQ iP oF.size;have cw7:=ah (HJr.o.later oF);have fP:=ah (λW(h:Below Wx Wx W)=>(Xi (eR (aC (aC re.o oF) h)) (Xi (U9 (aC Bg h)) (Xi (kc h (kc oF ej)) (kc h (kc oF ei))))));revert yp ck6 cw7 fP;exact aaF.o):p:=e (ah h)
def Pv(e:Xf q->p:=by intro aaF;have ba:=ak cA au;have iA:=aC (aC (cN w _) ay) au;have HB:=ah iA;have bh:=blk_lt iA;revert ba iA HB bh;exact aaF.o):p:=e (ah h)
def CU(e:Xf q->p:=by intro aaF;have r1:w1.heap[pa]?=_:=(ay.block _ az).trans HB.o;revert r1;exact aaF.o):p:=e (ah h)
def Zr(e:Xf q->p:=by intro aaF;have HR:=ah (Zp iW.o az (by rw[HF.o]<;>rfl));have fP:=ah (λW(h:Below wr wr W)=>Lh (aC fN h));revert HR fP;exact aaF.o):p:=e (ah h)
def br9(e:Xf q->p:=by intro aaF;have BW:=ah ((oG.block rt (blk_lt Gs.o) bP).trans Gs.o);have ee:Hid (Below w2 w2 w8):=ah (cI.o.trans ⟨oG.os,oG.tape,oG.output,oG.size,λi hi=>oG.block i (by have:=cI.o.size;omega) bP⟩);revert BW ee;exact aaF.o):p:=e (ah h)
def WS(e:Xf q->p:=by intro aaF;have bh:w.heap.size<w2:=bt aZ ba.size;have iC:¬w.heap.size=w2.heap.size:=YN;have iU:=ah au.block;revert bh iC iU;exact aaF.o):p:=e (ah h)
def PA(e:Xf q->p:=by intro aaF;have G:=ah (Xi g1 (Xi g2 (Xi g3 (Xi g4 (Xi d_ hq)))));revert G;exact aaF.o):p:=e (ah h)
def bh0(e:Xf q->p:=by intro aaF;have mM:w5.heap[rt]?=WX (YI #[YG WY 0 0,YG WY 0 0,YG WY 0 0,YG WY 0 0,YG WY 0 0,YG WY 0 0,Xo XO 0,Xo XO 0,Xo XO 0,Xo XO 0,YG WY 0 0] 29 (0,0)):=aC pi.o bR.o;revert mM;exact aaF.o):p:=e (ah h)
def bw0(e:Xf q->p:=by intro aaF;have Dv:=ah (Xi Eo vK);have yx:=ah ((Db wK.o gH.o (am _) (Nat.lt_succ_self _)).alloc (YI #[d.kind,bs d.name,YG rA rn rc,YG nA n2 nc,d.by_,YH d.always] 82));have oL:=gH.o.size;revert Dv yx oL;exact aaF.o):p:=e (ah h)
def PJ(e:Xf q->p:=by intro aaF;have q0:=ap (o:=0) cO rfl;have aZ:=blk_lt cO;have cE:¬w.heap.size=W1.heap.size:=YN;revert q0 aZ cE;exact aaF.o):p:=e (ah h)
def LP(e:Xf q->p:=by intro aaF;have hz:s.size<=9223372036854775807:=YN;have eN:=aw7 bX s;revert hz eN;exact aaF.o):p:=e (ah h)
def aw4(e:Xf q->p:=by intro aaF;have aN:=ai GW (YI #[t.kind,bs t.text,t.n,t.pos] 109);have ht:=aC (cN w1 (YI #[t.kind,bs t.text,t.n,t.pos] 109)) au;have aQ:=ak aN au;revert aN ht aQ;exact aaF.o):p:=e (ah h)
def bq3(e:Xf q->p:=by intro aaF;have fP:=ah (λW(h:Below wr wr W)=>Xi (eR (aC fN h)) (Xi (kc h e0) (Xi (kc h e1) (Xi (kc h e2) (Xi (kc h e3) (Xi (kc h e4) (Xi (kc h e5) (kc h e6))))))));revert fP;exact aaF.o):p:=e (ah h)
def bt6(e:Xf q->p:=by intro aaF;have eL:=aC JH.o aQ;have nj:=aC JF.o aQ;have ry:=ap (o:=1) eL rfl;have pp:=ap (o:=2) eL rfl;have pq:=ap (o:=3) eL rfl;have rz:=ap (o:=5) eL rfl;have wN:=ap (o:=1) nj rfl;have GG:=ap (o:=6) nj rfl;have tI:=ah (ak Ac.o aQ);have Ap:=ah eL;revert eL nj ry pp pq rz wN GG tI Ap;exact aaF.o):p:=e (ah h)
def Py(e:Xf q->p:=by intro aaF;have HP:=ah h;have HN:=ah (λW(hW:bV W pb B M p)=>FE pb B M p W hW);revert HP HN;exact aaF.o):p:=e (ah h)
def am5(e:Xf q->p:=by intro aaF;have h4:=aL.word aF h3;have h5:aL (PS.part _ .number) _ _:=aL.number h4;have h6:=aL.word aF h5;have h7:aL (PS.part _ .number) _ _:=aL.number h6;have h8:=aL.word aF h7;have h9:aL (PS.part _ .number) _ _:=aL.number h8;revert h4 h5 h6 h7 h8 h9;exact aaF.o):p:=e (ah h)
def Pp(e:Xf q->p:=by intro aaF;have i3:IntKind.i64.wrap ((k:Int)+1)=(k:Int)+1:=XK _ YN;revert i3;exact aaF.o):p:=e (ah h)
def YR(e:Xf q->p:=by intro aaF;have bB:Hid (Below W1 W1 w4):=ak (a_ (aj W1)) aQ;have lM:=ah ho;have Jk:=ah (eH i'.o bB.o);revert bB lM Jk;exact aaF.o):p:=e (ah h)
def Mq(e:Xf q->p:=by intro aaF;have HU:=ah (KU (fm9 hu) (bQ up hS.size));revert HU;exact aaF.o):p:=e (ah h)
def gs7(e:Xf q->p:=by intro aaF;have RH:=ah (eH RH.o (ai (aj _) (YI #[Xo .i64 (cq:Int)] 3)));have cz3:=ah (Hs hS (Wx+1) (w.heap.size+1) ck6 #[Xo .i64 (cq:Int)] 1 3 YQ pm rfl);revert RH cz3;exact aaF.o):p:=e (ah h)
def bw1(e:Xf q->p:=by intro aaF;have wU:=((DL.o.kp gH.o).kp (aK.of_below (pb:=pb) (ai (aj w4) (YI #[d.kind,bs d.name,YG rA rn rc,YG nA n2 nc,d.by_,YH d.always] 82)) (am _) YQ));revert wU;exact aaF.o):p:=e (ah h)
def bv8(e:Xf q->p:=by intro aaF;have i1:IntKind.i64.wrap ((n:Int) - 1)=(n:Int) - 1:=XK _ YN;have i2:((n:Int) - 1).toNat=n - 1:=YN;have i3:(0:Int)<=(n:Int) - 1:=YN;have i4:(n:Int) - 1<(n:Int):=YN;revert i1 i2 i3 i4;exact aaF.o):p:=e (ah h)
def cq4(e:Xf q->p:=by intro aaF;have T0:IntKind.i64.wrap (j:Int)=j:=XK _ YN;revert T0;exact aaF.o):p:=e (ah h)
def br8(e:Xf q->p:=by intro aaF;have Jw:=ah EN;have lK:=ah (λW(h:Below w4 w4 W)=>fi7 (YG dA dn dc) ds W (HG.o.below ((aU.o).trans ((ak bB.o h).mono lH)) J2) (EN.to pC.ab h (am _) h.size) sV);revert Jw lK;exact aaF.o):p:=e (ah h)
def Lt(e:Xf q->p:=by intro aaF;have dh:(0:Int)<=k:=YN;have bF:(k:Int)<n:=YN;revert dh bF;exact aaF.o):p:=e (ah h)
def Zd(e:Xf q->p:=by intro aaF;have HU:=ah (eH HU.o (ai (aj _) uL));have HP:=ah (Mp hS (w5.heap.size) uL YQ);revert HU HP;exact aaF.o):p:=e (ah h)
def be9(e:Xf q->p:=by intro aaF;have BL:=ah N6;have rq:=ah (sZ.blk RX.o (blk_lt RX.o) YN);have BS:=ah (oT tP.o F7.o aF sZ);have ee:=ah (f'.o.trans ((sZ.below YN).mono YN));have Cy:=sZ.size;revert BL rq BS ee Cy;exact aaF.o):p:=e (ah h)
def bt7(e:Xf q->p:=by intro aaF;have xK:=ed0 yA.o (ed2 HK.o) (λx hx=>yu.o.2 x (X8 hx)) te Hl;have Cw:=ap6 yA.o;have VC:=V4 y _ _ w3 xK (by have:=Ag.o;omega) (by have:=Ag.o;omega);revert xK Cw VC;exact aaF.o):p:=e (ah h)
def O8(e:Xf q->p:=by intro aaF;have h1:aL (PS.part _ .name) _ _:=aL.name hn hq;have h2:=aL.word aF h1;revert h1 h2;exact aaF.o):p:=e (ah h)
def L7(e:Xf q->p:=by
 intro aaF;obtain⟨t,q,ht,h1,h2,h3,h4⟩:=h.cons;have hh:p.head=t:=by simp[PS.head,ht]
 revert t q ht h1 h2 h3 h4 hh;exact aaF.o):p:=e (ah h)
def O9(e:Xf q->p:=by intro aaF;have h1:aL (PS.part _ .ref) _ _:=aL.ref lf hq;have h2:=aL.word aF h1;revert h1 h2;exact aaF.o):p:=e (ah h)
def Is(e:Xf q->p:=by intro aaF;have fS:=aC hr aY;have c0:=ap (o:=0) (aC hm aY) rfl;revert fS c0;exact aaF.o):p:=e (ah h)
def V2(e:Xf q->p:=by intro aaF;have bk:=ah (ak (ai (aj w) _) ay);have yq:=ah ((jP.new w 45 x (YG Am nm cm) (YG As ns cs)).below ay YQ);revert bk yq;exact aaF.o):p:=e (ah h)
def YP(e:Xf q->p:=by intro aaF;have i':=ah (eH bN aY);have pj:Hid (∀W,Below W1 W1 W->_):=λW hW=>pj.o W (ak aY hW);revert i' pj;exact aaF.o):p:=e (ah h)
def Lo(e:Xf q->p:=by intro aaF;have jh:=aC vj.o hB;have mH:=aC RZ.o hB;revert jh mH;exact aaF.o):p:=e (ah h)
def gs5(e:Xf q->p:=by intro aaF;have x0:wr.cell? ⟨mb,mo+k*3,WY⟩=WX (Xp (bs nm)):=(di.o.cell (p:=⟨mb,mo+k*3,WY⟩) nX).trans (jY 0 _ rfl);have x1:=kc di.o (jY 1 _ rfl);have x2:=kc di.o (jY 2 _ rfl);revert x0 x1 x2;exact aaF.o):p:=e (ah h)
def aO(e:Xf q->p:=by
 intro aaF;try simp only[Act.put,wu,ww,wv]
 exact aaF.o):p:=e (ah h)
def zH(e:Xf q->p:=by intro aaF;refine hK.o _ _ (by refine(fun(hb:Below wr wr _)=>⟨kc hb c0,kc hb c2,kc hb cs,re.o.later hb,hb⟩) ?_;first|exact a_ (ai (aj wr) _)|exact ai (a_ (aj wr)) _|exact cF (a_ (ai (aj wr) _)) (am _) _|exact cF (ai (a_ (aj wr)) _) (am _) _|exact cF (cF (a_ (ai (aj wr) _)) (am _) _) (am _) _|exact a_ (cF (cF (ai (aj wr) _) (am _) _) (am _) _)|exact a_ (ai (aj wr) _)) ?_;exact aaF.o):p:=e (ah h)
def zI(e:Xf q->p:=by intro aaF;refine gx (S:=λw'=>w'.cell? xb=WX (Xo XO d.kind)/\w'.cell? (xb 1 WY)=WX (Xp (bs d.name))/\w'.cell? (xb 2 WY)=WX (YG RA rn rc)/\w'.cell? (xb 3 WY)=WX (YG NA nn nc)/\w'.cell? (xb 4 WY)=WX (Xo XO d.by_)/\w'.cell? (xb 5 WY)=WX (YH d.always)) 6 7 (by exact⟨B9,ry,pp,pq,B_,rz⟩) ?_;exact aaF.o):p:=e (ah h)
def an2(e:Xf q->p:=by intro aaF;refine yR (S:=λw'=>w'.cell? fb=WX (.func (.func go) #[] #[])/\w'.cell? (fb 1 WY)=WX (.func (.func gn) #[] #[])/\w'.cell? w=WX (YG Sa m.sites.length sc)/\w'.cell? (w 1 WY)=WX (YG Fa m.feeds.length fc)/\w'.cell? (w 2 WY)=WX (YG Ra m.racks.length rc)/\w'.cell? (w 3 WY)=WX (YG Ma m.machs.length mc)/\w'.cell? (w 4 WY)=WX (YG La m.links.length lc)/\w'.cell? (w 5 WY)=WX (YG Ia m.items.length ic)/\w'.cell? (w 6 WY)=WX (Xo XO m.dark)/\w'.cell? (w 7 WY)=WX (Xo XO m.slots)/\w'.cell? (w 8 WY)=WX (Xo XO m.reserve)/\w'.cell? (w 9 WY)=WX (Xo XO m.failures)/\w'.cell? (w 10 WY)=WX (YG Ua m.rules.length uc)/\w'.cell? ⟨w+1,0,WY⟩=WX (Xo XO x.kind)/\w'.cell? ⟨w+1,1,WY⟩=WX (Xo XO x.item)/\w'.cell? ⟨w+1,2,WY⟩=WX (Xo XO x.other)/\w'.cell? ⟨w+1,3,WY⟩=WX (Xo XO x.n)/\w'.cell? ⟨w+1,4,WY⟩=WX (Xo XO x.by_)/\w'.cell? ⟨w+1,5,WY⟩=WX (YH x.always)/\w'.cell? ⟨w+1,6,WY⟩=WX (YG A n c)) 17 (by exact⟨DX,DY,Ss,St,Sv,Sw,Sy,Sz,SB,SD,SE,SF,Su,yL,vt,yM,yO,yP,yQ,SG⟩) ?_;exact aaF.o):p:=e (ah h)
def ba2(e:Xf q->p:=by intro aaF;refine hK.o _ _ (by exact⟨((ai (aj _) _).cell (p:=mb) (bK _ _ (hS.1))).trans (hS.1),((ai (aj _) _).cell (p:=rb 6 WY) (bK _ _ (hS.2.1))).trans (hS.2.1),((ai (aj _) _).cell (p:=pb) (bK _ _ (hS.2.2.1))).trans (hS.2.2.1),((ai (aj _) _).cell (p:=w) (bK _ _ (hS.2.2.2.1))).trans (hS.2.2.2.1),((ai (aj _) _).cell (p:=w 1 WY) (bK _ _ (hS.2.2.2.2.1))).trans (hS.2.2.2.2.1),((ai (aj _) _).cell (p:=w 2 WY) (bK _ _ (hS.2.2.2.2.2.1))).trans (hS.2.2.2.2.2.1),((ai (aj _) _).cell (p:=w 3 WY) (bK _ _ (hS.2.2.2.2.2.2.1))).trans (hS.2.2.2.2.2.2.1),((ai (aj _) _).cell (p:=w 4 WY) (bK _ _ (hS.2.2.2.2.2.2.2.1))).trans (hS.2.2.2.2.2.2.2.1),((ai (aj _) _).cell (p:=w 5 WY) (bK _ _ (hS.2.2.2.2.2.2.2.2))).trans (hS.2.2.2.2.2.2.2.2)⟩) ?_;exact aaF.o):p:=e (ah h)
def j'(e:Xf q->p:=by intro aaF;refine hK.o _ _ (by exact⟨kc (jH) x0,kc (jH) c2,jH⟩) ?_;exact aaF.o):p:=e (ah h)
def ba3(e:Xf q->p:=by intro aaF;refine hK.o _ _ (by exact⟨(e_ bE (bK _ _ (hS.1)) uk).trans (hS.1),(e_ bE (bK _ _ (hS.2.1)) iO).trans (hS.2.1),(e_ bE (bK _ _ (hS.2.2.1)) OD).trans (hS.2.2.1),(e_ bE (bK _ _ (hS.2.2.2.1)) fp).trans (hS.2.2.2.1),(e_ bE (bK _ _ (hS.2.2.2.2.1)) fp).trans (hS.2.2.2.2.1),(e_ bE (bK _ _ (hS.2.2.2.2.2.1)) fp).trans (hS.2.2.2.2.2.1),(e_ bE (bK _ _ (hS.2.2.2.2.2.2.1)) fp).trans (hS.2.2.2.2.2.2.1),(e_ bE (bK _ _ (hS.2.2.2.2.2.2.2.1)) fp).trans (hS.2.2.2.2.2.2.2.1),(e_ bE (bK _ _ (hS.2.2.2.2.2.2.2.2)) fp).trans (hS.2.2.2.2.2.2.2.2)⟩) ?_;exact aaF.o):p:=e (ah h)
def t6(e:Xf q->p:=by intro aaF;refine hK.o _ _ (by exact ak hS (ai (aj _) _)) ?_;exact aaF.o):p:=e (ah h)
def Mf(e:Xf q->p:=by intro aaF;refine gx (S:=λw'=>w'.cell? rb=WX (.map (WX Mb))/\w'.cell? (w 2 WY)=WX (YG (WX (sb so WY)) rn rc)/\w'.cell? ⟨sb,so+k,WY⟩=WX (Xp (bs s))/\dg ly w' Mb (j_ t)/\Below wr wr w') 16 16 (by exact⟨c0,c2,cs,re.o,a_ (aj wr)⟩) ?_;exact aaF.o):p:=e (ah h)
def zL(e:Xf q->p:=by intro aaF;refine hK.o _ _ (by exact⟨kc (cI.o) B9,kc (cI.o) ry,kc (cI.o) pp,kc (cI.o) pq,kc (cI.o) B_,kc (cI.o) rz⟩) ?_;exact aaF.o):p:=e (ah h)
def aq2(e:Xf q->p:=by intro aaF;refine fe (λW=>Below w w W/\W.heap[w.heap.size]?=WX (YI #[YG Sa m.sites.length sc,YG Fa m.feeds.length fc,YG Ra m.racks.length rc,YG Ma m.machs.length mc,YG La m.links.length lc,YG Ia m.items.length ic,m.dark,m.slots,m.reserve,m.failures,YG Ua m.rules.length uc] 29 (0,0))/\W.heap[w.heap.size+1]?=WX (YI #[x.kind,x.item,x.other,x.n,x.by_,YH x.always,YG A n c] 95 (0,0))) ⟨ai (ai (aj w) _) _,(sC w _ _ _ _).1,(sC w _ _ _ _).2⟩ ?_;exact aaF.o):p:=e (ah h)
def YS(e:Xf q->p:=by intro aaF;refine step_append_lies _ b_ _ _ _ b_ B 92 i0 _ 7 80 underlying26 hi cE aZ bh rfl YN _ _ _ b_ ((Jk.o).alloc _) ⟨_,0,WY⟩ 1 1 (xZ u (YG OA om oc)) b_ b_ (nJ rfl) (by simp[xZ,X4]) YN tV kV (by have:=bB.o.size;first|omega|(simp;omega)) _ rfl ?_;exact aaF.o):p:=e (ah h)
def ZS(e:Xf q->p:=by intro aaF;refine gx (S:=λw'=>w'.cell? (w 2 WY)=WX (YG Ra m.racks.length rc)/\w'.cell? (w 3 WY)=WX (YG (WX (b o WY)) m.machs.length mc)/\w'.cell? ⟨b,o+k*3+1,WY⟩=WX (Xo XO x.rack)/\w'.cell? ⟨b,o+k*3+2,WY⟩=WX (Xo XO x.cap)/\Below wr wr w') 21 21 (by exact⟨c2,c3,e1,e2,a_ (aj wr)⟩) ?_;exact aaF.o):p:=e (ah h)
def ZP(e:Xf q->p:=by intro aaF;refine gx (S:=λw'=>w'.cell? (w 2 WY)=WX (YG (WX (b o WY)) m.racks.length rc)/\w'.cell? (xb 1 WY)=WX (Xo XO x.site)/\w'.cell? (xb 2 WY)=WX (Xo XO x.feed)/\w'.cell? ⟨b,o+j*3+1,WY⟩=WX (Xo XO y.site)/\w'.cell? ⟨b,o+j*3+2,WY⟩=WX (Xo XO y.feed)) 20 20 (by exact⟨d2,DZ,D0,y1,y2⟩) ?_;exact aaF.o):p:=e (ah h)
def ZR(e:Xf q->p:=by intro aaF;refine gx (S:=λw'=>w'.cell? (w 4 WY)=WX (YG (WX (b o WY)) m.links.length lc)/\w'.cell? xb=WX (Xo XO x.a)/\w'.cell? (xb 1 WY)=WX (Xo XO x.b)/\w'.cell? ⟨b,o+j*3,WY⟩=WX (Xo XO y.a)/\w'.cell? ⟨b,o+j*3+1,WY⟩=WX (Xo XO y.b)) 20 20 (by exact⟨d2,DZ,D0,y1,y2⟩) ?_;exact aaF.o):p:=e (ah h)
def Zo(e:Xf q->p:=by intro aaF;refine(fq5 (bs c) _ 12 _ _ _ b t cs _ (HG.o.step (ai (ai aU.o _) _)) qq DW DW YQ GE qq DW DW dF ((Below.heap_alloc _ _ _ DW).trans ((Below.heap_alloc _ _ _ YN).trans Q0.o)) (by rw[oY.o];decide)).mono ?_;exact aaF.o):p:=e (ah h)
def wn(e:Xf q->p:=by intro aaF;refine hK.o _ _ (by exact⟨kc (kb) x0,kc (kb) c2,kb⟩) ?_;exact aaF.o):p:=e (ah h)
def il(e:Xf q->p:=by intro aaF;refine hK.o _ _ ?_;exact aaF.o):p:=e (ah h)
def bb6(e:Xf q->p:=by intro aaF;refine hK.o _ _ (by refine(fun(hb:Below w3 w3 _)=>⟨kc hb y0,kc hb y4,kc hb y5,kc hb Y4,hb⟩) ?_;first|exact a_ (ai (aj w3) _)|exact ai (a_ (aj w3)) _|(repeat' first|with_reducible exact aj w3|with_reducible refine a_ ?_ |with_reducible refine cF ?_ (by first|omega|(simp;done)) _|with_reducible refine ai ?_ _)) ?_;exact aaF.o):p:=e (ah h)
def Wc(e:Xf q->p:=by intro aaF;refine VX (λW=>Below wc wc W/\eZ W wc (bW k) aM aM/\W.cell? (pb 4 WY)=WX (.func (.func gr) #[] #[])/\wc.heap.size<W) ⟨ai (aj wc) _,ed1 wc k _ gw.o,by go_simp,by simp⟩ ?_;exact aaF.o):p:=e (ah h)
def at7(e:Xf q->p:=by intro aaF;refine step_append_lies _ b_ _ _ _ b_ B 9 i0 _ 1 16 underlying22 hi cE aZ bh rfl YN _ _ _ b_ ((i'.o).alloc _) ⟨_,0,WY⟩ 1 1 [Xp (bs d.name)] b_ b_ (nJ rfl) yF YN tV kV kV _ rfl ?_;exact aaF.o):p:=e (ah h)
def WI(e:Xf q->p:=by intro aaF;refine fe (λW=>Below w w W/\W.heap[w.heap.size]?=WX (YI #[d.kind,bs d.name,YG RA rn rc,YG NA nn nc,d.by_,YH d.always] 82 (0,0))) ⟨ai (aj w) _,cN w _⟩ ?_;exact aaF.o):p:=e (ah h)
def Qx(e:Xf q->p:=by intro aaF;refine oR rfl (YL 42) (YM (Xo XO 13)) (YL 53) 193 (.inr rfl) 3 22 (.int XO) X7 Xj co _ _ rfl kf (13:Int) _ rfl rfl ?_;exact aaF.o):p:=e (ah h)
def Qy(e:Xf q->p:=by intro aaF;refine oR rfl (YL 42) (YM (Xo XO 6)) (YL 46) 193 (.inr rfl) 3 22 (.int XO) X7 Xj co _ _ rfl kf (6:Int) _ rfl rfl ?_;exact aaF.o):p:=e (ah h)
def Qz(e:Xf q->p:=by intro aaF;refine oR rfl (YL 42) (YM (Xo XO 5)) (YL 44) 193 (.inr rfl) 3 22 (.int XO) X7 Xj co _ _ rfl kf (5:Int) _ rfl rfl ?_;exact aaF.o):p:=e (ah h)
def az5(e:Xf q->p:=by intro aaF;refine gx (S:=λw'=>w'.cell? w=WX (Xo XO d.kind)/\w'.cell? (w 2 WY)=WX (YG (WX (sb so WY)) 2 rc)/\w'.cell? (sb so WY)=WX (Xp (bs s0))/\w'.cell? (sb (so+1) WY)=WX (Xp (bs s1))) 19 19 (by exact⟨y0,y2,QG,QH⟩) ?_;exact aaF.o):p:=e (ah h)
def V'(e:Xf q->p:=by intro aaF;refine bodyPost_ret (v:= .tuple #[YJ ((bW 0).cells aM aM),Xo XO 3]) (by simp[results,results10,go_sem,nd,aM,d0,d1,d2,d3,d4,d5,d6,d7,d8,d9];try rfl) rfl ?_;exact aaF.o):p:=e (ah h)
def Dg(e:Xf q->p:=by intro aaF;refine fe (λW=>Below W1 W1 W) (pA (aj W1) _) ?_;exact aaF.o):p:=e (ah h)
def bp8(e:Xf q->p:=by intro aaF;refine gx (S:=λw'=>w'.cell? (w 3 WY)=WX (YG Ma m.machs.length mc)/\w'.cell? ⟨ub,uo+k,WY⟩=WX (Xo XO x)/\w'.cell? ⟨ub,uo+(k - 1),WY⟩=WX (Xo XO y)/\Below wr wr w') 25 25 (by exact⟨c3,cs,cp,a_ (aj wr)⟩) ?_;exact aaF.o):p:=e (ah h)
def QA(e:Xf q->p:=by intro aaF;refine(sK.o _ wc YQ (ap (cN wc _) rfl) ((pe.o.below (ai (aj wc) _) (am _)).more YQ)).mono ?_;exact aaF.o):p:=e (ah h)
def at8(e:Xf q->p:=by intro aaF;refine hK.o _ _ (by exact⟨(e_ bE (bK _ _ (hS.1)) uk).trans (hS.1),(e_ bE (bK _ _ (hS.2.1)) iO).trans (hS.2.1),(e_ bE (bK _ _ (hS.2.2)) fp).trans (hS.2.2)⟩) ?_;exact aaF.o):p:=e (ah h)
def be8(e:Xf q->p:=by intro aaF;refine fe (fun(W:Xa)=>W.heap[db]?=WX (YI #[Xo XO (10+KD),Xp ⟨#[]⟩,(YG vA vn vc),YG WY 0 0,Y,YH AL] 82 (0,0))/\aK w7 db w7 W) ⟨(bc F7.o 2 _).trans rfl,(aK.refl w7 db w7).set (.inl rfl) _⟩ ?_;exact aaF.o):p:=e (ah h)
def pZ(e:Xf q->p:=by intro aaF;refine(fh5 _ _ _).mono ?_;exact aaF.o):p:=e (ah h)
def CB(e:Xf q->p:=by intro aaF;refine hK.o _ _ (by exact hS) ?_;exact aaF.o):p:=e (ah h)
def at9(e:Xf q->p:=by intro aaF;refine fe (λW=>Below w w W/\W.heap[w.heap.size]?=WX (YI #[d.kind,bs d.name,YG RA rn rc,YG (WX (qb qo WY)) (nn+1) nc,d.by_,YH d.always] 82 (0,0))) ⟨ai (aj w) _,cN w _⟩ ?_;exact aaF.o):p:=e (ah h)
def Fy(e:Xf q->p:=by intro aaF;refine gx (S:=Below wr wr) 34 34 (a_ (aj wr)) ?_;exact aaF.o):p:=e (ah h)
def We(e:Xf q->p:=by intro aaF;refine(tK.o.read (YG (WX (bl (ol+1) WY)) (n - 1) (c - 1)) ((cP s).drop 1) W.drew wc F'.o iU.o h8 DJ.o Dy.o Ag.o).mono ?_;exact aaF.o):p:=e (ah h)
def Zh(e:Xf q->p:=by intro aaF;refine gx (S:=λw'=>w'.cell? ⟨ub,uo+k,WY⟩=WX (Xp (bs s))/\Below wr wr w') 16 16 (by exact⟨cs,a_ (aj wr)⟩) ?_;exact aaF.o):p:=e (ah h)
def bc2(e:Xf q->p:=by intro aaF;refine Iw rfl (YL 54) (YL 56) 193 Xc rfl 3 22 (.int XO) X7 Xj co _ _ rfl (pE.of_eq (fe9 _ _)) (d.kind:Int) (YG WY 0 0) rfl (zeroValue22 _) _ (Iy _ _ _) ?_;exact aaF.o):p:=e (ah h)
def bc3(e:Xf q->p:=by intro aaF;refine Iw rfl (YL 54) (YL 56) 193 Xc rfl 3 22 (.int XO) X7 Xj co _ _ rfl (pE.of_eq (ff0 _ _)) (d.kind:Int) (YG WY 0 0) rfl (zeroValue22 _) _ (Iy _ _ _) ?_;exact aaF.o):p:=e (ah h)
def az0(e:Xf q->p:=by intro aaF;refine Iw rfl (YL 54) (YL 56) 193 Xc rfl 3 22 (.int XO) X7 Xj co _ _ rfl (pE.of_eq (ff1 _ _)) (d.kind:Int) (YG WY 0 0) rfl (zeroValue22 _) _ (Iy _ _ _) ?_;exact aaF.o):p:=e (ah h)
def az1(e:Xf q->p:=by intro aaF;refine Iw rfl (YL 54) (YL 56) 193 Xc rfl 3 22 (.int XO) X7 Xj co _ _ rfl (pE.of_eq (ff2 _ _)) (d.kind:Int) (YG WY 0 0) rfl (zeroValue22 _) _ (Iy _ _ _) ?_;exact aaF.o):p:=e (ah h)
def az2(e:Xf q->p:=by intro aaF;refine Iw rfl (YL 54) (YL 56) 193 Xc rfl 3 22 (.int XO) X7 Xj co _ _ rfl (pE.of_eq (ff3 _ _)) (d.kind:Int) (YG WY 0 0) rfl (zeroValue22 _) _ (Iy _ _ _) ?_;exact aaF.o):p:=e (ah h)
def az3(e:Xf q->p:=by intro aaF;refine Iw rfl (YL 54) (YL 56) 193 Xc rfl 3 22 (.int XO) X7 Xj co _ _ rfl (pE.of_eq (ff4 _ _)) (d.kind:Int) (YG WY 0 0) rfl (zeroValue22 _) _ (Iy _ _ _) ?_;exact aaF.o):p:=e (ah h)
def Iz(e:Xf q->p:=by intro aaF;refine hK.o _ _ (by exact⟨kc (nh) x0,kc (nh) c2,nh⟩) ?_;exact aaF.o):p:=e (ah h)
def bp6(e:Xf q->p:=by intro aaF;refine gx (S:=λw'=>w'.cell? (w 3 WY)=WX (YG Ma m.machs.length mc)/\w'.cell? ⟨ub,uo+k,WY⟩=WX (Xo XO x)/\Below wr wr w') 25 25 (by exact⟨c3,cs,a_ (aj wr)⟩) ?_;exact aaF.o):p:=e (ah h)
def ad3(e:Xf q->p:=by intro aaF;refine(Po (aJ l 2) ob 3 43 #[Xo XO 2,Xp (aJ l 1),Xo XO 0,Xo XO 0] _ (HG.o.step bR.o) (sJ.o _ (Bo sR)) (by have:=HG.o.size;omega) mj.o YQ).mono ?_;exact aaF.o):p:=e (ah h)
def Wg(e:Xf q->p:=by intro aaF;refine(tK.o.read (YG (WX (bl ol WY)) 0 0) ((cP s).drop 1) W.drew wc F'.o iU.o h8 DJ.o Dy.o Ag.o).mono ?_;exact aaF.o):p:=e (ah h)
def zJ(e:Xf q->p:=by intro aaF;refine(rh.o _ (a_ (aj w5))).mono ?_;exact aaF.o):p:=e (ah h)
def ba1(e:Xf q->p:=by intro aaF;refine hK.o _ _ (by exact⟨kc (bB.o) c0,kc (bB.o) c1,kc (bB.o) c2,kc (bB.o) x0,kc (bB.o) x1,kc (bB.o) x2,kc (bB.o) x3,kc (bB.o) x4,kc (bB.o) x5⟩) ?_;exact aaF.o):p:=e (ah h)
def hn3(e:Xf q->p:=by intro aaF;refine hK.o _ _ (by exact ak hS (ai (aj _) _)) ?_;exact aaF.o):p:=e (ah h)
def Mi(e:Xf q->p:=by intro aaF;refine fi6 b_ b_ b_ b_ sM.o ?_;exact aaF.o):p:=e (ah h)
def ap0(e:Xf q->p:=by intro aaF;refine(HU.o w1 ⟨word,kind,gu,gf,caps,gr,gt⟩ _ (w1+1) w tK.o (ef4 w1 _ k _ HK.o) (yq.o.below (ai (ai (aj w1) _) _) aZ) YN).mono ?_;exact aaF.o):p:=e (ah h)
def zN(e:Xf q->p:=by intro aaF;refine(jp.o W1 bo.o).mono ?_;exact aaF.o):p:=e (ah h)
def bt8(e:Xf q->p:=by intro aaF;refine oR rfl (YL 42) (YM (Xo XO 13)) (YL 53) 193 (.inr rfl) 3 22 (.int XO) X7 Xj co _ _ rfl ke (13:Int) _ rfl rfl ?_;exact aaF.o):p:=e (ah h)
def bt9(e:Xf q->p:=by intro aaF;refine oR rfl (YL 42) (YM (Xo XO 6)) (YL 46) 193 (.inr rfl) 3 22 (.int XO) X7 Xj co _ _ rfl ke (6:Int) _ rfl rfl ?_;exact aaF.o):p:=e (ah h)
def bu0(e:Xf q->p:=by intro aaF;refine oR rfl (YL 42) (YM (Xo XO 5)) (YL 44) 193 (.inr rfl) 3 22 (.int XO) X7 Xj co _ _ rfl ke (5:Int) _ rfl rfl ?_;exact aaF.o):p:=e (ah h)
def LW(e:Xf q->p:=by intro aaF;refine(HW.o _ gT kV).mono ?_;exact aaF.o):p:=e (ah h)
def ax6(e:Xf q->p:=by intro aaF;refine bodyPost_ret (v:= .tuple #[ja 0 [] 0 0,x]) NC rfl ?_;exact aaF.o):p:=e (ah h)
def MH(e:Xf q->p:=by intro aaF;refine ba9 ho hg hd hp hn aF hF eB (aj w) ?_;exact aaF.o):p:=e (ah h)
def Qu(e:Xf q->p:=by intro aaF;refine ba9 ho hg hd hp hn hs.2 hF eB (ai (aj w) _) ?_;exact aaF.o):p:=e (ah h)
def IX(h:p:=by
 refine j' λhS=>?_;clear hK;refine aO ?_;refine iw 19 9 ?_;refine gA ?_;go_wp2_with fail
 go_meet;exact⟨HL.o _ _ (by first|exact jH|exact a_ jH),by first|exact jH|exact a_ jH⟩):p:=h
def bc1(h:p:=by
 iterate 2 refine cL 21 42 ?_
 iterate 2 refine cL 22 41 ?_
 iterate 7 refine cL 23 40 ?_
 iterate 2 refine cL 25 39 ?_
 refine bC 0 λK hK=>?_;refine bb4 (enc:=iK) rfl 193 rfl ?_;intro w0 t7 JZ;have ju:Below wr wr w0:=ak (a_ (aj wr)) JZ;clear JZ;refine hK.o _ _ (by exact⟨kc (ju) x0,kc (ju) c2,ju⟩) (λhS=>?_);clear hK;refine aO ?_;refine qw (rs:=[3,6,14]) aI YQ ?_;refine dT.cons1 rfl (λK hK=>?_) (dT.cons1 rfl (λK hK=>?_) (dT.cons1 rfl (λK hK=>?_) (dT.nil)))
 .refine oR rfl (.tmp 42) (.const (.int .i64 5)) (.tmp 44) 193 (.inr rfl) 3 22 (.int .i64) underlying193 underlying3 co _ _ rfl t7 (5:Int) _ rfl rfl ?_;intro wa ke pJ;have nh:=pJ.1 _ _ ju (am _);clear pJ t7;refine Iz λhS=>?_;clear hK;refine aO ?_;refine qw (rs:=[6,14]) (by kernel_rfl) (by simp) ?_;refine dT.cons1 rfl (λK hK=>?_) (dT.cons1 rfl (λK hK=>?_) (dT.nil))
  .refine bt9 ?_;intro wb kf h_;have kb:=h_.1 _ _ nh (am _);clear h_ ke;refine wn λhS=>?_;clear hK;refine aO ?_;refine bC 14 λK hK=>?_;refine Qx ?_;intro wc pE ie;have jH:=ie.1 _ _ kb (am _);clear ie kf;refine j' λhS=>?_;clear hK;refine aO ?_;refine bC 15 λK hK=>?_;go_simp;refine j' λhS=>?_;clear hK;refine aO ?_;refine bC 18 λK hK=>?_;refine bc2 ?_;exact IX
  .refine bt8 ?_;intro wb kf h_;have kb:=h_.1 _ _ nh (am _);clear h_ ke;refine wn λhS=>?_;clear hK;refine aO ?_;refine bC 6 λK hK=>?_;refine Qy ?_;intro wc pE ie;have jH:=ie.1 _ _ kb (am _);clear ie kf;refine j' λhS=>?_;clear hK;refine aO ?_;refine bC 15 λK hK=>?_;go_simp;refine j' λhS=>?_;clear hK;refine aO ?_;refine bC 18 λK hK=>?_;refine bc3 ?_;exact IX
 .refine oR rfl (.tmp 42) (.const (.int .i64 6)) (.tmp 46) 193 (.inr rfl) 3 22 (.int .i64) underlying193 underlying3 co _ _ rfl t7 (6:Int) _ rfl rfl ?_;intro wa ke pJ;have nh:=pJ.1 _ _ ju (am _);clear pJ t7;refine Iz λhS=>?_;clear hK;refine aO ?_;refine qw (rs:=[3,14]) (by kernel_rfl) (by simp) ?_;refine dT.cons1 rfl (λK hK=>?_) (dT.cons1 rfl (λK hK=>?_) (dT.nil))
  .refine bu0 ?_;intro wb kf h_;have kb:=h_.1 _ _ nh (am _);clear h_ ke;refine wn λhS=>?_;clear hK;refine aO ?_;refine bC 14 λK hK=>?_;refine Qx ?_;intro wc pE ie;have jH:=ie.1 _ _ kb (am _);clear ie kf;refine j' λhS=>?_;clear hK;refine aO ?_;refine bC 15 λK hK=>?_;go_simp;refine j' λhS=>?_;clear hK;refine aO ?_;refine bC 18 λK hK=>?_;refine az0 ?_;exact IX
  .refine bt8 ?_;intro wb kf h_;have kb:=h_.1 _ _ nh (am _);clear h_ ke;refine wn λhS=>?_;clear hK;refine aO ?_;refine bC 3 λK hK=>?_;refine Qz ?_;intro wc pE ie;have jH:=ie.1 _ _ kb (am _);clear ie kf;refine j' λhS=>?_;clear hK;refine aO ?_;refine bC 15 λK hK=>?_;go_simp;refine j' λhS=>?_;clear hK;refine aO ?_;refine bC 18 λK hK=>?_;refine az1 ?_;exact IX
 .refine oR rfl (.tmp 42) (.const (.int .i64 13)) (.tmp 53) 193 (.inr rfl) 3 22 (.int .i64) underlying193 underlying3 co _ _ rfl t7 (13:Int) _ rfl rfl ?_;intro wa ke pJ;have nh:=pJ.1 _ _ ju (am _);clear pJ t7;refine Iz λhS=>?_;clear hK;refine aO ?_;refine qw (rs:=[3,6]) (by kernel_rfl) (by simp) ?_;refine dT.cons1 rfl (λK hK=>?_) (dT.cons1 rfl (λK hK=>?_) (dT.nil))
  .refine bu0 ?_;intro wb kf h_;have kb:=h_.1 _ _ nh (am _);clear h_ ke;refine wn λhS=>?_;clear hK;refine aO ?_;refine bC 6 λK hK=>?_;refine Qy ?_;intro wc pE ie;have jH:=ie.1 _ _ kb (am _);clear ie kf;refine j' λhS=>?_;clear hK;refine aO ?_;refine bC 15 λK hK=>?_;go_simp;refine j' λhS=>?_;clear hK;refine aO ?_;refine bC 18 λK hK=>?_;refine az2 ?_;exact IX
  .refine bt9 ?_;intro wb kf h_;have kb:=h_.1 _ _ nh (am _);clear h_ ke;refine wn λhS=>?_;clear hK;refine aO ?_;refine bC 3 λK hK=>?_;refine Qz ?_;intro wc pE ie;have jH:=ie.1 _ _ kb (am _);clear ie kf;refine j' λhS=>?_;clear hK;refine aO ?_;refine bC 15 λK hK=>?_;go_simp;refine j' λhS=>?_;clear hK;refine aO ?_;refine bC 18 λK hK=>?_;refine az3 ?_;exact IX):p:=h
def P2(h:p:=by
 go_enter func167,ntmps167;go_wp2_with first
  |(refine ea rfl (YL 7) (YM (Xo XO 0)) (YL 8) 258 (.inr rfl) 3 36 (.int XO) underlying258 Xj co (w+1+1) (λ_=>WY) rfl (mR.o _ _) 0 (.func (.func 255) #[] #[aq (w+1)]) rfl rfl ?_;intro w1 jw ep)
  |(refine ea rfl (YL 7) (YM (Xo XO 1)) (YL 9) 258 (.inr rfl) 3 36 (.int XO) underlying258 Xj co (w+1+1) _ rfl jw 1 (.func (.func 256) #[] #[aq (w+1)]) rfl rfl ?_;intro w2 jx gO)
  |(refine ea rfl (YL 7) (YM (Xo XO 2)) (YL 10) 258 (.inr rfl) 3 36 (.int XO) underlying258 Xj co (w+1+1) _ rfl jx 2 (.func (.func 257) #[] #[aq (w+1)]) rfl rfl ?_;intro w3 jy gP;refine as7 λnz HX te kQ a1=>?_;have Gh:=ah te;have qp:=ah kQ;have rd:=ah jy;clear jw ep jx gO jy gP te kQ)
  |(at_lookup;refine Bz rfl (.tmp 12) (.tmp 14) 258 false rfl 3 36 (.int .i64) underlying258 underlying3 co (w+1+1) _ rfl rd.o x.kind .nilFunc rfl (zeroValue36 _) ?_
    rw[show aX (aX (aX (λ_=>WY) 0 (Value.func (.func 255) #[] #[aq (w+1)])) 1 (.func (.func 256) #[] #[aq (w+1)])) 2 (.func (.func 257) #[] #[aq (w+1)]) x.kind=WX (.func (.func g) #[] #[YK (WX ⟨w+1,0,WY⟩)])from HF.o];simp only[Option.getD_some,XC,if_false])
  |(refine(HG.o _ nz.o qp.o).m ?_;rintro e w4 ⟨rfl,aQ⟩;refine as8 λbB nW qE e0 e1 e2 e3 e4 e5 e6 e7 e8 e9 dL a6 wL=>?_;clear aQ nW qE)
  |(go_at_call 258;refine(HM.o _ bB.o).m ?_;rintro e w5 ⟨rfl,bf⟩;have bR:=ah (ak bB.o bf);have mP:=aC wL.o bf;have a3:=ap (o:=3) mP rfl;have a4:=ap (o:=4) mP rfl;have a5:=ap (o:=5) mP rfl;clear bf mP)
  |(go_at_call_of 162 (Xo XO x.load);refine(sN.o _).m ?_;rintro e w6 ⟨rfl,rfl⟩)
  |(go_at_call_of 162 (Xo XO x.size);refine(sO.o _).m ?_;rintro e w7 ⟨rfl,rfl⟩)
  |(go_at_call_of 162 (Xo XO x.share);refine(vg.o _).m ?_;rintro e w8 ⟨rfl,rfl⟩)
 go_ret;exact⟨by simp,bR.o⟩):p:=h
def uq(h:p:=by
 go_wp2_with first
  |(go_at_call 123;refine pZ ?_;rintro e w3 ⟨rfl,hw⟩;obtain rfl:=hw.symm;first|rw[dK.o]|rw[fh.o])
  |(go_at_call 124;refine(Fw _ _ _ _).m ?_;rintro e w3 ⟨rfl,hw⟩;obtain rfl:=hw.symm;first|rw[sH.o]|rw[BM.o]|rw[HE6.o])
 all_goals
  go_ret;exact⟨cd R3,bo.o⟩):p:=h
def bu1(h:p:=by exact⟨by repeat' first|with_reducible exact hB|with_reducible refine cF ?_ Az _|with_reducible refine ai ?_ _,rfl⟩):p:=h
def ax5(h:p:=by
 refine fi 11 λK hK=>?_;go_simp;refine(P' _).m ?_;rintro e w3 ⟨g3,c3,rfl,nO,aN⟩;try go_simp
 refine hK _ _ ?_;clear hK K;refine aO ?_;refine fi 12 λK hK=>?_;go_simp;refine(YT _).m ?_;rintro e w4 ⟨g4,c4,rfl,Cd,aQ⟩;try go_simp
 refine hK _ _ ?_;clear hK K;refine aO ?_;refine fi 13 λK hK=>?_;go_simp;refine hK _ _ ?_;clear hK K;refine aO ?_;have hS:=ax0 w4 _ _ _ _ (nO.later aQ) Cd;refine fi 14 λK hK=>?_;go_simp;refine(YU _ _ _ hS).m ?_;rintro e w5 ⟨g5,c5,rfl,Ce,bf⟩;try go_simp
 refine hK _ _ ?_;clear hK K;refine aO ?_;refine fi 15 λK hK=>?_;go_simp;refine(HQ.o w5 _ (Ce.congr aw6)).m ?_;rintro e w6 ⟨rfl,bJ⟩;try go_simp
 refine hK _ _ ?_;clear hK K;refine aO ?_;iterate 2 refine iT 18 11 ?_
 refine vz ?_;have AH:=ak (ak (ai (ak (ak (a_ ba) aN) aQ) _) bf) bJ;have iA:=aC (jO HB.o (ak (ai (ak (ak (a_ (aj w2)) aN) aQ) _) bf) bh) bJ;refine Qa λc0 wO tX wP f0 f1 f2 f3=>?_;have rZ:=blk_lt iA;have cI:=ah iA;clear iA aN aQ bf bJ hS nO Cd Ce ba HB HR HQ;go_wp2_with fail
 refine fe (λW=>W.heap[w6.heap.size]?=WX (YI #[Xo XO 3,Xp (s.extract 0 n),Xo XO 0,Xo XO 0] 109 (0,0))/\W.heap[w.heap.size]?=WX (YI #[Xo XO 0,Xp ⟨#[]⟩,Xo XO 0,Xo XO 0] 109 (0,0))/\
  (∀j,j<n->W.cell? ⟨w6+1,j,WY⟩=WX (.int .u8 (t.getD j 0).toNat))/\Below w w W) ?_ ?_
 .refine⟨?_,?_,λj hj=>?_,?_⟩
  .rw[Lib.bytesWorld_at_old _ _ _ _ YQ];exact cN w6 _
  .rw[Lib.bytesWorld_at_old _ _ _ _ bP];exact jO cI.o (ai (aj w6) _) rZ
  .have:=Lib.bytesWorld_cell (w6.alloc (YI #[Xo XO 3,Xp (s.extract 0 n),Xo XO 0,Xo XO 0] 109)) 5 (s.extract 0 n) j yH;rw[HX.o,eS]at this;rw[HX.o];simpa using this
  .exact el3 (ai AH _)
 intro W0 Kd;have HW:=ah Kd;have aV:¬w6.heap.size=w.heap.size:=YN;have gQ:¬w.heap.size=w6.heap.size:=YN;have gk7:¬w6.heap.size+1=w6.heap.size:=YN;clear Kd c0 wO tX wP f0 f1 f2 f3 kc AH cI;go_loopw [38] (λi wr=>∃k a:Nat,k<=n/\i=Xo XO k/\lR 0 t=lR a (t.drop k)/\a<=1048576/\wr.heap[w6.heap.size]?=WX (YI #[Xo XO 3,Xp (s.extract 0 n),a,Xo XO 0] 109 (0,0))/\
  wr.heap[w.heap.size]?=WX (YI #[Xo XO 0,Xp ⟨#[]⟩,Xo XO 0,Xo XO 0] 109 (0,0))/\(∀j,j<n->wr.cell? ⟨w6+1,j,WY⟩=WX (.int .u8 (t.getD j 0).toNat))/\Below w w wr) (λi _=>n - (Xw i).toNat)
 case atStart=>exact⟨0,0,cb _,rfl,rfl,by omega,HW.o.1,HW.o.2.1,HW.o.2.2.1,HW.o.2.2.2⟩
 case round=>
  obtain⟨k,a,hk,rfl,hv,ha,jg,eA,dR,hB⟩:=hrel;have EV:=blk_lt jg;have iP:=blk_lt eA;have t0:=ap (o:=0) jg rfl;have t1:=ap (o:=1) jg rfl;have t2:=ap (o:=2) jg rfl;have t3:=ap (o:=3) jg rfl;have q2:=cK jg 2;have r0:=ap (o:=0) eA rfl;have r1:=ap (o:=1) eA rfl;have r2:=ap (o:=2) eA rfl;have r3:=ap (o:=3) eA rfl;obtain⟨p0,p1,p2,p3⟩:=zU eA;have cu2:=ah jg;have di:=ah eA;have MX:=ah dR;have HV:=ah hv;clear jg eA dR hv;by_cases az:k<n
  .refine Lt λdh bF=>?_;have N4:=MX.o k az;have ch5:=HD.o k az;have nx:lR a (t.drop k)=lR a ((t.getD k 0)::t.drop (k+1)):=by rw[List.drop_eq_getElem_cons (by rw[HL.o];exact az),List.getD_eq_getElem?_getD,List.getElem?_eq_getElem (by rw[HL.o];exact az)];rfl
   rw[ax1]at nx;have oh:=ah (HV.o.trans nx);obtain⟨x,hx⟩:∃x,(t.getD k 0).toNat=x:=⟨_,rfl⟩;rw[hx]at N4 ch5 oh;obtain⟨y,hy⟩:∃y,10*a+(x - 48)=y:=⟨_,rfl⟩;rw[hy]at oh;have fT:(48:Int)<=x:=YN;have dz:(x:Int)<=57:=YN;have jA:(0:Int)<=a:=YN;have ha8:(a:Int)<=1048576:=YN;have OH:(10:Int)*a+((x:Int) - 48)=y:=YN;have HY:=ah OH;clear nx ch5 hx OH;by_cases Ch:1048576<y
   .have gi7:(1048576:Int)<(10:Int)*a+((x:Int) - 48):=by have:=HY.o;omega
    have MQ:=ah Ch;clear Ch hy HY;go_wp2_with fail
    refine bodyPost_ret (v:= .tuple #[ja 0 [] 0 0,Xo XO 2]) (by simp[results,results216,go_sem,ja,bs,r0,r1,r2,r3,aV,gQ,EV,iP]) rfl ?_;rw[show FD t= .error 2 by unfold FD;rw[oh.o,if_pos MQ.o]];exact bu1
   .have gi7:¬(1048576:Int)<(10:Int)*a+((x:Int) - 48):=by have:=HY.o;omega
    have MQ:=ah Ch;clear Ch hy;go_wp2_with fail
    have hs:=oh.o;rw[if_neg MQ.o]at hs;refine⟨⟨k+1,y,by omega,by go_num,hs,by have:=MQ.o;omega,?_,uz di.o gQ,λj hj=>(ah6 gk7).trans (MX.o j hj),cF hB Az _⟩,by simp[Xw];omega⟩;have:=bc cu2.o 2 (Xo XO y);rw[<-HY.o]at this;simpa[<-HY.o]using this
  .go_wp2_with fail
   obtain rfl:k=n:=YN;refine bodyPost_ret (v:= .tuple #[ja 3 t a 0,Xo XO 0]) (by simp[results,results216,go_sem,ja,HX.o,t0,t1,t2,t3,r0,r1,r2,r3,aV,gQ,EV,iP]) rfl ?_;have hv:=HV.o;rw[List.drop_of_length_le (by rw[HL.o];omega)]at hv;rw[show FD t= .ok (3,t,a)by unfold FD;rw[hv];rfl];exact bu1):p:=h
def bu2(h:p:=by exact⟨w2.heap.size,⟨word,kind,gu,gf,caps,gr,gt⟩,rfl,ba.size,V1 bp1.o bl4.o (pW.alloc HX.o _),ai ba _,X1 w2 _⟩):p:=h
def Wa(h:p:=by
 rename_i J K' hJ g_;have HJ:=ah hJ;have tL:=ah g_;clear hJ g_;go_region_held3 (λw'=>w'.cell? (bl ol WY)=WX (Xp (aJ (cP s) 0))) (go_simp)
  (first
    |(go_at_call 29;refine(HP.o _).m ?_;rintro e w2 ⟨M,b,rfl,hL,hX,vO,hM,au⟩;have ba:Below w1 w1 w2:=by first|exact ak (a_ (aj w1)) au|exact ak (a_ (ai (aj w1) _)) au
      obtain⟨j,⟨word,kind,gu,gf,caps,gr,gt⟩,hx,hj,Co,lC⟩:=ec8 b HK.o;have jJ:(XB 75 (.map (WX M)) (Xp (aJ (cP s) 0)) Xe).run Xn w2= .ok (.tuple #[YJ #[bs word,kind,.func (.func gu) #[] #[],.func (.func gf) #[] caps,.func (.func gr) #[] #[],.func (.func gt) #[] #[]],YH Xe]) w2:=K7 underlying75 X0 hL Xe uB (V7 b) Co lC;have gE:∀o,(XB 75 (.map (WX M)) (Xp (aJ (cP s) 0)) Xe).run Xn (w2.alloc o)= .ok (.tuple #[YJ #[bs word,kind,.func (.func gu) #[] #[],.func (.func gf) #[] caps,.func (.func gr) #[] #[],.func (.func gt) #[] #[]],YH Xe]) (w2.alloc o):=λo=>K7 underlying75 X0 (hL.later (ai (aj w2) o)) Xe uB (V7 b) Co lC;have bp1:=ah hx;have bl4:=ah hj;have F9:=ah (show ∀i,i<10->¬b i=w1.heap.size from λi hi=>by have:=vO i hi;simp at this;omega);have iU:=ah au.block;clear Co lC hx hj;have dp:∀b o,b<w1.heap.size->w2.cell? ⟨b,o,WY⟩=w1.cell? ⟨b,o,WY⟩:=λb o h=>ba.cell (p:=⟨b,o,WY⟩) h;obtain⟨iB,AQ⟩:=nH au;try(have ij:w1.heap.size<w2:=by(have hq:=au.size;simp at hq;omega))
      have gg3:bl<w2:=bt ig ba.size;have gg4:¬bl=w2:=YN;have bh:w.heap.size<w2:=bt aZ ba.size;have HL:=ah hL;have HX:=ah hX;clear hL hX vO hM au))
 all_goals
  dsimp only[Exit.then];refine tL.o _ _ (Met.intro (HJ.o _ _ ?_))
  (repeat apply Exists.intro)
  refine⟨⟨rfl,?_⟩,rfl⟩
 .exact bu2
 .exact bu2
 .refine⟨w1.heap.size,⟨word,kind,gu,gf,caps,gr,gt⟩,rfl,am _,V1 bp1.o bl4.o ?_,?_,?_⟩
  .repeat' first|with_reducible exact HX.o|with_reducible refine pW.set ?_ F9.o _ _
  .repeat' first|with_reducible exact ba|with_reducible refine cF ?_ (am _) _
  .have h0:=(iU.o w1 YQ).trans (X1 w1 _);exact(jF (jF (jF (jF (jF (jF h0 _ _) _ _) _ _) _ _) _ _) _ _).trans rfl):p:=h
def Zu(h:p:=by
 go_wp2_with(first
  |(go_at_call 60;refine(I0.o _ bo.o).m ?_;rintro e w2 ⟨rfl,au⟩;have bD:=aC JG.o au;have g0:w2.cell? w=WX (YG Sa m.sites.length sc):=ap bD rfl;have g1:w2.cell? (w 1 WY)=WX (YG Fa m.feeds.length fc):=ap bD rfl;have g2:w2.cell? (w 2 WY)=WX (YG Ra m.racks.length rc):=ap bD rfl;have g3:w2.cell? (w 3 WY)=WX (YG Ma m.machs.length mc):=ap bD rfl;have g4:w2.cell? (w 4 WY)=WX (YG La m.links.length lc):=ap bD rfl;have g5:w2.cell? (w 5 WY)=WX (YG Ia m.items.length ic):=ap bD rfl;have g6:w2.cell? (w 6 WY)=WX (Xo XO m.dark):=ap bD rfl;have g7:w2.cell? (w 7 WY)=WX (Xo XO m.slots):=ap bD rfl;have g8:w2.cell? (w 8 WY)=WX (Xo XO m.reserve):=ap bD rfl;have g9:w2.cell? (w 9 WY)=WX (Xo XO m.failures):=ap bD rfl;have D8:w2.cell? (w 10 WY)=WX (YG Ua m.rules.length uc):=ap bD rfl;have JV:w2.cell? (w 11 WY)=WX (YG A n c):=ap bD rfl;have S7:w2.cell? (w 12 WY)=WX (Xo XO cl):=ap bD rfl;have GJ:w2.cell? (w 13 WY)=WX (YG A2 n2 c2):=ap bD rfl;have aU:=ah (ak bo.o au);have Ns:=ah bD;clear au bD)
  |(go_at_call 65;refine(Ak.o yK _ aU.o).m ?_;rintro e w3 ⟨rfl,aN⟩;have lF:=aC Ns.o aN;have Hv:w3.cell? (w 12 WY)=WX (Xo XO cl):=ap lF rfl;have gp3:w3.cell? (w 13 WY)=WX (YG A2 n2 c2):=ap lF rfl;have bx:=ah (ak aU.o aN);clear aN lF))
 go_ret;exact⟨by rw[HR.o];rfl,bx.o⟩):p:=h
def p_(h:p:=by
 go_wp2_with(first
  |(go_at_call 113;refine(Ph _ _ _ _).m ?_;rintro e w3 ⟨rfl,rfl⟩)
  |(go_at_call 114;refine(Z5 x _).m ?_;rintro e w3 ⟨rfl,aN⟩))
 all_goals go_ret
 all_goals exact⟨cd (tQ.o _ (by simp[mY, *])).symm,ND⟩):p:=h
def bd3(h:p:=by
 obtain⟨rfl,fo,rfl,nj,ba,cap,rS⟩:=hcut;have vV:=aC lr.o ba;obtain⟨yL,vt,yM,yO,yP,yQ⟩:=dW vV;obtain⟨DX,DY,Sm,Sn,So,Sp,Sq,Sr⟩:=ah3 rS;have Ac:=ah (ak bo.o ba);have JH:=ah vV;have JF:=ah rS;clear vV rS ba q0;simp only[aq]
 go_upto_region 4 with(first
  |(refine(yh.o _ Ac.o).m ?_;rintro e w4 ⟨rfl,aQ⟩;refine bt6 λeL nj ry pp pq rz wN GG tI Ap=>?_;clear aQ eL nj yL vt yM yO yP yQ DX DY Sm Sn So Sp Sq Sr))
 cases NM with
 |true=>
  cases ni with
  |false=>
   go_wp2_with first
    |(go_at_call 164;refine(mh.o _ tI.o).m ?_;rintro e w5 ⟨rfl,bf⟩;refine QO λth qr pr pu oW Aq N9=>?_;clear bf th ry pp pq rz wN GG)
   all_goals go_ret
   all_goals exact⟨zE (by(try simp[]);(try omega)),oW.o⟩
  |true=>
   cases ra with
   |false=>
    go_wp2_with first
     |(go_at_call 164;refine(mh.o _ tI.o).m ?_;rintro e w5 ⟨rfl,bf⟩;refine QO λth qr pr pu oW Aq N9=>?_;clear bf th ry pp pq rz wN GG)
     |(go_at_call 228;refine(ri.o _ oW.o).m ?_;rintro e w6 ⟨rfl,bJ⟩;have xJ:=aC Aq.o bJ;have NJ:=ap (o:=3) xJ rfl;have oX:=ah (ak oW.o bJ);clear bJ xJ pr pu)
    all_goals go_ret
    all_goals exact⟨zE (by(try simp[]);(try omega)),oX.o⟩
   |true=>
    go_wp2_with first
     |(go_at_call 164;refine(mh.o _ tI.o).m ?_;rintro e w5 ⟨rfl,bf⟩;refine QO λth qr pr pu oW Aq N9=>?_;clear bf th ry pp pq rz wN GG)
     |(go_at_call 228;refine(ri.o _ oW.o).m ?_;rintro e w6 ⟨rfl,bJ⟩;have xJ:=aC Aq.o bJ;have NJ:=ap (o:=3) xJ rfl;have oX:=ah (ak oW.o bJ);clear bJ xJ pr pu)
     |(go_at_call 78;refine(tO.o _ oX.o).m ?_;rintro e w7 ⟨rfl,gD⟩;have nz:=ah (ak oX.o gD);clear gD)
    all_goals go_ret
    all_goals exact⟨zE (by(try simp[]);(try omega)),nz.o⟩
 |false=>
  cases ne with
  |false=>
   have kn:=wI.o;go_wp2_with fail
   all_goals go_ret
   all_goals exact⟨zE (by(try simp[]);(try omega)),tI.o⟩
  |true=>
   have kn:=wI.o;cases ra with
   |false=>
    go_wp2_with first
     |(go_at_call 228;refine(ri.o _ tI.o).m ?_;rintro e w6 ⟨rfl,bJ⟩;have xJ:=aC Ap.o bJ;have NJ:=ap (o:=3) xJ rfl;have oX:=ah (ak tI.o bJ);clear bJ xJ pp pq)
    all_goals go_ret
    all_goals exact⟨zE (by(try simp[]);(try omega)),oX.o⟩
   |true=>
    go_wp2_with first
     |(go_at_call 228;refine(ri.o _ tI.o).m ?_;rintro e w6 ⟨rfl,bJ⟩;have xJ:=aC Ap.o bJ;have NJ:=ap (o:=3) xJ rfl;have oX:=ah (ak tI.o bJ);clear bJ xJ pp pq)
     |(go_at_call 78;refine(tO.o _ oX.o).m ?_;rintro e w7 ⟨rfl,gD⟩;have nz:=ah (ak oX.o gD);clear gD)
    all_goals go_ret
    all_goals exact⟨zE (by(try simp[]);(try omega)),nz.o⟩):p:=h
def zM(h:p:=by
 rintro e w7 ⟨⟨xv,rfl⟩,JY,vJ⟩;have cs9:=ah JY;have mQ:Hid (aK B rb w3 w7):=(Ro.o.trans (aK.of_below cI.o (by have:=fO.o.2.1;omega) cI.o.size)).trans vJ;have Gx:=ah vJ;clear JY vJ;try go_simp
 refine il ?_;clear hK;refine aO ?_;refine gA ?_;go_wp2_with fail
 refine⟨⟨k+1,eE t m d,by omega,by go_num,by rw[bk5.o,BL.o],sK.o,cs9.o,mQ.o⟩,by simp[Xw];omega⟩):p:=h
def PY(h:p:=by
 go_wp2_with fail
 refine⟨⟨k+1,by omega,by go_num,λj hj=>?_,gC⟩,by simp[Xw];omega⟩;by_cases e:j=k
 .subst e;exact HP.o
 .exact HA.o j YN):p:=h
def PW(h:p:=by
 have HC:=ah AP;clear bb hr dR AP;go_wp2_with fail
 refine HC.o.m ?_;rintro e w' ⟨rfl,fL⟩;have gC:=ak hB fL;cases hp:P k with
 |true=>
  have HP:=ah hp;clear hp;go_wp2_with fail
  go_ret;exact⟨by rw[ar2 az HP.o HA.o];rfl,gC⟩
 |false=>have HP:=ah hp;clear hp;exact PY):p:=h
def af8(h:p:=by rw[di0 l k JK,<-List.singleton_append,<-XJ];refine aa5 _ _ ?_;rw[Pm,HV.o,h];rfl):p:=h
def aa9(h:p:=by
 have hz:(aJ l k).size<=1000000:=sJ.o _ (Bo JK);have i1:(0:Int)<=(k:Int):=YN;have i2:(k:Int)<(n:Int):=YN;have zd:su offs k<(qH cs (offs.take k) vs).size:=by rw[Ly];exact HI.o k (by rw[Gg.o];exact az)
 have eA:b<wr:=bt cg3 q'.o.size;have N3:bu<wr:=bt lg q'.o.size;have stop:bM (aJ l k)=WY->dX l=none:=λh=>by exact af8
 have STOP:=ah stop;clear stop;cases hp:Lib.atoiAll (aJ l k).data.toList with
 |ok v=>
  have OC:aP v:=by
   have JX:Lib.parseIntB 64 (aJ l k).data.toList= .ok v:=by rw[Lib.parseIntB_64];exact hp
   have:=Lib.parseIntB_bounds JX;exact⟨by omega,by omega⟩
  have gV:=λW=>dg6 (aJ l k) YN v hp W;have fO:=ah gV;have HP:=ah hp;clear gV hp;by_cases he:bs (Xg v)=aJ l k
  .have gg9:((bs (Lib.itoa v)).toList==(aJ l k).toList)=true:=by rw[he];simp
   have HE:=ah he;clear he
   go_wp2_with(first
    |(go_at_call 173;refine(fO.o _).m ?_;rintro e w1 ⟨rfl,ay⟩;have eU:=uu q'.o ay)
    |(go_at_call 174;refine(Vf _ OC _ (HG.o.grown eU dF)).m ?_;rintro e w2 ⟨rfl,au⟩;have jB:=uu eU au;have xe:w2.heap[b]?=WX (YI (qH cs (offs.take k) vs) t (0,0)):=((au.block b (bt eA ay.size)).trans (ay.block b eA)).trans fG.o;have gd6:w2.cell? (bu k WY)=WX (YK (WX ⟨b,su offs k,WY⟩)):=((au.cell (bt N3 ay.size)).trans (ay.cell N3)).trans h2;have gg7:=j8 xe zd;have gi4:=mZ xe (su offs k)))
   have zi:dX (l.take (k+1))=WX (vs++[v]):=by rw[VP l k JK,Pm,HV.o];simp[bM,HP.o,HE.o]
   exact⟨⟨k+1,vs++[v],by omega,by go_num,zi,uw jB _ _,by rw[dn0 offs k (by rw[Gg.o];exact az),aa4 _ _ _ _ _ (by rw[CJ HV.o,XQ,XQ,kT.o,Gg.o])];exact jF xe _ _⟩,by simp[Xw];omega⟩
  .have gg9:((bs (Lib.itoa v)).toList==(aJ l k).toList)=false:=by
    rw[beq_eq_false_iff_ne];intro h;exact he (by rw[<-lv (aJ l k),<-gK,<-h,gK,eS])
   have HE:=ah he;clear he
   go_wp2_with(first
    |(go_at_call 173;refine(fO.o _).m ?_;rintro e w1 ⟨rfl,ay⟩;have eU:=uu q'.o ay)
    |(go_at_call 174;refine(Vf _ OC _ (HG.o.grown eU dF)).m ?_;rintro e w2 ⟨rfl,au⟩;have jB:=uu eU au;have xe:w2.heap[b]?=WX (YI (qH cs (offs.take k) vs) t (0,0)):=((au.block b (bt eA ay.size)).trans (ay.block b eA)).trans fG.o;have gd6:w2.cell? (bu k WY)=WX (YK (WX ⟨b,su offs k,WY⟩)):=((au.cell (bt N3 ay.size)).trans (ay.cell N3)).trans h2;have gg7:=j8 xe zd;have gi4:=mZ xe (su offs k)))
   go_ret;refine⟨jB,?_⟩;rw[STOP.o (by simp[bM,HP.o,HE.o])];exact⟨rfl,_,xe,Ly _ _ _⟩
 |_=>
  have gV:=λW=>dg7 (aJ l k) YN (by intro v h;rw[hp]at h;cases h) W;have fO:=ah gV;have HP:=ah hp;clear gV hp
  go_wp2_with(first
   |(go_at_call 173;refine(fO.o _ (HG.o.grown q'.o dF)).m ?_;rintro e w1 ⟨v1,t1,p1,rfl,ay⟩;have eU:=uu q'.o ay))
  go_ret;refine⟨eU,?_⟩;rw[STOP.o (by simp[bM,HP.o])];exact⟨rfl,_,(ay.block b eA).trans fG.o,Ly _ _ _⟩):p:=h
def Y1(h:p:=by
 go_simp;refine hK _ _ ?_;clear hK K;refine aO ?_;refine fi 10 λK hK=>?_;refine step_append_lies _ b_ _ _ _ b_ B 9 i0 _ 1 16 underlying22 hi cE aZ bh rfl YN _ _ _ b_ (bN.alloc _) ⟨_,0,WY⟩ 1 1 [Xp (bs t.text)] b_ b_ (nJ rfl) yF YN tV bP bP _ rfl ?_;intro gg cap w3 rT bE gV az;refine hK _ _ ?_;clear hK K;refine aO ?_;have aN:=nf (aC G.o.1 (ai (aj w2) _)) bE (λk hk e=>aV (by rw[hk,e]));have f3:=cK aN 4;have c3:=ap (o:=4) aN rfl;iterate 3 refine iT 15 2 ?_
 refine fi 14 λK hK=>?_;go_simp;refine hK _ _ ?_;clear hK K;refine aO ?_;refine vz ?_
 go_end0
 obtain⟨g1,g2,g3,g4,d_,hq⟩:=G.o;have k0:aK B pb w2 w3:=((aK.refl B pb w2).alloc g6 _).grown (eH g3 (ai (aj w2) _)) bE g6;have k1:aK B pb w2 (w3.setCell (pb 4 WY) (YG (WX (gg 0 WY)) (q.d.refs.length+1) cap)):=k0.set (.inl rfl) _;have ho:=au3 (eH g3 (ai (aj w2) _)) (eH g4 (ai (aj w2) _)) aF bE;have hn:w3.ownsRow B 9 1 (YG (WX (gg 0 WY)) (q.d.refs.length+1) cap) (q.d.refs++[t.text]).length ((q.d.refs++[t.text]).map λs=>Xp (bs s)):=by rw[XX,Xm];exact rT
 have Uv:p'={q with d:={q.d with refs:=q.d.refs++[t.text]}}:=HQ.o;have cj:=uU.o;subst Uv;refine⟨rfl,⟨MI,_,n2,bc aN 4 _,g2.to mA.ab (k1.below YN) (am _) (am _),lT hn (λj hj=>by have:=(Xs hn j hj).1;omega) _ _,lT ho (λj hj=>by have:=(Xs ho j hj).1;omega) _ _,g5,bQ g6 k1.size,cj.1⟩,cj.2,((aK.refl B pb w).drew.trans (d_.mono bd.2)).trans k1⟩):p:=h
def Y2(h:p:=by
 go_simp;refine hK _ _ ?_;clear hK K;refine aO ?_;refine fi 10 λK hK=>?_;refine step_append_lies _ b_ _ _ _ b_ B 3 i0 _ 1 8 underlying30 hi cE aZ bh rfl YN _ _ _ b_ (bN.alloc _) ⟨_,0,WY⟩ 1 1 [Xo XO t.n] b_ b_ (nJ rfl) yF YN tV bP bP _ rfl ?_;intro gg cap w3 rT bE gV az;refine hK _ _ ?_;clear hK K;refine aO ?_;have aN:=nf (aC G.o.1 (ai (aj w2) _)) bE (λk hk e=>aV (by rw[hk,e]));have f3:=cK aN 5;have c3:=ap (o:=5) aN rfl;iterate 3 refine iT 15 2 ?_
 refine fi 14 λK hK=>?_;go_simp;refine hK _ _ ?_;clear hK K;refine aO ?_;refine vz ?_
 go_end0
 obtain⟨g1,g2,g3,g4,d_,hq⟩:=G.o;have k0:aK B pb w2 w3:=((aK.refl B pb w2).alloc g6 _).grown (eH g4 (ai (aj w2) _)) bE g6;have k1:aK B pb w2 (w3.setCell (pb 5 WY) (YG (WX (gg 0 WY)) (q.d.nums.length+1) cap)):=k0.set (.inl rfl) _;have ho:=au3 (eH g4 (ai (aj w2) _)) (eH g3 (ai (aj w2) _)) aF bE;have hn:w3.ownsRow B 3 1 (YG (WX (gg 0 WY)) (q.d.nums.length+1) cap) (q.d.nums++[t.n]).length ((q.d.nums++[t.n]).map fun(k:Nat)=>Xo .i64 k):=by rw[XX,Xm];exact rT
 have Uv:p'={q with d:={q.d with nums:=q.d.nums++[t.n]}}:=HQ.o;have cj:=uU.o;subst Uv;refine⟨rfl,⟨MI,r2,_,bc aN 5 _,g2.to mA.ab (k1.below YN) (am _) (am _),lT ho (λj hj=>by have:=(Xs ho j hj).1;omega) _ _,lT hn (λj hj=>by have:=(Xs hn j hj).1;omega) _ _,g5,bQ g6 k1.size,cj.1⟩,cj.2,((aK.refl B pb w).drew.trans (d_.mono bd.2)).trans k1⟩):p:=h
def ap9(h:p:=by
 rw[yA.o];rintro e w3 ⟨fW,rfl,kz⟩;refine QN λc_ wT bx pg=>?_;clear c_ wT;obtain⟨m,t,jf,te,Hl,zb,zc⟩:=kz y rfl;obtain⟨l0,l1,l2,l3,l4,l5,l6,l7,l8,l9⟩:=jf.lies;obtain⟨Am,nm,cm,rfl,eV,_,_⟩:=te.form;obtain⟨At,nt,ct,rfl,Hf,_,_⟩:=Hl.form;refine bt7 λxK Cw VC=>?_;rw[Jz.o]at VC;have RO:=ah VC;have bp3:=ah xK;have kS:=ah zb;have F_:=ah zc;have xx:wc.heap.size<w3:=bt Cl fW.size;have cp7:w.heap.size<w3:=YN;clear kz jf te Hl eV Hf xK Cw VC zb zc fW;go_simp;refine hK _ _ ?_;clear hK K;refine aO ?_;iterate 2 refine iT 11 24 ?_
 refine fi 7 λK hK=>?_;go_simp;refine hK _ _ ?_;clear hK K;refine aO ?_;refine fi 8 λK hK=>?_;go_simp;refine RO.o.m ?_;rintro e w4 ⟨rfl,aQ⟩;refine bt5 λjI li bB og Np m0 m1 m2 m3 m4 m5 m6 m7 m8 m9=>?_;clear aQ jI li l0 l1 l2 l3 l4 l5 l6 l7 l8 l9;go_simp;refine hK _ _ ?_;clear hK K;refine aO ?_;iterate 2 refine iT 11 24 ?_
 refine vz ?_;have wV:=og.o;rw[nd]at wV;obtain⟨⟨d0,d1,d2,d3,d4,d5,d6,d7,d8,d9⟩,fr⟩:=P6 wV;refine P9 λf0 f1 f2 f3 f4 f5 f6 f7 f8 f9=>?_;clear wV fr;go_wp2_with fail
 refine bodyPost_ret (v:= .tuple #[YJ (y.cells (YG Am nm cm) (YG At nt ct)),Xo XO 0]) (by simp[results,results10,go_sem,aS.cells_def,aM,d0,d1,d2,d3,d4,d5,d6,d7,d8,d9]) rfl ?_;refine⟨?_,?_⟩
 .have hb:=bB.o;repeat' first|with_reducible exact hb|with_reducible refine cF ?_ (am _) _
 .rw[V9 HK.o,yA.o];simp only[Option.bind_some,Jz.o,if_true];refine⟨_,_,rfl,?_,λa n c e=>by have:W.heap.size<=a.block:=kS.o a n c e;omega,λa n c e=>by have:W.heap.size<=a.block:=F_.o a n c e;omega⟩;have OH:=Np.o;have zb:∀a n c,Value.slice Am nm cm= .slice (some a) n c->¬a.block=w:=λa n c e=>by have:W.heap.size<=a.block:=kS.o a n c e;omega
  have zc:∀a n c,Value.slice At nt ct=YG (WX a) n c->¬a.block=w:=λa n c e=>by have:W.heap.size<=a.block:=F_.o a n c e;omega
  repeat' first|with_reducible exact OH|with_reducible refine In.set ?_ zb zc _ _):p:=h
def LX(h:p:=by
 go_enter func60,ntmps60;go_wp2_with first
  |(go_at_call 161;refine(Gq.o _ (ai (aj w) _)).m ?_;rintro e w1 ⟨rfl,ay⟩;refine PF λgv e0 e1 e2 e3 e4 e5 e6 e7 e8 e9 dL aZ bk iF=>?_;clear ay gv)
  |(go_at_call_of 162 (Xo XO m.dark);refine(sN.o _).m ?_;rintro e w2 ⟨rfl,rfl⟩)
  |(go_at_call_of 162 (Xo XO m.slots);refine(sO.o _).m ?_;rintro e w2 ⟨rfl,rfl⟩)
  |(go_at_call_of 162 (Xo XO m.reserve);refine(vg.o _).m ?_;rintro e w2 ⟨rfl,rfl⟩)
  |(go_at_call_of 162 (Xo XO m.failures);refine(JA.o _).m ?_;rintro e w2 ⟨rfl,rfl⟩)
 go_ret;exact⟨by rw[HO.o];simp;try omega,bk.o⟩):p:=h
def ap8(h:p:=by
 rw[yA.o];rintro e w3 ⟨fW,rfl,kz⟩;refine QN λc_ wT bx pg=>?_;clear c_ wT;obtain⟨m,t,jf,te,Hl,zb,zc⟩:=kz y rfl;obtain⟨l0,l1,l2,l3,l4,l5,l6,l7,l8,l9⟩:=jf.lies;obtain⟨Am,nm,cm,rfl,eV,_,_⟩:=te.form;obtain⟨At,nt,ct,rfl,Hf,_,_⟩:=Hl.form;refine bt7 λxK Cw VC=>?_;rw[Jz.o]at VC;have RO:=ah VC;have bp3:=ah xK;have kS:=ah zb;have F_:=ah zc;have xx:wc.heap.size<w3:=bt Cl fW.size;have cp7:w.heap.size<w3:=YN;clear kz jf te Hl eV Hf xK Cw VC zb zc fW;go_simp;refine hK _ _ ?_;clear hK K;refine aO ?_;iterate 2 refine iT 11 24 ?_
 refine fi 7 λK hK=>?_;go_simp;refine hK _ _ ?_;clear hK K;refine aO ?_;refine fi 8 λK hK=>?_;go_simp;refine RO.o.m ?_;rintro e w4 ⟨rfl,aQ⟩;refine bt5 λjI li bB og Np m0 m1 m2 m3 m4 m5 m6 m7 m8 m9=>?_;clear aQ jI li l0 l1 l2 l3 l4 l5 l6 l7 l8 l9;go_simp;refine hK _ _ ?_;clear hK K;refine aO ?_;iterate 2 refine iT 11 24 ?_
 refine vz ?_;have wV:=og.o;rw[nd]at wV;obtain⟨⟨d0,d1,d2,d3,d4,d5,d6,d7,d8,d9⟩,fr⟩:=P6 wV;refine P9 λf0 f1 f2 f3 f4 f5 f6 f7 f8 f9=>?_;clear wV fr;go_wp2_with fail
 refine V' ?_;refine⟨?_,?_⟩
 .have hb:=bB.o;repeat' first|with_reducible exact hb|with_reducible refine cF ?_ (am _) _
 .rw[V9 HK.o,yA.o];simp[Jz.o]):p:=h
def Qd(h:p:=by
 go_wp2_with first
  |(go_at_call 123;refine pZ ?_;rintro e w3 ⟨rfl,hw⟩;obtain rfl:=hw.symm;first|rw[dK.o]|rw[fh.o])
  |(go_at_call 124;refine(Fw _ _ _ _).m ?_;rintro e w3 ⟨rfl,hw⟩;obtain rfl:=hw.symm;first|rw[sH.o]|rw[BM.o]|rw[HE6.o])
  |(go_at_call 206;refine(DC.o _ bo.o).m ?_;rintro e w2 ⟨rfl,au⟩;rw[o_.o];have dz:=aC lr.o au;obtain⟨y0,y1,y2,y3,y4,y5,y6⟩:=gY dz;refine tr λaU=>?_;clear au dz)
 all_goals
  go_ret;exact⟨cd R3,by first|exact aU.o|exact bo.o⟩):p:=h
def bd5(h:p:=by
 refine yR (S:=λw'=>w'.cell? rb=WX (.map (WX Mb))/\w'.cell? xb=WX (Xo XO d.kind)/\w'.cell? (xb 1 WY)=WX (Xp (bs d.name))/\dg iK w' w (BD (l.take (k+1)))) 15 (by exact⟨oI,e0,e1,qh.o⟩) λhS=>?_;iterate 11 refine mX 15 72 ?_
 refine jr 11 λK hK=>?_;go_simp;refine(uZ.o _).m ?_;rintro e w8 ⟨rfl,dF⟩;have ee:Hid (Below w7 w7 w8):=ak (a_ (aj w7)) dF;clear dF;try go_simp
 clear hS;refine hK.o _ _ (by exact⟨kc ee.o oI,kc ee.o e0,kc ee.o e1,qh.o.later ee.o⟩) (λhS=>?_);clear hK;refine aO ?_;refine aq1 (i:=12) (v:=Xo XO ((cn:Int)+1)) (WX 84) rfl rfl aI aI aI (λ_ _ _ h=>h) (Or.inl ⟨by rfl,?_⟩) hS ?_
 .intro wq hZ;try dsimp only at hZ
  have h:=sB (P:=Xn) underlying182 Xj co hZ.2.2.2 (sc:Int) Xc (zeroValue3 _);rw[MW.o]at h;have jJ:(XB 182 (.map (WX w.heap.size)) (Xo XO sc) Xc).run Xn wq= .ok (Xo XO ((cn:Int)+1)) wq:=h;clear h;go_simp;try with_reducible rfl
 refine aO ?_;refine nI 13 85 ?_;refine jr 14 λK hK=>?_;obtain⟨ob,eB,cd4⟩:=P1 (P:=Xn) underlying117 X0 Da (DB.o.later ee.o) d.name (YJ #[d.kind,Xo XO ((cn:Int)+1)]);have gm5:(Instr.mapUpdate 117 (.map (WX Mb)) (Xp (bs d.name)) (YJ #[d.kind,Xo XO ((cn:Int)+1)])).run Xn w8=_:=eB;have nQ:=IG w8 Mb ob;generalize ChangeMaps.setBlock w8 Mb ob=w9 at eB gm5 cd4 nQ;go_simp;refine hK.o _ _ (by exact⟨(nQ.cell aV).trans hS.1,(nQ.cell ck4).trans hS.2.1,(nQ.cell ck4).trans hS.2.2.1,hS.2.2.2.blk (nQ.2.2 _ YN)⟩) (λhS=>?_);clear hK;refine aO ?_;refine vB ?_;go_wp2_with fail
 have gk0:dQ t d.name=none:=by
  have:=DR.o;cases hq:dQ t d.name with
  |none=>rfl
  |some q=>rw[hq]at this;cases this
 refine⟨⟨k+1,t++[(d.name,d.kind,cn+1)],by omega,by go_num,?_,cd4.of_eq (λy=>(ey6 (d.kind,cn+1) gk0 y).symm),hS.2.2.2,((tP.o.later ee.o).blk (nQ.2.2 _ YN)),(mQ.o.trans (aK.of_below ee.o mQ.o.size ee.o.size)).trans (aK.turn nQ)⟩,by simp[Xw];omega⟩;rw[uT.o DU.o (by rw[oX.o];rfl),if_neg (of_decide_eq_false qm.o)]):p:=h
def ay4(h:p:=by
 refine(LR pb B M p _ 3 ((HP.o.later bk.o).later (ai (aj w1) _)) YN).m ?_;rintro e w2 ⟨rfl,d',d_,iM⟩;have iP:=blk_lt Dp.o;have eA:=d_.blk (jO Dp.o (ai (aj w1) _) iP) bP YN;obtain⟨r0,r1,r2,r3⟩:=VU eA;obtain⟨q0,q1,q2,q3⟩:=zU eA;have bh:=blk_lt eA;have gR:=ah d';have jo:=ah d_;have iQ:=ah iM;clear d' d_ iM;have di:=ah eA;clear eA;go_wp2_with fail
 refine bodyPost_ret (v:=BA ⟨0,[],0,0⟩) (by simp[results,results138,go_sem,BA,bs,r0,r1,r2,r3,bh]) rfl ?_;rw[HT.o];refine⟨rfl,gR.o.set4 di.o aF ks,?_⟩;have fR:aK w pb w w2:=((aK.of_below bk.o (am _) bk.o.size).alloc (am _) _).trans (jo.o.mono bP);refine⟨(((fR.set (.inr (am _)) _).set (.inr (am _)) _).set (.inr (am _)) _).set (.inr (am _)) _,?_⟩;exact(((((j9.of_below bk.o ks).trans (j9.of_below (ai (aj w1) _) xD)).trans iQ.o).set (.inl YN) _).set (.inl YN) _).set (.inl YN) _ |>.set (.inl YN) _):p:=h
def WQ(h:p:=by have h:=sB (P:=Xn) Yl Xj co hM (d.kind:Int) Xe (zeroValue236 _);rw[hF]at h;exact h):p:=h
def WR(h:p:=by have h:=sB (P:=Xn) Yl Xj co (hM.later (ai (aj w2) o)) (d.kind:Int) Xe (zeroValue236 _);rw[hF]at h;exact h):p:=h
def PK(h:p:=by exact⟨w2.heap.size,rfl,ba.size,ai ba _,cap,X1 w2 _⟩):p:=h
def bd2(h:p:=by
 refine⟨W1.heap.size,rfl,am _,?_,cap,?_⟩
 .repeat' first|with_reducible exact ba|with_reducible refine cF ?_ (am _) _
 .have h0:=(iU.o W1 YQ).trans (X1 W1 _);exact(bc (bc (bc (bc (bc (bc (bc (bc h0 _ _) _ _) _ _) _ _) _ _) _ _) _ _) _ _).trans rfl):p:=h
def bd0(h:p:=by
 rename_i J K' hJ g_;have HJ:=ah hJ;have tL:=ah g_;clear hJ g_;go_region_held3 (λw'=>w'.cell? w=WX (Xo XO d.kind)) (go_simp)
  (first
    |(go_at_call 226;refine(kS.o _).m ?_;rintro e w2 ⟨M1,pb,rfl,hM,_,_,au⟩;obtain⟨cap,hF⟩:=HF.o pb;refine LK λba=>?_;have jJ:(Instr.lookup 238 (.map (some M1)) (.int .i64 d.kind) true).run prog w2= .ok (.tuple #[.agg #[.string wd,.bool NM,.int .i64 L,.int .i64 M,.int .i64 N,.func (.func fb) #[] #[],.bool AL,.func (.func ft) #[] cap],.bool true]) w2:=by exact WQ
      have gE:∀o,(XB 238 (.map (WX M1)) (Xo XO d.kind) Xe).run Xn (w2.alloc o)= .ok (.tuple #[YJ #[wd,YH NM,L,M,N,.func (.func fb) #[] #[],YH AL,.func (.func ft) #[] cap],YH Xe]) (w2.alloc o):=λo=>by exact WR
      have c0:=kc ba q0;obtain⟨iB,AQ⟩:=nH au;try(have ij:W1.heap.size<w2:=by(have hq:=au.size;simp at hq;omega))
      refine WS λbh iC iU=>?_;clear hM au))
 all_goals
  dsimp only[Exit.then];refine tL.o _ _ (Met.intro (HJ.o _ _ ?_))
  (repeat apply Exists.intro)
  refine⟨⟨rfl,?_⟩,rfl⟩
 .exact PK
 .exact PK
 .exact bd2):p:=h
def Zb(h:p:=by
 go_enter func161,ntmps161
 go_wp2_with(first
  |(go_at_call_of 238 (Xo XO (m.sites.length:Nat));refine(dK.o _).m ?_;rintro e w1 ⟨rfl,rfl⟩)
  |(go_at_call 238;refine(fh.o _).m ?_;rintro e w1 ⟨rfl,rfl⟩)
  |(go_at_call 239;refine(HR.o _ (ai (aj w) _) HN.o).m ?_;rintro e w1 ⟨rfl,ay⟩;have bk:=ah (ak (ai (aj w) _) ay);have iF:=ah (aC HN.o ay);have e3:w1.cell? (w 3 WY)=WX (YG Ma m.machs.length mc):=ap iF.o rfl;have e4:w1.cell? (w 4 WY)=WX (YG La m.links.length lc):=ap iF.o rfl;clear ay)
  |(go_at_call 243;refine(HM.o _ bk.o iF.o).m ?_;rintro e w2 ⟨rfl,au⟩;have aU:=ah (ak bk.o au);have ga:=ah (aC iF.o au);have e4:w2.cell? (w 4 WY)=WX (YG La m.links.length lc):=ap ga.o rfl;clear au)
  |(go_at_call 246;refine(HL.o _ aU.o ga.o).m ?_;rintro e w3 ⟨rfl,aN⟩;have bx:=ah (ak aU.o aN);clear aN))
 go_ret;exact⟨by rw[HO.o];simp[G1.o,G2.o,G4.o],bx.o⟩):p:=h
def ay3(h:p:=by
 simp only[aq];go_enter func138,ntmps138;go_wp2_with first
  |(go_at_call 49;refine(HN.o _ (HP.o.later (ai (aj w) _))).m ?_;rintro e w1 ⟨rfl,ay⟩;have nR:=aC (aC H1.o (ai (aj w) _)) ay;have p0:w1.cell? ⟨pb,0,none⟩=some (.slice (some ⟨tb,tf,none⟩) tn tc):=ap nR rfl;refine FG λp1 xD=>?_;have Dp:=ah (aC (cN w _) ay);have bk:=ah (ak (ai (aj w) _) ay);have f0:=cK nR 0;have eA:=Dp.o;obtain⟨r0,r1,r2,r3⟩:=VU eA;obtain⟨q0,q1,q2,q3⟩:=zU eA;have aZ:=blk_lt eA;have bh:¬w.heap.size=w1.heap.size:=by omega
    clear nR ay eA)
  |(go_at_call 225;refine(P0 _ l t.text _ _ ((HL.o.below bk.o (am _)).below (ai (aj w1) _) (by have:=bk.o.size;omega))).m ?_;rintro e w2 ⟨rfl,rfl⟩)
 refine bodyPost_ret (v:=BA t) (by simp[results,results138,go_sem,BA,r0,r1,r2,r3,aZ,cE,bh]) rfl ?_;rw[HY.o,HH.o];have Th:bV w1 pb B M p:=HP.o.later bk.o;have cd9:bU 4 mA w1 pb (YG (WX (tb (tf+4) WY)) (tn - 1) (tc - 1)) p.ts.tail:=by
  have h:=H2.o.below mA.ab bk.o YN;rw[RM.o]at h⊢
  exact h.drop1
 have d':=Th.setTs cd9 (H7.o.tail (by rw[RM.o,Oz];simp));refine⟨rfl,(d'.set4 (uz Dp.o cE) aF ks).later (ai (aj _) _),?_⟩;have fR:aK w pb w w1:=aK.of_below bk.o (am _) bk.o.size;refine⟨(((((fR.set (.inl rfl) _).set (.inr (am _)) _).set (.inr (am _)) _).set (.inr (am _)) _).set (.inr (am _)) _).alloc (am _) _,?_⟩;exact(((((((j9.of_below bk.o ks).set (.inr YN) _).set (.inl YN) _).set (.inl YN) _).set (.inl YN) _).set (.inl YN) _)).trans (j9.of_below (ai (aj _) _) (by simp[Ye];omega))):p:=h
def bg2(h:p:=by
 obtain⟨rA,rn,rc,rfl,dM,jj,_⟩:=hr.sk.form;obtain⟨nA,nn,nc,rfl,cR,mJ,_⟩:=hn.form;obtain rfl:3=nn:=cR;have z0:(bs nm).size<=31:=vq;have z1:=ZW hl.2.2.2.2;have z2:=bf9 n0 n1 n2 ⟨hl.2.1,hl.2.2.1,hl.2.2.2.1⟩;have iE:=ah (λW(hW:Below w w W)=>Vg _ l W ((hr.below hW (am _)).more hW.size) (by have:=hl.2.2.2.2.1;omega) (λx hx=>by have:=hl.2.2.2.2.2 x hx;omega));have iQ:=ah (λW(hW:Below w w W)=>bi0 _ n0 n1 n2 [(n0:Int),(n1:Int),(n2:Int)] W ((hn.below hW (am _)).more hW.size) rfl rfl rfl ⟨hl.2.1,hl.2.2.1,hl.2.2.2.1⟩);unfold iS;generalize bs nm=s0 at z0⊢
 generalize bs (iL l)=s1 at z1 iE⊢
 generalize bs (rG n0 n1 n2)=s2 at z2 iQ⊢
 refine Ml λy1 y2=>?_;have y3:¬9223372036854775807<s0.size+4+s1.size+s2.size:=YN;clear hr hn hl;go_enter func118,ntmps118;go_upto_region 1 with(fail)
 refine eG ?_;intro W1 ⟨hB,hx⟩;have HB:=ah hB;have HX:=ah hx;have aZ:=blk_lt hx;clear hB hx;obtain⟨x0,x1,x2,x3,x4,x5⟩:=dW HX.o;go_quiet (fail)
 go_upto_region 14 with(fail)
 refine Dg ?_;intro W2 hw;have HW:=ah (ak HB.o hw);have bh:=bt aZ hw.size;clear x0 x1 x2 x3 x4 x5;obtain⟨x0,x1,x2,x3,x4,x5⟩:=dW (aC HX.o hw);clear hw;go_region_held3 (λw'=>w'.cell? (w 1 WY)=WX (Xp s0)) (go_simp)
  (first
    |(go_at_call 198;refine(iE.o _ (a_ HW.o)).m ?_;rintro e w3 ⟨rfl,aN⟩;have c_:=ak (a_ HW.o) aN;have iC:=dB aN bh;obtain⟨kg,nS⟩:=nH aN)
    |(go_at_call 199;refine(iQ.o _ c_).m ?_;rintro e w4 ⟨rfl,aQ⟩;have gm:=ak c_ aQ;obtain⟨jI,li⟩:=dr aQ))
 go_wp2_with fail
 go_ret;exact⟨rfl,gm⟩):p:=h
def sF(h:p:=by exact WW d rv nv w hG _ _ _ _ _ _ _ _ _ (Xk func288 aI rfl) hr hn (λpb=>⟨_,Es pb⟩) (λW _=>ez1 d.by_ W)):p:=h
def Y5(h:p:=by
 try clear he
 try clear hk
 try clear ht
 simp only[aq];go_enter func223,ntmps223;go_wp2_with first
  |(go_at_call 49;refine(HN.o _ HP.o).m ?_;rintro e w1 ⟨rfl,ay⟩;have nR:=aC H1.o ay;refine FG λp1 xD=>?_;have bk:=ah ay;clear nR ay)
  |(go_at_call 138;refine(HT.o _ ((HP.o.later bk.o).later (ai (aj w1) _))).mono ?_;unfold qT;rintro e w2 ⟨rfl,d',d_,iM⟩;obtain⟨kr,cG,c1,c2,c3,c6,c7⟩:=d'.cells;have f7:=cG 7;have gR:=ah d';have jo:=ah d_;clear d' d_ iM cG)
 go_end0
 rw[HC.o];exact⟨rfl,((HP.o.later bk.o).later (ai (aj w1) _)).more (Yi M),λ_=>uU.o,(aK.of_below bk.o bd.2 bk.o.size).alloc bd.2 _⟩):p:=h
def ad9(h:p:=by
 have eU:=uw (zX ay (YC w1 (WX pa))) 9 (YG (WX (bu 0 WY)) nu cu);have r2:=jF r1 9 (YG (WX (bu 0 WY)) nu cu);have dC:=aW.set (o:=9) (u:=YG (WX (bu 0 WY)) nu cu) hu (show ¬bu=pa by omega);have fQ:Below pa W (w1.setCell (pa 9 WY) (YG (WX (bu 0 WY)) nu cu)):=(ay.mono (eX az)).setCell (am _) _;generalize lH:w1.setCell (pa 9 WY) (YG (WX (bu 0 WY)) nu cu)=w2 at eU r2 dC fQ⊢
 have td:pa<w2:=bt az eU.size;have aV:¬pa=w2:=YN;have gQ:¬w2.heap.size=pa:=YN;have S':cV w2:=HG.o.grown eU h8;clear lH hu ay
 go_region_with (go_at_call 63;refine(E3 _ [aJ l 0] [1] 1 w2 _ pa 45 _ _ (S'.step (a_ (ai (aj w2) _))) pa rfl (Sl.below HT.o (E0 (fQ.alloc (eX td) _))) (am _) bP (by simpa using HZ.o) YQ (λj hj=>by
  match j,hj with
  |0,_=>go_simp;try rfl) gQ YQ h8 (((a_ (ai (aj w2) _)).block _ td).trans r2) (λj hj=>by
  match j,hj with
  |0,_=>show _<10;decide)).m ?_;rintro e w3 hp;have he:=hp.ret;subst he)
 all_goals (go_wp2_with fail)
 all_goals
  go_ret;have fW:=zX (a_ (ai (aj w2) _)) hp.1;have kr:=hp.2;refine⟨Vi eU fW,?_,λy hy=>?_⟩
  .show Ya (YH (gL [aJ l 0] 1).isSome)=_;rw[ad8,Option.isSome_map,Option.isSome_map]
  .obtain⟨a,ha,rfl⟩:=Option.map_eq_some_iff.1 hy;have e1:gL [aJ l 0] [1].length=some [a]:=by show gL [aJ l 0] 1=_;rw[ad8,ha];rfl
   rw[e1]at kr;exact⟨aM,_,kr.2.trans rfl,aW.nil_ _ _,aW.grown' dC fW (show ¬bu=pa by omega),jQ.nil _,jQ.mk_ vO⟩):p:=h
def ao4(h:p:=by
 refine ao5 λtd eU r2 fQ=>?_;generalize lH:((((((w1.setCell (pa 4 WY) (Xo XO p0)).setCell (pa 5 WY) (Xp p1)).setCell (pa 6 WY) (Xo XO p2)).setCell (pa 7 WY) (Xo XO p3))).alloc (YI #[p0,p1,p2,p3] 43))=w2 at eU r2 fQ⊢
 have du:pa<w2:=bt az eU.size;clear lH td d4 f4 d5 f5 d6 f6 d7 f7 aV gQ EA ay R1;have R2:=ah r2;clear r2;have aV:¬pa=w2:=YN;have gQ:¬w2.heap.size=pa:=YN;refine po 14 ?_;iterate 2 refine iT 14 20 ?_
 iterate 10 refine EY 14 20 ?_
 refine lw 12 32 ?_;refine lw 13 4 ?_;refine vz ?_;go_wp2_with fail
 go_ret;exact⟨ad5 eU,rfl,λy hy=>by cases hy⟩):p:=h
def YZ(h:p:=by
 try clear he
 try clear hk
 simp only[aq];go_enter func284,ntmps284;go_wp2_with first
  |(go_at_call 49;refine(HN.o _ HP.o).m ?_;rintro e w1 ⟨rfl,ay⟩;have nR:=aC H1.o ay;refine FG λp1 xD=>?_;have bk:=ah ay;clear nR ay)
  |(go_at_call 138;refine(HT.o _ ((HP.o.later bk.o).later (ai (aj w1) _))).mono ?_;unfold qT;rintro e w2 ⟨rfl,d',d_,iM⟩;have gR:=ah d';have jo:=ah d_;have iQ:=ah iM;clear d' d_ iM)
 go_ret;rw[HC.o];exact⟨rfl,(HP.o.later bk.o).later (ai (aj w1) _),(aK.of_below bk.o (am _) bk.o.size).alloc (am _) _,(j9.of_below bk.o ks).trans (j9.of_below (ai (aj w1) _) xD)⟩):p:=h
def Mt(h:p:=by
 go_wp2_with first
  |(go_at_call 123;refine pZ ?_;rintro e w3 ⟨rfl,hw⟩;obtain rfl:=hw.symm;first|rw[dK.o]|rw[fh.o])
 all_goals
  go_ret;exact⟨cd R3,bo.o⟩):p:=h
def Zz(h:p:=by
 go_simp;refine il ?_;clear hK;refine aO ?_;refine gA ?_;go_wp2_with fail
 go_end0
 have oL:=bB.o.size;refine⟨⟨_,rfl⟩,YG OA om oc,mW.mk' (aC (aC pk.o bB.o) (ai (aj _) _)) (ak bo.o (ak bB.o (ai (aj _) _))) bE iO rT gV kV (gV.elim (λh e=>iO (by rw[h,e])) (λh e=>by simp at h;omega)),?_⟩;have hL:=oe.o;have EF:=lM.o;have zd:=Xs EF;have Cx:W1.drew.heap.size=W1.heap.size:=rfl;rw[Cx]at zd EF;refine lT (PQ (World.ownsRow.kept (eH EF (ai (aj w4) _)) bE ?_) pR) (λj hj e=>by have:=zd j hj;omega) _ _;cases hq:X2 (YG OA om oc)with
 |none=>exact .inl rfl
 |some j=>exact .inr (λe=>by have:=zd j hq;have:=hL j e.symm;omega)):p:=h
def ax2(h:p:=by
 refine fi 11 λK hK=>?_;go_simp;refine(P' _).m ?_;rintro e w3 ⟨g3,c3,rfl,nO,aN⟩;try go_simp
 refine hK _ _ ?_;clear hK K;refine aO ?_;refine fi 12 λK hK=>?_;go_simp;refine(YT _).m ?_;rintro e w4 ⟨g4,c4,rfl,Cd,aQ⟩;try go_simp
 refine hK _ _ ?_;clear hK K;refine aO ?_;refine fi 13 λK hK=>?_;go_simp;refine hK _ _ ?_;clear hK K;refine aO ?_;have hS:=ax0 w4 _ _ _ _ (nO.later aQ) Cd;refine fi 14 λK hK=>?_;go_simp;refine(YU _ _ _ hS).m ?_;rintro e w5 ⟨g5,c5,rfl,Ce,bf⟩;try go_simp
 refine hK _ _ ?_;clear hK K;refine aO ?_;refine fi 15 λK hK=>?_;go_simp;refine(HQ.o w5 _ (Ce.congr aw6)).m ?_;rintro e w6 ⟨rfl,bJ⟩;try go_simp
 refine hK _ _ ?_;clear hK K;refine aO ?_;iterate 2 refine iT 18 11 ?_
 refine vz ?_;have AH:=ak (ak (ai (ak (ak (a_ ba) aN) aQ) _) bf) bJ;have iA:=aC (jO HB.o (ak (ai (ak (ak (a_ (aj w2)) aN) aQ) _) bf) bh) bJ;refine Qa λc0 wO tX wP f0 f1 f2 f3=>?_;have rZ:=blk_lt iA;have cI:=ah iA;clear iA aN aQ bf bJ hS nO Cd Ce ba HB HR HQ;go_wp2_with fail
 refine bodyPost_ret (v:= .tuple #[ja 0 [] 0 0,Xo XO 3]) (by simp[results,results216,go_sem,ja,bs,c0,wO,tX,wP,rZ]) rfl ?_;exact⟨rfl,by repeat' first|with_reducible exact AH|with_reducible refine cF ?_ Az _|with_reducible refine ai ?_ _⟩):p:=h
def Qb(h:p:=by
 go_wp2_with first
  |(go_at_call 206;refine(DC.o _ bo.o).m ?_;rintro e w2 ⟨rfl,au⟩;rw[dK.o];have dz:=aC lr.o au;obtain⟨y0,y1,y2,y3,y4,y5,y6⟩:=gY dz;refine tr λaU=>?_;clear au dz)
  |(go_at_call 124;refine(Fw _ _ _ _).m ?_;rintro e w3 ⟨rfl,hw⟩;obtain rfl:=hw.symm;first|rw[fh.o]|rw[o_.o]|rw[sH.o]|skip)
 go_ret;exact⟨cd JQ,aU.o⟩):p:=h
def Zc(h:p:=by
 refine Dg ?_;intro W2 hw;have HW:=ah (ak HB.o hw);have q0:=kc hw q0;have m0:=kc hw m0;refine Mn λbh Ba ze=>?_;clear x0 x1 x2 x3 x4 x5;obtain⟨x0,x1,x2,x3,x4,x5⟩:=dW (aC HX.o hw);clear hw;go_region_held3 (λw'=>w'.cell? (rb ro WY)=WX (Xp s0)/\w'.cell? (nb no WY)=WX (Xo XO n0)) (go_simp)
  (first
    |(go_at_call 197;refine(iE.o _ (a_ HW.o)).m ?_;rintro e w3 ⟨rfl,aN⟩;have c_:=ak (a_ HW.o) aN;obtain⟨kg,nS⟩:=nH aN))
 go_wp2_with fail
 go_ret;exact⟨rfl,c_⟩):p:=h
def MB(h:p:=by
 go_simp;refine il ?_;clear hK;refine aO ?_;refine gA ?_;go_wp2_with fail
 go_end0
 exact⟨⟨_,rfl⟩,mW.mk' (aC pk.o (ai (a_ (aj W1)) _)) (ak (a_ bo.o) (ai (aj _) _)) bE iO rT gV kV (gV.elim (λh e=>iO (by rw[h,e])) (λh e=>by simp at h;omega))⟩):p:=h
def IA(h:p:=by
 refine j' λhS=>?_;clear hK;refine aO ?_;refine iw 19 9 ?_;refine gA ?_;go_wp2_with fail
 go_meet;exact⟨HL.o _ (by first|exact jH|exact a_ jH),by first|exact jH|exact a_ jH⟩):p:=h
def Zi(h:p:=by
 try rw[HN.o]at HR
 go_wp2_with first
  |(go_at_call 206;refine(DC.o _ bo.o).m ?_;rintro e w2 ⟨rfl,au⟩;rw[dK.o];have dz:=aC lr.o au;obtain⟨y0,y1,y2,y3,y4,y5,y6⟩:=gY dz;refine tr λaU=>?_;clear au dz)
  |(go_at_call 124;refine(Fw _ _ _ _).m ?_;rintro e w3 ⟨rfl,hw⟩;obtain rfl:=hw.symm;first|rw[fh.o]|rw[o_.o]|rw[sH.o]|skip)
 all_goals
  go_ret;exact⟨cd (by first|exact HR.o.symm|(rw[HR.o];simp_all;done)|(rw[HR.o,Xz];simp_all<;>omega)),aU.o⟩):p:=h
def Fq(h:p:=by
 have HR:=ah (show r=Xc by rw[HO.o,Bool.eq_false_iff];intro h;simp only[Xh,decide_eq_true_eq,aD]at h;omega);go_wp2_with fail
 go_ret;exact⟨by rw[HR.o];rfl,bo.o⟩):p:=h
def ap7(h:p:=by
 rw[yA.o];rintro e w3 ⟨fW,rfl,kz⟩;refine QN λc_ wT bx pg=>?_;clear c_ wT;clear fW kz;go_simp;refine hK _ _ ?_;clear hK K;refine aO ?_;iterate 2 refine iT 11 24 ?_
 iterate 3 refine EY 11 24 ?_
 refine lw 10 34 ?_;refine vz ?_;have wV:=pg.o;rw[nd]at wV;obtain⟨⟨d0,d1,d2,d3,d4,d5,d6,d7,d8,d9⟩,fr⟩:=P6 wV;refine P9 λf0 f1 f2 f3 f4 f5 f6 f7 f8 f9=>?_;clear wV fr;go_wp2_with fail
 refine V' ?_;refine⟨?_,?_⟩
 .have hb:=bx.o;repeat' first|with_reducible exact hb|with_reducible refine cF ?_ (am _) _
 .rw[V9 HK.o,yA.o];rfl):p:=h
def PZ(h:p:=by
 go_wp2_with(first
  |(go_at_call 331;refine(ik.o _ (ai (ai (aj w) _) _)).m ?_;rintro e w1 ⟨rfl,ay⟩;have bk:=ah (ak (ai (ai (aj w) _) _) ay);obtain⟨bA,bT⟩:=dr ay;have aZ:w.heap.size+1<w1:=dB ay YQ;clear ay)
  |(go_at_call 162;refine(HW.o _).m ?_;rintro e w2 ⟨rfl,rfl⟩)
  |fail)
 go_ret;exact⟨by simp,bk.o⟩):p:=h
def av8(h:p:=by
 go_enter func161,ntmps161
 go_wp2_with(first
  |(go_at_call_of 238 (Xo XO (m.sites.length:Nat));refine(dK.o _).m ?_;rintro e w1 ⟨rfl,rfl⟩)
  |(go_at_call 238;refine(fh.o _).m ?_;rintro e w1 ⟨rfl,rfl⟩)
  |(go_at_call 239;refine(HR.o _ (ai (aj w) _) HN.o).m ?_;rintro e w1 ⟨rfl,ay⟩;have bk:=ah (ak (ai (aj w) _) ay);have iF:=ah (aC HN.o ay);have e3:w1.cell? (w 3 WY)=WX (YG Ma m.machs.length mc):=ap iF.o rfl;have e4:w1.cell? (w 4 WY)=WX (YG La m.links.length lc):=ap iF.o rfl;clear ay)
  |(go_at_call 243;refine(HM.o _ bk.o iF.o).m ?_;rintro e w2 ⟨rfl,au⟩;have aU:=ah (ak bk.o au);have ga:=ah (aC iF.o au);have e4:w2.cell? (w 4 WY)=WX (YG La m.links.length lc):=ap ga.o rfl;clear au)
  |(go_at_call 246;refine(HL.o _ aU.o ga.o).m ?_;rintro e w3 ⟨rfl,aN⟩;have bx:=ah (ak aU.o aN);clear aN))
 go_ret;exact⟨by rw[HO.o];simp;(try have hq:=trivial);(try omega),ai (aj w) _⟩):p:=h
def Fd(h:p:=by exact⟨rfl,by repeat' first|with_reducible exact aj w|with_reducible refine cF ?_ Az _|with_reducible refine cF ?_ (Yi _) _|with_reducible refine ai ?_ _⟩):p:=h
def Qw(h:p:=by
 intro wq hZ;try dsimp only at hZ
 have h:=sB (P:=Xn) underlying117 X0 Da hZ.2.2.2.1 s Xe (zeroValue185 _);rw[BP.o]at h;have jJ:(XB 117 (.map (WX Mb)) (Xp (bs s)) Xe).run Xn wq= .ok (.tuple #[YJ #[Xo XO (xa:Nat),Xo XO (xn:Nat)],YH Xe]) wq:=h;clear h;go_simp;try with_reducible rfl):p:=h
def Fi(h:p:=by have h:=sB (P:=Xn) underlying183 Xj co lM.o (d.kind:Int) Xc (zeroValue4 _);rw[bm9.o]at h;exact h):p:=h
def Zq(h:p:=by
 clear cR;go_wp2_with
  (go_at_call 37;refine zN ?_;rintro e w2 ⟨rfl,au⟩;have cD:=aC gS.o au;obtain⟨b0,b1,b2,b3,b4,b5,b6,b7,b8,b9,ru,AC,AD,AE⟩:=jE cD;have ny:=ah au;refine tr λaU=>?_;clear au cD)
 go_meet;exact⟨by first|rfl|simp[bA,dp]|(simp only[Value.bool.injEq,Bool.or_eq_false_iff,decide_eq_false_iff_not];omega),ny.o⟩):p:=h
def bg9(h:p:=by
 go_upto_region 4 with(first
  |(go_at_call 55;refine Q6.o.m ?_;rintro e w2 ⟨d_,rfl⟩))
 have UM:w2.heap[rt]?=WX (YI #[YG WY 0 0,YG WY 0 0,YG WY 0 0,YG WY 0 0,YG WY 0 0,YG WY 0 0,Xo XO 0,Xo XO 0,Xo XO 0,Xo XO 0,YG WY 0 0] 29 (0,0)):=d_.blk Nm.o (blk_lt Nm.o) UE;obtain⟨q0,q1,q2,q3,q4,q5,q6,q7,q8,q9,oU⟩:=eR UM;obtain⟨z0,z1,z2,z3,z4,z5,z6,z7,z8,z9,oV⟩:=Li UM;have sM:=ah UM;go_wp2_with fail
 refine Mi λW7 k_=>?_;have h2:=d_.size;have rV:=bn8.o;have AM:=bm2.o;have UY:=de1.o;have OL:=de2.o;have bg:=bn9.o;exact Fp.err HE.o rfl ((bo.o.trans ((d_.below YN).mono YN)).trans ((k_.below YN).mono YN))):p:=h
def Qg(h:p:=by
 have HR:=ah (show r=Xc by rw[HO.o,DG.o,uG kB hF];rfl);clear hF;go_wp2_with fail
 go_quiet (fail)
 go_wp2_with fail
 go_ret;exact⟨by rw[HR.o];rfl,pA bm.o _⟩):p:=h
def bp5(h:p:=by
 have HR:=ah (bf1 iW.o az Nw);go_upto_region 4 with(fail)
 refine bp6 λhS=>?_;iterate 7 refine cL 25 12 ?_
 refine bC 7 λK hK=>?_;go_simp;refine pZ ?_;rintro e w4 ⟨rfl,rfl⟩;rw[dK.o];try go_simp
 refine hK.o _ _ (hS) (λhS=>?_);clear hK;refine aO ?_;iterate 2 refine cL 25 12 ?_
 iterate 14 refine qY 25 12 ?_
 refine iw 24 36 ?_;refine gA ?_;go_wp2_with fail
 go_ret;exact⟨by rw[HR.o];rfl,ak bm.o hS.2.2⟩):p:=h
def av2(h:p:=by
 clear HB;go_enter func51,ntmps51
 go_wp2_with first
             |(go_at_call 49;refine HN.o.m ?_;rintro e w1 ⟨rfl,ay⟩;have cz:=ay.size)
             |(go_at_call 134;refine(HR.o _ bP).m ?_;rintro e w2 ⟨v,rfl,hv,au⟩;have aN:=ai ay (YI #[t.kind,bs t.text,t.n,t.pos] 109);have ht:=aC (cN w1 (YI #[t.kind,bs t.text,t.n,t.pos] 109)) au;have aQ:=ak aN au)
             |(go_at_call 133;refine(HC.o _ _ _ (blk_lt ht) (ap ht rfl) (ap ht rfl) hv.sl).m ?_;rintro e w3 ⟨rfl,bf⟩)
 go_ret;rw[HK.o];exact⟨rfl,ak aQ bf⟩):p:=h
def Zm(h:p:=by
 go_wp2_with first
  |(go_at_call 123;refine pZ ?_;rintro e w3 ⟨rfl,hw⟩;obtain rfl:=hw.symm;rw[I7.o])
  |(go_at_call 124;refine(Fw _ _ _ _).m ?_;rintro e w3 ⟨rfl,hw⟩;obtain rfl:=hw.symm;first|rw[sN.o]|rw[sO.o]|rw[vg.o])
 go_ret;exact⟨cd JQ,bm.o⟩):p:=h
def Zl(h:p:=by
 refine gA ?_;go_wp2_with fail
 exact⟨⟨k+1,by omega,by go_num,λq hq=>by
  rcases XN q k with h|h
  .exact eO.o q h
  .have:q=k:=by omega
   subst this;exact jZ.o,ak HB.o hS⟩,by simp[Xw];omega⟩):p:=h
def Me(h:p:=by
 try simp only[zx,vk]
 by_cases h1:k=5
 .subst h1;simp
 .by_cases h2:k=6
  .subst h2;simp
  .by_cases h3:k=13
   .subst h3;simp
   .simp[h1,h2,h3]):p:=h
def bu4(h:p:=by
 clear hk;rw[aS.cells_def];go_enter func16,ntmps16
 go_wp2_with(first
  |(go_at_call 34;refine(HV.o _ (ai (aj w) _)).m ?_;rintro e w1 ⟨rfl,ay⟩;have cA:=ak (ai (aj w) _) ay;have aZ:w.heap.size<w1:=dB ay YQ;obtain⟨bA,bT⟩:=dr ay)
  |(go_at_call 41;refine(HW.o _).m ?_;rintro e w2 ⟨rfl,au⟩;have ba:=ak cA au;have bh:w.heap.size<w2:=dB au aZ;obtain⟨dp,cG⟩:=dr au;have nZ:w.heap.size<w2+1:=XT bh;have Bh:w.heap.size<w2+1+1:=XT nZ))
 go_ret;refine⟨lQ ?_,ai ba _⟩;rw[HT.o,HA.o];rfl):p:=h
def bd8(h:p:=by
 by_cases az:k<len
 .obtain⟨fn,tmps,assign,body,hy,hR⟩:=hY _ (f k) wr Ea (by rw[ev2];exact az);have hb9:=iB az
  gi_wp2
  refine hR.m ?_;rintro e W3 (⟨rfl,Td,qz⟩|⟨rfl,ge9⟩)
  .gi_wp2
   go_roundw
   case rel=>exact⟨k+1,by omega,by simp,by rw[bd7];exact Td,xz.trans qz⟩
   case measure=>simp[Xw];omega
  .gi_wp2
   refine bodyPost_ret (results_none rfl _ _ _) rfl ?_;exact⟨⟨_,rfl⟩,.inr ⟨_,⟨k+1,by omega,(bd7 _ _).symm⟩,ge9⟩⟩
 .obtain rfl:k=len:=by omega
  gi_wp2
  go_end0
  exact⟨⟨_,rfl⟩,.inl ⟨_,rfl,Ea⟩⟩):p:=h
def FA(h:p:=by
 have g:=decide_eq_true h;clear h
 as_aux_lemma=>
  go_wp2_with fail
  go_ret;exact⟨_,rfl,trivial,HB.o⟩):p:=h
def bd1(h:p:=by
 go_wp2_with first
  |(refine(yh.o _ Ac.o).m ?_;rintro e w4 ⟨rfl,aQ⟩;refine bt6 λeL nj ry pp pq rz wN GG tI Ap=>?_;clear aQ eL nj yL vt yM yO yP yQ DX DY Sm Sn So Sp Sq Sr)
 all_goals go_ret
 all_goals exact⟨zE (by(try simp[]);(try omega)),tI.o⟩):p:=h
def QD(h:p:=by
 go_wp2_with first
  |(go_at_call 202;refine(QB _ _).m ?_;rintro e w4 ⟨rfl,hw⟩;obtain rfl:=hw.symm;rw[sH.o])
 go_ret;exact⟨by rw[HR.o];rfl,ak bm.o aU.o⟩):p:=h
def IV(h:p:=by
 refine gA ?_;go_wp2_with fail
 go_ret;exact⟨cd (by rw[HO.o,HR.o];simp),ak bm.o hS⟩):p:=h
def as3(h:p:=by
 go_enter func335,ntmps335
 go_wp2_with(first
  |(go_at_call 331;refine(ik.o _ (ai (ai (aj w) _) _)).m ?_;rintro e w1 ⟨rfl,ay⟩;have bk:=ah (ak (ai (ai (aj w) _) _) ay);obtain⟨bA,bT⟩:=dr ay;have aZ:w.heap.size+1<w1:=dB ay YQ;clear ay)
  |(go_at_call 162;refine(HW.o _).m ?_;rintro e w2 ⟨rfl,rfl⟩)
  |(go_at_call 175;refine(HC.o _ _ _ (aW.lits _ [2,3,4] (by simp[aP]) YQ _)).m ?_;rintro e w3 ⟨rfl,rfl⟩)
  |fail)
 go_ret;exact⟨by simp,bk.o⟩):p:=h
def bi9(h:p:=by
 have HR:=ah (show ∀j,j<k+1->F j=Xe from λq hq=>by
  rcases XN q k with h|h
  .exact eO.o q h
  .have:q=k:=by omega
   subst this;rw[jZ.o];rfl)
 go_wp2_with(first
  |(go_at_call 193;refine(BP.o _).m ?_;rintro e w1 ⟨rfl,hw⟩;obtain rfl:=hw.symm)
  |(go_at_call 196;refine(Dx.o _).m ?_;rintro e w1 ⟨rfl,hw⟩;obtain rfl:=hw.symm))
 exact⟨⟨k+1,by omega,by go_num,HR.o,by trivial⟩,by simp[Xw];omega⟩):p:=h
def bs8(h:p:=by
 match xs,cr with
 |[y0,y1,y2],_=>have g0:=hg 0 _ rfl;simp[bY.1,bY.2.2.1,bY.2.2.2.1,bY.2.2.2.2]at g0;obtain⟨a0,rfl,_⟩:=Qt g0;have g1:=hg 1 _ rfl;simp[bY.1,bY.2.2.1,bY.2.2.2.1,bY.2.2.2.2]at g1;obtain⟨a1,rfl,i1⟩:=jG Xj g1;have g2:=hg 2 _ rfl;simp[bY.1,bY.2.2.1,bY.2.2.2.1,bY.2.2.2.2]at g2;obtain⟨a2,rfl,i2⟩:=jG Xj g2;exact⟨⟨a0,a1,a2⟩,rfl,i1,i2⟩):p:=h
def OX(h:p:=by simp only[List.setIfInBounds_toArray,List.set_cons_succ,List.set_cons_zero];rfl):p:=h
def ah1(h:p:=by
 go_wp2_with fail
 go_region
 all_goals
  go_end0
  refine⟨⟨_,rfl⟩,?_,?_⟩
  .repeat' first|with_reducible refine Le ?_ _ _|with_reducible refine Ld ?_ |with_reducible exact Lb _ _
  .have h:=HP.o;clear HP;unfold eZ at h⊢
   rw[nd]at h;try rw[Lf]
   refine(jF (jF (jF (h) _ _) _ _) _ _).trans ?_;exact OX):p:=h
def bs1(h:p:=by
 obtain⟨⟨q0,q1,q2,q3,q4,q5,q6,q7,q8,q9,oU,uM,uN,uO⟩,z0,z1,z2,z3,z4,z5,z6,z7,z8,z9,oV,wA,wB,wC⟩:=Di Nl.o;go_wp2_with fail
 refine Bq b_ b_ b_ b_ Nl.o (λW7 hk=>?_);rw[show(K:Int)+j+2=((K+2+j:Nat):Int)by omega];exact tu.err (by rw[DM.o,HE.o]) rfl (Dh ((aU.o).trans (kR.o.mono lH)) ((hk.below (eX (blk_lt Nl.o))).mono EL))):p:=h
def br4(h:p:=by
 have HR:=ah (show aD cl 0 8=Xc by simp[aD];omega);go_wp2_with
  (go_at_call 37;refine zN ?_;rintro e w2 ⟨rfl,au⟩;have cD:=aC gS.o au;obtain⟨b0,b1,b2,b3,b4,b5,b6,b7,b8,b9,ru,AC,AD,AE⟩:=jE cD;have ny:=ah au;refine tr λaU=>?_;clear au cD)
 go_ret;exact⟨cd (by rw[HO.o,HR.o];simp),aU.o⟩):p:=h
def ah0(h:p:=by
 go_wp2_with fail
 go_region
 all_goals
  go_end0
  refine⟨⟨_,rfl⟩,?_,?_⟩
  .repeat' first|with_reducible refine Le ?_ _ _|with_reducible refine Ld ?_ |with_reducible exact Lb _ _
  .have h:=HP.o;clear HP;unfold eZ at h⊢
   rw[nd]at h;try rw[Lf]
   refine(jF (jF (h) _ _) _ _).trans ?_;exact OX):p:=h
def Mu(h:p:=by
 go_wp2_with fail
 exact⟨⟨_,k+1,fu.o,by go_num,rfl,di.o⟩,by have:=fu.o;simp[Xw];omega⟩):p:=h
def Pw(h:p:=by exact⟨by repeat' first|with_reducible exact c_|with_reducible refine cF ?_ Az _|with_reducible refine ai ?_ _,rfl⟩):p:=h
def OS(h:p:=by
 refine gA ?_;go_wp2_with fail
 exact⟨⟨k+1,by omega,by go_num,ak HB.o hS⟩,by simp[Xw];omega⟩):p:=h
def ZX(h:p:=by
 cases hs:bM s with
 |some u=>
  have e1:dX [s]=WX [u]:=by simp[dX,hs]
  rw[e1]at hp;exact⟨hp.1,hg,_,hp.2,by simp[qH],λu' h=>by injection h with h;subst h;rfl⟩
 |none=>
  have e1:dX [s]=none:=by simp[dX,hs]
  rw[e1]at hp;obtain⟨he,cs',h1,h2⟩:=hp;exact⟨he,hg,cs',h1,h2,λu' h=>by cases h⟩):p:=h
def gs9(h:p:=by
 intro A' n' c' w4 TX aQ;refine il ?_;clear hK;refine aO ?_;refine eQ 10 λK hK=>?_;go_simp;refine il ?_;clear hK;refine aO ?_;refine gA ?_;go_wp2_with fail
 exact⟨⟨k+1,fu.o,by go_num,TX.to (by rw[HT.o]),(BO.o.trans (hS.mono iP)).trans aQ⟩,by have:=fu.o;simp[Xw];omega⟩):p:=h
def bg3(h:p:=by
 clear hB hx;obtain⟨x0,x1,x2,x3,x4,x5⟩:=dW HX.o;go_quiet (fail)
 go_wp2_with fail
 go_ret;exact⟨rfl,pA HB.o _⟩):p:=h
def bg1(h:p:=by
 obtain⟨rA,rn,rc,rfl⟩:=hr;obtain⟨nA,nn,nc,rfl⟩:=hn;unfold iS;go_enter func118,ntmps118;go_upto_region 1 with(fail)
 refine eG ?_;intro W1 ⟨hB,hx⟩;have HB:=ah hB;have HX:=ah hx;exact bg3):p:=h
def Z1(h:p:=by
 injection he with e1 e2 e3;subst e1;have hl:l.length=n:=by simpa using e2.symm
 obtain⟨b,o,hA,hb,hc⟩:=h3 (λe=>by have:l=[]:=by simpa using e
                                  subst this;simp at hl;omega)
 exact⟨b,o,hA,hb,λj hj=>hc j _ (by rw[Xr];simp[cM,aJ,Xd (show j<l.length by omega)])⟩):p:=h
def be4(h:p:=by go_ret;have h1:=Go.Lib.ownsRow_putRow (q:=q) (ys:=ss) HO.o HL.o (am _);rw[Xu (by rw[HL.o];exact am _)]at h1;exact⟨_,rfl,eH h1 (be2 _ _),(Go.Lib.below_putRow HB.o eU).trans ((be2 _ _).mono (by have:=HB.o.size;simp[Go.Sort.putRow,Go.Sort.mapBlock,Go.Sort.ahead];omega))⟩):p:=h
def ZG(h:p:=by rintro e w' ⟨h1,o,h2,h3⟩;exact⟨h1,kJ.addI bg hB hO oJ hX h2 (by rw[g3];exact fc0 (PQ h3 hB) (by rw[(Iv _).length_eq,Xl])) g2 g1⟩):p:=h
def gs4(h:p:=by
 intro A' n' c' w4 TX aQ;refine _root_.Go.wpList_step λK hK=>?_;go_simp;refine hK _ _ ?_;clear hK;refine aO ?_;refine _root_.Go.wpList_nil ?_;go_wp2_with fail
 exact⟨⟨k+1,fu.o,by go_num,TX.to HT.o.symm,BO.o.trans (((ai (aj _) _).mono iP).trans aQ)⟩,by have:=fu.o;simp[Xw];omega⟩):p:=h
def QC(h:p:=by
 refine gA ?_;go_wp2_with fail
 exact⟨⟨j+1,by omega,by go_num,lL.o,a_ kA.o⟩,by simp[Xw];omega⟩):p:=h
def ZQ(h:p:=by
 have HR:=ah (show res=Xe from by rw[iW.o];exact zw λj hj=>eO.o j YN);go_wp2_with fail
 go_ret;exact⟨by rw[HR.o];rfl,bm.o⟩):p:=h
def WU(h:p:=by rw[List.not_all_eq_any_not,List.any_map];congr 1;funext x;have:WZ ((x:Int)<=1048576)=WZ (x<=1048576):=Nu;simp[this]):p:=h
def be1(h:p:=by
 rintro D ys W hD rfl ⟨⟨v,hv,dO,_⟩,hB⟩ hK;have hc:=hv.cell
 gi_wp2
 refine⟨by simp,.inl ⟨_,_,rfl,run_takeDeferred hK,?_⟩⟩;exact⟨_,results_tmp rfl _ _ _,v,rfl,ownsRow_putObj dO _ hK rfl,hB.trans (belowK_b (w:=w) (am _) W D _ _ (by simp at hD;omega) hK rfl rfl)⟩):p:=h
def Pn(h:p:=by
 rcases XN b w with h|h
 .exact h
 .rw[Array.getElem?_eq_none h]at gW;cases gW):p:=h
def Mg(h:p:=by
 go_wp2_with fail
 go_ret;exact⟨by rw[HE.o];rfl,ak uR.o (a_ ee.o)⟩):p:=h
def ab0(h:p:=by
 go_wp2_with fail
 go_ret;have nV:k=n:=YN;have hl:dX l=WX vs:=by have:=HV.o;rwa [Xu NI]at this
 refine⟨q'.o,?_⟩;rw[hl];refine⟨rfl,?_⟩;have:=fG.o
 rwa [Xu (by rw[Gg.o];omega)]at this):p:=h
def bi3(h:p:=by
 have HR:=ah (Bp iW.o az (by rw[HF.o];rfl));go_wp2_with first
  |(go_at_call 123;refine pZ ?_;rintro e w4 ⟨rfl,hw⟩;obtain rfl:=hw.symm;first|rw[dK.o]|rw[fh.o])
 go_ret;exact⟨by rw[HR.o];rfl,ak bm.o aU.o⟩):p:=h
def br3(h:p:=by
 go_wp2_with fail
 go_quiet (fail)
 go_wp2_with fail
 exact⟨⟨k+1,by omega,by go_num,λq hq=>by
  rcases XN q k with h|h
  .exact eO.o q h
  .have:q=k:=by omega
   subst this;exact jZ.o,pA HB.o _⟩,by simp[Xw];omega⟩):p:=h
def Fg(h:p:=by
 go_wp2_with fail
 go_ret;exact⟨⟨_,rfl⟩,rfl⟩):p:=h
def Z0(h:p:=by subst hw;refine⟨_,he,⟨_,_,by rw[Xl,cr],by simp[cr],by simp[XF];omega,λ_=>⟨w.heap.size,0,rfl,by simp,λj u hj=>?_⟩⟩,cr,(X6 _ _).alloc (am _) _⟩;rw[XE];simpa using hj):p:=h
def bi5(h:p:=by
 go_wp2_with fail
 exact⟨⟨k+1,by omega,by go_num,λq hq=>by
  rcases XN q k with h|h
  .exact eO.o q h
  .have:q=k:=by omega
   subst this;exact jZ.o,ak HB.o (ak aU.o kA.o)⟩,by simp[Xw];omega⟩):p:=h
def Wz(h:p:=by
 have gC:=ak HQ.o (ak (a_ (ai (aj wr) _)) fL);go_wp2_with fail
 go_ret;exact⟨by rw[uG az HP.o];try rfl,gC⟩):p:=h
def av3(h:p:=by
 subst e';rcases h.2 with⟨rfl,_⟩|⟨g,cap,cur,rfl,_,hg,_⟩
 .simp[X2]at hk
 .have:g=b:=by simpa[Value.ownBlock]using hk
  subst this;rw[hg]at hb;injection hb with hb;injection hb with _ hb _;exact ht hb.symm):p:=h
def CR(h:p:=by
 go_wp2_with fail
 go_ret;exact⟨rfl,rfl⟩):p:=h
def ag4(h:p:=by
 constructor
 .rintro⟨k,h1,h2⟩;exact⟨k,by omega,h2⟩
 .rintro⟨k,h1,h2,h3⟩;refine⟨k,?_,h2,h3⟩;rcases Nat.lt_or_ge pos k with h|h
  .omega
  .have:k=pos:=by omega
   subst this;rw[ho]at h3;cases h3):p:=h
def PG(h:p:=by
 rw[e];go_enter func143,ntmps143;go_wp2_with fail
 go_ret;exact⟨rfl,aj w⟩):p:=h
def PI(h:p:=by
 go_wp2_with fail
 go_ret;refine⟨zE ?_,aj w⟩;rw[Xz];simp;try omega):p:=h
def ag2(h:p:=by
 split
 .split
  .simp;omega
  .simp
 .split
  .split
   .rename_i hc;simp at hc⊢;omega
   .simp
  .split
   .split
    .rename_i hc;simp at hc⊢;omega
    .simp
   .simp):p:=h
def bd9(h:p:=by
 rintro e W' ⟨he,⟨ys,rfl,hj⟩|⟨pre,⟨k,hk,rfl⟩,hj⟩⟩
 .exact⟨he,.inl ⟨_,ev3 zs _,hj⟩⟩
 .exact⟨he,.inr ⟨_,by rw[ev4 zs _ hk];exact List.take_prefix _ _,hj⟩⟩):p:=h
def bu7(h:p:=by
 clear h0 Bc hx bb;go_wp2_with(go_at_call 40;refine(ZN _ D' _).m ?_;rintro e w1 ⟨rfl,ay⟩)
 exact⟨⟨k+1,by omega,by go_num,by rw[HS.o],ak fG.o ay⟩,by simp[Xw];omega⟩):p:=h
def bi4(h:p:=by
 rw[List.any_eq_false];intro y hy;obtain⟨q,hq⟩:=List.mem_iff_getElem?.1 hy;rw[List.getElem?_take]at hq;split at hq
 .rename_i Uw;rw[Gl.o q y YN hq];exact Bool.false_ne_true
 .cases hq):p:=h
def Ps(h:p:=by exact⟨λh=>absurd h aF,λ⟨k,h1,h2,_⟩=>by omega⟩):p:=h
def ar0(h:p:=by
 have h1:=dE e he hb;have h0:=(mem_ready.1 hr).1;rw[heq]at h1;rcases XN i listed.size with h'|h'
 .simp[h']at h0 h1;rw[h0]at h1;cases h1
 .simp[Array.getElem?_eq_none h']at h1):p:=h
def ax4(h:p:=by have:=Lib.run_convert_string_bytes (P:=Xn) W 9 158 5 (s.extract 0 n) X0 underlying158 underlying5;rw[this];rw[Yv,Nat.min_eq_left eN,Nat.sub_zero]):p:=h
def aq9(h:p:=by
 refine⟨λh=>(by rw[h]at hr;cases hr),λj hj=>?_⟩;by_cases sY:j=i
 .subst sY;exact hy.wpOp hi hS ⟨λ_=>hS,H⟩
 .have:=ready_mono hj sY;rw[H.1]at this;cases this):p:=h
def bs0(h:p:=by
 go_wp2_with fail
 exact⟨⟨j+1,acc,rows,av,by omega,by go_num,qi.o.trans (by rw[M3.o];exact fx9 HX.o),gf7,Gd.o,vb.o,DL.o,wK.o⟩,by simp[Xw];omega⟩):p:=h
def Qc(h:p:=by simp only[dm,h];rw[Xz];simp[and_assoc];try grind):p:=h
def Ms(h:p:=by
 go_wp2_with fail
 go_meet;exact⟨by rw[HZ.o],rfl⟩):p:=h
def ax3(h:p:=by
 have eJ:k<t.length:=by rw[HL.o];exact hk
 have:=Af.o _ (List.getElem_mem eJ);rw[Xy,Xd eJ];unfold bX at this;simpa using this):p:=h
def WV(h:p:=by
 go_wp2_with fail
 all_goals go_ret
 all_goals exact⟨zE (by(try simp[]);(try omega)),Ac.o⟩):p:=h
def bd6(h:p:=by refine⟨⟨k+1,t,by omega,by go_num,?_,DB.o,qh.o,tP.o,mQ.o⟩,by simp[Xw];omega⟩;rw[uT.o DU.o (by rw[oX.o];rfl),if_pos (of_decide_eq_true qm.o)]):p:=h
def aa1(h:p:=by refine⟨⟨_,l.length,by simp,by simp,by simp only[XF];omega,λ_=>⟨W.heap.size,0,rfl,by simp,λj u hj=>?_⟩⟩,hl⟩;rw[XE];simpa using hj):p:=h
def bs5(h:p:=by
 have h:=congrArg ByteArray.size ga.o;rw[Yo,Yo]at h;have h1:(bs (PP (j+1))).size<=16485:=by rw[dd];exact uV.o (j+1)
 omega):p:=h
def VQ(h:p:=by
 rcases dJ with dJ|dJ<;>
 .simp[Yr,dJ,hm,hx,hv,eB,Result.andThen];exact h4):p:=h
def be7(h:p:=by rw[yw.o];exact oT ((show W5.ownsRow w 3 1 _ 1 [Xo .i64 ((N.toNat:Nat):Int)]from by rw[Int.toNat_of_nonneg n0];exact bm4.o)) vh.o aF hk):p:=h
def xQ(h:p:=by go_ret;exact⟨rfl,ay⟩):p:=h
def WA(h:p:=by
 go_wp2_with fail
 go_ret;exact⟨by rw[zw (λj hj=>HA.o j YN)];rfl,hB⟩):p:=h
def Pu(h:p:=by
 have:=LL (s.extract n s.size) F gF W tj h
 rwa [hq]at this):p:=h
def ab1(h:p:=by
 rcases h.2 with⟨mN,_⟩|⟨g',cap',_,mN,_,_,h1,h2,_⟩
 .rw[hv]at mN;cases mN
 .rw[hv]at mN;injection mN with _ _ h3;subst h3;exact⟨h1,h2⟩):p:=h
def bu5(h:p:=by obtain⟨kl,G_⟩:∃kl,x.key=bs kl:=⟨_,(lv _).symm⟩;rw[HT.o,HA.o,HO.o,G_,eS];simp only[eP,ID];simp[Yd]):p:=h
def L'(h:p:=by simp[im,oO,show(0:Int)<i by omega]):p:=h
def as1(h:p:=by obtain⟨b,o,cs,hA,hb,_,hR,hc⟩:=h.sk.at_ hx;unfold R1 at hR;subst hR;have:=hc 0 _ rfl;rw[Nat.mul_one,Xt]at this;exact⟨b,o,hA,hb,this⟩):p:=h
def ah2(h:p:=by unfold YE;simp[Yr,ho,resolve,invoke,builtin,hs,hx,eB,Result.andThen];exact h v w (by rw[Yz];exact bN) (YC w _)):p:=h
def aq4(h:p:=by have h:=sB (P:=Xn) underlying264 Xj co (hM.later (ai (aj w2) o)) x.kind Xe (zeroValue262 _);rw[HF.o]at h;exact h):p:=h
def ax7(h:p:=by rw[rj.o];exact⟨by repeat' first|with_reducible exact AH|with_reducible refine cF ?_ Az _|with_reducible refine ai ?_ _,rfl⟩):p:=h
def LQ(h:p:=by
 have:=LL s F bX W hz h
 rwa [hn]at this):p:=h
def ac6(h:p:=by
 simp only[XR,XP,or_false]at hw;rcases hw with rfl|rfl|rfl
 .exact lit _ aF
 .exact fD
 .exact Lk _):p:=h
def Wq(h:p:=by rw[Array.getD_eq_getD_getElem?,Array.getElem?_setIfInBounds];simp;split<;>simp):p:=h
def VR(h:p:=by unfold YE;simp[Yr,dJ,hm,hx,eB,Result.andThen];exact g_ _ _ hK):p:=h
def aw9(h:p:=by exact⟨by repeat' first|with_reducible exact D_|with_reducible refine cF ?_ Az _|with_reducible refine ai ?_ _,rfl⟩):p:=h
def ak3(h:p:=by
 simp only[XR,XP,or_false]at hw;rcases hw with rfl|rfl|rfl
 .exact lit _ aF
 .exact fD
 .exact it _):p:=h
def ar1(h:p:=by rw[Xh,Xh]at hk;obtain⟨h1,h2,h3,hd⟩:=II hk.1 hi;exact Ig _ hi hd hk.2.1 h1 h2 h3 hk.2.2 hQ hy hS h):p:=h
def bg8(h:p:=by rw[Xh,Xh]at hk;obtain⟨h1,h2,h3,hd⟩:=II hk.1 hi;exact fa4 _ hi hd hk.2.1 h1 h2 h3 hk.2.2 hQ hy hS h):p:=h
def Zj(h:p:=by simp only[dm,qc,h];rw[Xz];simp[and_assoc];try grind):p:=h
def aa8(h:p:=by rw[Yp (q'.o.block bu lg (by intro e;injection e with e;exact bj9.o e))];exact HU.o k (by rw[Gg.o];exact az)):p:=h
def aq3(h:p:=by have h:=sB (P:=Xn) underlying264 Xj co hM x.kind Xe (zeroValue262 _);rw[HF.o]at h;exact h):p:=h
def af7(h:p:=by
 rcases XN w wr with h|h
 .exact h
 .have:=fG.o;rw[Array.getElem?_eq_none h]at this;cases this):p:=h
def aq8(h:p:=by have:=List.all_eq_true.1 h j (List.mem_range.2 hj);have hd:WZ (j<N)=false:=decide_eq_false YN;simpa[hd]using this):p:=h
def ac9(h:p:=by refine⟨?_,IE hv,aP.zero,by simp[aJ],by show aP _;exact⟨by simp,by simp⟩⟩;simp[bz3,e1,h3,mN,lv]):p:=h
def aj0(h:p:=by exact qN (Pa hT _ (λi=> .inl b_) x.on 0 (.inr λi=>by rfl) h3) (by simpa[jM]using h6) YQ):p:=h
def Qi(h:p:=by rw[HT.o,HA.o,eP,ID];try rfl):p:=h
def bh9(h:p:=by
 clear h0 hx bb hb;go_wp2_with fail
 exact⟨⟨k+1,by omega,by go_num,by rw[HT.o],fG.o⟩,by simp[Xw];omega⟩):p:=h
def PX(h:p:=by
 go_wp2_with fail
 go_ret;exact⟨by rw[ar3 (λj hj=>HA.o j YN)];rfl,hB⟩):p:=h
def Ww(h:p:=by
 go_wp2_with fail
 go_loopw [8] (λi wr=>∃k:Nat,k<=n/\i=Xo XO k/\(∀j,j<k->P j=Xc)/\Below w w wr) (λi _=>n - (Xw i).toNat)
 case atStart=>exact⟨0,cb _,rfl,by omega,aj w⟩
 case round=>
  obtain⟨k,hk,rfl,dE,hB⟩:=hrel;have HA:=ah dE;clear dE;by_cases az:k<n
  .refine Lt λdh bF=>?_;obtain⟨x,hx⟩:∃x,xs[k]?=WX x:=⟨_,Xd tU⟩;obtain⟨b,o,cs,rfl,fQ,dR,hr,bb⟩:=(H.o.to hR hB (am _) hB.size).at_ hx;have AP:=HG.o k x cs wr hx hB hr dR;obtain⟨u0,u1,u2,rfl⟩:=ea4 dR;refine C_ λh0 h1 h2=>?_;simp only[Xt]at h0;exact PW
  .exact PX):p:=h
def Wt(h:p:=by
 go_wp2_with fail
 go_loopw [8] (λi wr=>∃k:Nat,k<=n/\i=Xo XO k/\(∀j,j<k->P j=Xc)/\Below w w wr) (λi _=>n - (Xw i).toNat)
 case atStart=>exact⟨0,cb _,rfl,by omega,aj w⟩
 case round=>
  obtain⟨k,hk,rfl,dE,hB⟩:=hrel;have HA:=ah dE;clear dE;by_cases az:k<n
  .refine Lt λdh bF=>?_;obtain⟨x,hx⟩:∃x,xs[k]?=WX x:=⟨_,Xd tU⟩;obtain⟨b,o,cs,rfl,fQ,dR,hr,bb⟩:=(H.o.to hR hB (am _) hB.size).at_ hx;have AP:=HG.o k x cs wr hx hB hr dR;obtain⟨u0,rfl⟩:=ea5 dR;have h0:=bb 0 _ rfl;simp only[Nat.mul_one,Xt]at h0;exact PW
  .exact PX):p:=h
def ar5(h:p:=by
 go_wp2_with fail
 go_loopw [8] (λi wr=>∃k:Nat,k<=n/\i=Xo XO k/\(∀j,j<k->P j=Xc)/\Below w w wr) (λi _=>n - (Xw i).toNat)
 case atStart=>exact⟨0,cb _,rfl,by omega,aj w⟩
 case round=>
  obtain⟨k,hk,rfl,dE,hB⟩:=hrel;have HA:=ah dE;clear dE;by_cases az:k<n
  .refine Lt λdh bF=>?_;obtain⟨x,hx⟩:∃x,xs[k]?=WX x:=⟨_,Xd tU⟩;obtain⟨b,o,cs,rfl,fQ,dR,hr,bb⟩:=(H.o.to hR hB (am _) hB.size).at_ hx;have AP:=HG.o k x cs wr hx hB hr dR;obtain⟨u0,u1,u2,u3,u4,u5,u6,rfl⟩:=ea6 dR;refine C_ λh0 h1 h2=>?_;have h3:=bb 3 _ rfl;have h4:=bb 4 _ rfl;have h5:=bb 5 _ rfl;have h6:=bb 6 _ rfl;simp only[Xt]at h0;exact PW
  .exact PX):p:=h
def bd4(h:p:=by
 go_wp2_with first
  |(go_at_call 142;refine(jp.o _ oW.o).m ?_;rintro e w4 ⟨rfl,aQ⟩;refine Fh λb0 b1 ji bB ql wD lM gH=>?_;have fE:(Instr.lookup 183 (.map (some (w.heap.size+1))) (.int .i64 d.kind) false).run prog w4= .ok (.bool true) w4:=by exact Fi
    clear aQ vv qr pr pu yS yU jj)
 go_ret2
 refine⟨gH.o,?_⟩;rw[BM.o DU.o (by rw[oX.o];rfl)];exact rfl):p:=h
def ay5(h:p:=by
 simp only[aq];go_enter func138,ntmps138;go_wp2_with(go_at_call 49;refine(HN.o _ (HP.o.later (ai (aj w) _))).m ?_;rintro e w1 ⟨rfl,ay⟩;have nR:=aC (aC H1.o (ai (aj w) _)) ay;refine FG λp1 xD=>?_;have Dp:=ah (aC (cN w _) ay);have bk:=ah (ak (ai (aj w) _) ay);clear nR ay)
 exact ay4):p:=h
def ag8(h:p:=by
 go_wp2_with fail
 all_goals
  go_end0
  refine⟨⟨_,rfl⟩,?_,?_⟩
  .repeat' first|with_reducible refine Le ?_ _ _|with_reducible refine Ld ?_ |with_reducible exact Lb _ _
  .have h:=HP.o;clear HP;unfold eZ at h⊢
   rw[nd]at h;try rw[Lf]
   refine(jF (h) _ _).trans ?_;exact OX):p:=h
def br6(h:p:=by
 refine iw 29 78 ?_;refine iw 30 79 ?_;refine iw 31 80 ?_;refine bC 28 λK hK=>?_;go_simp;refine(I5.o _ (ak bm.o hS)).m ?_;rintro e w4 ⟨rfl,aQ⟩;try go_simp
 refine hK.o _ _ (ak hS aQ) λhS=>?_;clear hK;refine aO ?_;iterate 2 refine cL 34 49 ?_
 exact IV):p:=h
def br7(h:p:=by
 refine iw 29 78 ?_;refine iw 30 79 ?_;refine iw 31 80 ?_;refine bC 28 λK hK=>?_;go_simp;refine(I5.o _ (ak bm.o hS)).m ?_;rintro e w4 ⟨rfl,aQ⟩;try go_simp
 refine hK.o _ _ (ak hS aQ) λhS=>?_;clear hK;refine aO ?_;iterate 2 refine cL 34 49 ?_
 exact Zl):p:=h
def br2(h:p:=by
 have hF:F k=false:=by rw[HF.o];unfold gc;rw[oh.o,q4];simp
 have q5:(z.site==m.dark)=true:=by rw[q4];simp
 clear q1 q2 q4 k0;exact Qg):p:=h
def bv1(h:p:=by
 have HR:=ah (show r=false by rw[uY.o];have:aD cl 0 8=false:=by simp[aD];omega
                              rw[this];rfl)
 exact Zu):p:=h
end Go.Proofs.YtpfienbhhhgpkaaGreatDoor
