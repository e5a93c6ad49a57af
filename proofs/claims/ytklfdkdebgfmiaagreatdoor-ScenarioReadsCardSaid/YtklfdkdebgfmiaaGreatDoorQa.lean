/- A part of the proof. Here: scripts that stand often. -/
import Derived.Test.YtklfdkdebgfmiaaGreatDoorQz
import Derived.WalkSpells
import Derived.Deep.AppendLies
import Derived.Lib.ItoaLen
import Derived.Deep.RegionHeld3
import Derived.Lib.AppendIntMem
import Derived.Laws.AppendOwnNone
import Derived.Laws.EntriesVeiled
import Derived.Deep.DeepCutAuto
import Derived.RangeFuncBox
import Derived.Lib.OwnBridge
import Derived.ProofKit
import Derived.OpenShut
import Derived.LaidMore
import Derived.Lay
import Derived.Stop.LaidErr
import Derived.Deep.DeepWitnessRowRef
import Derived.SevenTiedAt
set_option linter.defProp false
set_option linter.unusedVariables false
set_option linter.unusedSimpArgs false
set_option maxRecDepth 100000
set_option maxHeartbeats 32000000
open Option renaming none->Wr,some->Ws
open Decidable renaming decide->Wt
open Go renaming World->Wu,Value->Wv,Calls->WJ,TypeId->WQ,maxLen->Xe,execOp->XX,Addr->X8
open Bool renaming false->Ww,true->Wz
open Go.RowKit renaming Hid->WA
open Go.Lib renaming itoa->WB
open Go.Proofs renaming intOf->WS
open And renaming intro->WE
open Go.Proofs.Tryz renaming prog->WH
open Go.Value renaming int->WK,string->WM,oneCell'->Xp,ownBlock->Xq,slice->Yb,bool->Yc,agg->Ye,pointer->Yf
open Go.Instr renaming lookup->WT
open Go.World renaming setCell->XD,cell?->X3
open Go.IntKind renaming i64->Xr
open Go.Ending renaming returned->Xz
open Go.Obj renaming cells->Yd
open Go.Operand renaming tmp->Yg,const->Yh
namespace Go
def Calls.m:=@Calls.mono
def CallsIn.m:=@CallsIn.mono
def Rows.m:=@Rows.mono
def RoundIn.m:=@RoundIn.mono
end Go
namespace Go.Proofs.YtklfdkdebgfmiaaGreatDoor
open Go Go.RowKit Go.Proofs.Tryz
def WC:=@Bool.and_eq_true
def WD:=@Go.Proofs.enters_of
def WF:=@List.length_map
def WG:=@List.length_append
def WI:=@Go.Proofs.Tryz.underlying3
def WL:=@Go.World.ownsRow.lt
def WN:=@List.getElem?_map
def WO:=@List.map_cons
def WP:=@List.getD_eq_getElem?_getD
def WR:=@Nat.add_zero
def WU:=@Bool.eq_iff_iff
def WW:=@Bool.false_eq_true
def WX:=@Go.World.ownsRow_nil
def WY:=@List.take_of_length_le
def WZ:=@List.cons_append
def Wy:=@List.getElem?_eq_getElem
def X1:=@ByteArray.size_extract
def X2:=@Bool.not_eq_true'
def X4:=@Nat.le_add_right
def X5:=@Go.World.cell?_alloc_lt
def X7:=@List.eq_nil_of_length_eq_zero
def X9:=@Go.Proofs.Tryz.underlying23
def XA:=@Go.RowKit.Below.refl
def XB:=@List.map_map
def XF:=@List.length_singleton
def XG:=@List.mem_map_of_mem
def XI:=@Go.Proofs.Tryz.underlying213
def XJ:=@List.take_add_one
def XK:=@Bool.or_eq_true
def XL:=@Go.World.size_alloc
def XN:=@Go.World.cell?_of_block
def XO:=@List.length_nil
def XP:=@Nat.zero_add
def XQ:=@Nat.lt_succ_self
def XR:=@Nat.le_succ
def XS:=@List.map_nil
def XT:=@List.append_nil
def XU:=@Go.info_parts
def XV:=@List.mem_of_mem_drop
def XW:=@List.length_take
def XZ:=@List.getElem?_append_right
def Xa:=@Go.World.cell?_alloc_new
def Xb:=@List.map_append
def Xc:=@List.length_drop
def Xd:=@List.append_assoc
def Xf:=@Go.IntWalk.i64_in
def Xg:=@List.length_cons
def Xi:=@List.not_mem_nil
def Xj:=@List.mem_cons
def Xk:=@Nat.lt_or_ge
def Xl:=@List.nil_append
def Xm:=@Go.Proofs.Tryz.underlying187
def Xn:=@Go.heap_alloc_new
def Xo:=@List.all_eq_true
def Xt:=@List.mem_append
def Xu:=@Go.wpList_append_own
def Xv:=@Option.some.inj
def Xw:=@Go.Proofs.Tryz.underlying9
def Xx:=@List.getElem?_append_left
def Ya:=@Go.World.grownBy.refl
instance:CoeFun Nat (fun _=>Nat->Option Nat->Addr):=⟨Addr.mk⟩
instance:CoeFun World (fun _=>Nat->Option Nat->Addr):=⟨fun w=>Addr.mk w.heap.size⟩
instance:Coe Nat Addr:=⟨fun b=>⟨b,0,Wr⟩⟩
instance:Coe World Nat:=⟨fun w=>w.heap.size⟩
instance:Coe Int Value:=⟨Value.int .i64⟩
instance:Coe Nat Value:=⟨fun n=>Value.int .i64 n⟩
instance:Coe ByteArray Value:=⟨Value.string⟩
abbrev aQ (f:Nat) (args:Array Wv) (w:Wu) (x:Wv):Prop:=WJ WH f args w λe w'=>e=Xz x/\Below w w w'
def aa {p:Prop} (h:p):WA p:=Lib.hid h
def ag (n:Nat):n<=n:=Nat.le_refl n
def bq {a b c:Nat} (h:a<b) (k:b<=c):a<c:=Nat.lt_of_lt_of_le h k
def bo {a b c:Nat} (h:a<=b) (k:b<=c):a<=c:=Nat.le_trans h k
def eJ {a b:Nat} (h:a<b):a<=b:=Nat.le_of_lt h
def bU (n:Nat):0<=n:=Nat.zero_le n
def bP (w:Wu) (a:X8) {v:Wv} (h:w.cell? a=Ws v):a.block<w.heap.size:=World.block_lt_of_cell? w a h
def eD {α:Type} {l:List α} {i:Nat} {a:α} (h:l[i]? =Ws a):a∈l:=List.mem_of_getElem? h
variable {p q:Prop} (h:q)
def Yi (h:p:=by omega):p:=h
def aC (h:p:=by kernel_rfl):p:=h
def az (h:p:=by decide):p:=h
def Yl (h:p:=by simp):p:=h
def bI (h:p:=by simp;omega):p:=h
def gy4 (h:p:=by have g:=Gm.out;exact⟨g.os.trans aR.out.os,g.tape.trans aR.out.tape,g.output.trans aR.out.output,by have:=g.size;simp at this<;>omega,λi hi aO=>(g.block i (by simp<;>omega) aO).trans ((Below.heap_alloc _ _ _ (by simp<;>omega)).trans ((Below.heap_alloc _ _ _ (by omega)).trans (aR.out.block i hi)))⟩):p:=h
def A0 (h:p:=by first|exact(ae (ae (ae (af w) _) _) _)|exact aX (ae (ae (ae (af w) _) _) _)):p:=h
def lr (h:p:=by first|omega|(simp;omega)):p:=h
def cA (h:p:=by rfl):p:=h
def TB (h:p:=by first|exact HR.out.symm|(rw[HR.out];simp_all;done)|(rw[HR.out];by_cases g1:x.other=0<;>by_cases g2:x.by_=0<;>by_cases g3:x.n=0<;>cases al<;>simp_all;done)|(rw[HR.out,WU];simp_all<;>omega)):p:=h
def lU (h:p:=by rw[HN.out];exact ar):p:=h
def Eg (h:p:=by have:=(List.getElem?_eq_some_iff.1 ha).1;omega):p:=h
def oh (h:p:=by simpa using h4):p:=h
def A8 (h:p:=by simp[results,results69,go_sem]):p:=h
def pC (h:p:=by simpa using h5):p:=h
def Kf (h:p:=by first|(simp only[ci,eV];done)|(simp only[ci,eV];rfl)):p:=h
def jJ (h:p:=by go_simp):p:=h
def we (h:p:=by rw[HL.out];exact ar):p:=h
def Ef (h:p:=by simp[results,results94,go_sem,pJ, *]):p:=h
def tj (h:p:=by show _<10;decide):p:=h
def Cm (h:p:=by have:=hO.len;have:=h.Mle;omega):p:=h
def lT (h:p:=by simp[Xe]):p:=h
def v_ (h:p:=by have:=HZ.out;omega):p:=h
def N9 (h:p:=by injection e with e;injection e with e;subst e;simp;omega):p:=h
def AW (h:p:=by unfold kj;split<;>omega):p:=h
def ul (h:p:=by simp[Xe];omega):p:=h
def N_ (h:p:=by simp[results,results115,go_sem,jx,bs,c0,c1,c2,c3,hz]):p:=h
def TA (h:p:=by intro u hu;simp at hu;rcases hu with rfl|rfl|rfl|rfl|rfl|rfl<;>rfl):p:=h
def Ke (h:p:=by obtain⟨y,_,rfl⟩:=List.mem_map.1 h;rfl):p:=h
def gy2 (h:p:=by rw[WB,if_neg (by decide)];exact Pm (by decide)):p:=h
def N' (h:p:=by unfold bx at h;simp only[WC] at h;exact h.1.1):p:=h
def bz4 (h:p:=by have:=od.out;obtain⟨A',c',he,_⟩:=this;injection he with _ he _;rw[WF] at he;exact he.symm):p:=h
def bz5 (h:p:=by simp only[XX,dg,Option.map_none,Sem.run_bind,run_makeMap,Result.andThen_ok,Sem.run_pure]):p:=h
def Oa (h:p:=by first|exact zw aV _|exact zw (zw aV _) _):p:=h
def bz6 (h:p:=by exact⟨Ks,uv,Kt,Ku,Kw,Kx,Ky,Kz,KA,KB,KC,KE,Kv,zn,oo,mO,mP,zo,pF,KF⟩):p:=h
def qO (h:p:=by simp[hy]):p:=h
def GM (h:p:=by simp[dS,dF,dR,dM,dL];omega):p:=h
def AX (h:p:=by dsimp only;omega):p:=h
def AY (h:p:=by rw[HN.out];omega):p:=h
def AZ (h:p:=by simp only[eA,hk]):p:=h
def bz7 (h:p:=by simp[results,results189,go_sem,jx,HX.out,t0,t1,t2,t3,r0,r1,r2,r3,aO,go7,E6,eB]):p:=h
def gy3 (h:p:=by rw[hd];exact cD.none_ (by simp)):p:=h
def xy (h:p:=by rw[kJ];omega):p:=h
def Ee (h:p:=by simp<;>omega):p:=h
def bz2 (h:p:=by unfold fO at hw;split at hw<;>first|(exfalso;omega)|exact of_decide_eq_true hw):p:=h
def zi (h:p:=by simpa using h):p:=h
def Cl (h:p:=by simp[ch,aP.cells]):p:=h
def vZ (h:p:=by assumption):p:=h
def GL (h:p:=by rw[<-he];exact ah hm rfl):p:=h
def bz3 (h:p:=by intro e;have:=congrArg List.length e;simp at this;rw[this] at hi;simp at hi):p:=h
def ti (h:p:=by simp[Xp]):p:=h
def N8 (h:p:=by first|exact HF.out|(rw[HF.out];rfl)):p:=h
def zj (h:p:=by rw[X1];omega):p:=h
def Cp (h:p:=by exact aX (af _)):p:=h
def Oh (h:p:=by intro e;injection e with e;omega):p:=h
def bz9 (h:p:=by unfold br at h;simp only[WC,decide_eq_true_eq] at h;exact h.1.1.1.2):p:=h
def ca0 (h:p:=by intro e;have:=congrArg List.length e;rw[kK,WG,WF,XO] at this;omega):p:=h
def ca1 (h:p:=by show 92+(fZ (x.on.map (dG (m.machs.map (·.name))))).length<=_;omega):p:=h
def TP (h:p:=by unfold em at xV;simp only[WG] at xV;omega):p:=h
def Cq (h:p:=by simpa using hj):p:=h
def A9 (h:p:=by simp[HK.out]):p:=h
def ca2 (h:p:=by unfold jK at p2;simp only[WC,XK,decide_eq_true_eq] at p2;omega):p:=h
def GO (h:p:=by rw[hF.size];decide):p:=h
def Km (h:p:=by rw[hF.size];exact hs.1):p:=h
def Oi (h:p:=by intro e;exact aO (by rw[e])):p:=h
def ca3 (h:p:=by unfold dZ at h;simp only[WC] at h;exact h.1.1.1.1.1.1.1.1.1):p:=h
def gy6 (h:p:=by unfold qT;rw[if_neg (by omega),hq];rfl):p:=h
def gy7 (h:p:=by unfold qV;rw[if_neg (by omega),hq];rfl):p:=h
def TQ (h:p:=by rw[wW (lk h1) (by simp[fO,sc h1])];rfl):p:=h
def ca4 (h:p:=by constructor;all_goals first|kernel_rfl|(intros;kernel_rfl)):p:=h
def xz (h:p:=by simp[aE]):p:=h
def xA (h:p:=by simp[jV]):p:=h
def Oj (h:p:=by rw[Array.length_toList];rfl):p:=h
def Kn (h:p:=by rw[jp.out];exact ar):p:=h
def Ko (h:p:=by rw[AI.out];exact ar):p:=h
def TR (h:p:=by rw[List.drop_eq_nil_iff,HN.out];omega):p:=h
def Ol (h:p:=by rw[decide_eq_decide];omega):p:=h
def GP (h:p:=by rw[h.1];exact hj):p:=h
def ca5 (h:p:=by obtain⟨A,c,rfl,h1,h2,_⟩:=h;exact⟨A,_,c,rfl,rfl,h1,h2⟩):p:=h
def bz8 (h:p:=by exact((aX (ae (af W) _)).block _ ar |>.trans HB.out)):p:=h
def Oc (h:p:=by simp at hy⊢;exact .inr hy):p:=h
def gy5 (h:p:=by have:=h;rw[lu,F6 (hk a (by simp))] at this;exact this):p:=h
def TF (h:p:=by rw[<-HP.out,hx];intro q hq;cases hq):p:=h
def zk (h:p:=by simp[hx]):p:=h
def GN (h:p:=by show _<6;decide):p:=h
def Ki (h:p:=by simp[dT];try omega):p:=h
def Kj (h:p:=by simp[aD];try omega):p:=h
def TG (h:p:=by rw[List.not_any_eq_all_not];simp):p:=h
def Cn (h:p:=by rw[hk];rfl):p:=h
def Od (h:p:=by simp[World.frozen?,r1]):p:=h
def TH (h:p:=by rw[List.drop_eq_nil_iff];omega):p:=h
def TI (h:p:=by apply decide_eq_decide.2;omega):p:=h
def TJ (h:p:=by exact⟨kc aS hS.1,ai hS.2 aS⟩):p:=h
def Kk (h:p:=by simp at hn;omega):p:=h
def TK (h:p:=by have:=yX.out.1;rw[Xc];omega):p:=h
def Oe (h:p:=by have:=hV.2.2.1;omega):p:=h
def TL (h:p:=by rw[List.not_all_eq_any_not]):p:=h
def Kl (h:p:=by rw[HO.out];simp):p:=h
def Co (h:p:=by rw[hj,e]):p:=h
def TM (h:p:=by unfold PS.fail;split<;>rfl):p:=h
def TN (h:p:=by simpa[fH,ot,iw,nT] using h):p:=h
def TO (h:p:=by simpa[fH,ot,iw,zS] using h):p:=h
def Of (h:p:=by rw[<-HP.out,hx];rfl):p:=h
def Og (h:p:=by rw[jp.out];omega):p:=h
def Eh (h:p:=by simp[aK]):p:=h
def Kg (h:p:=by rw[E8 h];rfl):p:=h
def gj (h:p:=by kernel_rfl):p:=h
def TC (h:p:=by have g:=Gm.out;exact⟨g.os.trans aR.out.os,g.tape.trans aR.out.tape,g.output.trans aR.out.output,by have:=g.size;simp at this<;>omega,λi hi aO=>(g.block i Ee aO).trans ((Below.heap_alloc _ _ _ Ee).trans ((Below.heap_alloc _ _ _ Yi).trans (aR.out.block i hi)))⟩):p:=h
def Kh (h:p:=by rw[hd];exact cD.none_ Yl):p:=h
def Ob (h:p:=by rw[WB,if_neg az];exact Pm az):p:=h
def TD (h:p:=by unfold qT;rw[if_neg Yi,hq];rfl):p:=h
def TE (h:p:=by unfold qV;rw[if_neg Yi,hq];rfl):p:=h
def gq (h:p:=by kernel_rfl):p:=h
def rz (e:WA q->p:=by intro Z8;obtain⟨⟨Sa,sc,hs,dh,bS⟩,⟨Fa,fc,cB,cr,cL⟩,⟨Ra,rc,hr,cM,cV⟩,⟨Ma,mc,hm,dd,cz⟩,⟨La,lc,hl,dt,di⟩,⟨Ia,ic,hi,ed,ez⟩,⟨Ua,uc,hu,dP,dq⟩⟩:=hv.cells;have HS:=aa (show m.cells v= #[Yb Sa m.sites.length sc,Yb Fa m.feeds.length fc,Yb Ra m.racks.length rc,Yb Ma m.machs.length mc,Yb La m.links.length lc,Yb Ia m.items.length ic,WK Xr m.dark,WK Xr m.slots,WK Xr m.reserve,WK Xr m.failures,Yb Ua m.rules.length uc] from by rw[aM.cells_def,hs,cB,hr,hm,hl,hi,hu]);revert Sa sc hs dh bS Fa fc cB cr cL Ra rc hr cM cV Ma mc hm dd cz La lc hl dt di Ia ic hi ed ez Ua uc hu dP dq HS;exact Z8.out):=e (aa h)
def FC (e:WA q->p:=by intro Z8;have b0:w4.cell? xb=Ws (WK Xr d.kind):=(aS.cell (p:=xb) Pk).trans wg;have b1:w4.cell? (xb 1 Wr)=Ws (WM (bs d.name)):=(aS.cell (p:=xb 1 Wr) Pk).trans qP;have ke:=kc aS p9;have bE:=aa (ai SE.out aS);have qJ:=aa (Cf.out.later bE.out);have xl:=aa (DH.out.later bE.out);have mp:=aa (gY.out.later bE.out);have eN:Hid (aF w.heap.size Mb w w4):=mK.out.trans (aF.of_below bE.out BC bE.out.size);revert b0 b1 ke bE qJ xl mp eN;exact Z8.out):=e (aa h)
def It (e:WA q->p:=by intro Z8;obtain⟨⟨Sa,sc,hs,dh,bS⟩,⟨Fa,fc,hf,cr,cL⟩,⟨Ra,rc,hr,cM,cV⟩,⟨Ma,mc,hm,dd,cz⟩,⟨La,lc,hl,dt,di⟩,⟨Ia,ic,hi,ed,ez⟩,⟨Ua,uc,hu,dP,dq⟩⟩:=hv.cells;have HS:=aa (show m.cells v= #[Yb Sa m.sites.length sc,Yb Fa m.feeds.length fc,Yb Ra m.racks.length rc,Yb Ma m.machs.length mc,Yb La m.links.length lc,Yb Ia m.items.length ic,WK Xr m.dark,WK Xr m.slots,WK Xr m.reserve,WK Xr m.failures,Yb Ua m.rules.length uc] from by rw[aM.cells_def,hs,hf,hr,hm,hl,hi,hu]);have iv:=aa (λW (hW:Below w w W)=>as6 m v x.item W (hv.to hW (ag _) hW.size));revert Sa sc hs dh bS Fa fc hf cr cL Ra rc hr cM cV Ma mc hm dd cz La lc hl dt di Ia ic hi ed ez Ua uc hu dP dq HS iv;exact Z8.out):=e (aa h)
def ou (e:WA q->p:=by intro Z8;have nV: ∀(fn:Fn) (first cap:Array Wv) (w:Wu),(Instr.makeFunc fn first cap).run WH w= .ok (.func fn first cap) w:=λ_ _ _ _=>rfl;revert nV;exact Z8.out):=e (aa h)
def Zt (e:WA q->p:=by
 intro Z8;have d4:w1.cell? (pa 4 Wr)=Ws (WK Xr 0):=by simp[X3,r1]
 have f4:w1.frozen? (pa 4 Wr)=false:=Od;have d5:w1.cell? (pa 5 Wr)=Ws (WM ⟨#[]⟩):=by simp[X3,r1]
 have f5:w1.frozen? (pa 5 Wr)=false:=Od;have d6:w1.cell? (pa 6 Wr)=Ws (WK Xr 0):=by simp[X3,r1]
 have f6:w1.frozen? (pa 6 Wr)=false:=Od;have d7:w1.cell? (pa 7 Wr)=Ws (WK Xr 0):=by simp[X3,r1]
 have f7:w1.frozen? (pa 7 Wr)=false:=Od;have EM:pa<w1.heap.size:=bq ar ap.size;have aO: ¬pa=w1.heap.size:=Yi;have gU: ¬w1.heap.size=pa:=Yi;have R1:=aa r1;revert d4 f4 d5 f5 d6 f6 d7 f7 EM aO gU R1;exact Z8.out):=e (aa h)
def QO (e:WA q->p:=by intro Z8;have e0:w7.cell? xb=Ws (WK Xr d.kind):=(kS.cell cn1).trans d0;have e1:w7.cell? (xb 1 Wr)=Ws (WM (bs d.name)):=(kS.cell cn1).trans d1;have pm:w7.cell? rb=Ws (.map (Ws Mb)):=(kS.cell gp1).trans zK;have DU:=aa (Gx.out.blk (kS.2.2 Mb go9));have vG:=aa (qK.out.blk (kS.2.2 (w.heap.size+1) Yi));have qE:=aa (pU.of_eq (λx=>(pr.out x).symm));have lj:Hid (aF w.heap.size Mb w w7):=oM.out.trans (aF.turnB kS (ag _));revert e0 e1 pm DU vG qE lj;exact Z8.out):=e (aa h)
def P_ (e:WA q->p:=by intro Z8;have i0:(0:Int)<(n:Int):=Yi;have n0:0<n:=Yi;have i1:(1:Int)<=(n:Int):=Yi;have i2:(n:Int)<=(c:Int):=Yi;have i3:(1:Int)<=(c:Int):=Yi;have n2:1<=c:=Yi;have HV:=aa hv;have HN:=aa hn;have HR:=aa (show w1.heap[w.heap.size]? =Ws (Yd ((cj 0).cells aN aN) 46 (0,0)) from(ap.block w.heap.size Yl).trans (Xn w _));have ba:w.heap.size<w1.heap.size:=jM ap Yl;have bf:=aa (ai (ae (af w) _) ap);revert i0 n0 i1 i2 i3 n2 HV HN HR ba bf;exact Z8.out):=e (aa h)
def QM (e:WA q->p:=by intro Z8;have c0:w5.cell? xb=Ws (WK Xr d.kind):=(jm.cell cn2).trans b0;have c1:w5.cell? (xb 1 Wr)=Ws (WM (bs d.name)):=(jm.cell cn2).trans b1;have tz:w5.cell? rb=Ws (.map (Ws Mb)):=(jm.cell gp2).trans ke;have yY:=aa (qJ.out.blk (jm.2.2 Mb gp0));have Cc:=aa (xl.out.blk (jm.2.2 w.heap.size Yi));have og:=aa (pT.of_eq (λx=>(bn2.out x).symm));have eI:Hid (aF w.heap.size Mb w w5):=eN.out.trans (aF.turnB jm Yi);revert c0 c1 tz yY Cc og eI;exact Z8.out):=e (aa h)
def bv0 (e:WA q->p:=by intro Z8;have dJ:wr.cell? ⟨b1,p1+k*10+0,Wr⟩=Ws (WK Xr x.kind):=(bH.out.cell (p:=⟨b1,p1+k*10+0,Wr⟩) ap).trans (bt 0 _ rfl);have jL:wr.cell? ⟨b1,p1+k*10+1,Wr⟩=Ws (WK Xr x.a):=(bH.out.cell (p:=⟨b1,p1+k*10+1,Wr⟩) ap).trans (bt 1 _ rfl);have jC:wr.cell? ⟨b1,p1+k*10+2,Wr⟩=Ws (WK Xr x.b):=(bH.out.cell (p:=⟨b1,p1+k*10+2,Wr⟩) ap).trans (bt 2 _ rfl);have oq:wr.cell? ⟨b1,p1+k*10+3,Wr⟩=Ws (WK Xr x.c):=(bH.out.cell (p:=⟨b1,p1+k*10+3,Wr⟩) ap).trans (bt 3 _ rfl);have mq:wr.cell? ⟨b1,p1+k*10+4,Wr⟩=Ws (WK Xr x.ok):=(bH.out.cell (p:=⟨b1,p1+k*10+4,Wr⟩) ap).trans (bt 4 _ rfl);have oP:wr.cell? ⟨b1,p1+k*10+5,Wr⟩=Ws (WM x.key):=(bH.out.cell (p:=⟨b1,p1+k*10+5,Wr⟩) ap).trans (bt 5 _ rfl);have pI:wr.cell? ⟨b1,p1+k*10+6,Wr⟩=Ws (WK Xr x.val):=(bH.out.cell (p:=⟨b1,p1+k*10+6,Wr⟩) ap).trans (bt 6 _ rfl);have A_:wr.cell? ⟨b1,p1+k*10+7,Wr⟩=Ws (WK Xr x.old):=(bH.out.cell (p:=⟨b1,p1+k*10+7,Wr⟩) ap).trans (bt 7 _ rfl);have Ct:wr.cell? ⟨b1,p1+k*10+8,Wr⟩=Ws (B4):=(bH.out.cell (p:=⟨b1,p1+k*10+8,Wr⟩) ap).trans (bt 8 _ rfl);have Cu:wr.cell? ⟨b1,p1+k*10+9,Wr⟩=Ws (B8):=(bH.out.cell (p:=⟨b1,p1+k*10+9,Wr⟩) ap).trans (bt 9 _ rfl);revert dJ jL jC oq mq oP pI A_ Ct Cu;exact Z8.out):=e (aa h)
def bu7 (e:WA q->p:=by intro Z8;have dJ:=(bH.out.cell (p:=⟨B1,p1+k*7+0,Wr⟩) ap).trans (bt 0 _ rfl);have jL:=(bH.out.cell (p:=⟨B1,p1+k*7+1,Wr⟩) ap).trans (bt 1 _ rfl);have jC:=(bH.out.cell (p:=⟨B1,p1+k*7+2,Wr⟩) ap).trans (bt 2 _ rfl);have oq:=(bH.out.cell (p:=⟨B1,p1+k*7+3,Wr⟩) ap).trans (bt 3 _ rfl);have mq:=(bH.out.cell (p:=⟨B1,p1+k*7+4,Wr⟩) ap).trans (bt 4 _ rfl);have oP:=(bH.out.cell (p:=⟨B1,p1+k*7+5,Wr⟩) ap).trans (bt 5 _ rfl);have pI:=(bH.out.cell (p:=⟨B1,p1+k*7+6,Wr⟩) ap).trans (bt 6 _ rfl);have jW:=(bH.out.cell (p:=⟨B2,p2+k*7+0,Wr⟩) am).trans (cR 0 _ rfl);have mQ:=(bH.out.cell (p:=⟨B2,p2+k*7+1,Wr⟩) am).trans (cR 1 _ rfl);have mR:=(bH.out.cell (p:=⟨B2,p2+k*7+2,Wr⟩) am).trans (cR 2 _ rfl);have zr:=(bH.out.cell (p:=⟨B2,p2+k*7+3,Wr⟩) am).trans (cR 3 _ rfl);have zt:=(bH.out.cell (p:=⟨B2,p2+k*7+4,Wr⟩) am).trans (cR 4 _ rfl);have zu:=(bH.out.cell (p:=⟨B2,p2+k*7+5,Wr⟩) am).trans (cR 5 _ rfl);have zv:=(bH.out.cell (p:=⟨B2,p2+k*7+6,Wr⟩) am).trans (cR 6 _ rfl);revert dJ jL jC oq mq oP pI jW mQ mR zr zt zu zv;exact Z8.out):=e (aa h)
def ap3 (e:WA q->p:=by
 intro Z8;have tu:pa<(((((w1.setCell (pa 4 Wr) (WK Xr p0)).setCell (pa 5 Wr) (WM p1)).setCell (pa 6 Wr) (WK Xr p2)).setCell (pa 7 Wr) (WK Xr p3))).heap.size:=by simpa[XD] using EM
 have gL:=ef5 (uW (uW (uW (uW (Aw ap (Ya w1 (Ws pa))) 4 (WK Xr p0)) 5 (WM p1)) 6 (WK Xr p2)) 7 (WK Xr p3)) (Yd #[p0,p1,p2,p3] 44);have r2:=(Below.heap_alloc _ (Yd #[p0,p1,p2,p3] 44) pa tu).trans (jN (jN (jN (jN R1.out 4 (WK Xr p0)) 5 (WM p1)) 6 (WK Xr p2)) 7 (WK Xr p3));have gP:=(((((ap.mono (eJ ar)).setCell (p:=pa 4 Wr) (ag _) (WK Xr p0)).setCell (p:=pa 5 Wr) (ag _) (WM p1)).setCell (p:=pa 6 Wr) (ag _) (WK Xr p2)).setCell (p:=pa 7 Wr) (ag _) (WK Xr p3)).alloc (eJ tu) (Yd #[p0,p1,p2,p3] 44);revert tu gL r2 gP;exact Z8.out):=e (aa h)
def RM (e:WA q->p:=by intro Z8;have dJ:=(bH.out.cell (p:=⟨B1,p1+k*3+0,Wr⟩) ap).trans (bt 0 _ rfl);have jL:=(bH.out.cell (p:=⟨B1,p1+k*3+1,Wr⟩) ap).trans (bt 1 _ rfl);have jC:=(bH.out.cell (p:=⟨B1,p1+k*3+2,Wr⟩) ap).trans (bt 2 _ rfl);have jW:=(bH.out.cell (p:=⟨B2,p2+k*3+0,Wr⟩) am).trans (cR 0 _ rfl);have mQ:=(bH.out.cell (p:=⟨B2,p2+k*3+1,Wr⟩) am).trans (cR 1 _ rfl);have mR:=(bH.out.cell (p:=⟨B2,p2+k*3+2,Wr⟩) am).trans (cR 2 _ rfl);revert dJ jL jC jW mQ mR;exact Z8.out):=e (aa h)
def Zo (e:WA q->p:=by intro Z8;have bf:=aa (ai (ae (ae (af w) _) _) ap);have c2:=aq (ml.out _) ap;have c3:=aq (NV.out _) ap;have HZ:=aa (blk_lt c3);have e0:=ah (o:=0) c2 rfl;have e1:=ah (o:=1) c2 rfl;have e2:=ah (o:=2) c2 rfl;have e3:=ah (o:=3) c2 rfl;have e4:=ah (o:=4) c2 rfl;have e5:=ah (o:=5) c2 rfl;have e6:=ah (o:=6) c2 rfl;have e7:=ah (o:=7) c2 rfl;have e8:=ah (o:=8) c2 rfl;have e9:=ah (o:=9) c2 rfl;have dJ:=ah (o:=10) c2 rfl;have d1:=ah (o:=1) c3 rfl;have d2:=ah (o:=2) c3 rfl;revert bf c2 c3 HZ e0 e1 e2 e3 e4 e5 e6 e7 e8 e9 dJ d1 d2;exact Z8.out):=e (aa h)
def Qm (e:WA q->p:=by intro Z8;have z1:W.cell? (px 1 Wr)=Ws (WK Xr 0):=kl hp (o:=1) tj;have f1:W.frozen? (px 1 Wr)=false:=nH hp 1;have z2:W.cell? (px 2 Wr)=Ws (WK Xr 0):=kl hp (o:=2) tj;have f2:W.frozen? (px 2 Wr)=false:=nH hp 2;revert z1 f1 z2 f2;exact Z8.out):=e (aa h)
def B7 (e:WA q->p:=by intro Z8;have gE:=aq hr aU;have c0:W1.cell? mb=Ws (Yf (Ws (rb 1 Wr))):=ah (aq hm aU) rfl;revert gE c0;exact Z8.out):=e (aa h)
def QK (e:WA q->p:=by intro Z8;have dx:=aq Kd.out aS;have jn:=aq Kc.out aS;have oo:w4.cell? (w 1 Wr)=Ws (WM (bs d.name)):=ah dx rfl;have mO:w4.cell? (w 2 Wr)=Ws (Yb RA rn rc):=ah dx rfl;have mP:w4.cell? (w 3 Wr)=Ws (Yb NA nn nc):=ah dx rfl;revert dx jn oo mO mP;exact Z8.out):=e (aa h)
def bu9 (e:WA q->p:=by intro Z8;have DT:=aa (show m.cells v1= #[Yb S1 m.sites.length s1,Yb F1 m.feeds.length f1,Yb R1 m.racks.length r1,Yb M1 m.machs.length m1,Yb L1 m.links.length l1,Yb I1 m.items.length i1,WK Xr m.dark,WK Xr m.slots,WK Xr m.reserve,WK Xr m.failures,Yb U1 m.rules.length u1] from by rw[aM.cells_def,dh,cr,cM,dd,dt,ed,dP]);have AO:=aa (show m.cells v1++ #[Yb C1 nc Ei,WK Xr cl,Yb D1 na xG]= #[Yb S1 m.sites.length s1,Yb F1 m.feeds.length f1,Yb R1 m.racks.length r1,Yb M1 m.machs.length m1,Yb L1 m.links.length l1,Yb I1 m.items.length i1,WK Xr m.dark,WK Xr m.slots,WK Xr m.reserve,WK Xr m.failures,Yb U1 m.rules.length u1,Yb C1 nc Ei,WK Xr cl,Yb D1 na xG] from by rw[DT.out];rfl);have Ca:=aa rW;revert DT AO Ca;exact Z8.out):=e (aa h)
def bq1 (e:WA q->p:=by intro Z8;have HM:=aa (show m.cells v= #[Yb Sa m.sites.length sc,Yb Fa m.feeds.length fc,Yb Ra m.racks.length rc,Yb Ma m.machs.length mc,Yb La m.links.length lc,Yb Ia m.items.length ic,WK Xr m.dark,WK Xr m.slots,WK Xr m.reserve,WK Xr m.failures,Yb Ua m.rules.length uc] from by rw[aM.cells_def,hs,cB,hr,hm,eX,hi,hu]);have HS:=aa (show m.cells v++ #[Yb A n c,WK Xr cl,Yb A2 n2 c2]= #[Yb Sa m.sites.length sc,Yb Fa m.feeds.length fc,Yb Ra m.racks.length rc,Yb Ma m.machs.length mc,Yb La m.links.length lc,Yb Ia m.items.length ic,WK Xr m.dark,WK Xr m.slots,WK Xr m.reserve,WK Xr m.failures,Yb Ua m.rules.length uc,Yb A n c,WK Xr cl,Yb A2 n2 c2] from by rw[HM.out];rfl);revert HM HS;exact Z8.out):=e (aa h)
def Ag (e:WA q->p:=by intro Z8;have cK:Hid (Below w5 w5 w6):=ai (aX (af w5)) bM;have HH:=aa (cu7.out w6 _ u cK.out hu);revert cK HH;exact Z8.out):=e (aa h)
def YY (e:WA q->p:=by intro Z8;have HS:=aa (show m.cells mv= #[Yb Sa m.sites.length sc,Yb Fa m.feeds.length fc,Yb Ra m.racks.length rc,Yb Ma m.machs.length mc,Yb La m.links.length lc,Yb Ia m.items.length ic,WK Xr m.dark,WK Xr m.slots,WK Xr m.reserve,WK Xr m.failures,Yb Ua m.rules.length uc] from by rw[aM.cells_def,hs,cB,hr,nj,eX,hi,hu]);revert HS;exact Z8.out):=e (aa h)
def QN (e:WA q->p:=by intro Z8;have d0:=kc bM c0;have d1:=kc bM c1;have zK:=kc bM tz;have Gx:=aa (yY.out.later bM);have rJ:=aa (Cc.out.later bM);have qK:=aa (og.out.later bM);have oM:Hid (aF w.heap.size Mb w w6):=eI.out.trans (aF.of_below bM eI.out.size bM.size);revert d0 d1 zK Gx rJ qK oM;exact Z8.out):=e (aa h)
def tP (e:WA q->p:=by intro Z8;have lM:=fun(t:WQ) (w:Wu)=>run_makeMap (P:=WH) t w;revert lM;exact Z8.out):=e (aa h)
def YV (e:WA q->p:=by intro Z8;have aT:=aa aU;have iW:=aa hU;have Gn:Hid (cH W.drew):=HG.out.step (aX (ai (ai bf.out aR.out) aU));have h8:8<=wc.heap.size:=bo HG.out.size (bo bf.out.size aR.out.size);have qc:w.heap.size<W.heap.size:=Yi;have GH:=aa (aX (ai (ai bf.out aR.out) aU));have Ch:=aa ((aU.block w.heap.size bd).trans vN.out);revert aT iW Gn h8 qc GH Ch;exact Z8.out):=e (aa h)
def ap0 (e:WA q->p:=by intro Z8;have HT:=aa (h.take_ 2 Yi);have HS:=aa (λs (hs:s∈l.take 2)=>a_ s (List.mem_of_mem_take hs));have HZ:=aa (a_ _ (BI (k:=2) Yi));have HQ:=aa hq;have sT:=aa (show(l.take 2).length<=100000 by simp;omega);have G9:cH (W.alloc (Yd #[Yf (Ws (pa 1 Wr)),Yf (Ws (pa 2 Wr))] 126)).drew:=hG.step (aX (ae (af W) _));have Hf:Below pa W (W.alloc (Yd #[Yf (Ws (pa 1 Wr)),Yf (Ws (pa 2 Wr))] 126)).drew:=L' (((af W).mono (eJ ar)).alloc (eJ ar) _);have aO: ¬pa=W.heap.size:=Yi;have gU: ¬W.heap.size=pa:=Yi;have i2:(2:Int)<=c:=Yi;have n2:2<=c:=Yi;revert HT HS HZ HQ sT G9 Hf aO gU i2 n2;exact Z8.out):=e (aa h)
def RV (e:WA q->p:=by intro Z8;have tB:=aq AU.out bp;have qP:w5.cell? (w 1 Wr)=Ws (WM (bs d.name)):=ah tB rfl;have pG:w5.cell? (w 2 Wr)=Ws (Yb RA rn rc):=ah tB rfl;have pH:w5.cell? (w 3 Wr)=Ws (Yb NA nn nc):=ah tB rfl;have jH:=aa (ai sQ.out bp);have AV:=aa tB;have OR:=kc bp uv;revert tB qP pG pH jH AV OR;exact Z8.out):=e (aa h)
def IJ (e:WA q->p:=by intro Z8;have bR:=aa (Below.trans bg.out (hb.mono (eJ bd)));have eB:=eJ hj.lt;have dB:=js lo.out hb bd;have jA:=aa dB;revert bR eB dB jA;exact Z8.out):=e (aa h)
def aq0 (e:WA q->p:=by intro Z8;have LG:w2.heap.size=w1.heap.size+1+1:=hT.2.1.trans Yl;obtain⟨l0,l1,l2,l3,l4,l5,l6,l7,l8,l9⟩:=j6.turns (yU.out.below (ae (ae (af w1) _) _) ba) hT Yi;obtain⟨q0,q1,q2,q3,q4,q5,q6,q7,q8,q9⟩:=kR.lies;have p3:w2.cell? (w1 3 Wr)=Ws (.func (.func gf) #[] caps):=(hT.cell Yl).trans jJ;have aV:=hT.1 w1.heap.size w1 (ae (ae (af w1) _) _) Yi;have AE:=aa (ai bf.out aV);have aR:=aa aV;have bd:w.heap.size<w2.heap.size:=Yi;have kF:w1.heap.size<w2.heap.size:=Yi;have lP:w1.heap.size+1<w2.heap.size:=Yi;have SC:=dk6 x y (Yb Am nm cm) (Yb As ns cs) m' s' w2 ((HX.out.below AE.out (ag _)).more AE.out.size) ((HY.out.below AE.out (ag _)).more AE.out.size);revert LG l0 l1 l2 l3 l4 l5 l6 l7 l8 l9 q0 q1 q2 q3 q4 q5 q6 q7 q8 q9 p3 aV AE aR bd kF lP SC;exact Z8.out):=e (aa h)
def oX (e:WA q->p:=by intro Z8;have bH:Hid (Below w w wr):=ai aT.out hB;revert bH;exact Z8.out):=e (aa h)
def Wf (e:WA q->p:=by intro Z8;have used':=λW hb=>du0 x (Yb Am nm cm) (Yb As ns cs) W ((HX.out.below hb (ag _)).more (Below.size hb));have same':=λW m' s' hb (hu:(ch x).In W W m' s')=>YJ x (ch x) (Yb Am nm cm) (Yb As ns cs) m' s' W ((HX.out.below hb (ag _)).more (Below.size hb)) hu;revert used' same';exact Z8.out):=e (aa h)
def Wp (e:WA q->p:=by intro Z8;have GG:=aa dq;have cK:Hid (Below w w w6):=bY.out.grown hg (by have:=bY.out.size;omega) (λk hk=>by injection hk with hk;omega);have hr:=(hg.block _ (by have:=blk_lt D0.out;omega) Oh).trans D0.out;obtain⟨⟨d0,d1,d2,d3⟩,f0,f1,f2,f3⟩:=IY hr;obtain⟨⟨o0,o1,o2,o3⟩,_⟩:=IY hb;revert GG cK hr d0 d1 d2 d3 f0 f1 f2 f3 o0 o1 o2 o3;exact Z8.out):=e (aa h)
def bv3 (e:WA q->p:=by intro Z8;have e0:=(bH.out.cell (p:=⟨b,o+k*7+0,Wr⟩) hb).trans (bk 0 _ rfl);have e1:=(bH.out.cell (p:=⟨b,o+k*7+1,Wr⟩) hb).trans (bk 1 _ rfl);have e2:=(bH.out.cell (p:=⟨b,o+k*7+2,Wr⟩) hb).trans (bk 2 _ rfl);have e3:=(bH.out.cell (p:=⟨b,o+k*7+3,Wr⟩) hb).trans (bk 3 _ rfl);have e4:=(bH.out.cell (p:=⟨b,o+k*7+4,Wr⟩) hb).trans (bk 4 _ rfl);have e5:=(bH.out.cell (p:=⟨b,o+k*7+5,Wr⟩) hb).trans (bk 5 _ rfl);have e6:=(bH.out.cell (p:=⟨b,o+k*7+6,Wr⟩) hb).trans (bk 6 _ rfl);revert e0 e1 e2 e3 e4 e5 e6;exact Z8.out):=e (aa h)
def by5 (e:WA q->p:=by intro Z8;obtain⟨nP,qW⟩:=gw aS;have bE:=aa (ai bg.out aS);have sX:=aa ((aS.block w.heap.size cs7).trans mM.out);have N6:=aa ((bp6.out.below aS (ag _)).more aS.size);have m0:=(nP wc.heap.size 0 yc).trans l0;have m1:=(nP wc.heap.size 1 yc).trans l1;have m2:=(nP wc.heap.size 2 yc).trans l2;have m3:=(nP wc.heap.size 3 yc).trans l3;have m4:=(nP wc.heap.size 4 yc).trans l4;have m5:=(nP wc.heap.size 5 yc).trans l5;have m6:=(nP wc.heap.size 6 yc).trans l6;have m7:=(nP wc.heap.size 7 yc).trans l7;have m8:=(nP wc.heap.size 8 yc).trans l8;have m9:=(nP wc.heap.size 9 yc).trans l9;revert nP qW bE sX N6 m0 m1 m2 m3 m4 m5 m6 m7 m8 m9;exact Z8.out):=e (aa h)
def M4 (e:WA q->p:=by intro Z8;have q0:W1.cell? w=Ws (WK Xr d.kind):=ah cS rfl;have ba:=blk_lt cS;have cJ: ¬w.heap.size=W1.heap.size:=Yi;revert q0 ba cJ;exact Z8.out):=e (aa h)
def Di (e:WA q->p:=by intro Z8;obtain⟨l0,l1,l2,l3,l4,l5,l6,l7,l8,l9⟩:=id ha;have Bt: ¬px=pa:=aO;have gU: ¬pa=px:=λe=>aO e.symm;have HP:=aa hp;revert l0 l1 l2 l3 l4 l5 l6 l7 l8 l9 Bt gU HP;exact Z8.out):=e (aa h)
def aa6 (e:WA q->p:=by intro Z8;obtain⟨i0,hi,cJ,ba,bd⟩:=XU (show(Tryz.prog.info? 138).map (λi=>(i.zero,i.size,i.bytes))=Ws (Ws (Ye #[WM ⟨#[]⟩,WK Xr 0,WK Xr 0,WK Xr 0,WK Xr 0,WK Xr 0,Yb Wr 0 0]),7,80) by kernel_rfl);have ar:=WL bA;have oN:=aa ar;revert i0 hi cJ ba bd ar oN;exact Z8.out):=e (aa h)
def MX (e:WA q->p:=by intro Z8;obtain⟨i0,hi,cJ,ba,bd⟩:=XU (show(Tryz.prog.info? 9).map (λi=>(i.zero,i.size,i.bytes))=Ws (Ws (WM ⟨#[]⟩),1,16) by kernel_rfl);revert i0 hi cJ ba bd;exact Z8.out):=e (aa h)
def RW (e:WA q->p:=by intro Z8;have ik:Below w w w3:=GH.out.grown gT GH.out.size (λk' e=>by injection e with e;omega);have xI:=(gT.block w.heap.size (show w.heap.size<W.heap.size from qc) (λe=>by injection e with e;omega)).trans Ch.out;have bg:=aa ik;have mM:=aa xI;revert ik xI bg mM;exact Z8.out):=e (aa h)
def Io (e:WA q->p:=by intro Z8;have lN:(0:Int)<=n:=Yi;have lO:(n:Int)<=s.size:=Yi;have se:(s.size:Int)<=16384:=Yi;revert lN lO se;exact Z8.out):=e (aa h)
def ao3 (e:WA q->p:=by intro Z8;have iV:=aa (fj.1 _ _ (eT.1 _ _ (dK.1 _ _ (ae (ae (ae (af w) _) _) _) Yi) Yi) Yi);have HX:=aa (λi (hi: ¬i=w.heap.size+1+1)=>(fj.2.2 i hi).trans ((eT.2.2 i hi).trans (dK.2.2 i hi)));have ty:=(HX.out w.heap.size Yi).trans (js aR.out.1 (ae (af _) _) (blk_lt aR.out.1));have jT:=(HX.out (w.heap.size+1) Yi).trans (js aR.out.2 (ae (af _) _) (blk_lt aR.out.2));have a1:w3.cell? ⟨w.heap.size+1,1,Wr⟩=Ws (WK Xr x.kind):=ah jT rfl;revert iV HX ty jT a1;exact Z8.out):=e (aa h)
def L6 (e:WA q->p:=by intro Z8;obtain⟨i0,hi,cJ,ba,bd⟩:=XU (show(Tryz.prog.info? 3).map (λi=>(i.zero,i.size,i.bytes))=Ws (Ws (WK Xr 0),1,8) by kernel_rfl);revert i0 hi cJ ba bd;exact Z8.out):=e (aa h)
def bf8 (e:WA q->p:=by intro Z8;have yk:=aq bp1.out gW.out;have y0:w8.cell? w=Ws (WK Xr d.kind):=ah yk rfl;have y2:w8.cell? (w 2 Wr)=Ws (Yb (Ws (sb so Wr)) 2 rc):=ah yk rfl;have RH:w8.cell? (sb so Wr)=Ws (WM (bs s0)):=((ai vz.out gW.out).cell (p:=sb so Wr) jR).trans J3.out;have RI:w8.cell? (sb (so+1) Wr)=Ws (WM (bs s1)):=((ai vz.out gW.out).cell (p:=sb (so+1) Wr) jR).trans AO.out;revert yk y0 y2 RH RI;exact Z8.out):=e (aa h)
def Iu (e:WA q->p:=by
 intro Z8;have aV:Below W1 W1 w2:=by first|exact ai (aX (af W1)) am|exact ai (aX (ae (af W1) _)) am
 revert aV;exact Z8.out):=e (aa h)
def tK (e:WA q->p:=by intro Z8;have aR:Hid (Below w w w2):=ai aT.out am;revert aR;exact Z8.out):=e (aa h)
def YT (e:WA q->p:=by intro Z8;have jz:pb<wc.heap.size:=(Array.getElem?_eq_some_iff.1 wk).1;have ug:=aa hF;have gX:=aa uH;have bd:w.heap.size<wc.heap.size:=bq ba aV.size;have aR:=aa aV;have vN:=aa ((aV.block w.heap.size ba).trans HR.out);revert jz ug gX bd aR vN;exact Z8.out):=e (aa h)
def ap1 (e:WA q->p:=by intro Z8;have qa: ∀s∈l.drop 2,s.size<=1000000:=λs hs=>a_ s (XV hs);have UC: ¬c=2:=cR _ _ _ rfl;have i1:(2:Int)<=n:=Yi;have g0: ¬((n:Int)<2):=Yi;have i2:(n:Int)<=c:=Yi;have i3:(2:Int)<=c:=Yi;have n1:2<=n:=Yi;have n2:2<=c:=Yi;have L0:=al6 _ (l.drop 2) W hG ((h.drop 2 Yi).more (eJ ar)) qa;have eq:(if(l.drop 2).length<2 then Wr else wO (l.drop 2))=sB (l.drop 2):=rfl;revert qa UC i1 g0 i2 i3 n1 n2 L0 eq;exact Z8.out):=e (aa h)
def Zs (e:WA q->p:=by intro Z8;have HL:=aa L0;have HB:=aa hb;have HT:=aa (h.take_ 2 Yi);have HS:=aa (λs (hs:s∈l.take 2)=>a_ s (List.mem_of_mem_take hs));have sT:=aa (show(l.take 2).length<=100000 by simp;omega);have HG:=aa hG;revert HL HB HT HS sT HG;exact Z8.out):=e (aa h)
def Fp (e:WA q->p:=by intro Z8;have p1:w1.cell? (pb 1 Wr)=Ws (WK Xr p.e):=ah oG rfl;have ye:=blk_lt oG;revert p1 ye;exact Z8.out):=e (aa h)
def ao4 (e:WA q->p:=by intro Z8;have bE:=aa (ai iV.out aS);have oI:=aq Gw.out aS;have rd:=aq lo.out aS;have e0:=ah (o:=0) oI rfl;have e1:=ah (o:=1) oI rfl;have e2:=ah (o:=2) oI rfl;have e3:=ah (o:=3) oI rfl;have e4:=ah (o:=4) oI rfl;have e5:=ah (o:=5) oI rfl;have e6:=ah (o:=6) oI rfl;have e7:=ah (o:=7) oI rfl;have e8:=ah (o:=8) oI rfl;have e9:=ah (o:=9) oI rfl;have dJ:=ah (o:=10) oI rfl;have a6:w4.cell? ⟨w.heap.size+1,6,Wr⟩=Ws (Yb A n c):=ah rd rfl;have zh:=aa rd;revert bE oI rd e0 e1 e2 e3 e4 e5 e6 e7 e8 e9 dJ a6 zh;exact Z8.out):=e (aa h)
def ah3 (e:WA q->p:=by intro Z8;have fU:=js (show((w5.alloc _).drew).heap[w5.heap.size]? =Ws _ from bQ w5 _) bM Yl;have eE:=js (js HB.out (aX (ae (af w5) _)) wL) bM bI;have E6:=blk_lt fU;have eB:=blk_lt eE;have t0:=ah (o:=0) fU rfl;have t1:=ah (o:=1) fU rfl;have t2:=ah (o:=2) fU rfl;have t3:=ah (o:=3) fU rfl;obtain⟨q0,q1,q2,q3⟩:=Ak fU;have r0:=ah (o:=0) eE rfl;have r1:=ah (o:=1) eE rfl;have r2:=ah (o:=2) eE rfl;have r3:=ah (o:=3) eE rfl;obtain⟨p0,p1,p2,p3⟩:=Ak eE;have Em:=ai (aX (ae lZ _)) bM;revert fU eE E6 eB t0 t1 t2 t3 q0 q1 q2 q3 r0 r1 r2 r3 p0 p1 p2 p3 Em;exact Z8.out):=e (aa h)
def Nd (e:WA q->p:=by intro Z8;have q0:=kc hB C0.out;have du:=aa (λW (h:Below W1 W1 W)=>WE (jD (aq HX.out h)) (kc h q0));revert q0 du;exact Z8.out):=e (aa h)
def QI (e:WA q->p:=by intro Z8;have c0:w2.cell? w=Ws (WK Xr d.kind):=(aV.cell (p:=w) ba).trans q0;obtain⟨lJ,wv⟩:=Ih am;revert c0 lJ wv;exact Z8.out):=e (aa h)
def FJ (e:WA q->p:=by intro Z8;have du:=aa (λW (h:Below W1 W1 W)=>jD (aq HX.out h));revert du;exact Z8.out):=e (aa h)
def QJ (e:WA q->p:=by intro Z8;have bd:w.heap.size<w2.heap.size:=bq ba aV.size;have jU: ¬w.heap.size=w2.heap.size:=Yi;have iW:=aa am.block;revert bd jU iW;exact Z8.out):=e (aa h)
def at1 (e:WA q->p:=by intro Z8;have HS:=aa (show m.cells v= #[Yb Sa m.sites.length sc,Yb Fa m.feeds.length fc,Yb Ra m.racks.length rc,Yb Ma m.machs.length mc,Yb La m.links.length lc,Yb Ia m.items.length ic,WK Xr m.dark,WK Xr m.slots,WK Xr m.reserve,WK Xr m.failures,Yb Ua m.rules.length uc] from by rw[aM.cells_def,hs,cB,hr,hm,eX,hi,hu]);revert HS;exact Z8.out):=e (aa h)
def bu4 (e:WA q->p:=by intro Z8;have q0:Wt ((0:Int)<(k:Int))=true:=decide_eq_true Yi;have I':Wt (0<k)=true:=decide_eq_true Yi;have q1:IntKind.i64.wrap ((k:Int) - 1)=(k:Int) - 1:=Xf _ Yi;have q2:((k:Int) - 1).toNat=k - 1:=Yi;have q3:(0:Int)<=(k:Int) - 1:=Yi;have V2:(1:Int)<=(k:Int):=Yi;have q4:(k:Int) - 1<n:=Yi;revert q0 I' q1 q2 q3 V2 q4;exact Z8.out):=e (aa h)
def Pz (e:WA q->p:=by intro Z8;have c0:=ah (o:=0) iF rfl;have xE:=ah (o:=1) iF rfl;have uw:=ah (o:=2) iF rfl;have xF:=ah (o:=3) iF rfl;obtain⟨f0,f1,f2,f3⟩:=Ak iF;revert c0 xE uw xF f0 f1 f2 f3;exact Z8.out):=e (aa h)
def Dd (e:WA q->p:=by intro Z8;have h0:=bk 0 _ rfl;have h1:=bk 1 _ rfl;have h2:=bk 2 _ rfl;revert h0 h1 h2;exact Z8.out):=e (aa h)
def br1 (e:WA q->p:=by intro Z8;have eI:Hid (aF (pb+1) pb W0 w5):=aF.grown ((qH.out.trans (eN.out.mono VT)).trans (aF.of_below (ae (af w4) (Yd #[d.kind,bs d.name,Yb rA rn rc,Yb nA n2 nc,d.by_,Yc d.always] 96)) (bo VT tC) Yl)) za.out bh (by have:=Ts.out;omega);have Hu:=lm.out.cells.1;have Ba:=lm.out.cells.2.2.1;revert eI Hu Ba;exact Z8.out):=e (aa h)
def P9 (e:WA q->p:=by intro Z8;have AP:=aa SP;have HP:=aa (λW=>ao9 W);have HG:=aa hG;have yX:=aa (an4 s hs);have HK:=aa hk;revert AP HP HG yX HK;exact Z8.out):=e (aa h)
def P' (e:WA q->p:=by intro Z8;have f0:=fr 0;have f1:=fr 1;have f2:=fr 2;have f3:=fr 3;have f4:=fr 4;have f5:=fr 5;have f6:=fr 6;have f7:=fr 7;have f8:=fr 8;have f9:=fr 9;revert f0 f1 f2 f3 f4 f5 f6 f7 f8 f9;exact Z8.out):=e (aa h)
def bc3 (e:WA q->p:=by intro Z8;have pw:=aa (jc.out.trans (fk.mono eB));have gF:=bo eB fk.size;have oa:=aa (kI.out.later fk);have zH:ob+1<=Wx.heap.size:=oa.out.lt;have du:=aa (λW (h:Below Wx Wx W)=>(WE (eR (aq (aq jA.out fk) h)) (WE (Mi (aq lg h)) (WE (kc h (kc fk ej)) (kc h (kc fk ei))))));revert pw gF oa zH du;exact Z8.out):=e (aa h)
def Q1 (e:WA q->p:=by intro Z8;have hZ:=aq bm8.out ap;obtain⟨e0,e1,e2,e3,e4,e5,e6,e7,e8,e9,dJ⟩:=eR hZ;have ba:=blk_lt hZ;have bf:=aa (ai (ae (af w) _) ap);have iM:=aa hZ;revert hZ e0 e1 e2 e3 e4 e5 e6 e7 e8 e9 dJ ba bf iM;exact Z8.out):=e (aa h)
def Sb (e:WA q->p:=by intro Z8;have e1:=(bH.out.cell (p:=⟨b,o+k*3+1,Wr⟩) hb).trans (bk 1 _ rfl);have e2:=(bH.out.cell (p:=⟨b,o+k*3+2,Wr⟩) hb).trans (bk 2 _ rfl);revert e1 e2;exact Z8.out):=e (aa h)
def ao5 (e:WA q->p:=by intro Z8;have bY:=aa (ai bE.out bp);have nr:=aq zh.out bp;have a3:w5.cell? ⟨w.heap.size+1,3,Wr⟩=Ws (WK Xr x.load):=ah nr rfl;have a4:w5.cell? ⟨w.heap.size+1,4,Wr⟩=Ws (WK Xr x.size):=ah nr rfl;have a5:w5.cell? ⟨w.heap.size+1,5,Wr⟩=Ws (WK Xr x.share):=ah nr rfl;revert bY nr a3 a4 a5;exact Z8.out):=e (aa h)
def bc2 (e:WA q->p:=by intro Z8;have x0:wr.cell? ⟨mb,mo+k*3,Wr⟩=Ws (WM (bs nm)):=(bR.out.cell (p:=⟨mb,mo+k*3,Wr⟩) eM).trans (gC 0 _ rfl);have x1:wr.cell? ⟨mb,mo+k*3+1,Wr⟩=Ws (WK Xr ((j:Int)+1)):=(bR.out.cell (p:=⟨mb,mo+k*3+1,Wr⟩) eM).trans (gC 1 _ rfl);revert x0 x1;exact Z8.out):=e (aa h)
def aa0 (e:WA q->p:=by intro Z8;have mH:=aa (λW=>Z5 W);have HF:=aa hf;have sR:=aa mf;have nx:=aa (λW (hW:Below w w W)=>Y8 d.name W (hG.step hW));revert mH HF sR nx;exact Z8.out):=e (aa h)
def ZA (e:WA q->p:=by intro Z8;have f1:w3.frozen? (rb 6 Wr)=false:=cd (iY (aq (aq pB.out bE.out) (ae (af _) _)) bh (λj hj e=>iU Co)) 6;revert f1;exact Z8.out):=e (aa h)
def at5 (e:WA q->p:=by intro Z8;have HO:Hid (fu m=(aD (m.sites.length:Nat) 1 4&&Wt (m.feeds.length<=16)&&Wt (m.racks.length<=16)&&aD (m.machs.length:Nat) 1 16&&Wt (m.links.length<=12)&&dN (jh m) [] m.racks&&dN (uT m) [] m.machs&&dN (ji m) [] m.links)):=rfl;revert HO;exact Z8.out):=e (aa h)
def PB (e:WA q->p:=by intro Z8;have aV:=ai c_ am;have iF:=aq (aq (bQ w _) ap) am;have HB:=aa iF;have bd:=blk_lt iF;revert aV iF HB bd;exact Z8.out):=e (aa h)
def Dl (e:WA q->p:=by intro Z8;have r1:w1.heap[pa]? =_:=(ap.block _ ar).trans HB.out;revert r1;exact Z8.out):=e (aa h)
def Re (e:WA q->p:=by intro Z8;have ew:ci d=kK d:=Kf;revert ew;exact Z8.out):=e (aa h)
def RT (e:WA q->p:=by intro Z8;have HR:=aa (RR jd.out ar (by rw[HF.out]<;>rfl));have du:=aa (λW (h:Below wr wr W)=>Mj (aq dB h));revert HR du;exact Z8.out):=e (aa h)
def bw0 (e:WA q->p:=by intro Z8;have Cj:=aa ((pk.block rt (blk_lt GE.out) bI).trans GE.out);have gW:Hid (Below w2 w2 w8):=aa (cK.out.trans ⟨pk.os,pk.tape,pk.output,pk.size,λi hi=>pk.block i (by have:=cK.out.size;omega) bI⟩);revert Cj gW;exact Z8.out):=e (aa h)
def Qy (e:WA q->p:=by intro Z8;have G:=aa (WE g1 (WE g2 (WE g3 (WE g4 (WE d' hq)))));revert G;exact Z8.out):=e (aa h)
def ax0 (e:WA q->p:=by intro Z8;have bE:=aa (ai (aX aR.out) aS);have eM:=aq di6.out (ai (aX (af wc)) aS);have dx:=aq Kd.out (ai (aX (af wc)) aS);have jn:=aq Kc.out (ai (aX (af wc)) aS);obtain⟨Kt,Ku,Kw,Kx,Ky,Kz,KA,KB,KC,KE,Kv⟩:=eR eM;obtain⟨zn,oo,mO,mP,zo,pF,KF⟩:=iA dx;have Ks:w4.cell? fb=Ws (.func (.func go) #[] #[]):=ah jn rfl;have uv:w4.cell? (fb 1 Wr)=Ws (.func (.func gn) #[] #[]):=ah jn rfl;revert bE eM dx jn Kt Ku Kw Kx Ky Kz KA KB KC KE Kv zn oo mO mP zo pF KF Ks uv;exact Z8.out):=e (aa h)
def bg1 (e:WA q->p:=by intro Z8;have nk:w5.heap[rt]? =Ws (Yd #[Yb Wr 0 0,Yb Wr 0 0,Yb Wr 0 0,Yb Wr 0 0,Yb Wr 0 0,Yb Wr 0 0,WK Xr 0,WK Xr 0,WK Xr 0,WK Xr 0,Yb Wr 0 0] 30 (0,0)):=aq pz.out bY.out;revert nk;exact Z8.out):=e (aa h)
def bq9 (e:WA q->p:=by intro Z8;have DJ:=aa (WE EC ws);have za:=aa ((oS xt.out eN.out (ag _) (XQ _)).alloc (Yd #[d.kind,bs d.name,Yb rA rn rc,Yb nA n2 nc,d.by_,Yc d.always] 96));have tC:=eN.out.size;revert DJ za tC;exact Z8.out):=e (aa h)
def LW (e:WA q->p:=by intro Z8;have hz:s.size<=9223372036854775807:=Yi;have fI:=ah2 bT s;revert hz fI;exact Z8.out):=e (aa h)
def ar7 (e:WA q->p:=by intro Z8;have aL:=ae He (Yd #[t.kind,bs t.text,t.n,t.pos] 100);have ht:=aq (bQ w1 (Yd #[t.kind,bs t.text,t.n,t.pos] 100)) am;have aS:=ai aL am;revert aL ht aS;exact Z8.out):=e (aa h)
def FA (e:WA q->p:=by intro Z8;have tq:(0:Int)<=k:=Yi;have lS:=aa ar;revert tq lS;exact Z8.out):=e (aa h)
def bv4 (e:WA q->p:=by intro Z8;have du:=aa (λW (h:Below wr wr W)=>WE (eR (aq dB h)) (WE (kc h e0) (WE (kc h e1) (WE (kc h e2) (WE (kc h e3) (WE (kc h e4) (WE (kc h e5) (kc h e6))))))));revert du;exact Z8.out):=e (aa h)
def Qw (e:WA q->p:=by intro Z8;have HP:=aa h;have HN:=aa (λW (hW:bZ W pb B M p)=>Fm pb B M p W hW);revert HP HN;exact Z8.out):=e (aa h)
def au5 (e:WA q->p:=by intro Z8;have h4:=aI.word az h3;have h5:aI (PS.part _ .number) _ _:=aI.number h4;have h6:=aI.word az h5;have h7:aI (PS.part _ .number) _ _:=aI.number h6;have h8:=aI.word az h7;have h9:aI (PS.part _ .number) _ _:=aI.number h8;revert h4 h5 h6 h7 h8 h9;exact Z8.out):=e (aa h)
def Pv (e:WA q->p:=by intro Z8;have i3:IntKind.i64.wrap ((k:Int)+1)=(k:Int)+1:=Xf _ Yi;revert i3;exact Z8.out):=e (aa h)
def Zy (e:WA q->p:=by intro Z8;have bE:Hid (Below W1 W1 w4):=ai (aX (af W1)) aS;have mp:=aa ho;have JS:=aa (fS iX.out bE.out);revert bE mp JS;exact Z8.out):=e (aa h)
def br0 (e:WA q->p:=by intro Z8;have xJ:=((sY.out.kp eN.out).kp (aF.of_below (pb:=pb) (ae (af w4) (Yd #[d.kind,bs d.name,Yb rA rn rc,Yb nA n2 nc,d.by_,Yc d.always] 96)) (ag _) Yl));revert xJ;exact Z8.out):=e (aa h)
def bq6 (e:WA q->p:=by intro Z8;have i1:IntKind.i64.wrap ((n:Int) - 1)=(n:Int) - 1:=Xf _ Yi;have i2:((n:Int) - 1).toNat=n - 1:=Yi;have i3:(0:Int)<=(n:Int) - 1:=Yi;have i4:(n:Int) - 1<(n:Int):=Yi;revert i1 i2 i3 i4;exact Z8.out):=e (aa h)
def bv9 (e:WA q->p:=by intro Z8;have J6:=aa E1;have py:=aa (λW (h:Below w4 w4 W)=>fj2 (Yb dA dn dc) ds W (HG.out.below ((aR.out).trans ((ai bE.out h).mono oK)) KO) (E1.to oD.ab h (ag _) h.size) tr);revert J6 py;exact Z8.out):=e (aa h)
def LR (e:WA q->p:=by intro Z8;have dz:(0:Int)<=k:=Yi;have bJ:(k:Int)<n:=Yi;revert dz bJ;exact Z8.out):=e (aa h)
def Rp (e:WA q->p:=by intro Z8;have G5:w6.cell? (w 3 Wr)=Ws (Yb NA nn nc):=ah C6 rfl;revert G5;exact Z8.out):=e (aa h)
def by6 (e:WA q->p:=by intro Z8;have yl:=em8 zc.out (en0 HK.out) (λx hx=>yX.out.2 x (XV hx)) ty Hx;have C_:=an5 zc.out;have VC:=P6 y _ _ w3 yl (by have:=vB.out;omega) (by have:=vB.out;omega);revert yl C_ VC;exact Z8.out):=e (aa h)
def bc1 (e:WA q->p:=by intro Z8;have lK:(0:Int)<=j:=Yi;have rY:(j:Int)+1 - 1=j:=Yi;have rZ:(j:Int)<m.sites.length:=Yi;have EI:j<m.sites.length:=Yi;have Hm:IntKind.i64.wrap (j:Int)=j:=Xf _ Yi;revert lK rY rZ EI Hm;exact Z8.out):=e (aa h)
def Qd (e:WA q->p:=by intro Z8;have h1:aI (PS.part _ .name) _ _:=aI.name hn hq;have h2:=aI.word az h1;revert h1 h2;exact Z8.out):=e (aa h)
def ME (e:WA q->p:=by
 intro Z8;obtain⟨t,q,ht,h1,h2,h3,h4⟩:=h.cons;have hh:p.head=t:=by simp[PS.head,ht]
 revert t q ht h1 h2 h3 h4 hh;exact Z8.out):=e (aa h)
def Qe (e:WA q->p:=by intro Z8;have h1:aI (PS.part _ .ref) _ _:=aI.ref lG hq;have h2:=aI.word az h1;revert h1 h2;exact Z8.out):=e (aa h)
def bc4 (e:WA q->p:=by intro Z8;have DW:=aa iJ;have jH:=aa Bf;have du:=aa (λW (h:Below wc wc W)=>WE (eR (aq (aq jA.out (ai kH.out Bf)) h)) (iA (aq (aq uk.out Bf) h)));revert DW jH du;exact Z8.out):=e (aa h)
def an9 (e:WA q->p:=by intro Z8;have HS:=aa (show m.cells v= #[Yb Sa m.sites.length sc,Yb Fa m.feeds.length fc,Yb Ra m.racks.length rc,Yb Ma m.machs.length mc,Yb La m.links.length lc,Yb Ia m.items.length ic,WK Xr m.dark,WK Xr m.slots,WK Xr m.reserve,WK Xr m.failures,Yb Ua m.rules.length uc] from by rw[aM.cells_def,hs,hf,hr,hm,hl,hi,hu]);revert HS;exact Z8.out):=e (aa h)
def No (e:WA q->p:=by intro Z8;have qc:=aU.size;have x1:W1.cell? (w 1 Wr)=Ws (WM (bs d.name)):=ah cS rfl;revert qc x1;exact Z8.out):=e (aa h)
def Zw (e:WA q->p:=by intro Z8;have c1:W1.cell? (rb 6 Wr)=Ws v:=ah gE hC;have c2:W1.cell? pb=Ws (Yf (Ws rb)):=ah (aq hp aU) rfl;revert c1 c2;exact Z8.out):=e (aa h)
def YM (e:WA q->p:=by intro Z8;have bf:=aa (ai (ae (af w) _) ap);have yU:=aa ((j6.new w 46 x (Yb Am nm cm) (Yb As ns cs)).below ap Yl);revert bf yU;exact Z8.out):=e (aa h)
def Jc (e:WA q->p:=by intro Z8;have iH:=aq AT.out hB;have lL:=aq GK.out hB;revert iH lL;exact Z8.out):=e (aa h)
def Zx (e:WA q->p:=by intro Z8;have iX:=aa (fS bA aU);have pA:Hid (∀W,Below W1 W1 W->_):=λW hW=>pA.out W (ai aU hW);revert iX pA;exact Z8.out):=e (aa h)
def aG (e:WA q->p:=by
 intro Z8;try simp only[Act.put,sN,sP,sO]
 exact Z8.out):=e (aa h)
def Ad (e:WA q->p:=by intro Z8;refine hK.out _ _ (by refine(fun(hb:Below wr wr _)=>⟨kc hb c0,kc hb c2,kc hb cs,jA.out.later hb,hb⟩) ?_;first|exact aX (ae (af wr) _)|exact ae (aX (af wr)) _|exact cF (aX (ae (af wr) _)) (ag _) _|exact cF (ae (aX (af wr)) _) (ag _) _|exact cF (cF (aX (ae (af wr) _)) (ag _) _) (ag _) _|exact aX (cF (cF (ae (af wr) _) (ag _) _) (ag _) _)|exact aX (ae (af wr) _)) ?_;exact Z8.out):=e (aa h)
def zX (e:WA q->p:=by intro Z8;refine cP (λW=>Below w w W/\W.heap[w.heap.size]? =Ws (Yd #[Yb Sa m.sites.length sc,Yb Fa m.feeds.length fc,Yb Ra m.racks.length rc,Yb Ma m.machs.length mc,Yb La m.links.length lc,Yb Ia m.items.length ic,m.dark,m.slots,m.reserve,m.failures,Yb Ua m.rules.length uc] 30 (0,0))) ⟨ae (af w) _,bQ w _⟩ ?_;exact Z8.out):=e (aa h)
def Ae (e:WA q->p:=by intro Z8;refine fC (S:=λw'=>w'.cell? xb=Ws (WK Xr d.kind)/\w'.cell? (xb 1 Wr)=Ws (WM (bs d.name))/\w'.cell? (xb 2 Wr)=Ws (Yb RA rn rc)/\w'.cell? (xb 3 Wr)=Ws (Yb NA nn nc)/\w'.cell? (xb 4 Wr)=Ws (WK Xr d.by_)/\w'.cell? (xb 5 Wr)=Ws (Yc d.always)) 6 7 (by exact⟨zn,oo,mO,mP,zo,pF⟩) ?_;exact Z8.out):=e (aa h)
def aw9 (e:WA q->p:=by intro Z8;refine pE (S:=λw'=>w'.cell? fb=Ws (.func (.func go) #[] #[])/\w'.cell? (fb 1 Wr)=Ws (.func (.func gn) #[] #[])/\w'.cell? w=Ws (Yb Sa m.sites.length sc)/\w'.cell? (w 1 Wr)=Ws (Yb Fa m.feeds.length fc)/\w'.cell? (w 2 Wr)=Ws (Yb Ra m.racks.length rc)/\w'.cell? (w 3 Wr)=Ws (Yb Ma m.machs.length mc)/\w'.cell? (w 4 Wr)=Ws (Yb La m.links.length lc)/\w'.cell? (w 5 Wr)=Ws (Yb Ia m.items.length ic)/\w'.cell? (w 6 Wr)=Ws (WK Xr m.dark)/\w'.cell? (w 7 Wr)=Ws (WK Xr m.slots)/\w'.cell? (w 8 Wr)=Ws (WK Xr m.reserve)/\w'.cell? (w 9 Wr)=Ws (WK Xr m.failures)/\w'.cell? (w 10 Wr)=Ws (Yb Ua m.rules.length uc)/\w'.cell? ⟨w.heap.size+1,0,Wr⟩=Ws (WK Xr x.kind)/\w'.cell? ⟨w.heap.size+1,1,Wr⟩=Ws (WK Xr x.item)/\w'.cell? ⟨w.heap.size+1,2,Wr⟩=Ws (WK Xr x.other)/\w'.cell? ⟨w.heap.size+1,3,Wr⟩=Ws (WK Xr x.n)/\w'.cell? ⟨w.heap.size+1,4,Wr⟩=Ws (WK Xr x.by_)/\w'.cell? ⟨w.heap.size+1,5,Wr⟩=Ws (Yc x.always)/\w'.cell? ⟨w.heap.size+1,6,Wr⟩=Ws (Yb A n c)) 17 (by exact⟨zl,zm,TS,TT,TV,TW,TX,TY,TZ,T3,T4,T5,TU,up,rT,uq,ur,ut,uu,T6⟩) ?_;exact Z8.out):=e (aa h)
def bh5 (e:WA q->p:=by intro Z8;refine hK.out _ _ (by exact⟨((ae (af _) _).cell (p:=mb) (bP _ _ (hS.1))).trans (hS.1),((ae (af _) _).cell (p:=rb 6 Wr) (bP _ _ (hS.2.1))).trans (hS.2.1),((ae (af _) _).cell (p:=pb) (bP _ _ (hS.2.2.1))).trans (hS.2.2.1),((ae (af _) _).cell (p:=w) (bP _ _ (hS.2.2.2.1))).trans (hS.2.2.2.1),((ae (af _) _).cell (p:=w 1 Wr) (bP _ _ (hS.2.2.2.2.1))).trans (hS.2.2.2.2.1),((ae (af _) _).cell (p:=w 2 Wr) (bP _ _ (hS.2.2.2.2.2.1))).trans (hS.2.2.2.2.2.1),((ae (af _) _).cell (p:=w 3 Wr) (bP _ _ (hS.2.2.2.2.2.2.1))).trans (hS.2.2.2.2.2.2.1),((ae (af _) _).cell (p:=w 4 Wr) (bP _ _ (hS.2.2.2.2.2.2.2.1))).trans (hS.2.2.2.2.2.2.2.1),((ae (af _) _).cell (p:=w 5 Wr) (bP _ _ (hS.2.2.2.2.2.2.2.2))).trans (hS.2.2.2.2.2.2.2.2)⟩) ?_;exact Z8.out):=e (aa h)
def kz (e:WA q->p:=by intro Z8;refine hK.out _ _ (by exact⟨kc (jQ) x0,kc (jQ) c2,jQ⟩) ?_;exact Z8.out):=e (aa h)
def bh6 (e:WA q->p:=by intro Z8;refine hK.out _ _ (by exact⟨(eZ bh (bP _ _ (hS.1)) uO).trans (hS.1),(eZ bh (bP _ _ (hS.2.1)) iU).trans (hS.2.1),(eZ bh (bP _ _ (hS.2.2.1)) Pg).trans (hS.2.2.1),(eZ bh (bP _ _ (hS.2.2.2.1)) ee).trans (hS.2.2.2.1),(eZ bh (bP _ _ (hS.2.2.2.2.1)) ee).trans (hS.2.2.2.2.1),(eZ bh (bP _ _ (hS.2.2.2.2.2.1)) ee).trans (hS.2.2.2.2.2.1),(eZ bh (bP _ _ (hS.2.2.2.2.2.2.1)) ee).trans (hS.2.2.2.2.2.2.1),(eZ bh (bP _ _ (hS.2.2.2.2.2.2.2.1)) ee).trans (hS.2.2.2.2.2.2.2.1),(eZ bh (bP _ _ (hS.2.2.2.2.2.2.2.2)) ee).trans (hS.2.2.2.2.2.2.2.2)⟩) ?_;exact Z8.out):=e (aa h)
def FK (e:WA q->p:=by intro Z8;refine cP (λW=>Below w w W/\W.heap[w.heap.size]? =Ws (Yd #[d.kind,bs d.name,Yb (Ws (rb ro Wr)) rn rc,nv,d.by_,Yc d.always] 96 (0,0))) ⟨ae (af w) _,bQ w _⟩ ?_;exact Z8.out):=e (aa h)
def M8 (e:WA q->p:=by intro Z8;refine fC (S:=λw'=>w'.cell? rb=Ws (.map (Ws Mb))/\w'.cell? (w 2 Wr)=Ws (Yb (Ws (sb so Wr)) rn rc)/\w'.cell? ⟨sb,so+k,Wr⟩=Ws (WM (bs s))/\de lV w' Mb (ks t)/\Below wr wr w') 16 16 (by exact⟨c0,c2,cs,jA.out,aX (af wr)⟩) ?_;exact Z8.out):=e (aa h)
def Ah (e:WA q->p:=by intro Z8;refine hK.out _ _ (by exact⟨kc (cK.out) zn,kc (cK.out) oo,kc (cK.out) mO,kc (cK.out) mP,kc (cK.out) zo,kc (cK.out) pF⟩) ?_;exact Z8.out):=e (aa h)
def aw6 (e:WA q->p:=by intro Z8;refine cP (λW=>Below w w W/\W.heap[w.heap.size]? =Ws (Yd #[Yb Sa m.sites.length sc,Yb Fa m.feeds.length fc,Yb Ra m.racks.length rc,Yb Ma m.machs.length mc,Yb La m.links.length lc,Yb Ia m.items.length ic,m.dark,m.slots,m.reserve,m.failures,Yb Ua m.rules.length uc] 30 (0,0))/\W.heap[w.heap.size+1]? =Ws (Yd #[x.kind,x.item,x.other,x.n,x.by_,Yc x.always,Yb A n c] 119 (0,0))) ⟨ae (ae (af w) _) _,(sF w _ _ _ _).1,(sF w _ _ _ _).2⟩ ?_;exact Z8.out):=e (aa h)
def Zz (e:WA q->p:=by intro Z8;refine step_append_lies _ cA _ _ _ cA B 138 i0 _ 7 80 underlying27 hi cJ ba bd rfl Yi _ _ _ cA ((JS.out).alloc _) ⟨_,0,Wr⟩ 1 1 (yF u (Yb OA om oc)) cA cA (mw rfl) (by simp[yF,Xp]) Yi ul lr (by have:=bE.out.size;first|omega|(simp;omega)) _ rfl ?_;exact Z8.out):=e (aa h)
def Sf (e:WA q->p:=by intro Z8;refine fC (S:=λw'=>w'.cell? (w 2 Wr)=Ws (Yb Ra m.racks.length rc)/\w'.cell? (w 3 Wr)=Ws (Yb (Ws (b o Wr)) m.machs.length mc)/\w'.cell? ⟨b,o+k*3+1,Wr⟩=Ws (WK Xr x.rack)/\w'.cell? ⟨b,o+k*3+2,Wr⟩=Ws (WK Xr x.cap)/\Below wr wr w') 21 21 (by exact⟨c2,c3,e1,e2,aX (af wr)⟩) ?_;exact Z8.out):=e (aa h)
def Sc (e:WA q->p:=by intro Z8;refine fC (S:=λw'=>w'.cell? (w 2 Wr)=Ws (Yb (Ws (b o Wr)) m.racks.length rc)/\w'.cell? (xb 1 Wr)=Ws (WK Xr x.site)/\w'.cell? (xb 2 Wr)=Ws (WK Xr x.feed)/\w'.cell? ⟨b,o+j*3+1,Wr⟩=Ws (WK Xr y.site)/\w'.cell? ⟨b,o+j*3+2,Wr⟩=Ws (WK Xr y.feed)) 20 20 (by exact⟨d2,Ej,Ek,y1,y2⟩) ?_;exact Z8.out):=e (aa h)
def Se (e:WA q->p:=by intro Z8;refine fC (S:=λw'=>w'.cell? (w 4 Wr)=Ws (Yb (Ws (b o Wr)) m.links.length lc)/\w'.cell? xb=Ws (WK Xr x.a)/\w'.cell? (xb 1 Wr)=Ws (WK Xr x.b)/\w'.cell? ⟨b,o+j*3,Wr⟩=Ws (WK Xr y.a)/\w'.cell? ⟨b,o+j*3+1,Wr⟩=Ws (WK Xr y.b)) 20 20 (by exact⟨d2,Ej,Ek,y1,y2⟩) ?_;exact Z8.out):=e (aa h)
def ZO (e:WA q->p:=by intro Z8;refine(fi1 (bs c) _ 12 _ _ _ b t cs _ (HG.out.step (ae (ae aR.out _) _)) jJ Ee Ee Yl xy jJ Ee Ee eL ((Below.heap_alloc _ _ _ Ee).trans ((Below.heap_alloc _ _ _ Yi).trans SD.out)) (by rw[pr.out];decide)).mono ?_;exact Z8.out):=e (aa h)
def ZS (e:WA q->p:=by intro Z8;refine cP (λW=>Below w w W/\W.heap[w.heap.size]? =Ws (Yd #[Yb Wr 0 0,Yb Wr 0 0,Yb Wr 0 0,Yb Wr 0 0,Yb Wr 0 0,Yb Wr 0 0,WK Xr 0,WK Xr 0,WK Xr 0,WK Xr 0,Yb Wr 0 0,Yb Wr 0 0,WK Xr 0,Yb Wr 0 0] 34 (0,0))) ⟨ae (af w) _,bQ w _⟩ ?_;exact Z8.out):=e (aa h)
def xc (e:WA q->p:=by intro Z8;refine hK.out _ _ (by exact⟨kc (kA) x0,kc (kA) c2,kA⟩) ?_;exact Z8.out):=e (aa h)
def Q_ (e:WA q->p:=by intro Z8;refine cP (λW=>Below w w W/\W.heap[w.heap.size]? =Ws (Yd #[d.kind,bs d.name,rv,nv,d.by_,Yc d.always] 96 (0,0))) ⟨ae (af w) _,bQ w _⟩ ?_;exact Z8.out):=e (aa h)
def vg (e:WA q->p:=by intro Z8;refine hK.out _ _ (by exact ai hS (ae (af _) _)) ?_;exact Z8.out):=e (aa h)
def Zv (e:WA q->p:=by intro Z8;refine cP (λW=>Below w w W/\W.heap[w.heap.size]? =Ws (Yd #[d.kind,bs d.name,Yb RA rn rc,Yb (Ws (qb qo Wr)) (m+3) nc,d.by_,Yc d.always] 96 (0,0))) ⟨ae (af w) _,bQ w _⟩ ?_;exact Z8.out):=e (aa h)
def bj1 (e:WA q->p:=by intro Z8;refine hK.out _ _ (by refine(fun(hb:Below w3 w3 _)=>⟨kc hb y0,kc hb y4,kc hb y5,kc hb Zk,hb⟩) ?_;first|exact aX (ae (af w3) _)|exact ae (aX (af w3)) _|(repeat' first|with_reducible exact af w3|with_reducible refine aX ?_ |with_reducible refine cF ?_ (by first|omega|(simp;done)) _|with_reducible refine ae ?_ _)) ?_;exact Z8.out):=e (aa h)
def YU (e:WA q->p:=by intro Z8;refine Zr (λW=>Below wc wc W/\eY W wc (cj k) aN aN/\W.cell? (pb 4 Wr)=Ws (.func (.func gr) #[] #[])/\wc.heap.size<W.heap.size) ⟨ae (af wc) _,em9 wc k _ gX.out,by go_simp,by simp⟩ ?_;exact Z8.out):=e (aa h)
def ba1 (e:WA q->p:=by intro Z8;refine step_append_lies _ cA _ _ _ cA B 9 i0 _ 1 16 X9 hi cJ ba bd rfl Yi _ _ _ cA ((iX.out).alloc _) ⟨_,0,Wr⟩ 1 1 [WM (bs d.name)] cA cA (mw rfl) ti Yi ul lr lr _ rfl ?_;exact Z8.out):=e (aa h)
def Z1 (e:WA q->p:=by intro Z8;refine cP (λW=>Below w w W/\W.heap[w.heap.size]? =Ws (Yd #[d.kind,bs d.name,Yb RA rn rc,Yb NA nn nc,d.by_,Yc d.always] 96 (0,0))) ⟨ae (af w) _,bQ w _⟩ ?_;exact Z8.out):=e (aa h)
def RC (e:WA q->p:=by intro Z8;refine oV rfl (Yg 42) (Yh (WK Xr 13)) (Yg 53) 187 (.inr rfl) 3 23 (.int Xr) Xm WI co _ _ rfl kC (13:Int) _ rfl rfl ?_;exact Z8.out):=e (aa h)
def rD (e:WA q->p:=by intro Z8;refine hK.out _ _ (ai hS am) ?_;exact Z8.out):=e (aa h)
def RD (e:WA q->p:=by intro Z8;refine oV rfl (Yg 42) (Yh (WK Xr 6)) (Yg 46) 187 (.inr rfl) 3 23 (.int Xr) Xm WI co _ _ rfl kC (6:Int) _ rfl rfl ?_;exact Z8.out):=e (aa h)
def RE (e:WA q->p:=by intro Z8;refine oV rfl (Yg 42) (Yh (WK Xr 5)) (Yg 44) 187 (.inr rfl) 3 23 (.int Xr) Xm WI co _ _ rfl kC (5:Int) _ rfl rfl ?_;exact Z8.out):=e (aa h)
def iZ (e:WA q->p:=by intro Z8;refine hK.out _ _ ?_;exact Z8.out):=e (aa h)
def bf9 (e:WA q->p:=by intro Z8;refine fC (S:=λw'=>w'.cell? w=Ws (WK Xr d.kind)/\w'.cell? (w 2 Wr)=Ws (Yb (Ws (sb so Wr)) 2 rc)/\w'.cell? (sb so Wr)=Ws (WM (bs s0))/\w'.cell? (sb (so+1) Wr)=Ws (WM (bs s1))) 19 19 (by exact⟨y0,y2,RH,RI⟩) ?_;exact Z8.out):=e (aa h)
def sM (e:WA q->p:=by intro Z8;refine hK.out _ _ (ae hS _) ?_;exact Z8.out):=e (aa h)
def YR (e:WA q->p:=by intro Z8;refine bodyPost_ret (v:= .tuple #[Ye ((cj 0).cells aN aN),WK Xr 3]) (by simp[results,results10,go_sem,nJ,aN,d0,d1,d2,d3,d4,d5,d6,d7,d8,d9];try rfl) rfl ?_;exact Z8.out):=e (aa h)
def bu5 (e:WA q->p:=by intro Z8;refine fC (S:=λw'=>w'.cell? (w 3 Wr)=Ws (Yb Ma m.machs.length mc)/\w'.cell? ⟨ub,uo+k,Wr⟩=Ws (WK Xr x)/\w'.cell? ⟨ub,uo+(k - 1),Wr⟩=Ws (WK Xr y)/\Below wr wr w') 25 25 (by exact⟨c3,cs,cp,aX (af wr)⟩) ?_;exact Z8.out):=e (aa h)
def RF (e:WA q->p:=by intro Z8;refine(ta.out _ wc.heap.size Yl (ah (bQ wc _) rfl) ((od.out.below (ae (af wc) _) (ag _)).more Yl)).mono ?_;exact Z8.out):=e (aa h)
def ba2 (e:WA q->p:=by intro Z8;refine hK.out _ _ (by exact⟨(eZ bh (bP _ _ (hS.1)) uO).trans (hS.1),(eZ bh (bP _ _ (hS.2.1)) iU).trans (hS.2.1),(eZ bh (bP _ _ (hS.2.2)) ee).trans (hS.2.2)⟩) ?_;exact Z8.out):=e (aa h)
def qy (e:WA q->p:=by intro Z8;refine(fn6 _ _ _).mono ?_;exact Z8.out):=e (aa h)
def ba3 (e:WA q->p:=by intro Z8;refine cP (λW=>Below w w W/\W.heap[w.heap.size]? =Ws (Yd #[d.kind,bs d.name,Yb RA rn rc,Yb (Ws (qb qo Wr)) (nn+1) nc,d.by_,Yc d.always] 96 (0,0))) ⟨ae (af w) _,bQ w _⟩ ?_;exact Z8.out):=e (aa h)
def FP (e:WA q->p:=by intro Z8;refine fC (S:=Below wr wr) 34 34 (aX (af wr)) ?_;exact Z8.out):=e (aa h)
def YW (e:WA q->p:=by intro Z8;refine(ug.out.read (Yb (Ws (bl (ol+1) Wr)) (n - 1) (c - 1)) ((cW s).drop 1) W.drew wc.heap.size Gn.out iW.out h8 D4.out DN.out vB.out).mono ?_;exact Z8.out):=e (aa h)
def RK (e:WA q->p:=by intro Z8;refine fC (S:=λw'=>w'.cell? ⟨ub,uo+k,Wr⟩=Ws (WM (bs s))/\Below wr wr w') 16 16 (by exact⟨cs,aX (af wr)⟩) ?_;exact Z8.out):=e (aa h)
def bf2 (e:WA q->p:=by intro Z8;refine IN rfl (Yg 54) (Yg 56) 187 Ww rfl 3 23 (.int Xr) Xm WI co _ _ rfl (pS.of_eq (fc5 _ _)) (d.kind:Int) (Yb Wr 0 0) rfl (zeroValue23 _) _ (IP _ _ _) ?_;exact Z8.out):=e (aa h)
def bf3 (e:WA q->p:=by intro Z8;refine IN rfl (Yg 54) (Yg 56) 187 Ww rfl 3 23 (.int Xr) Xm WI co _ _ rfl (pS.of_eq (fc6 _ _)) (d.kind:Int) (Yb Wr 0 0) rfl (zeroValue23 _) _ (IP _ _ _) ?_;exact Z8.out):=e (aa h)
def bf4 (e:WA q->p:=by intro Z8;refine IN rfl (Yg 54) (Yg 56) 187 Ww rfl 3 23 (.int Xr) Xm WI co _ _ rfl (pS.of_eq (fc7 _ _)) (d.kind:Int) (Yb Wr 0 0) rfl (zeroValue23 _) _ (IP _ _ _) ?_;exact Z8.out):=e (aa h)
def bf5 (e:WA q->p:=by intro Z8;refine IN rfl (Yg 54) (Yg 56) 187 Ww rfl 3 23 (.int Xr) Xm WI co _ _ rfl (pS.of_eq (fc8 _ _)) (d.kind:Int) (Yb Wr 0 0) rfl (zeroValue23 _) _ (IP _ _ _) ?_;exact Z8.out):=e (aa h)
def bf6 (e:WA q->p:=by intro Z8;refine IN rfl (Yg 54) (Yg 56) 187 Ww rfl 3 23 (.int Xr) Xm WI co _ _ rfl (pS.of_eq (fc9 _ _)) (d.kind:Int) (Yb Wr 0 0) rfl (zeroValue23 _) _ (IP _ _ _) ?_;exact Z8.out):=e (aa h)
def bf7 (e:WA q->p:=by intro Z8;refine IN rfl (Yg 54) (Yg 56) 187 Ww rfl 3 23 (.int Xr) Xm WI co _ _ rfl (pS.of_eq (fd0 _ _)) (d.kind:Int) (Yb Wr 0 0) rfl (zeroValue23 _) _ (IP _ _ _) ?_;exact Z8.out):=e (aa h)
def bb2 (e:WA q->p:=by intro Z8;refine cP (λW=>Below w w W/\W.heap[w.heap.size]? =Ws (Yd #[d.kind,bs d.name,Yb RA rn rc,Yb NA nn nc,d.by_,Yc aw] 96 (0,0))) ⟨ae (af w) _,bQ w _⟩ ?_;exact Z8.out):=e (aa h)
def IQ (e:WA q->p:=by intro Z8;refine hK.out _ _ (by exact⟨kc (nN) x0,kc (nN) c2,nN⟩) ?_;exact Z8.out):=e (aa h)
def bu3 (e:WA q->p:=by intro Z8;refine fC (S:=λw'=>w'.cell? (w 3 Wr)=Ws (Yb Ma m.machs.length mc)/\w'.cell? ⟨ub,uo+k,Wr⟩=Ws (WK Xr x)/\Below wr wr w') 25 25 (by exact⟨c3,cs,aX (af wr)⟩) ?_;exact Z8.out):=e (aa h)
def al5 (e:WA q->p:=by intro Z8;refine(Pu (aJ l 2) ob 3 44 #[WK Xr 2,WM (aJ l 1),WK Xr 0,WK Xr 0] _ (HG.out.step bY.out) (sZ.out _ (BI AY)) (by have:=HG.out.size;omega) og.out Yl).mono ?_;exact Z8.out):=e (aa h)
def Nf (e:WA q->p:=by intro Z8;refine pE (S:=λw'=>Below W1 W1 w') 10 Cp ?_;exact Z8.out):=e (aa h)
def Ir (e:WA q->p:=by intro Z8;refine((HD.out.later (ai aT.out hS)).load H0.out H1.out H2.out).mono ?_;exact Z8.out):=e (aa h)
def YX (e:WA q->p:=by intro Z8;refine(ug.out.read (Yb (Ws (bl ol Wr)) 0 0) ((cW s).drop 1) W.drew wc.heap.size Gn.out iW.out h8 D4.out DN.out vB.out).mono ?_;exact Z8.out):=e (aa h)
def bi5 (e:WA q->p:=by intro Z8;refine cP (λW=>Below w w W/\W.heap[w.heap.size]? =Ws (Yd #[d.kind,bs d.name,Yb RA rn rc,nv,d.by_,Yc d.always] 96 (0,0))) ⟨ae (af w) _,bQ w _⟩ ?_;exact Z8.out):=e (aa h)
def bw3 (e:WA q->p:=by intro Z8;refine cP (λW=>Below w w W/\W.heap[w.heap.size]? =Ws (Yd #[d.kind,bs d.name,rv,Yb NA nn nc,d.by_,Yc d.always] 96 (0,0))) ⟨ae (af w) _,bQ w _⟩ ?_;exact Z8.out):=e (aa h)
def Af (e:WA q->p:=by intro Z8;refine(sV.out _ (aX (af w5))).mono ?_;exact Z8.out):=e (aa h)
def bh4 (e:WA q->p:=by intro Z8;refine hK.out _ _ (by exact⟨kc (bE.out) c0,kc (bE.out) c1,kc (bE.out) c2,kc (bE.out) x0,kc (bE.out) x1,kc (bE.out) x2,kc (bE.out) x3,kc (bE.out) x4,kc (bE.out) x5⟩) ?_;exact Z8.out):=e (aa h)
def BQ (e:WA q->p:=by intro Z8;refine hK.out _ _ (ai hS aS) ?_;exact Z8.out):=e (aa h)
def M_ (e:WA q->p:=by intro Z8;refine fj1 cA cA cA cA te.out ?_;exact Z8.out):=e (aa h)
def ap9 (e:WA q->p:=by intro Z8;refine(HU.out w1 ⟨word,kind,gu,gf,caps,gr,gt⟩ _ (w1.heap.size+1) w.heap.size ug.out (em0 w1 _ k _ HK.out) (yU.out.below (ae (ae (af w1) _) _) ba) Yi).mono ?_;exact Z8.out):=e (aa h)
def by7 (e:WA q->p:=by intro Z8;refine oV rfl (Yg 42) (Yh (WK Xr 13)) (Yg 53) 187 (.inr rfl) 3 23 (.int Xr) Xm WI co _ _ rfl kB (13:Int) _ rfl rfl ?_;exact Z8.out):=e (aa h)
def by8 (e:WA q->p:=by intro Z8;refine oV rfl (Yg 42) (Yh (WK Xr 6)) (Yg 46) 187 (.inr rfl) 3 23 (.int Xr) Xm WI co _ _ rfl kB (6:Int) _ rfl rfl ?_;exact Z8.out):=e (aa h)
def by9 (e:WA q->p:=by intro Z8;refine oV rfl (Yg 42) (Yh (WK Xr 5)) (Yg 44) 187 (.inr rfl) 3 23 (.int Xr) Xm WI co _ _ rfl kB (5:Int) _ rfl rfl ?_;exact Z8.out):=e (aa h)
def Mp (e:WA q->p:=by intro Z8;refine(HW.out _ el lr).mono ?_;exact Z8.out):=e (aa h)
def BS (e:WA q->p:=by intro Z8;refine(jq.out W1 aT.out).mono ?_;exact Z8.out):=e (aa h)
def ad3 (e:WA q->p:=by intro Z8;refine bodyPost_ret (v:= .tuple #[jx 0 [] 0 0,x]) N_ rfl ?_;exact Z8.out):=e (aa h)
def M6 (e:WA q->p:=by intro Z8;refine bi2 ho hg hd hp hn az hF eG (af w) ?_;exact Z8.out):=e (aa h)
def Rt (e:WA q->p:=by intro Z8;refine bi2 ho hg hd hp hn hs.2 hF eG (ae (af w) _) ?_;exact Z8.out):=e (aa h)
def Je (h:p:=by
 refine kz λhS=> ?_;clear hK;refine aG ?_;refine ie 19 9 ?_;refine gK ?_;go_wp2_with fail
 go_meet;exact⟨HL.out _ _ (by first|exact jQ|exact aX jQ),by first|exact jQ|exact aX jQ⟩):p:=h
def bf1 (h:p:=by
 iterate 2 refine cI 21 42 ?_
 iterate 2 refine cI 22 41 ?_
 iterate 7 refine cI 23 40 ?_
 iterate 2 refine cI 25 39 ?_
 refine bF 0 λK hK=> ?_;refine bi8 (enc:=iO) rfl 187 rfl ?_;intro w0 uz KL;have jb:Below wr wr w0:=ai (aX (af wr)) KL;clear KL;refine hK.out _ _ (by exact⟨kc (jb) x0,kc (jb) c2,jb⟩) (λhS=> ?_);clear hK;refine aG ?_;refine uS (rs:=[3,6,14]) aC Yl ?_;refine eQ.cons1 rfl (λK hK=> ?_) (eQ.cons1 rfl (λK hK=> ?_) (eQ.cons1 rfl (λK hK=> ?_) (eQ.nil)))
 .refine oV rfl (.tmp 42) (.const (.int .i64 5)) (.tmp 44) 187 (.inr rfl) 3 23 (.int .i64) underlying187 underlying3 co _ _ rfl uz (5:Int) _ rfl rfl ?_;intro wa kB pW;have nN:=pW.1 _ _ jb (ag _);clear pW uz;refine IQ λhS=> ?_;clear hK;refine aG ?_;refine uS (rs:=[6,14]) (by kernel_rfl) (by simp) ?_;refine eQ.cons1 rfl (λK hK=> ?_) (eQ.cons1 rfl (λK hK=> ?_) (eQ.nil))
  .refine by8 ?_;intro wb kC im;have kA:=im.1 _ _ nN (ag _);clear im kB;refine xc λhS=> ?_;clear hK;refine aG ?_;refine bF 14 λK hK=> ?_;refine RC ?_;intro wc pS ip;have jQ:=ip.1 _ _ kA (ag _);clear ip kC;refine kz λhS=> ?_;clear hK;refine aG ?_;refine bF 15 λK hK=> ?_;go_simp;refine kz λhS=> ?_;clear hK;refine aG ?_;refine bF 18 λK hK=> ?_;refine bf2 ?_;exact Je
  .refine by7 ?_;intro wb kC im;have kA:=im.1 _ _ nN (ag _);clear im kB;refine xc λhS=> ?_;clear hK;refine aG ?_;refine bF 6 λK hK=> ?_;refine RD ?_;intro wc pS ip;have jQ:=ip.1 _ _ kA (ag _);clear ip kC;refine kz λhS=> ?_;clear hK;refine aG ?_;refine bF 15 λK hK=> ?_;go_simp;refine kz λhS=> ?_;clear hK;refine aG ?_;refine bF 18 λK hK=> ?_;refine bf3 ?_;exact Je
 .refine oV rfl (.tmp 42) (.const (.int .i64 6)) (.tmp 46) 187 (.inr rfl) 3 23 (.int .i64) underlying187 underlying3 co _ _ rfl uz (6:Int) _ rfl rfl ?_;intro wa kB pW;have nN:=pW.1 _ _ jb (ag _);clear pW uz;refine IQ λhS=> ?_;clear hK;refine aG ?_;refine uS (rs:=[3,14]) (by kernel_rfl) (by simp) ?_;refine eQ.cons1 rfl (λK hK=> ?_) (eQ.cons1 rfl (λK hK=> ?_) (eQ.nil))
  .refine by9 ?_;intro wb kC im;have kA:=im.1 _ _ nN (ag _);clear im kB;refine xc λhS=> ?_;clear hK;refine aG ?_;refine bF 14 λK hK=> ?_;refine RC ?_;intro wc pS ip;have jQ:=ip.1 _ _ kA (ag _);clear ip kC;refine kz λhS=> ?_;clear hK;refine aG ?_;refine bF 15 λK hK=> ?_;go_simp;refine kz λhS=> ?_;clear hK;refine aG ?_;refine bF 18 λK hK=> ?_;refine bf4 ?_;exact Je
  .refine by7 ?_;intro wb kC im;have kA:=im.1 _ _ nN (ag _);clear im kB;refine xc λhS=> ?_;clear hK;refine aG ?_;refine bF 3 λK hK=> ?_;refine RE ?_;intro wc pS ip;have jQ:=ip.1 _ _ kA (ag _);clear ip kC;refine kz λhS=> ?_;clear hK;refine aG ?_;refine bF 15 λK hK=> ?_;go_simp;refine kz λhS=> ?_;clear hK;refine aG ?_;refine bF 18 λK hK=> ?_;refine bf5 ?_;exact Je
 .refine oV rfl (.tmp 42) (.const (.int .i64 13)) (.tmp 53) 187 (.inr rfl) 3 23 (.int .i64) underlying187 underlying3 co _ _ rfl uz (13:Int) _ rfl rfl ?_;intro wa kB pW;have nN:=pW.1 _ _ jb (ag _);clear pW uz;refine IQ λhS=> ?_;clear hK;refine aG ?_;refine uS (rs:=[3,6]) (by kernel_rfl) (by simp) ?_;refine eQ.cons1 rfl (λK hK=> ?_) (eQ.cons1 rfl (λK hK=> ?_) (eQ.nil))
  .refine by9 ?_;intro wb kC im;have kA:=im.1 _ _ nN (ag _);clear im kB;refine xc λhS=> ?_;clear hK;refine aG ?_;refine bF 6 λK hK=> ?_;refine RD ?_;intro wc pS ip;have jQ:=ip.1 _ _ kA (ag _);clear ip kC;refine kz λhS=> ?_;clear hK;refine aG ?_;refine bF 15 λK hK=> ?_;go_simp;refine kz λhS=> ?_;clear hK;refine aG ?_;refine bF 18 λK hK=> ?_;refine bf6 ?_;exact Je
  .refine by8 ?_;intro wb kC im;have kA:=im.1 _ _ nN (ag _);clear im kB;refine xc λhS=> ?_;clear hK;refine aG ?_;refine bF 3 λK hK=> ?_;refine RE ?_;intro wc pS ip;have jQ:=ip.1 _ _ kA (ag _);clear ip kC;refine kz λhS=> ?_;clear hK;refine aG ?_;refine bF 15 λK hK=> ?_;go_simp;refine kz λhS=> ?_;clear hK;refine aG ?_;refine bF 18 λK hK=> ?_;refine bf7 ?_;exact Je):p:=h
def P3 (h:p:=by
 go_enter func150,ntmps150;go_wp2_with first
  |(refine ev rfl (Yg 7) (Yh (WK Xr 0)) (Yg 8) 252 (.inr rfl) 3 22 (.int Xr) underlying252 WI co (w.heap.size+1+1) (λ_=>Wr) rfl (ny.out _ _) 0 (.func (.func 228) #[] #[aj (w.heap.size+1)]) rfl rfl ?_;intro w1 jj dK)
  |(refine ev rfl (Yg 7) (Yh (WK Xr 1)) (Yg 9) 252 (.inr rfl) 3 22 (.int Xr) underlying252 WI co (w.heap.size+1+1) _ rfl jj 1 (.func (.func 229) #[] #[aj (w.heap.size+1)]) rfl rfl ?_;intro w2 jk eT)
  |(refine ev rfl (Yg 7) (Yh (WK Xr 2)) (Yg 10) 252 (.inr rfl) 3 22 (.int Xr) underlying252 WI co (w.heap.size+1+1) _ rfl jk 2 (.func (.func 230) #[] #[aj (w.heap.size+1)]) rfl rfl ?_;intro w3 jl fj;refine ao3 λiV HX ty jT a1=> ?_;have Gw:=aa ty;have lo:=aa jT;have rO:=aa jl;clear jj dK jk eT jl fj ty jT)
  |(at_lookup;refine B3 rfl (.tmp 12) (.tmp 14) 252 false rfl 3 22 (.int .i64) underlying252 underlying3 co (w.heap.size+1+1) _ rfl rO.out x.kind .nilFunc rfl (zeroValue22 _) ?_
    rw[show aY (aY (aY (λ_=>Wr) 0 (Value.func (.func 228) #[] #[aj (w.heap.size+1)])) 1 (.func (.func 229) #[] #[aj (w.heap.size+1)])) 2 (.func (.func 230) #[] #[aj (w.heap.size+1)]) x.kind=Ws (.func (.func g) #[] #[Yf (Ws ⟨w.heap.size+1,0,Wr⟩)]) from HF.out];simp only[Option.getD_some,WW,if_false])
  |(refine(HG.out _ iV.out lo.out).m ?_;rintro e w4 ⟨rfl,aS⟩;refine ao4 λbE oI rd e0 e1 e2 e3 e4 e5 e6 e7 e8 e9 dJ a6 zh=> ?_;clear aS oI rd)
  |(go_at_call 231;refine(HM.out _ bE.out).m ?_;rintro e w5 ⟨rfl,bp⟩;refine ao5 λbY nr a3 a4 a5=> ?_;clear bp nr)
  |(go_at_call_of 145 (WK Xr x.load);refine(tg.out _).m ?_;rintro e w6 ⟨rfl,rfl⟩)
  |(go_at_call_of 145 (WK Xr x.size);refine(th.out _).m ?_;rintro e w7 ⟨rfl,rfl⟩)
  |(go_at_call_of 145 (WK Xr x.share);refine(vW.out _).m ?_;rintro e w8 ⟨rfl,rfl⟩)
 go_ret;exact⟨by simp,bY.out⟩):p:=h
def bc7 (h:p:=by
 intro Wd ⟨hj,hb⟩;have bl8:=aa hj;have JK:=aa hb;obtain⟨a0,a1,a2,a3,a4,a5,a6,a7,a8,a9,fN⟩:=eR (js lo.out hb bd);clear hj hb Pk;go_upto_region 42 with (fail)
 clear a0 a1 a2 a3 a4 a5 a6 a7 a8 a9 fN;go_loopw [187] (λi wr=> ∃k:Nat,k<=m.rules.length/\i=WK Xr k/\gh ob (dS m++dF m++dR m++dM m++dL m++dI m++dD m++dX m++(m.rules.take k).map (cN m)) wr/\Below ob W3 wr) (λi _=>m.rules.length - (WS i).toNat)
 case atStart=>exact⟨0,bU _,rfl,bl8.out.to Yl,JK.out⟩
 case round=>
  obtain⟨k,hk,rfl,hj,hb⟩:=hrel;have kI:=aa hj;have jc:=aa hb;have bR:=aa (Below.trans bg.out (hb.mono (eJ bd)));have eB:=eJ hj.lt;have jA:=aa (js lo.out hb bd);clear hj hb bl8 JK;by_cases ar:k<m.rules.length
  .have bJ:(k:Int)<m.rules.length:=by omega
   refine FA λtq lS=> ?_;obtain⟨x,hx⟩: ∃x,m.rules[k]? =Ws x:=⟨_,Wy ar⟩;have HT:=aa (Fw (f:=(cN m)) (dS m++dF m++dR m++dM m++dL m++dI m++dD m++dX m) hx);have b_:(dS m++dF m++dR m++dM m++dL m++dI m++dD m++dX m++(m.rules.take k).map (cN m)).length<1000000:=by simp[dS,dF,dR,dM,dL,dI,dD,dX];split<;>simp<;>omega
   obtain⟨mb,mo,cs,rfl,eM,_,⟨ov,rfl,CW,_⟩,gC⟩:=D9.out.at_ hx;have LC:=MI (de8.out x (eD hx));have H5:=aa (fa9 LC);have de7:=aa (λW (hW:Below w w W)=>bo8.out W hW x ov LC ((CW.below hW (ag _)).more hW.size));obtain⟨oA,on,oc,rfl,_,_,_⟩:=CW.sk.form;obtain⟨LL,KV⟩: ∃q,(dS m++dF m++dR m++dM m++dL m++dI m++dD m++dX m++(m.rules.take k).map (cN m)).length=q:=⟨_,rfl⟩;have bm4:=aa KV;have hc0:LL<1000000:=Yi;clear KV;have x0:wr.cell? ⟨mb,mo+k*7,Wr⟩=Ws (WK Xr x.kind):=(bR.out.cell (p:=⟨mb,mo+k*7,Wr⟩) eM).trans (gC 0 _ rfl);have x1:wr.cell? ⟨mb,mo+k*7+1,Wr⟩=Ws (WK Xr x.item):=(bR.out.cell (p:=⟨mb,mo+k*7+1,Wr⟩) eM).trans (gC 1 _ rfl);have x2:wr.cell? ⟨mb,mo+k*7+2,Wr⟩=Ws (WK Xr x.other):=(bR.out.cell (p:=⟨mb,mo+k*7+2,Wr⟩) eM).trans (gC 2 _ rfl);have x3:wr.cell? ⟨mb,mo+k*7+3,Wr⟩=Ws (WK Xr x.n):=(bR.out.cell (p:=⟨mb,mo+k*7+3,Wr⟩) eM).trans (gC 3 _ rfl);have x4:wr.cell? ⟨mb,mo+k*7+4,Wr⟩=Ws (WK Xr x.by_):=(bR.out.cell (p:=⟨mb,mo+k*7+4,Wr⟩) eM).trans (gC 4 _ rfl);have x5:wr.cell? ⟨mb,mo+k*7+5,Wr⟩=Ws (Yc x.always):=(bR.out.cell (p:=⟨mb,mo+k*7+5,Wr⟩) eM).trans (gC 5 _ rfl);have x6:wr.cell? ⟨mb,mo+k*7+6,Wr⟩=Ws (Yb oA on oc):=(bR.out.cell (p:=⟨mb,mo+k*7+6,Wr⟩) eM).trans (gC 6 _ rfl);clear hx gC eM CW LC ar b_;go_upto_region 44 with (fail)
   clear bJ;refine cP (λW=>Below wr wr W/\W.heap[wr.heap.size]? =Ws (Yd #[WK Xr x.kind,WK Xr x.item,WK Xr x.other,WK Xr x.n,WK Xr x.by_,Yc x.always,Yb oA on oc] 119 (0,0))) ⟨ae (af wr) _,bQ wr _⟩ ?_;intro Wx ⟨fk,lg⟩;have pw:=aa (jc.out.trans (fk.mono eB));have gF:=bo eB fk.size;have kH:=aa (ai bR.out fk);have se:=aq jA.out fk;have gs1:=blk_lt lg;obtain⟨u,rows,iT,bA,⟨A,nn,c,rfl⟩,pi⟩:=kI.out.later fk;have sW:=aa iT;have HO:=aa bA;have sY:=aa pi;have uk:=aa lg;have DV:=aa se;have gp4:=blk_lt iT;have du:=aa (fun(W:Wu) (h:W.heap[ob]? =Ws (Yd #[Yb A nn c] 54 (0,0))/\W.heap[w.heap.size]? =Ws (Yd #[Yb (Ws (bj oj Wr)) m.sites.length sc,Yb Fa m.feeds.length fc,Yb Ra m.racks.length rc,Yb Ma m.machs.length mc,Yb La m.links.length lc,Yb Ia m.items.length ic,m.dark,m.slots,m.reserve,m.failures,Yb (Ws (mb mo Wr)) m.rules.length uc] 30 (0,0))/\W.heap[wr.heap.size]? =Ws (Yd #[WK Xr x.kind,WK Xr x.item,WK Xr x.other,WK Xr x.n,WK Xr x.by_,Yc x.always,Yb oA on oc] 119 (0,0)))=>WE (show W.cell? ob=Ws (Yb A nn c) from ah h.1 rfl) (WE (eR h.2.1) (iA h.2.2)));clear fk lg iT bA pi se x0 x1 x2 x3 x4 x5 x6;refine fC (S:=λW=>W.heap[ob]? =Ws (Yd #[Yb A nn c] 54 (0,0))/\W.heap[w.heap.size]? =Ws (Yd #[Yb (Ws (bj oj Wr)) m.sites.length sc,Yb Fa m.feeds.length fc,Yb Ra m.racks.length rc,Yb Ma m.machs.length mc,Yb La m.links.length lc,Yb Ia m.items.length ic,m.dark,m.slots,m.reserve,m.failures,Yb (Ws (mb mo Wr)) m.rules.length uc] 30 (0,0))/\W.heap[wr.heap.size]? =Ws (Yd #[WK Xr x.kind,WK Xr x.item,WK Xr x.other,WK Xr x.n,WK Xr x.by_,Yc x.always,Yb oA on oc] 119 (0,0))) 6 7 (by exact⟨sW.out,DV.out,uk.out⟩) λhS=> ?_;iterate 3 refine cI 7 191 ?_
   refine bF 3 λK hK=> ?_;go_simp;refine(de7.out _ (aX kH.out)).m ?_;rintro e w5 ⟨rv,nv,rfl,tz,Vh,bp⟩;obtain⟨rA,rn,rc',rfl⟩:=eH tz;obtain⟨nA,nm,nc,rfl⟩:=eH Vh;have pj:=ai (aX (af Wx)) bp;have D0:=aa tz;have da3:=aa Vh;have bY:=aa pj;have wL:=pj.size;try go_simp
   refine hK.out _ _ (by exact⟨aq sW.out pj,aq DV.out pj,aq uk.out pj⟩) (λhS=> ?_);clear hK tz Vh;refine aG ?_;refine bF 4 λK hK=> ?_;go_simp;refine hK.out _ _ (by exact⟨aq (aq sW.out pj) (ae (af _) _),aq (aq DV.out pj) (ae (af _) _),aq (aq uk.out pj) (ae (af _) _)⟩) (λhS=> ?_);clear hK;refine aG ?_;have nf:w5.ownsRow ob 96 6 (Yb A nn c) LL rows.flatten:=by rw[<-bm4.out];exact fS HO.out pj
   refine bF 5 λK hK=> ?_;refine step_append_lies _ cA _ _ _ cA ob 96 j0 _ 6 88 underlying54 pY cl2 cl3 cl4 rfl Yi (Yb A nn c) LL rows.flatten cA (World.ownsRow.alloc nf _) (w5 0 Wr) 1 1 [WK Xr (cN m x).kind,WM (bs (cN m x).name),Yb rA rn rc',Yb nA nm nc,WK Xr (cN m x).by_,Yc (cN m x).always] cA cA (mw rfl) ti Yi (by simp only[Xe];omega) Yi bI _ rfl ?_;intro gg cap w6 cn8 bh iq hg1;have hP:=gh.push (cN m x) (Yb rA rn rc') (Yb nA nm nc) (aq sW.out pj) (fS HO.out pj) (sY.out.kp (aF.of_below pj (ag _) wL)) gp4 D0.out da3.out H5.out (by rw[bm4.out];exact cn8) bh;have UK:=iY (aq (aq sW.out pj) (ae (af _) _)) bh (zT nf (aq sW.out pj) az);have LJ:=iY (aq (aq DV.out pj) (ae (af _) _)) bh (zT nf (aq DV.out pj) az);have LK:=iY (aq (aq uk.out pj) (ae (af _) _)) bh (zT nf (aq uk.out pj) az);refine hK.out _ _ (by exact⟨UK,LJ,LK⟩) (λhS=> ?_);clear hK;refine aG ?_;have f0:=cd UK 0;have d0:=ah (o:=0) UK rfl;have HP:=aa hP;clear hP cn8 bh iq LJ LK nf;refine eC 6 λK hK=> ?_;go_simp;refine iZ ?_;clear hK f0 d0;refine aG ?_;refine gK ?_;go_wp2_with fail
   exact⟨⟨k+1,lS.out,by go_num,HP.out.1.to (by rw[HT.out]),(pw.out.trans (bY.out.mono gF)).trans HP.out.2⟩,by have:=lS.out;simp[WS];omega⟩
  .have bJ: ¬(k:Int)<m.rules.length:=by omega
   obtain⟨u,rows,iT,bA,⟨A,nn,c,rfl⟩,pi⟩:=kI.out.to (Fz (f:=(cN m)) (dS m++dF m++dR m++dM m++dL m++dI m++dD m++dX m) (Nat.le_of_not_lt ar));have c0:wr.cell? ob=Ws (Yb A nn c):=ah iT rfl;have HE:=aa (rr.sl pi bA);clear iT bA pi;go_wp2_with fail
   go_ret;refine⟨Yb A nn c,rfl,?_,bR.out⟩;rw[HEq.out];simpa only[Xd,rU] using HE.out):p:=h
def vp (h:p:=by
 go_wp2_with first
  |(go_at_call 167;refine qy ?_;rintro e w3 ⟨rfl,hw⟩;obtain rfl:=hw.symm;first|rw[dC.out]|rw[fB.out])
  |(go_at_call 168;refine(FO _ _ _ _).m ?_;rintro e w3 ⟨rfl,hw⟩;obtain rfl:=hw.symm;first|rw[sS.out]|rw[Cd.out]|rw[HE6.out])
 all_goals
  go_ret;exact⟨cE TB,aT.out⟩):p:=h
def bz0 (h:p:=by exact⟨by repeat' first|with_reducible exact hB|with_reducible refine cF ?_ AX _|with_reducible refine ae ?_ _,rfl⟩):p:=h
def ad2 (h:p:=by
 refine fi 11 λK hK=> ?_;go_simp;refine(Py _).m ?_;rintro e w3 ⟨g3,c3,rfl,oE,aL⟩;try go_simp
 refine hK _ _ ?_;clear hK K;refine aG ?_;refine fi 12 λK hK=> ?_;go_simp;refine(Wb _).m ?_;rintro e w4 ⟨g4,c4,rfl,Cz,aS⟩;try go_simp
 refine hK _ _ ?_;clear hK K;refine aG ?_;refine fi 13 λK hK=> ?_;go_simp;refine hK _ _ ?_;clear hK K;refine aG ?_;have hS:=ac7 w4 _ _ _ _ (oE.later aS) Cz;refine fi 14 λK hK=> ?_;go_simp;refine(Wc _ _ _ hS).m ?_;rintro e w5 ⟨g5,c5,rfl,CB,bp⟩;try go_simp
 refine hK _ _ ?_;clear hK K;refine aG ?_;refine fi 15 λK hK=> ?_;go_simp;refine(HQ.out w5 _ (CB.congr ah1)).m ?_;rintro e w6 ⟨rfl,bM⟩;try go_simp
 refine hK _ _ ?_;clear hK K;refine aG ?_;iterate 2 refine ja 18 11 ?_
 refine wh ?_;have tk:=ai (ai (ae (ai (ai (aX aV) aL) aS) _) bp) bM;have iF:=aq (js HB.out (ai (ae (ai (ai (aX (af w2)) aL) aS) _) bp) bd) bM;refine Pz λc0 xE uw xF f0 f1 f2 f3=> ?_;have pp:=blk_lt iF;have cK:=aa iF;clear iF aL aS bp bM hS oE Cz CB aV HB HR HQ;go_wp2_with fail
 refine cP (λW=>W.heap[w6.heap.size]? =Ws (Yd #[WK Xr 3,WM (s.extract 0 n),WK Xr 0,WK Xr 0] 100 (0,0))/\W.heap[w.heap.size]? =Ws (Yd #[WK Xr 0,WM ⟨#[]⟩,WK Xr 0,WK Xr 0] 100 (0,0))/\
  (∀j,j<n->W.cell? ⟨w6.heap.size+1,j,Wr⟩=Ws (.int .u8 (t.getD j 0).toNat))/\Below w w W) ?_ ?_
 .refine⟨?_,?_,λj hj=> ?_,?_⟩
  .rw[Lib.bytesWorld_at_old _ _ _ _ Yl];exact bQ w6 _
  .rw[Lib.bytesWorld_at_old _ _ _ _ bI];exact js cK.out (ae (af w6) _) pp
  .have:=Lib.bytesWorld_cell (w6.alloc (Yd #[WK Xr 3,WM (s.extract 0 n),WK Xr 0,WK Xr 0] 100)) 5 (s.extract 0 n) j zj;rw[HX.out,gI] at this;rw[HX.out];simpa using this
  .exact ds3 (ae tk _)
 intro W0 K9;have HW:=aa K9;have aO: ¬w6.heap.size=w.heap.size:=Yi;have gU: ¬w.heap.size=w6.heap.size:=Yi;have Ls: ¬w6.heap.size+1=w6.heap.size:=Yi;clear K9 c0 xE uw xF f0 f1 f2 f3 kc tk cK;go_loopw [38] (λi wr=> ∃k a:Nat,k<=n/\i=WK Xr k/\mr 0 t=mr a (t.drop k)/\a<=1048576/\wr.heap[w6.heap.size]? =Ws (Yd #[WK Xr 3,WM (s.extract 0 n),a,WK Xr 0] 100 (0,0))/\
  wr.heap[w.heap.size]? =Ws (Yd #[WK Xr 0,WM ⟨#[]⟩,WK Xr 0,WK Xr 0] 100 (0,0))/\(∀j,j<n->wr.cell? ⟨w6.heap.size+1,j,Wr⟩=Ws (.int .u8 (t.getD j 0).toNat))/\Below w w wr) (λi _=>n - (WS i).toNat)
 case atStart=>exact⟨0,0,bU _,rfl,rfl,by omega,HW.out.1,HW.out.2.1,HW.out.2.2.1,HW.out.2.2.2⟩
 case round=>
  obtain⟨k,a,hk,rfl,hv,ha,fU,eE,eF,hB⟩:=hrel;have E6:=blk_lt fU;have eB:=blk_lt eE;have t0:=ah (o:=0) fU rfl;have t1:=ah (o:=1) fU rfl;have t2:=ah (o:=2) fU rfl;have t3:=ah (o:=3) fU rfl;have q2:=cd fU 2;have r0:=ah (o:=0) eE rfl;have r1:=ah (o:=1) eE rfl;have r2:=ah (o:=2) eE rfl;have r3:=ah (o:=3) eE rfl;obtain⟨p0,p1,p2,p3⟩:=Ak eE;have cv5:=aa fU;have bR:=aa eE;have DI:=aa eF;have HV:=aa hv;clear fU eE eF hv;by_cases ar:k<n
  .refine LR λdz bJ=> ?_;have OP:=DI.out k ar;have cj6:=HD.out k ar;have nW:mr a (t.drop k)=mr a ((t.getD k 0)::t.drop (k+1)):=by rw[List.drop_eq_getElem_cons (by rw[HL.out];exact ar),List.getD_eq_getElem?_getD,List.getElem?_eq_getElem (by rw[HL.out];exact ar)];rfl
   rw[ac8] at nW;have oO:=aa (HV.out.trans nW);obtain⟨x,hx⟩: ∃x,(t.getD k 0).toNat=x:=⟨_,rfl⟩;rw[hx] at OP cj6 oO;obtain⟨y,hy⟩: ∃y,10*a+(x - 48)=y:=⟨_,rfl⟩;rw[hy] at oO;have fL:(48:Int)<=x:=Yi;have cQ:(x:Int)<=57:=Yi;have rW:(0:Int)<=a:=Yi;have OJ:(a:Int)<=1048576:=Yi;have zR:(10:Int)*a+((x:Int) - 48)=y:=Yi;have HY:=aa zR;clear nW cj6 hx zR;by_cases CK:1048576<y
   .have gm6:(1048576:Int)<(10:Int)*a+((x:Int) - 48):=by have:=HY.out;omega
    have NE:=aa CK;clear CK hy HY;go_wp2_with fail
    refine bodyPost_ret (v:= .tuple #[jx 0 [] 0 0,WK Xr 2]) (by simp[results,results190,go_sem,jx,bs,r0,r1,r2,r3,aO,gU,E6,eB]) rfl ?_;rw[show Fd t= .error 2 by unfold Fd;rw[oO.out,if_pos NE.out]];exact bz0
   .have gm6: ¬(1048576:Int)<(10:Int)*a+((x:Int) - 48):=by have:=HY.out;omega
    have NE:=aa CK;clear CK hy;go_wp2_with fail
    have hs:=oO.out;rw[if_neg NE.out] at hs;refine⟨⟨k+1,y,by omega,by go_num,hs,by have:=NE.out;omega,?_,lY bR.out gU,λj hj=>(af6 Ls).trans (DI.out j hj),cF hB AX _⟩,by simp[WS];omega⟩;have:=aZ cv5.out 2 (WK Xr y);rw[<-HY.out] at this;simpa[<-HY.out] using this
  .go_wp2_with fail
   obtain rfl:k=n:=Yi;refine bodyPost_ret (v:= .tuple #[jx 3 t a 0,WK Xr 0]) (by simp[results,results190,go_sem,jx,HX.out,t0,t1,t2,t3,r0,r1,r2,r3,aO,gU,E6,eB]) rfl ?_;have hv:=HV.out;rw[List.drop_of_length_le (by rw[HL.out];omega)] at hv;rw[show Fd t= .ok (3,t,a) by unfold Fd;rw[hv];rfl];exact bz0):p:=h
def bz1 (h:p:=by exact⟨w2.heap.size,⟨word,kind,gu,gf,caps,gr,gt⟩,rfl,aV.size,YL bp2.out bl9.out (qn.alloc HX.out _),ae aV _,Xn w2 _⟩):p:=h
def YS (h:p:=by
 rename_i J K' hJ gO;have HJ:=aa hJ;have rN:=aa gO;clear hJ gO;go_region_held3 (λw'=>w'.cell? (bl ol Wr)=Ws (WM (aJ (cW s) 0))) (go_simp)
  (first
    |(go_at_call 33;refine(HP.out _).m ?_;rintro e w2 ⟨M,b,rfl,hL,hX,wu,hM,am⟩;have aV:Below w1 w1 w2:=by first|exact ai (aX (af w1)) am|exact ai (aX (ae (af w1) _)) am
      obtain⟨j,⟨word,kind,gu,gf,caps,gr,gt⟩,hx,hj,ET,mh⟩:=em6 b HK.out;have kU:(WT 86 (.map (Ws M)) (WM (aJ (cW s) 0)) Wz).run WH w2= .ok (.tuple #[Ye #[bs word,kind,.func (.func gu) #[] #[],.func (.func gf) #[] caps,.func (.func gr) #[] #[],.func (.func gt) #[] #[]],Yc Wz]) w2:=L8 underlying86 Xw hL Wz uY (YN b) ET mh;have gM: ∀o,(WT 86 (.map (Ws M)) (WM (aJ (cW s) 0)) Wz).run WH (w2.alloc o)= .ok (.tuple #[Ye #[bs word,kind,.func (.func gu) #[] #[],.func (.func gf) #[] caps,.func (.func gr) #[] #[],.func (.func gt) #[] #[]],Yc Wz]) (w2.alloc o):=λo=>L8 underlying86 Xw (hL.later (ae (af w2) o)) Wz uY (YN b) ET mh;have bp2:=aa hx;have bl9:=aa hj;have Gk:=aa (show ∀i,i<10->¬b i=w1.heap.size from λi hi=>by have:=wu i hi;simp at this;omega);have iW:=aa am.block;clear ET mh hx hj;have cR: ∀b o,b<w1.heap.size->w2.cell? ⟨b,o,Wr⟩=w1.cell? ⟨b,o,Wr⟩:=λb o h=>aV.cell (p:=⟨b,o,Wr⟩) h;obtain⟨lJ,wv⟩:=Ih am;try(have gF:w1.heap.size<w2.heap.size:=by(have hq:=am.size;simp at hq;omega))
      have gk0:bl<w2.heap.size:=bq ir aV.size;have gk2: ¬bl=w2.heap.size:=Yi;have bd:w.heap.size<w2.heap.size:=bq ba aV.size;have HL:=aa hL;have HX:=aa hX;clear hL hX wu hM am))
 all_goals
  dsimp only[Exit.then];refine rN.out _ _ (Met.intro (HJ.out _ _ ?_))
  (repeat apply Exists.intro)
  refine⟨⟨rfl,?_⟩,rfl⟩
 .exact bz1
 .exact bz1
 .refine⟨w1.heap.size,⟨word,kind,gu,gf,caps,gr,gt⟩,rfl,ag _,YL bp2.out bl9.out ?_,?_,?_⟩
  .repeat' first|with_reducible exact HX.out|with_reducible refine qn.set ?_ Gk.out _ _
  .repeat' first|with_reducible exact aV|with_reducible refine cF ?_ (ag _) _
  .have h0:=(iW.out w1.heap.size Yl).trans (Xn w1 _);exact(jN (jN (jN (jN (jN (jN h0 _ _) _ _) _ _) _ _) _ _) _ _).trans rfl):p:=h
def ZP (h:p:=by
 go_wp2_with(first
  |(go_at_call 50;refine(Jm.out _ aT.out).m ?_;rintro e w2 ⟨rfl,am⟩;have bS:=aq Ec.out am;have g0:w2.cell? w=Ws (Yb Sa m.sites.length sc):=ah bS rfl;have g1:w2.cell? (w 1 Wr)=Ws (Yb Fa m.feeds.length fc):=ah bS rfl;have g2:w2.cell? (w 2 Wr)=Ws (Yb Ra m.racks.length rc):=ah bS rfl;have g3:w2.cell? (w 3 Wr)=Ws (Yb Ma m.machs.length mc):=ah bS rfl;have g4:w2.cell? (w 4 Wr)=Ws (Yb La m.links.length lc):=ah bS rfl;have g5:w2.cell? (w 5 Wr)=Ws (Yb Ia m.items.length ic):=ah bS rfl;have g6:w2.cell? (w 6 Wr)=Ws (WK Xr m.dark):=ah bS rfl;have g7:w2.cell? (w 7 Wr)=Ws (WK Xr m.slots):=ah bS rfl;have g8:w2.cell? (w 8 Wr)=Ws (WK Xr m.reserve):=ah bS rfl;have g9:w2.cell? (w 9 Wr)=Ws (WK Xr m.failures):=ah bS rfl;have Cv:w2.cell? (w 10 Wr)=Ws (Yb Ua m.rules.length uc):=ah bS rfl;have G6:w2.cell? (w 11 Wr)=Ws (Yb A n c):=ah bS rfl;have Ot:w2.cell? (w 12 Wr)=Ws (WK Xr cl):=ah bS rfl;have El:w2.cell? (w 13 Wr)=Ws (Yb A2 n2 c2):=ah bS rfl;have aR:=aa (ai aT.out am);have Eb:=aa bS;clear am bS)
  |(go_at_call 55;refine(AK.out (by trivial) _ aR.out).m ?_;rintro e w3 ⟨rfl,aL⟩;have p_:=aq Eb.out aL;have gt6:w3.cell? (w 12 Wr)=Ws (WK Xr cl):=ah p_ rfl;have gt7:w3.cell? (w 13 Wr)=Ws (Yb A2 n2 c2):=ah p_ rfl;have bg:=aa (ai aR.out aL);clear aL p_))
 go_ret;exact⟨by rw[HR.out];rfl,bg.out⟩):p:=h
def pO (h:p:=by
 go_wp2_with(first
  |(go_at_call 70;refine(PE _ _ _ _).m ?_;rintro e w3 ⟨rfl,rfl⟩)
  |(go_at_call 71;refine(ad8 x _).m ?_;rintro e w3 ⟨rfl,aL⟩))
 all_goals go_ret
 all_goals exact⟨cE (uh.out _ (by simp[nG, *])).symm,Oa⟩):p:=h
def Ai (h:p:=by
 rintro e w7 ⟨⟨xv,rfl⟩,KK,wl⟩;have cu6:=aa KK;have lj:Hid (aF B rb w3 w7):=(S4.out.trans (aF.of_below cK.out (by have:=gG.out.2.1;omega) cK.out.size)).trans wl;have gx5:=aa wl;clear KK wl;try go_simp
 refine iZ ?_;clear hK;refine aG ?_;refine gK ?_;go_wp2_with fail
 refine⟨⟨k+1,eA t m d,by omega,by go_num,by rw[bk7.out,DK.out],ta.out,cu6.out,lj.out⟩,by simp[WS];omega⟩):p:=h
def bb5 (h:p:=by
 cases NM with
 |true=>
  cases ni with
  |false=>
   go_wp2_with first
    |(go_at_call 147;refine(nx.out _ sQ.out).m ?_;rintro e w5 ⟨rfl,bp⟩;refine RV λtB qP pG pH jH AV OR=> ?_;clear bp tB oo mO mP pF uv GX)
   all_goals go_ret
   all_goals exact⟨yH (by(try simp[]);(try omega)),jH.out⟩
  |true=>
   cases ra with
   |false=>
    go_wp2_with first
     |(go_at_call 147;refine(nx.out _ sQ.out).m ?_;rintro e w5 ⟨rfl,bp⟩;refine RV λtB qP pG pH jH AV OR=> ?_;clear bp tB oo mO mP pF uv GX)
     |(go_at_call 201;refine(mN.out _ jH.out).m ?_;rintro e w6 ⟨rfl,bM⟩;have C6:=aq AV.out bM;refine Rp λG5=> ?_;have mj:=aa (ai jH.out bM);clear bM C6 pG pH)
    all_goals go_ret
    all_goals exact⟨yH (by(try simp[]);(try omega)),mj.out⟩
   |true=>
    go_wp2_with first
     |(go_at_call 147;refine(nx.out _ sQ.out).m ?_;rintro e w5 ⟨rfl,bp⟩;refine RV λtB qP pG pH jH AV OR=> ?_;clear bp tB oo mO mP pF uv GX)
     |(go_at_call 201;refine(mN.out _ jH.out).m ?_;rintro e w6 ⟨rfl,bM⟩;have C6:=aq AV.out bM;refine Rp λG5=> ?_;have mj:=aa (ai jH.out bM);clear bM C6 pG pH)
     |(go_at_call 82;refine(sU.out _ mj.out).m ?_;rintro e w7 ⟨rfl,gB⟩;have iV:=aa (ai mj.out gB);clear gB)
    all_goals go_ret
    all_goals exact⟨yH (by(try simp[]);(try omega)),iV.out⟩
 |false=>
  cases ne with
  |false=>
   have kn:=xr.out;go_wp2_with fail
   all_goals go_ret
   all_goals exact⟨yH (by(try simp[]);(try omega)),sQ.out⟩
  |true=>
   have kn:=xr.out;cases ra with
   |false=>
    go_wp2_with first
     |(go_at_call 201;refine(mN.out _ sQ.out).m ?_;rintro e w6 ⟨rfl,bM⟩;have C6:=aq AU.out bM;refine Rp λG5=> ?_;have mj:=aa (ai sQ.out bM);clear bM C6 mO mP)
    all_goals go_ret
    all_goals exact⟨yH (by(try simp[]);(try omega)),mj.out⟩
   |true=>
    go_wp2_with first
     |(go_at_call 201;refine(mN.out _ sQ.out).m ?_;rintro e w6 ⟨rfl,bM⟩;have C6:=aq AU.out bM;refine Rp λG5=> ?_;have mj:=aa (ai sQ.out bM);clear bM C6 mO mP)
     |(go_at_call 82;refine(sU.out _ mj.out).m ?_;rintro e w7 ⟨rfl,gB⟩;have iV:=aa (ai mj.out gB);clear gB)
    all_goals go_ret
    all_goals exact⟨yH (by(try simp[]);(try omega)),iV.out⟩):p:=h
def PZ (h:p:=by
 go_wp2_with fail
 refine⟨⟨k+1,by omega,by go_num,λj hj=> ?_,gR⟩,by simp[WS];omega⟩;by_cases e:j=k
 .subst e;exact HP.out
 .exact HA.out j Yi):p:=h
def PT (h:p:=by
 have HC:=aa Bg;clear bk hr eF Bg;go_wp2_with fail
 refine HC.out.m ?_;rintro e w' ⟨rfl,fP⟩;have gR:=ai hB fP;cases hp:P k with
 |true=>
  have HP:=aa hp;clear hp;go_wp2_with fail
  go_ret;exact⟨by rw[af8 ar HP.out HA.out];rfl,gR⟩
 |false=>have HP:=aa hp;clear hp;exact PZ):p:=h
def ac2 (h:p:=by rw[dq4 l k Kn,<-List.singleton_append,<-Xd];refine ae5 _ _ ?_;rw[Ps,HV.out,h];rfl):p:=h
def ae9 (h:p:=by
 have hz:(aJ l k).size<=1000000:=sZ.out _ (BI Kn);have i1:(0:Int)<=(k:Int):=Yi;have i2:(k:Int)<(n:Int):=Yi;have zG:sw offs k<(rj cs (offs.take k) vs).size:=by rw[L4];exact HI.out k (by rw[Gv.out];exact ar)
 have eE:b<wr.heap.size:=bq ci2 rM.out.size;have OO:bu<wr.heap.size:=bq lH rM.out.size;have stop:bL (aJ l k)=Wr->dU l=none:=λh=>by exact ac2
 have STOP:=aa stop;clear stop;cases hp:Lib.atoiAll (aJ l k).data.toList with
 |ok v=>
  have Pe:aK v:=by
   have KJ:Lib.parseIntB 64 (aJ l k).data.toList= .ok v:=by rw[Lib.parseIntB_64];exact hp
   have:=Lib.parseIntB_bounds KJ;exact⟨by omega,by omega⟩
  have iq:=λW=>dk0 (aJ l k) Yi v hp W;have gG:=aa iq;have HP:=aa hp;clear iq hp;by_cases he:bs (WB v)=aJ l k
  .have gk8:((bs (Lib.itoa v)).toList==(aJ l k).toList)=true:=by rw[he];simp
   have HE:=aa he;clear he
   go_wp2_with(first
    |(go_at_call 156;refine(gG.out _).m ?_;rintro e w1 ⟨rfl,ap⟩;have gL:=uV rM.out ap)
    |(go_at_call 29;refine(LO _ Pe _ (HG.out.grown gL eL)).m ?_;rintro e w2 ⟨rfl,am⟩;have oH:=uV gL am;have xR:w2.heap[b]? =Ws (Yd (rj cs (offs.take k) vs) t (0,0)):=((am.block b (bq eE ap.size)).trans (ap.block b eE)).trans jI.out;have gg9:w2.cell? (bu k Wr)=Ws (Yf (Ws ⟨b,sw offs k,Wr⟩)):=((am.cell (bq OO ap.size)).trans (ap.cell OO)).trans h2;have gk5:=kl xR zG;have gm3:=nH xR (sw offs k)))
   have zM:dU (l.take (k+1))=Ws (vs++[v]):=by rw[Wi l k Kn,Ps,HV.out];simp[bL,HP.out,HE.out]
   exact⟨⟨k+1,vs++[v],by omega,by go_num,zM,uW oH _ _,by rw[dq3 offs k (by rw[Gv.out];exact ar),ae4 _ _ _ _ _ (by rw[De HV.out,XW,XW,jp.out,Gv.out])];exact jN xR _ _⟩,by simp[WS];omega⟩
  .have gk8:((bs (Lib.itoa v)).toList==(aJ l k).toList)=false:=by
    rw[beq_eq_false_iff_ne];intro h;exact he (by rw[<-nB (aJ l k),<-jr,<-h,jr,gI])
   have HE:=aa he;clear he
   go_wp2_with(first
    |(go_at_call 156;refine(gG.out _).m ?_;rintro e w1 ⟨rfl,ap⟩;have gL:=uV rM.out ap)
    |(go_at_call 29;refine(LO _ Pe _ (HG.out.grown gL eL)).m ?_;rintro e w2 ⟨rfl,am⟩;have oH:=uV gL am;have xR:w2.heap[b]? =Ws (Yd (rj cs (offs.take k) vs) t (0,0)):=((am.block b (bq eE ap.size)).trans (ap.block b eE)).trans jI.out;have gg9:w2.cell? (bu k Wr)=Ws (Yf (Ws ⟨b,sw offs k,Wr⟩)):=((am.cell (bq OO ap.size)).trans (ap.cell OO)).trans h2;have gk5:=kl xR zG;have gm3:=nH xR (sw offs k)))
   go_ret;refine⟨oH,?_⟩;rw[STOP.out (by simp[bL,HP.out,HE.out])];exact⟨rfl,_,xR,L4 _ _ _⟩
 |_=>
  have iq:=λW=>dk1 (aJ l k) Yi (by intro v h;rw[hp] at h;cases h) W;have gG:=aa iq;have HP:=aa hp;clear iq hp
  go_wp2_with(first
   |(go_at_call 156;refine(gG.out _ (HG.out.grown rM.out eL)).m ?_;rintro e w1 ⟨v1,t1,p1,rfl,ap⟩;have gL:=uV rM.out ap))
  go_ret;refine⟨gL,?_⟩;rw[STOP.out (by simp[bL,HP.out])];exact⟨rfl,_,(ap.block b eE).trans jI.out,L4 _ _ _⟩):p:=h
def Y' (h:p:=by
 go_simp;refine hK _ _ ?_;clear hK K;refine aG ?_;refine fi 10 λK hK=> ?_;refine step_append_lies _ cA _ _ _ cA B 9 i0 _ 1 16 X9 hi cJ ba bd rfl Yi _ _ _ cA (bA.alloc _) ⟨_,0,Wr⟩ 1 1 [WM (bs t.text)] cA cA (mw rfl) ti Yi ul bI bI _ rfl ?_;intro gg cap w3 jo bh iq ar;refine hK _ _ ?_;clear hK K;refine aG ?_;have aL:=iY (aq G.out.1 (ae (af w2) _)) bh (λk hk e=>aO (by rw[hk,e]));have f3:=cd aL 4;have c3:w3.cell? (pb 4 Wr)=Ws r2:=ah aL rfl;iterate 3 refine ja 15 2 ?_
 refine fi 14 λK hK=> ?_;go_simp;refine hK _ _ ?_;clear hK K;refine aG ?_;refine wh ?_
 go_end0
 obtain⟨g1,g2,g3,g4,d',hq⟩:=G.out;have k0:aF B pb w2 w3:=((aF.refl B pb w2).alloc g6 _).grown (fS g3 (ae (af w2) _)) bh g6;have k1:aF B pb w2 (w3.setCell (pb 4 Wr) (Yb (Ws (gg 0 Wr)) (q.d.refs.length+1) cap)):=k0.set (.inl rfl) _;have ho:=aq3 (fS g3 (ae (af w2) _)) (fS g4 (ae (af w2) _)) az bh;have hn:w3.ownsRow B 9 1 (Yb (Ws (gg 0 Wr)) (q.d.refs.length+1) cap) (q.d.refs++[t.text]).length ((q.d.refs++[t.text]).map λs=>WM (bs s)):=by rw[Xb,WG];exact jo
 have Vt:p'={q with d:={q.d with refs:=q.d.refs++[t.text]}}:=HQ.out;have bN:=vH.out;subst Vt;refine⟨rfl,⟨Nr,_,n2,aZ aL 4 _,g2.to mW.ab (k1.below Yi) (ag _) (ag _),mu hn (λj hj=>by have:=(WL hn j hj).1;omega) _ _,mu ho (λj hj=>by have:=(WL ho j hj).1;omega) _ _,g5,bo g6 k1.size,bN.1⟩,bN.2,((aF.refl B pb w).drew.trans (d'.mono a_.2)).trans k1⟩):p:=h
def Za (h:p:=by
 go_simp;refine hK _ _ ?_;clear hK K;refine aG ?_;refine fi 10 λK hK=> ?_;refine step_append_lies _ cA _ _ _ cA B 3 i0 _ 1 8 underlying31 hi cJ ba bd rfl Yi _ _ _ cA (bA.alloc _) ⟨_,0,Wr⟩ 1 1 [WK Xr t.n] cA cA (mw rfl) ti Yi ul bI bI _ rfl ?_;intro gg cap w3 jo bh iq ar;refine hK _ _ ?_;clear hK K;refine aG ?_;have aL:=iY (aq G.out.1 (ae (af w2) _)) bh (λk hk e=>aO (by rw[hk,e]));have f3:=cd aL 5;have c3:w3.cell? (pb 5 Wr)=Ws n2:=ah aL rfl;iterate 3 refine ja 15 2 ?_
 refine fi 14 λK hK=> ?_;go_simp;refine hK _ _ ?_;clear hK K;refine aG ?_;refine wh ?_
 go_end0
 obtain⟨g1,g2,g3,g4,d',hq⟩:=G.out;have k0:aF B pb w2 w3:=((aF.refl B pb w2).alloc g6 _).grown (fS g4 (ae (af w2) _)) bh g6;have k1:aF B pb w2 (w3.setCell (pb 5 Wr) (Yb (Ws (gg 0 Wr)) (q.d.nums.length+1) cap)):=k0.set (.inl rfl) _;have ho:=aq3 (fS g4 (ae (af w2) _)) (fS g3 (ae (af w2) _)) az bh;have hn:w3.ownsRow B 3 1 (Yb (Ws (gg 0 Wr)) (q.d.nums.length+1) cap) (q.d.nums++[t.n]).length ((q.d.nums++[t.n]).map fun(k:Nat)=>WK .i64 k):=by rw[Xb,WG];exact jo
 have Vt:p'={q with d:={q.d with nums:=q.d.nums++[t.n]}}:=HQ.out;have bN:=vH.out;subst Vt;refine⟨rfl,⟨Nr,r2,_,aZ aL 5 _,g2.to mW.ab (k1.below Yi) (ag _) (ag _),mu ho (λj hj=>by have:=(WL ho j hj).1;omega) _ _,mu hn (λj hj=>by have:=(WL hn j hj).1;omega) _ _,g5,bo g6 k1.size,bN.1⟩,bN.2,((aF.refl B pb w).drew.trans (d'.mono a_.2)).trans k1⟩):p:=h
def aw3 (h:p:=by
 rw[zc.out];rintro e w3 ⟨gT,rfl,rg⟩;refine RW λik xI bg mM=> ?_;clear ik xI;obtain⟨m,t,jy,ty,Hx,zB,zC⟩:=rg y rfl;obtain⟨l0,l1,l2,l3,l4,l5,l6,l7,l8,l9⟩:=jy.lies;obtain⟨Am,nm,cm,rfl,gV,_,_⟩:=ty.form;obtain⟨At,nt,ct,rfl,Ht,_,_⟩:=Hx.form;refine by6 λyl C_ VC=> ?_;rw[J8.out] at VC;have To:=aa VC;have bp6:=aa yl;have mH:=aa zB;have Gl:=aa zC;have yc:wc.heap.size<w3.heap.size:=bq CR gT.size;have cs7:w.heap.size<w3.heap.size:=Yi;clear rg jy ty Hx gV Ht yl C_ VC zB zC gT;go_simp;refine hK _ _ ?_;clear hK K;refine aG ?_;iterate 2 refine ja 11 24 ?_
 refine fi 7 λK hK=> ?_;go_simp;refine hK _ _ ?_;clear hK K;refine aG ?_;refine fi 8 λK hK=> ?_;go_simp;refine To.out.m ?_;rintro e w4 ⟨rfl,aS⟩;refine by5 λnP qW bE sX N6 m0 m1 m2 m3 m4 m5 m6 m7 m8 m9=> ?_;clear aS nP qW l0 l1 l2 l3 l4 l5 l6 l7 l8 l9;go_simp;refine hK _ _ ?_;clear hK K;refine aG ?_;iterate 2 refine ja 11 24 ?_
 refine wh ?_;have xK:=sX.out;rw[nJ] at xK;obtain⟨⟨d0,d1,d2,d3,d4,d5,d6,d7,d8,d9⟩,fr⟩:=P8 xK;refine P' λf0 f1 f2 f3 f4 f5 f6 f7 f8 f9=> ?_;clear xK fr;go_wp2_with fail
 refine bodyPost_ret (v:= .tuple #[Ye (y.cells (Yb Am nm cm) (Yb At nt ct)),WK Xr 0]) (by simp[results,results10,go_sem,aP.cells_def,aN,d0,d1,d2,d3,d4,d5,d6,d7,d8,d9]) rfl ?_;refine⟨?_,?_⟩
 .have hb:=bE.out;repeat' first|with_reducible exact hb|with_reducible refine cF ?_ (ag _) _
 .rw[YP HK.out,zc.out];simp only[Option.bind_some,J8.out,if_true];refine⟨_,_,rfl,?_,λa n c e=>by have:W.heap.size<=a.block:=mH.out a n c e;omega,λa n c e=>by have:W.heap.size<=a.block:=Gl.out a n c e;omega⟩;have zR:=N6.out;have zB: ∀a n c,Value.slice Am nm cm= .slice (some a) n c->¬a.block=w.heap.size:=λa n c e=>by have:W.heap.size<=a.block:=mH.out a n c e;omega
  have zC: ∀a n c,Value.slice At nt ct=Yb (Ws a) n c->¬a.block=w.heap.size:=λa n c e=>by have:W.heap.size<=a.block:=Gl.out a n c e;omega
  repeat' first|with_reducible exact zR|with_reducible refine In.set ?_ zB zC _ _):p:=h
def MK (h:p:=by
 go_enter func50,ntmps50;go_wp2_with first
  |(go_at_call 144;refine(GD.out _ (ae (af w) _)).m ?_;rintro e w1 ⟨rfl,ap⟩;refine Q1 λhZ e0 e1 e2 e3 e4 e5 e6 e7 e8 e9 dJ ba bf iM=> ?_;clear ap hZ)
  |(go_at_call_of 145 (WK Xr m.dark);refine(tg.out _).m ?_;rintro e w2 ⟨rfl,rfl⟩)
  |(go_at_call_of 145 (WK Xr m.slots);refine(th.out _).m ?_;rintro e w2 ⟨rfl,rfl⟩)
  |(go_at_call_of 145 (WK Xr m.reserve);refine(vW.out _).m ?_;rintro e w2 ⟨rfl,rfl⟩)
  |(go_at_call_of 145 (WK Xr m.failures);refine(J9.out _).m ?_;rintro e w2 ⟨rfl,rfl⟩)
 go_ret;exact⟨by rw[HO.out];simp;try omega,bf.out⟩):p:=h
def aw2 (h:p:=by
 rw[zc.out];rintro e w3 ⟨gT,rfl,rg⟩;refine RW λik xI bg mM=> ?_;clear ik xI;obtain⟨m,t,jy,ty,Hx,zB,zC⟩:=rg y rfl;obtain⟨l0,l1,l2,l3,l4,l5,l6,l7,l8,l9⟩:=jy.lies;obtain⟨Am,nm,cm,rfl,gV,_,_⟩:=ty.form;obtain⟨At,nt,ct,rfl,Ht,_,_⟩:=Hx.form;refine by6 λyl C_ VC=> ?_;rw[J8.out] at VC;have To:=aa VC;have bp6:=aa yl;have mH:=aa zB;have Gl:=aa zC;have yc:wc.heap.size<w3.heap.size:=bq CR gT.size;have cs7:w.heap.size<w3.heap.size:=Yi;clear rg jy ty Hx gV Ht yl C_ VC zB zC gT;go_simp;refine hK _ _ ?_;clear hK K;refine aG ?_;iterate 2 refine ja 11 24 ?_
 refine fi 7 λK hK=> ?_;go_simp;refine hK _ _ ?_;clear hK K;refine aG ?_;refine fi 8 λK hK=> ?_;go_simp;refine To.out.m ?_;rintro e w4 ⟨rfl,aS⟩;refine by5 λnP qW bE sX N6 m0 m1 m2 m3 m4 m5 m6 m7 m8 m9=> ?_;clear aS nP qW l0 l1 l2 l3 l4 l5 l6 l7 l8 l9;go_simp;refine hK _ _ ?_;clear hK K;refine aG ?_;iterate 2 refine ja 11 24 ?_
 refine wh ?_;have xK:=sX.out;rw[nJ] at xK;obtain⟨⟨d0,d1,d2,d3,d4,d5,d6,d7,d8,d9⟩,fr⟩:=P8 xK;refine P' λf0 f1 f2 f3 f4 f5 f6 f7 f8 f9=> ?_;clear xK fr;go_wp2_with fail
 refine YR ?_;refine⟨?_,?_⟩
 .have hb:=bE.out;repeat' first|with_reducible exact hb|with_reducible refine cF ?_ (ag _) _
 .rw[YP HK.out,zc.out];simp[J8.out]):p:=h
def Rm (h:p:=by
 go_wp2_with first
  |(go_at_call 167;refine qy ?_;rintro e w3 ⟨rfl,hw⟩;obtain rfl:=hw.symm;first|rw[dC.out]|rw[fB.out])
  |(go_at_call 168;refine(FO _ _ _ _).m ?_;rintro e w3 ⟨rfl,hw⟩;obtain rfl:=hw.symm;first|rw[sS.out]|rw[Cd.out]|rw[HE6.out])
  |(go_at_call 271;refine(yZ.out _ aT.out).m ?_;rintro e w2 ⟨rfl,am⟩;rw[pu.out];have cQ:=aq lq.out am;obtain⟨y0,y1,y2,y3,y4,y5,y6⟩:=iA cQ;refine tK λaR=> ?_;clear am cQ)
 all_goals
  go_ret;exact⟨cE TB,by first|exact aR.out|exact aT.out⟩):p:=h
def bb8 (h:p:=by
 refine pE (S:=λw'=>w'.cell? rb=Ws (.map (Ws Mb))/\w'.cell? xb=Ws (WK Xr d.kind)/\w'.cell? (xb 1 Wr)=Ws (WM (bs d.name))/\de iO w' w (BK (l.take (k+1)))) 15 (by exact⟨pm,e0,e1,qE.out⟩) λhS=> ?_;iterate 11 refine mC 15 72 ?_
 refine dY 11 λK hK=> ?_;go_simp;refine(vQ.out _).m ?_;rintro e w8 ⟨rfl,eL⟩;have gW:Hid (Below w7 w7 w8):=ai (aX (af w7)) eL;clear eL;try go_simp
 clear hS;refine hK.out _ _ (by exact⟨kc gW.out pm,kc gW.out e0,kc gW.out e1,qE.out.later gW.out⟩) (λhS=> ?_);clear hK;refine aG ?_;refine aw5 (i:=12) (v:=WK Xr ((cn:Int)+1)) (Ws 84) rfl rfl aC aC aC (λ_ _ _ h=>h) (Or.inl ⟨by rfl,?_⟩) hS ?_
 .intro wq il;try dsimp only at il
  have h:=qm (P:=WH) underlying175 WI co il.2.2.2 (sc:Int) Ww (zeroValue3 _);rw[NI.out] at h;have kU:(WT 175 (.map (Ws w.heap.size)) (WK Xr sc) Ww).run WH wq= .ok (WK Xr ((cn:Int)+1)) wq:=h;clear h;go_simp;try with_reducible rfl
 refine aG ?_;refine cb 13 85 ?_;refine dY 14 λK hK=> ?_;obtain⟨ob,eG,cg0⟩:=P2 (P:=WH) underlying108 Xw Do (DU.out.later gW.out) d.name (Ye #[d.kind,WK Xr ((cn:Int)+1)]);have gq5:(Instr.mapUpdate 108 (.map (Ws Mb)) (WM (bs d.name)) (Ye #[d.kind,WK Xr ((cn:Int)+1)])).run WH w8=_:=eG;have oF:=IW w8 Mb ob;generalize ChangeMaps.setBlock w8 Mb ob=w9 at eG gq5 cg0 oF;go_simp;refine hK.out _ _ (by exact⟨(oF.cell aO).trans hS.1,(oF.cell cn3).trans hS.2.1,(oF.cell cn3).trans hS.2.2.1,hS.2.2.2.blk (oF.2.2 _ Yi)⟩) (λhS=> ?_);clear hK;refine aG ?_;refine oQ ?_;go_wp2_with fail
 have go0:cY t d.name=none:=by
  have:=D9.out;cases hq:cY t d.name with
  |none=>rfl
  |some q=>rw[hq] at this;cases this
 refine⟨⟨k+1,t++[(d.name,d.kind,cn+1)],by omega,by go_num,?_,cg0.of_eq (λy=>(ez2 (d.kind,cn+1) go0 y).symm),hS.2.2.2,((vG.out.later gW.out).blk (oF.2.2 _ Yi)),(lj.out.trans (aF.of_below gW.out lj.out.size gW.out.size)).trans (aF.turn oF)⟩,by simp[WS];omega⟩;rw[vC.out J7.out (by rw[mj.out];rfl),if_neg (of_decide_eq_false oe.out)]):p:=h
def Z_ (h:p:=by have h:=qm (P:=WH) XI WI co hM (d.kind:Int) Wz (zeroValue212 _);rw[hF] at h;exact h):p:=h
def Z' (h:p:=by have h:=qm (P:=WH) XI WI co (hM.later (ae (af w2) o)) (d.kind:Int) Wz (zeroValue212 _);rw[hF] at h;exact h):p:=h
def QL (h:p:=by exact⟨w2.heap.size,rfl,aV.size,ae aV _,cap,Xn w2 _⟩):p:=h
def by2 (h:p:=by have h0:=(iW.out W1.heap.size Yl).trans (Xn W1 _);exact(aZ (aZ (aZ (aZ (aZ (aZ (aZ (aZ h0 _ _) _ _) _ _) _ _) _ _) _ _) _ _) _ _).trans rfl):p:=h
def bb4 (h:p:=by
 refine⟨W1.heap.size,rfl,ag _,?_,cap,?_⟩
 .repeat' first|with_reducible exact aV|with_reducible refine cF ?_ (ag _) _
 .exact by2):p:=h
def bb3 (h:p:=by
 rename_i J K' hJ gO;have HJ:=aa hJ;have rN:=aa gO;clear hJ gO;go_region_held3 (λw'=>w'.cell? w=Ws (WK Xr d.kind)) (go_simp)
  (first
    |(go_at_call 160;refine(mH.out _).m ?_;rintro e w2 ⟨M1,pb,rfl,hM,_,_,am⟩;obtain⟨cap,hF⟩:=HF.out pb;refine Iu λaV=> ?_;have kU:(Instr.lookup 213 (.map (some M1)) (.int .i64 d.kind) true).run prog w2= .ok (.tuple #[.agg #[.string wd,.bool NM,.int .i64 L,.int .i64 M,.int .i64 N,.func (.func fb) #[] #[],.bool AL,.func (.func ft) #[] cap],.bool true]) w2:=by exact Z_
      have gM: ∀o,(WT 213 (.map (Ws M1)) (WK Xr d.kind) Wz).run WH (w2.alloc o)= .ok (.tuple #[Ye #[wd,Yc NM,L,M,N,.func (.func fb) #[] #[],Yc AL,.func (.func ft) #[] cap],Yc Wz]) (w2.alloc o):=λo=>by exact Z'
      refine QI λc0 lJ wv=> ?_;try(have gF:W1.heap.size<w2.heap.size:=by(have hq:=am.size;simp at hq;omega))
      refine QJ λbd jU iW=> ?_;clear hM am))
 all_goals
  dsimp only[Exit.then];refine rN.out _ _ (Met.intro (HJ.out _ _ ?_))
  (repeat apply Exists.intro)
  refine⟨⟨rfl,?_⟩,rfl⟩
 .exact QL
 .exact QL
 .exact bb4):p:=h
def ak0 (h:p:=by
 refine(MU pb B M p _ 3 ((HP.out.later bf.out).later (ae (af w1) _)) Yi).m ?_;rintro e w2 ⟨rfl,eh,d',iQ⟩;have eB:=blk_lt DE.out;have eE:=d'.blk (js DE.out (ae (af w1) _) eB) bI Yi;obtain⟨r0,r1,r2,r3⟩:=Yu eE;obtain⟨q0,q1,q2,q3⟩:=Ak eE;have bd:=blk_lt eE;have gZ:=aa eh;have gH:=aa d';have uf:=aa iQ;clear eh d' iQ;have bR:=aa eE;clear eE;go_wp2_with fail
 refine bodyPost_ret (v:=BZ ⟨0,[],0,0⟩) (by simp[results,results121,go_sem,BZ,bs,r0,r1,r2,r3,bd]) rfl ?_;rw[HT.out];refine⟨rfl,gZ.out.set4 bR.out az jz,?_⟩;have fY:aF w.heap.size pb w w2:=((aF.of_below bf.out (ag _) bf.out.size).alloc (ag _) _).trans (gH.out.mono bI);refine⟨(((fY.set (.inr (ag _)) _).set (.inr (ag _)) _).set (.inr (ag _)) _).set (.inr (ag _)) _,?_⟩;exact(((((ko.of_below bf.out jz).trans (ko.of_below (ae (af w1) _) ye)).trans uf.out).set (.inl Yi) _).set (.inl Yi) _).set (.inl Yi) _ |>.set (.inl Yi) _):p:=h
def Y9 (h:p:=by
 go_enter func144,ntmps144
 go_wp2_with(first
  |(go_at_call_of 211 (WK Xr (m.sites.length:Nat));refine(dC.out _).m ?_;rintro e w1 ⟨rfl,rfl⟩)
  |(go_at_call 211;refine(fB.out _).m ?_;rintro e w1 ⟨rfl,rfl⟩)
  |(go_at_call 212;refine(HR.out _ (ae (af w) _) HN.out).m ?_;rintro e w1 ⟨rfl,ap⟩;have bf:=aa (ai (ae (af w) _) ap);have iM:=aa (aq HN.out ap);have e3:w1.cell? (w 3 Wr)=Ws (Yb Ma m.machs.length mc):=ah iM.out rfl;have e4:w1.cell? (w 4 Wr)=Ws (Yb La m.links.length lc):=ah iM.out rfl;clear ap)
  |(go_at_call 216;refine(HM.out _ bf.out iM.out).m ?_;rintro e w2 ⟨rfl,am⟩;have aR:=aa (ai bf.out am);have ml:=aa (aq iM.out am);have e4:w2.cell? (w 4 Wr)=Ws (Yb La m.links.length lc):=ah ml.out rfl;clear am)
  |(go_at_call 219;refine(HL.out _ aR.out ml.out).m ?_;rintro e w3 ⟨rfl,aL⟩;have bg:=aa (ai aR.out aL);clear aL))
 go_ret;exact⟨by rw[HO.out];simp[G1.out,G2.out,G4.out],bg.out⟩):p:=h
def aj9 (h:p:=by
 simp only[aj];go_enter func121,ntmps121;go_wp2_with first
  |(go_at_call 39;refine(HN.out _ (HP.out.later (ae (af w) _))).m ?_;rintro e w1 ⟨rfl,ap⟩;have oG:=aq (aq H1.out (ae (af w) _)) ap;have p0:w1.cell? ⟨pb,0,none⟩=some (.slice (some ⟨tb,tf,none⟩) tn tc):=ah oG rfl;refine Fp λp1 ye=> ?_;have DE:=aa (aq (bQ w _) ap);have bf:=aa (ai (ae (af w) _) ap);have f0:=cd oG 0;have eE:=DE.out;obtain⟨r0,r1,r2,r3⟩:=Yu eE;obtain⟨q0,q1,q2,q3⟩:=Ak eE;have ba:=blk_lt eE;have bd: ¬w.heap.size=w1.heap.size:=by omega
    clear oG ap eE)
  |(go_at_call 199;refine(Px _ l t.text _ _ ((HL.out.below bf.out (ag _)).below (ae (af w1) _) (by have:=bf.out.size;omega))).m ?_;rintro e w2 ⟨rfl,rfl⟩)
 refine bodyPost_ret (v:=BZ t) (by simp[results,results121,go_sem,BZ,r0,r1,r2,r3,ba,cJ,bd]) rfl ?_;rw[HY.out,HH.out];have Um:bZ w1 pb B M p:=HP.out.later bf.out;have gj0:bW 4 mW w1 pb (Yb (Ws (tb (tf+4) Wr)) (tn - 1) (tc - 1)) p.ts.tail:=by
  have h:=H2.out.below mW.ab bf.out Yi;rw[Tm.out] at h⊢
  exact h.drop1
 have eh:=Um.setTs gj0 (H7.out.tail (by rw[Tm.out,Pd];simp));refine⟨rfl,(eh.set4 (lY DE.out cJ) az jz).later (ae (af _) _),?_⟩;have fY:aF w.heap.size pb w w1:=aF.of_below bf.out (ag _) bf.out.size;refine⟨(((((fY.set (.inl rfl) _).set (.inr (ag _)) _).set (.inr (ag _)) _).set (.inr (ag _)) _).set (.inr (ag _)) _).alloc (ag _) _,?_⟩;exact(((((((ko.of_below bf.out jz).set (.inr Yi) _).set (.inl Yi) _).set (.inl Yi) _).set (.inl Yi) _).set (.inl Yi) _)).trans (ko.of_below (ae (af _) _) (by simp[XD];omega))):p:=h
def sK (h:p:=by exact aa3 d rv nv w hG _ _ _ _ _ _ _ _ _ (WD func238 aC rfl) hr hn (λpb=>⟨_,kT pb⟩) (λW _=>ez8 d.by_ W)):p:=h
def Zc (h:p:=by
 try clear he
 try clear hk
 try clear ht
 simp only[aj];go_enter func197,ntmps197;go_wp2_with first
  |(go_at_call 39;refine(HN.out _ HP.out).m ?_;rintro e w1 ⟨rfl,ap⟩;have oG:=aq H1.out ap;refine Fp λp1 ye=> ?_;have bf:=aa ap;clear oG ap)
  |(go_at_call 121;refine(HT.out _ ((HP.out.later bf.out).later (ae (af w1) _))).mono ?_;unfold rq;rintro e w2 ⟨rfl,eh,d',iQ⟩;obtain⟨kF,cL,c1,c2,c3,c6,c7⟩:=eh.cells;have f7:=cL 7;have gZ:=aa eh;have gH:=aa d';clear eh d' iQ cL)
 go_end0
 rw[HC.out];exact⟨rfl,((HP.out.later bf.out).later (ae (af w1) _)).more (XR M),λ_=>vH.out,(aF.of_below bf.out a_.2 bf.out.size).alloc a_.2 _⟩):p:=h
def am1 (h:p:=by
 have gL:=uW (Aw ap (Ya w1 (Ws pa))) 9 (Yb (Ws (bu 0 Wr)) nu cu);have r2:=jN r1 9 (Yb (Ws (bu 0 Wr)) nu cu);have dq:=aW.set (o:=9) (u:=Yb (Ws (bu 0 Wr)) nu cu) hu (show ¬bu=pa by omega);have gP:Below pa W (w1.setCell (pa 9 Wr) (Yb (Ws (bu 0 Wr)) nu cu)):=(ap.mono (eJ ar)).setCell (ag _) _;generalize oK:w1.setCell (pa 9 Wr) (Yb (Ws (bu 0 Wr)) nu cu)=w2 at gL r2 dq gP⊢
 have tu:pa<w2.heap.size:=bq ar gL.size;have aO: ¬pa=w2.heap.size:=Yi;have gU: ¬w2.heap.size=pa:=Yi;have Uc:cH w2:=HG.out.grown gL h8;clear oK hu ap
 go_region_with (go_at_call 53;refine(Fh _ [aJ l 0] [1] 1 w2.heap.size _ pa 46 _ _ (Uc.step (aX (ae (af w2) _))) pa rfl (Sl.below HT.out (L' (gP.alloc (eJ tu) _))) (ag _) bI (by simpa using HZ.out) Yl (λj hj=>by
  match j,hj with
  |0,_=>go_simp;try rfl) gU Yl h8 (((aX (ae (af w2) _)).block _ tu).trans r2) (λj hj=>by
  match j,hj with
  |0,_=>show _<10;decide)).m ?_;rintro e w3 hp;have he:=hp.ret;subst he)
 all_goals (go_wp2_with fail)
 all_goals
  go_ret;have gT:=Aw (aX (ae (af w2) _)) hp.1;have kF:=hp.2;refine⟨Wq gL gT,?_,λy hy=> ?_⟩
  .show Xz (Yc (gQ [aJ l 0] 1).isSome)=_;rw[am0,Option.isSome_map,Option.isSome_map]
  .obtain⟨a,ha,rfl⟩:=Option.map_eq_some_iff.1 hy;have e1:gQ [aJ l 0] [1].length=some [a]:=by show gQ [aJ l 0] 1=_;rw[am0,ha];rfl
   rw[e1] at kF;exact⟨aN,_,kF.2.trans rfl,aW.nil_ _ _,aW.grown' dq gT (show ¬bu=pa by omega),j8.nil _,j8.mk_ wu⟩):p:=h
def ap2 (h:p:=by
 refine ap3 λtu gL r2 gP=> ?_;generalize oK:((((((w1.setCell (pa 4 Wr) (WK Xr p0)).setCell (pa 5 Wr) (WM p1)).setCell (pa 6 Wr) (WK Xr p2)).setCell (pa 7 Wr) (WK Xr p3))).alloc (Yd #[p0,p1,p2,p3] 44))=w2 at gL r2 gP⊢
 have di:pa<w2.heap.size:=bq ar gL.size;clear oK tu d4 f4 d5 f5 d6 f6 d7 f7 aO gU EM ap R1;have R2:=aa r2;clear r2;have aO: ¬pa=w2.heap.size:=Yi;have gU: ¬w2.heap.size=pa:=Yi;refine pD 14 ?_;iterate 2 refine ja 14 20 ?_
 iterate 10 refine E7 14 20 ?_
 refine lW 12 32 ?_;refine lW 13 4 ?_;refine wh ?_;go_wp2_with fail
 go_ret;exact⟨al7 gL,rfl,λy hy=>by cases hy⟩):p:=h
def Yq (h:p:=by
 try clear he
 try clear hk
 simp only[aj];go_enter func284,ntmps284;go_wp2_with first
  |(go_at_call 39;refine(HN.out _ HP.out).m ?_;rintro e w1 ⟨rfl,ap⟩;have oG:=aq H1.out ap;refine Fp λp1 ye=> ?_;have bf:=aa ap;clear oG ap)
  |(go_at_call 121;refine(HT.out _ ((HP.out.later bf.out).later (ae (af w1) _))).mono ?_;unfold rq;rintro e w2 ⟨rfl,eh,d',iQ⟩;have gZ:=aa eh;have gH:=aa d';have uf:=aa iQ;clear eh d' iQ)
 go_ret;rw[HC.out];exact⟨rfl,(HP.out.later bf.out).later (ae (af w1) _),(aF.of_below bf.out (ag _) bf.out.size).alloc (ag _) _,(ko.of_below bf.out jz).trans (ko.of_below (ae (af w1) _) ye)⟩):p:=h
def Nk (h:p:=by
 go_wp2_with first
  |(go_at_call 167;refine qy ?_;rintro e w3 ⟨rfl,hw⟩;obtain rfl:=hw.symm;first|rw[dC.out]|rw[fB.out])
 all_goals
  go_ret;exact⟨cE TB,aT.out⟩):p:=h
def ZB (h:p:=by
 go_simp;refine iZ ?_;clear hK;refine aG ?_;refine gK ?_;go_wp2_with fail
 go_end0
 have tC:=bE.out.size;refine⟨⟨_,rfl⟩,Yb OA om oc,nK.mk' (aq (aq pB.out bE.out) (ae (af _) _)) (ai aT.out (ai bE.out (ae (af _) _))) bh iU jo iq lr (iq.elim (λh e=>iU (by rw[h,e])) (λh e=>by simp at h;omega)),?_⟩;have hL:=oN.out;have ER:=mp.out;have zG:=WL ER;have C':W1.drew.heap.size=W1.heap.size:=rfl;rw[C'] at zG ER;refine mu (QQ (World.ownsRow.kept (fS ER (ae (af w4) _)) bh ?_) qc) (λj hj e=>by have:=zG j hj;omega) _ _;cases hq:Xq (Yb OA om oc) with
 |none=>exact .inl rfl
 |some j=>exact .inr (λe=>by have:=zG j hq;have:=hL j e.symm;omega)):p:=h
def ac9 (h:p:=by
 refine fi 11 λK hK=> ?_;go_simp;refine(Py _).m ?_;rintro e w3 ⟨g3,c3,rfl,oE,aL⟩;try go_simp
 refine hK _ _ ?_;clear hK K;refine aG ?_;refine fi 12 λK hK=> ?_;go_simp;refine(Wb _).m ?_;rintro e w4 ⟨g4,c4,rfl,Cz,aS⟩;try go_simp
 refine hK _ _ ?_;clear hK K;refine aG ?_;refine fi 13 λK hK=> ?_;go_simp;refine hK _ _ ?_;clear hK K;refine aG ?_;have hS:=ac7 w4 _ _ _ _ (oE.later aS) Cz;refine fi 14 λK hK=> ?_;go_simp;refine(Wc _ _ _ hS).m ?_;rintro e w5 ⟨g5,c5,rfl,CB,bp⟩;try go_simp
 refine hK _ _ ?_;clear hK K;refine aG ?_;refine fi 15 λK hK=> ?_;go_simp;refine(HQ.out w5 _ (CB.congr ah1)).m ?_;rintro e w6 ⟨rfl,bM⟩;try go_simp
 refine hK _ _ ?_;clear hK K;refine aG ?_;iterate 2 refine ja 18 11 ?_
 refine wh ?_;have tk:=ai (ai (ae (ai (ai (aX aV) aL) aS) _) bp) bM;have iF:=aq (js HB.out (ai (ae (ai (ai (aX (af w2)) aL) aS) _) bp) bd) bM;refine Pz λc0 xE uw xF f0 f1 f2 f3=> ?_;have pp:=blk_lt iF;have cK:=aa iF;clear iF aL aS bp bM hS oE Cz CB aV HB HR HQ;go_wp2_with fail
 refine bodyPost_ret (v:= .tuple #[jx 0 [] 0 0,WK Xr 3]) (by simp[results,results190,go_sem,jx,bs,c0,xE,uw,xF,pp]) rfl ?_;exact⟨rfl,by repeat' first|with_reducible exact tk|with_reducible refine cF ?_ AX _|with_reducible refine ae ?_ _⟩):p:=h
def Rg (h:p:=by
 go_wp2_with first
  |(go_at_call 271;refine(yZ.out _ aT.out).m ?_;rintro e w2 ⟨rfl,am⟩;rw[dC.out];have cQ:=aq lq.out am;obtain⟨y0,y1,y2,y3,y4,y5,y6⟩:=iA cQ;refine tK λaR=> ?_;clear am cQ)
  |(go_at_call 168;refine(FO _ _ _ _).m ?_;rintro e w3 ⟨rfl,hw⟩;obtain rfl:=hw.symm;first|rw[fB.out]|rw[pu.out]|rw[sS.out]|skip)
 go_ret;exact⟨cE Kl,aR.out⟩):p:=h
def Np (h:p:=by
 go_simp;refine iZ ?_;clear hK;refine aG ?_;refine gK ?_;go_wp2_with fail
 go_end0
 exact⟨⟨_,rfl⟩,nK.mk' (aq pB.out (ae (aX (af W1)) _)) (ai (aX aT.out) (ae (af _) _)) bh iU jo iq lr (iq.elim (λh e=>iU (by rw[h,e])) (λh e=>by simp at h;omega))⟩):p:=h
def IR (h:p:=by
 refine kz λhS=> ?_;clear hK;refine aG ?_;refine ie 19 9 ?_;refine gK ?_;go_wp2_with fail
 go_meet;exact⟨HL.out _ (by first|exact jQ|exact aX jQ),by first|exact jQ|exact aX jQ⟩):p:=h
def RL (h:p:=by
 try rw[HN.out] at HR
 go_wp2_with first
  |(go_at_call 271;refine(yZ.out _ aT.out).m ?_;rintro e w2 ⟨rfl,am⟩;rw[dC.out];have cQ:=aq lq.out am;obtain⟨y0,y1,y2,y3,y4,y5,y6⟩:=iA cQ;refine tK λaR=> ?_;clear am cQ)
  |(go_at_call 168;refine(FO _ _ _ _).m ?_;rintro e w3 ⟨rfl,hw⟩;obtain rfl:=hw.symm;first|rw[fB.out]|rw[pu.out]|rw[sS.out]|skip)
 all_goals
  go_ret;exact⟨cE (by first|exact HR.out.symm|(rw[HR.out];simp_all;done)|(rw[HR.out,WU];simp_all<;>omega)),aR.out⟩):p:=h
def FL (h:p:=by
 have HR:=aa (show r=Ww by rw[HO.out,Bool.eq_false_iff];intro h;simp only[WC,decide_eq_true_eq,aD] at h;omega);go_wp2_with fail
 go_ret;exact⟨by rw[HR.out];rfl,aT.out⟩):p:=h
def aw1 (h:p:=by
 rw[zc.out];rintro e w3 ⟨gT,rfl,rg⟩;refine RW λik xI bg mM=> ?_;clear ik xI;clear gT rg;go_simp;refine hK _ _ ?_;clear hK K;refine aG ?_;iterate 2 refine ja 11 24 ?_
 iterate 3 refine E7 11 24 ?_
 refine lW 10 34 ?_;refine wh ?_;have xK:=mM.out;rw[nJ] at xK;obtain⟨⟨d0,d1,d2,d3,d4,d5,d6,d7,d8,d9⟩,fr⟩:=P8 xK;refine P' λf0 f1 f2 f3 f4 f5 f6 f7 f8 f9=> ?_;clear xK fr;go_wp2_with fail
 refine YR ?_;refine⟨?_,?_⟩
 .have hb:=bg.out;repeat' first|with_reducible exact hb|with_reducible refine cF ?_ (ag _) _
 .rw[YP HK.out,zc.out];rfl):p:=h
def P1 (h:p:=by
 go_wp2_with(first
  |(go_at_call 309;refine(iv.out _ (ae (ae (af w) _) _)).m ?_;rintro e w1 ⟨rfl,ap⟩;have bf:=aa (ai (ae (ae (af w) _) _) ap);obtain⟨bt,cr⟩:=gw ap;have ba:w.heap.size+1<w1.heap.size:=jM ap Yl;clear ap)
  |(go_at_call 145;refine(HW.out _).m ?_;rintro e w2 ⟨rfl,rfl⟩)
  |fail)
 go_ret;exact⟨by simp,bf.out⟩):p:=h
def at6 (h:p:=by
 go_enter func144,ntmps144
 go_wp2_with(first
  |(go_at_call_of 211 (WK Xr (m.sites.length:Nat));refine(dC.out _).m ?_;rintro e w1 ⟨rfl,rfl⟩)
  |(go_at_call 211;refine(fB.out _).m ?_;rintro e w1 ⟨rfl,rfl⟩)
  |(go_at_call 212;refine(HR.out _ (ae (af w) _) HN.out).m ?_;rintro e w1 ⟨rfl,ap⟩;have bf:=aa (ai (ae (af w) _) ap);have iM:=aa (aq HN.out ap);have e3:w1.cell? (w 3 Wr)=Ws (Yb Ma m.machs.length mc):=ah iM.out rfl;have e4:w1.cell? (w 4 Wr)=Ws (Yb La m.links.length lc):=ah iM.out rfl;clear ap)
  |(go_at_call 216;refine(HM.out _ bf.out iM.out).m ?_;rintro e w2 ⟨rfl,am⟩;have aR:=aa (ai bf.out am);have ml:=aa (aq iM.out am);have e4:w2.cell? (w 4 Wr)=Ws (Yb La m.links.length lc):=ah ml.out rfl;clear am)
  |(go_at_call 219;refine(HL.out _ aR.out ml.out).m ?_;rintro e w3 ⟨rfl,aL⟩;have bg:=aa (ai aR.out aL);clear aL))
 go_ret;exact⟨by rw[HO.out];simp;(try have hq:=trivial);(try omega),ae (af w) _⟩):p:=h
def ML (h:p:=by
 rintro e w5 ⟨rfl,U0,bp⟩;try go_simp
 refine iZ ?_;clear hK;refine aG ?_;refine gK ?_;go_wp2_with fail
 exact⟨⟨k+1,lS.out,by go_num,U0.to (by rw[HT.out,HD.out]),(pw.out.trans (hS.mono gF)).trans bp⟩,by have:=lS.out;simp[WS];omega⟩):p:=h
def FT (h:p:=by exact⟨rfl,by repeat' first|with_reducible exact af w|with_reducible refine cF ?_ AX _|with_reducible refine cF ?_ (XR _) _|with_reducible refine ae ?_ _⟩):p:=h
def RB (h:p:=by
 intro wq il;try dsimp only at il
 have h:=qm (P:=WH) underlying108 Xw Do il.2.2.2.1 s Wz (zeroValue178 _);rw[yW.out] at h;have kU:(WT 108 (.map (Ws Mb)) (WM (bs s)) Wz).run WH wq= .ok (.tuple #[Ye #[WK Xr (xa:Nat),WK Xr (xn:Nat)],Yc Wz]) wq:=h;clear h;go_simp;try with_reducible rfl):p:=h
def FD (h:p:=by have h:=qm (P:=WH) underlying176 WI co mp.out (d.kind:Int) Ww (zeroValue4 _);rw[bn1.out] at h;exact h):p:=h
def bb7 (h:p:=by
 go_wp2_with first
  |(go_at_call 125;refine(jq.out _ jH.out).m ?_;rintro e w4 ⟨rfl,aS⟩;refine FC λb0 b1 ke bE qJ xl mp eN=> ?_;have fJ:(Instr.lookup 176 (.map (some (w.heap.size+1))) (.int .i64 d.kind) false).run prog w4= .ok (.bool true) w4:=by exact FD
    clear aS wg qP pG pH zp zq p9)
 go_ret2
 refine⟨eN.out,?_⟩;rw[Cd.out J7.out (by rw[mj.out];rfl)];exact rfl):p:=h
def RS (h:p:=by
 clear dQ;go_wp2_with
  (go_at_call 67;refine BS ?_;rintro e w2 ⟨rfl,am⟩;have cz:=aq g_.out am;obtain⟨b0,b1,b2,b3,b4,b5,b6,b7,b8,b9,xD,Kp,Kq,Kr⟩:=jt cz;have n_:=aa am;refine tK λaR=> ?_;clear am cz)
 go_meet;exact⟨by first|rfl|simp[bt,cR]|(simp only[Value.bool.injEq,Bool.or_eq_false_iff,decide_eq_false_iff_not];omega),n_.out⟩):p:=h
def bg0 (h:p:=by
 go_upto_region 4 with (first
  |(go_at_call 45;refine AH.out.m ?_;rintro e w2 ⟨d',rfl⟩))
 have VJ:w2.heap[rt]? =Ws (Yd #[Yb Wr 0 0,Yb Wr 0 0,Yb Wr 0 0,Yb Wr 0 0,Yb Wr 0 0,Yb Wr 0 0,WK Xr 0,WK Xr 0,WK Xr 0,WK Xr 0,Yb Wr 0 0] 30 (0,0)):=d'.blk N3.out (blk_lt N3.out) Vz;obtain⟨q0,q1,q2,q3,q4,q5,q6,q7,q8,q9,pq⟩:=eR VJ;obtain⟨z0,z1,z2,z3,z4,z5,z6,z7,z8,z9,qC⟩:=Mk VJ;have te:=aa VJ;go_wp2_with fail
 refine M_ λW7 lF=> ?_;have h2:=d'.size;have si:=bn9.out;have Be:=bm7.out;have VU:=dh0.out;have Pl:=dh1.out;have bc:=bo0.out;exact FI.err HE.out rfl ((aT.out.trans ((d'.below Yi).mono Yi)).trans ((lF.below Yi).mono Yi))):p:=h
def Q6 (h:p:=by
 have HR:=aa (show r=Ww by rw[HO.out,DY.out,uZ lU hF];rfl);clear hF;go_wp2_with fail
 go_quiet (fail)
 go_wp2_with fail
 go_ret;exact⟨by rw[HR.out];rfl,BD bH.out _⟩):p:=h
def bu2 (h:p:=by
 have HR:=aa (bu0 jd.out ar N8);go_upto_region 4 with (fail)
 refine bu3 λhS=> ?_;iterate 7 refine cI 25 12 ?_
 refine bF 7 λK hK=> ?_;go_simp;refine qy ?_;rintro e w4 ⟨rfl,rfl⟩;rw[dC.out];try go_simp
 refine hK.out _ _ (hS) (λhS=> ?_);clear hK;refine aG ?_;iterate 2 refine cI 25 12 ?_
 iterate 14 refine rE 25 12 ?_
 refine ie 24 36 ?_;refine gK ?_;go_wp2_with fail
 go_ret;exact⟨by rw[HR.out];rfl,ai bH.out hS.2.2⟩):p:=h
def ar2 (h:p:=by
 clear HB;go_enter func41,ntmps41
 go_wp2_with first
             |(go_at_call 39;refine HN.out.m ?_;rintro e w1 ⟨rfl,ap⟩;have dh:=ap.size)
             |(go_at_call 117;refine(HR.out _ bI).m ?_;rintro e w2 ⟨v,rfl,hv,am⟩;have aL:=ae ap (Yd #[t.kind,bs t.text,t.n,t.pos] 100);have ht:=aq (bQ w1 (Yd #[t.kind,bs t.text,t.n,t.pos] 100)) am;have aS:=ai aL am)
             |(go_at_call 116;refine(HC.out _ _ _ (blk_lt ht) (ah ht rfl) (ah ht rfl) hv.sl).m ?_;rintro e w3 ⟨rfl,bp⟩)
 go_ret;rw[HK.out];exact⟨rfl,ai aS bp⟩):p:=h
def RQ (h:p:=by
 go_wp2_with first
  |(go_at_call 167;refine qy ?_;rintro e w3 ⟨rfl,hw⟩;obtain rfl:=hw.symm;rw[Jt.out])
  |(go_at_call 168;refine(FO _ _ _ _).m ?_;rintro e w3 ⟨rfl,hw⟩;obtain rfl:=hw.symm;first|rw[tg.out]|rw[th.out]|rw[vW.out])
 go_ret;exact⟨cE Kl,bH.out⟩):p:=h
def RP (h:p:=by
 refine gK ?_;go_wp2_with fail
 exact⟨⟨k+1,by omega,by go_num,λq hq=>by
  rcases Xk q k with h|h
  .exact gY.out q h
  .have:q=k:=by omega
   subst this;exact kg.out,ai HB.out hS⟩,by simp[WS];omega⟩):p:=h
def M7 (h:p:=by
 try simp only[zV,vY]
 by_cases h1:k=5
 .subst h1;simp
 .by_cases h2:k=6
  .subst h2;simp
  .by_cases h3:k=13
   .subst h3;simp
   .simp[h1,h2,h3]):p:=h
def RX (h:p:=by
 refine oQ ?_;go_upto_region 9 with (fail)
 go_ret;exact⟨v',rfl,uX h5 aT.out.size,ai aT.out bp⟩):p:=h
def bx0 (h:p:=by have HV:=aa hv;have HU:=aa hu;have Cb:=aa hS;refine dY 10 λK hK=> ?_;refine BW rfl (Yg 10) (Yg 12) rfl W1.heap.size _ _ [bs d.name,bs (WB (k:Nat)),bs el,bs (fZ d.refs)] ([ka,WB (n0:Nat),jY,WB (n1:Nat),jX,WB (n2:Nat)].map bs) rfl rfl HV.out HU.out.src Yl Cb.out.size ?_;intro v' w5 h5 g5;have bp:=bX.grown HV.out Cb.out g5;refine hK.out _ _ bp λhS=> ?_;clear hK;change wpAnyH _ _ _ _ _ _ _ (Act.put _ (Ws 13) _) _;simp only[Act.put,sN,sP,sO];refine cb 11 2 ?_;exact RX):p:=h
def bw9 (h:p:=by have HV:=aa hv;have HU:=aa hu;have Cb:=aa hS;refine dY 8 λK hK=> ?_;refine BW rfl (Yg 8) (Yg 10) rfl W1.heap.size _ _ [bs d.name,bs el,bs (fZ d.refs)] ([ka,WB (n0:Nat),jY,WB (n1:Nat),jX,WB (n2:Nat)].map bs) rfl rfl HV.out HU.out.src Yl Cb.out.size ?_;intro v' w5 h5 g5;have bp:=bX.grown HV.out Cb.out g5;refine hK.out _ _ bp λhS=> ?_;clear hK;change wpAnyH _ _ _ _ _ _ _ (Act.put _ (Ws 11) _) _;simp only[Act.put,sN,sP,sO];refine cb 9 2 ?_;exact RX):p:=h
def bw8 (h:p:=by have HV:=aa hv;have HU:=aa hu;have Cb:=aa hS;refine dY 9 λK hK=> ?_;refine BW rfl (Yg 9) (Yg 11) rfl W1.heap.size _ _ [bs d.name,bs el,bs a] ([ka,WB (n0:Nat),jY,WB (n1:Nat),jX,WB (n2:Nat)].map bs) rfl rfl HV.out HU.out.src Yl Cb.out.size ?_;intro v' w5 h5 g5;have bp:=bX.grown HV.out Cb.out g5;refine hK.out _ _ bp λhS=> ?_;clear hK;change wpAnyH _ _ _ _ _ _ _ (Act.put _ (Ws 12) _) _;simp only[Act.put,sN,sP,sO];refine cb 10 2 ?_;exact RX):p:=h
def ay7 (h:p:=by
 by_cases ar:k<len
 .obtain⟨fn,tmps,assign,body,hy,hR⟩:=hY _ (f k) wr Ep (by rw[ex2];exact ar);have hd4:=lJ ar
  gi_wp2
  refine hR.m ?_;rintro e W3 (⟨rfl,Uh,Bn⟩|⟨rfl,gi4⟩)
  .gi_wp2
   go_roundw
   case rel=>exact⟨k+1,by omega,by simp,by rw[ay6];exact Uh,CS.trans Bn⟩
   case measure=>simp[WS];omega
  .gi_wp2
   refine bodyPost_ret (results_none rfl _ _ _) rfl ?_;exact⟨⟨_,rfl⟩,.inr ⟨_,⟨k+1,by omega,(ay6 _ _).symm⟩,gi4⟩⟩
 .obtain rfl:k=len:=by omega
  gi_wp2
  go_end0
  exact⟨⟨_,rfl⟩,.inl ⟨_,rfl,Ep⟩⟩):p:=h
def Rc (h:p:=by
 go_wp2_with first
  |(go_at_call 265;refine(Q' _ _).m ?_;rintro e w4 ⟨rfl,hw⟩;obtain rfl:=hw.symm;rw[sS.out])
 go_ret;exact⟨by rw[HR.out];rfl,ai bH.out aR.out⟩):p:=h
def Jd (h:p:=by
 refine gK ?_;go_wp2_with fail
 go_ret;exact⟨cE (by rw[HO.out,HR.out];simp),ai bH.out hS⟩):p:=h
def an8 (h:p:=by
 go_enter func313,ntmps313
 go_wp2_with(first
  |(go_at_call 309;refine(iv.out _ (ae (ae (af w) _) _)).m ?_;rintro e w1 ⟨rfl,ap⟩;have bf:=aa (ai (ae (ae (af w) _) _) ap);obtain⟨bt,cr⟩:=gw ap;have ba:w.heap.size+1<w1.heap.size:=jM ap Yl;clear ap)
  |(go_at_call 145;refine(HW.out _).m ?_;rintro e w2 ⟨rfl,rfl⟩)
  |(go_at_call 157;refine(HC.out _ _ _ (aW.lits _ [2,3,4] Eh Yl _)).m ?_;rintro e w3 ⟨rfl,rfl⟩)
  |fail)
 go_ret;exact⟨by simp,bf.out⟩):p:=h
def bx7 (h:p:=by
 have HR:=aa (show ∀j,j<k+1->F j=Wz from λq hq=>by
  rcases Xk q k with h|h
  .exact gY.out q h
  .have:q=k:=by omega
   subst this;rw[kg.out];rfl)
 go_wp2_with(first
  |(go_at_call 332;refine(yW.out _).m ?_;rintro e w1 ⟨rfl,hw⟩;obtain rfl:=hw.symm)
  |(go_at_call 334;refine(DM.out _).m ?_;rintro e w1 ⟨rfl,hw⟩;obtain rfl:=hw.symm))
 exact⟨⟨k+1,by omega,by go_num,HR.out,by trivial⟩,by simp[WS];omega⟩):p:=h
def Qn (h:p:=by simp only[List.setIfInBounds_toArray,List.set_cons_succ,List.set_cons_zero];rfl):p:=h
def al1 (h:p:=by
 go_wp2_with fail
 go_region
 all_goals
  go_end0
  refine⟨⟨_,rfl⟩,?_,?_⟩
  .repeat' first|with_reducible refine MP ?_ _ _|with_reducible refine MO ?_ |with_reducible exact MN _ _
  .have h:=HP.out;clear HP;unfold eY at h⊢
   rw[nJ] at h;try rw[MQ]
   refine(jN (jN (jN (h) _ _) _ _) _ _).trans ?_;exact Qn):p:=h
def bw2 (h:p:=by
 obtain⟨⟨q0,q1,q2,q3,q4,q5,q6,q7,q8,q9,pq,vq,vt,vv⟩,z0,z1,z2,z3,z4,z5,z6,z7,z8,z9,qC,xh,xj,xk⟩:=Dy N2.out;go_wp2_with fail
 refine BP cA cA cA cA N2.out (λW7 hk=> ?_);rw[show(K:Int)+j+2=((K+2+j:Nat):Int) by omega];exact tH.err (by rw[D5.out,HE.out]) rfl (Dx ((aR.out).trans (rG.out.mono oK)) ((hk.below (eJ (blk_lt N2.out))).mono EY))):p:=h
def bw5 (h:p:=by
 refine oQ ?_;go_upto_region 9 with (fail)
 go_ret;exact⟨_,rfl,bX.lits _ (l:=[_,_,_,_,_]) iV.out.size Yl Yl,ae iV.out _⟩):p:=h
def bw6 (h:p:=by
 rintro e w2 ⟨rfl,am⟩;try go_simp
 refine rD λhS=> ?_;clear hK;refine aG ?_;have iV:=aa (ai aT.out hS);refine dY 8 λK hK=> ?_;go_simp;refine sM λhS=> ?_;clear hK;refine aG ?_;refine cb 9 2 ?_;exact bw5):p:=h
def bv5 (h:p:=by
 have HR:=aa (show aD cl 0 8=Ww by simp[aD];omega);go_wp2_with
  (go_at_call 67;refine BS ?_;rintro e w2 ⟨rfl,am⟩;have cz:=aq g_.out am;obtain⟨b0,b1,b2,b3,b4,b5,b6,b7,b8,b9,xD,Kp,Kq,Kr⟩:=jt cz;have n_:=aa am;refine tK λaR=> ?_;clear am cz)
 go_ret;exact⟨cE (by rw[HO.out,HR.out];simp),aR.out⟩):p:=h
def al0 (h:p:=by
 go_wp2_with fail
 go_region
 all_goals
  go_end0
  refine⟨⟨_,rfl⟩,?_,?_⟩
  .repeat' first|with_reducible refine MP ?_ _ _|with_reducible refine MO ?_ |with_reducible exact MN _ _
  .have h:=HP.out;clear HP;unfold eY at h⊢
   rw[nJ] at h;try rw[MQ]
   refine(jN (jN (h) _ _) _ _).trans ?_;exact Qn):p:=h
def PC (h:p:=by exact⟨by repeat' first|with_reducible exact ik|with_reducible refine cF ?_ AX _|with_reducible refine ae ?_ _,rfl⟩):p:=h
def Nh (h:p:=by
 refine gK ?_;go_wp2_with fail
 exact⟨⟨k+1,by omega,by go_num,ai HB.out hS⟩,by simp[WS];omega⟩):p:=h
def af1 (h:p:=by
 cases hs:bL s with
 |some u=>
  have e1:dU [s]=Ws [u]:=by simp[dU,hs]
  rw[e1] at hp;exact⟨hp.1,hg,_,hp.2,by simp[rj],λu' h=>by injection h with h;subst h;rfl⟩
 |none=>
  have e1:dU [s]=none:=by simp[dU,hs]
  rw[e1] at hp;obtain⟨he,cs',h1,h2⟩:=hp;exact⟨he,hg,cs',h1,h2,λu' h=>by cases h⟩):p:=h
def ag7 (h:p:=by
 injection he with e1 e2 e3;subst e1;have hl:l.length=n:=by simpa using e2.symm
 obtain⟨b,o,hA,hb,hc⟩:=h3 (λe=>by have:l=[]:=by simpa using e
                                  subst this;simp at hl;omega)
 exact⟨b,o,hA,hb,λj hj=>hc j _ (by rw[WN];simp[cT,aJ,Wy (show j<l.length by omega)])⟩):p:=h
def bg9 (h:p:=by go_ret;have h1:=Go.Lib.ownsRow_putRow (q:=q) (ys:=ss) HO.out HL.out (ag _);rw[WY (by rw[HL.out];exact ag _)] at h1;exact⟨_,rfl,fS h1 (az1 _ _),(Go.Lib.below_putRow HB.out gL).trans ((az1 _ _).mono (by have:=HB.out.size;simp[Go.Sort.putRow,Go.Sort.mapBlock,Go.Sort.ahead];omega))⟩):p:=h
def ZI (h:p:=by rintro e w' ⟨h1,o,h2,h3⟩;exact⟨h1,kQ.addI bc hB hO pn hX h2 (by rw[g3];exact fm2 (QQ h3 hB) (by rw[(IM _).length_eq,WF])) g2 g1⟩):p:=h
def Rb (h:p:=by
 refine gK ?_;go_wp2_with fail
 exact⟨⟨j+1,by omega,by go_num,rQ.out,aX kH.out⟩,by simp[WS];omega⟩):p:=h
def Sd (h:p:=by
 have HR:=aa (show res=Wz from by rw[jd.out];exact zU λj hj=>gY.out j Yi);go_wp2_with fail
 go_ret;exact⟨by rw[HR.out];rfl,bH.out⟩):p:=h
def bc5 (h:p:=by
 rintro e w6 ⟨rfl,gn4,bM⟩;try go_simp
 refine iZ ?_;clear hK;refine aG ?_;refine gK ?_;go_wp2_with fail
 exact⟨⟨k+1,lS.out,by go_num,gn4.to (by rw[HT.out,HD.out kn rfl,AI.out]),(pw.out.trans ((ai jH.out hS).mono gF)).trans bM⟩,by have:=lS.out;simp[WS];omega⟩):p:=h
def aa1 (h:p:=by rw[List.not_all_eq_any_not,List.any_map];congr 1;funext x;have:Wt ((x:Int)<=1048576)=Wt (x<=1048576):=Ol;simp[this]):p:=h
def bw7 (h:p:=by
 have iV:=aa (ai aT.out hS);refine dY 8 λK hK=> ?_;go_simp;refine sM λhS=> ?_;clear hK;refine aG ?_;refine cb 9 2 ?_;refine oQ ?_;go_upto_region 9 with (fail)
 go_ret;exact⟨_,rfl,bX.lits _ (l:=[_,_,_]) iV.out.size Yl Yl,ae iV.out _⟩):p:=h
def az0 (h:p:=by
 rintro D ys W hD rfl ⟨⟨v,hv,dE,_⟩,hB⟩ hK;have hc:=hv.cell
 gi_wp2
 refine⟨by simp,.inl ⟨_,_,rfl,run_takeDeferred hK,?_⟩⟩;exact⟨_,results_tmp rfl _ _ _,v,rfl,ownsRow_putObj dE _ hK rfl,hB.trans (belowK_b (w:=w) (ag _) W D _ _ (by simp at hD;omega) hK rfl rfl)⟩):p:=h
def Pt (h:p:=by
 rcases Xk b w.heap.size with h|h
 .exact h
 .rw[Array.getElem?_eq_none h] at hU;cases hU):p:=h
def M9 (h:p:=by
 go_wp2_with fail
 go_ret;exact⟨by rw[HE.out];rfl,ai vz.out (aX gW.out)⟩):p:=h
def af0 (h:p:=by
 go_wp2_with fail
 go_ret;have qX:k=n:=Yi;have hl:dU l=Ws vs:=by have:=HV.out;rwa [WY Og] at this
 refine⟨rM.out,?_⟩;rw[hl];refine⟨rfl,?_⟩;have:=jI.out
 rwa [WY (by rw[Gv.out];omega)] at this):p:=h
def bx1 (h:p:=by
 have HR:=aa (BR jd.out ar (by rw[HF.out];rfl));go_wp2_with first
  |(go_at_call 167;refine qy ?_;rintro e w4 ⟨rfl,hw⟩;obtain rfl:=hw.symm;first|rw[dC.out]|rw[fB.out])
 go_ret;exact⟨by rw[HR.out];rfl,ai bH.out aR.out⟩):p:=h
def be6 (h:p:=by
 go_wp2_with fail
 go_quiet (fail)
 go_wp2_with fail
 exact⟨⟨k+1,by omega,by go_num,λq hq=>by
  rcases Xk q k with h|h
  .exact gY.out q h
  .have:q=k:=by omega
   subst this;exact kg.out,BD HB.out _⟩,by simp[WS];omega⟩):p:=h
def FW (h:p:=by
 go_wp2_with fail
 go_ret;exact⟨⟨_,rfl⟩,rfl⟩):p:=h
def ag6 (h:p:=by subst hw;refine⟨_,he,⟨_,_,by rw[WF,b_],by simp[b_],by simp[Xe];omega,λ_=>⟨w.heap.size,0,rfl,by simp,λj u hj=> ?_⟩⟩,b_,(XA _ _).alloc (ag _) _⟩;rw[Xa];simpa using hj):p:=h
def bx3 (h:p:=by
 go_wp2_with fail
 exact⟨⟨k+1,by omega,by go_num,λq hq=>by
  rcases Xk q k with h|h
  .exact gY.out q h
  .have:q=k:=by omega
   subst this;exact kg.out,ai HB.out (ai aR.out kH.out)⟩,by simp[WS];omega⟩):p:=h
def ar9 (h:p:=by
 subst e';rcases h.2 with ⟨rfl,_⟩|⟨g,cap,cur,rfl,_,hg,_⟩
 .simp[Xq] at hk
 .have:g=b:=by simpa[Value.ownBlock] using hk
  subst this;rw[hg] at hb;injection hb with hb;injection hb with _ hb _;exact ht hb.symm):p:=h
def Zl (h:p:=by
 have gR:=ai HQ.out (ai (aX (ae (af wr) _)) fP);go_wp2_with fail
 go_ret;exact⟨by rw[uZ ar HP.out];try rfl,gR⟩):p:=h
def Dj (h:p:=by
 go_wp2_with fail
 go_ret;exact⟨rfl,rfl⟩):p:=h
def ak4 (h:p:=by
 constructor
 .rintro ⟨k,h1,h2⟩;exact⟨k,by omega,h2⟩
 .rintro ⟨k,h1,h2,h3⟩;refine⟨k,?_,h2,h3⟩;rcases Nat.lt_or_ge pos k with h|h
  .omega
  .have:k=pos:=by omega
   subst this;rw[ho] at h3;cases h3):p:=h
def QC (h:p:=by
 rw[e];go_enter func126,ntmps126;go_wp2_with fail
 go_ret;exact⟨rfl,af w⟩):p:=h
def QH (h:p:=by
 go_wp2_with fail
 go_ret;refine⟨yH ?_,af w⟩;rw[WU];simp;try omega):p:=h
def bc0 (h:p:=by
 simp only[aj] at mG;clear hx lJ dx dB;go_wp2_with(go_at_call 62;refine mG.out.m ?_;rintro e w4 ⟨rfl,gn3,aS⟩)
 exact⟨⟨k+1,by omega,by go_num,gn3.to HT.out.symm,jc.out.trans aS⟩,by simp[WS];omega⟩):p:=h
def bc6 (h:p:=by
 rintro e w5 ⟨rfl,U0,bp⟩;try go_simp
 refine iZ ?_;clear hK;refine aG ?_;refine gK ?_;go_wp2_with fail
 go_meet;exact⟨U0.to (by rw[<-DL.out]),(pw.out.trans (hS.mono BC)).trans bp⟩):p:=h
def ak2 (h:p:=by
 split
 .split
  .simp;omega
  .simp
 .split
  .split
   .rename_i hc;simp at hc⊢;omega
   .simp
  .split
   .split
    .rename_i hc;simp at hc⊢;omega
    .simp
   .simp):p:=h
def ay8 (h:p:=by
 rintro e W' ⟨he,⟨ys,rfl,hj⟩|⟨pre,⟨k,hk,rfl⟩,hj⟩⟩
 .exact⟨he,.inl ⟨_,ff8 zs _,hj⟩⟩
 .exact⟨he,.inr ⟨_,by rw[ff9 zs _ hk];exact List.take_prefix _ _,hj⟩⟩):p:=h
def bx2 (h:p:=by
 rw[List.any_eq_false];intro y hy;obtain⟨q,hq⟩:=List.mem_iff_getElem?.1 hy;rw[List.getElem?_take] at hq;split at hq
 .rename_i Vu;rw[Gy.out q y Yi hq];exact Bool.false_ne_true
 .cases hq):p:=h
def Ql (h:p:=by exact⟨λh=>absurd h az,λ⟨k,h1,h2,_⟩=>by omega⟩):p:=h
def ab7 (h:p:=by
 have h1:=dw e he hb;have h0:=(mem_ready.1 hr).1;rw[heq] at h1;rcases Xk i listed.size with h'|h'
 .simp[h'] at h0 h1;rw[h0] at h1;cases h1
 .simp[Array.getElem?_eq_none h'] at h1):p:=h
def ad1 (h:p:=by have:=Lib.run_convert_string_bytes (P:=WH) W 9 66 5 (s.extract 0 n) Xw underlying66 underlying5;rw[this];rw[X1,Nat.min_eq_left fI,Nat.sub_zero]):p:=h
def ab6 (h:p:=by
 refine⟨λh=>(by rw[h] at hr;cases hr),λj hj=> ?_⟩;by_cases pY:j=i
 .subst pY;exact hy.wpOp hi hS ⟨λ_=>hS,H⟩
 .have:=ready_mono hj pY;rw[H.1] at this;cases this):p:=h
def bw1 (h:p:=by
 go_wp2_with fail
 exact⟨⟨j+1,acc,rows,av,by omega,by go_num,qG.out.trans (by rw[yT.out];exact gd1 HX.out),gj3,Gt.out,vT.out,sY.out,xt.out⟩,by simp[WS];omega⟩):p:=h
def Rl (h:p:=by simp only[df,h];rw[WU];simp[and_assoc];try grind):p:=h
def Nj (h:p:=by
 go_wp2_with fail
 go_meet;exact⟨by rw[HZ.out],rfl⟩):p:=h
def ad0 (h:p:=by
 have fQ:k<t.length:=by rw[HL.out];exact hk
 have:=Gh.out _ (List.getElem_mem fQ);rw[WP,Wy fQ];unfold bT at this;simpa using this):p:=h
def aa2 (h:p:=by
 go_wp2_with fail
 all_goals go_ret
 all_goals exact⟨yH (by(try simp[]);(try omega)),rH.out⟩):p:=h
def ay5 (h:p:=by refine⟨⟨k+1,t,by omega,by go_num,?_,DU.out,qE.out,vG.out,lj.out⟩,by simp[WS];omega⟩;rw[vC.out J7.out (by rw[mj.out];rfl),if_pos (of_decide_eq_true oe.out)]):p:=h
def ae2 (h:p:=by refine⟨⟨_,l.length,by simp,by simp,by simp only[Xe];omega,λ_=>⟨W.heap.size,0,rfl,by simp,λj u hj=> ?_⟩⟩,hl⟩;rw[Xa];simpa using hj):p:=h
def Wj (h:p:=by
 rcases dg with dg|dg<;>
 .simp[XX,dg,hm,hx,hv,eG,Result.andThen];exact h4):p:=h
def yp (h:p:=by go_ret;exact⟨rfl,ap⟩):p:=h
def Zm (h:p:=by
 go_wp2_with fail
 go_ret;exact⟨by rw[zU (λj hj=>HA.out j Yi)];rfl,hB⟩):p:=h
def PA (h:p:=by
 have:=Ml (s.extract n s.size) F gy W tG h
 rwa [hq] at this):p:=h
def ab0 (h:p:=by
 rcases h.2 with ⟨np,_⟩|⟨g',cap',_,np,_,_,h1,h2,_⟩
 .rw[hv] at np;cases np
 .rw[hv] at np;injection np with _ _ h3;subst h3;exact⟨h1,h2⟩):p:=h
def MJ (h:p:=by simp[cN,oB,show(0:Int)<i by omega]):p:=h
def an6 (h:p:=by obtain⟨b,o,cs,hA,hb,_,hR,hc⟩:=h.sk.at_ hx;unfold R1 at hR;subst hR;have:=hc 0 _ rfl;rw[Nat.mul_one,WR] at this;exact⟨b,o,hA,hb,this⟩):p:=h
def Wo (h:p:=by go_ret;exact⟨_,rfl,uX hu bI,ai (ae (ae (af w) _) _) ap⟩):p:=h
def ax2 (h:p:=by
 go_wp2_with fail
 go_ret;exact⟨_,rfl,uX (by rw[WY AY] at HO;exact HO.out) aT.out.size,ai aT.out bR.out⟩):p:=h
def al2 (h:p:=by unfold Oper.wp;simp[XX,ho,resolve,invoke,builtin,hs,hx,eG,Result.andThen];exact h v w (by rw[XT];exact bA) (Ya w _)):p:=h
def aw8 (h:p:=by have h:=qm (P:=WH) underlying259 WI co (hM.later (ae (af w2) o)) x.kind Wz (zeroValue257 _);rw[HF.out] at h;exact h):p:=h
def ad4 (h:p:=by rw[rR.out];exact⟨by repeat' first|with_reducible exact tk|with_reducible refine cF ?_ AX _|with_reducible refine ae ?_ _,rfl⟩):p:=h
def RY (h:p:=by unfold aE;rw[<-List.flatten_append,<-Xb,List.take_append_drop]):p:=h
def LX (h:p:=by
 have:=Ml s F bT W hz h
 rwa [hn] at this):p:=h
def ai9 (h:p:=by
 simp only[Xj,Xi,or_false] at hw;rcases hw with rfl|rfl|rfl
 .exact lit _ az
 .exact iS
 .exact MT _):p:=h
def V_ (h:p:=by rw[Array.getD_eq_getD_getElem?,Array.getElem?_setIfInBounds];simp;split<;>simp):p:=h
def Mn (h:p:=by go_ret;exact⟨rfl,ai (ae (af w) _) ap⟩):p:=h
def Wk (h:p:=by unfold Oper.wp;simp[XX,dg,hm,hx,eG,Result.andThen];exact gO _ _ hK):p:=h
def ah4 (h:p:=by exact⟨by repeat' first|with_reducible exact Em|with_reducible refine cF ?_ AX _|with_reducible refine ae ?_ _,rfl⟩):p:=h
def bd5 (h:p:=by
 simp only[Xj,Xi,or_false] at hw;rcases hw with rfl|rfl|rfl
 .exact lit _ az
 .exact iS
 .exact it _):p:=h
def ab8 (h:p:=by rw[WC,WC] at hk;obtain⟨h1,h2,h3,hd⟩:=Ii hk.1 hi;exact Ij _ hi hd hk.2.1 h1 h2 h3 hk.2.2 hQ hy hS h):p:=h
def aa8 (h:p:=by rw[WC,WC] at hk;obtain⟨h1,h2,h3,hd⟩:=Ii hk.1 hi;exact do8 _ hi hd hk.2.1 h1 h2 h3 hk.2.2 hQ hy hS h):p:=h
def RN (h:p:=by simp only[df,qg,h];rw[WU];simp[and_assoc];try grind):p:=h
def ae8 (h:p:=by rw[XN (rM.out.block bu lH (by intro e;injection e with e;exact bj9.out e))];exact HU.out k (by rw[Gv.out];exact ar)):p:=h
def aw7 (h:p:=by have h:=qm (P:=WH) underlying259 WI co hM x.kind Wz (zeroValue257 _);rw[HF.out] at h;exact h):p:=h
def ac1 (h:p:=by
 rcases Xk w.heap.size wr.heap.size with h|h
 .exact h
 .have:=jI.out;rw[Array.getElem?_eq_none h] at this;cases this):p:=h
def ab5 (h:p:=by have:=List.all_eq_true.1 h j (List.mem_range.2 hj);have hd:Wt (j<N)=false:=decide_eq_false Yi;simpa[hd] using this):p:=h
def aj2 (h:p:=by refine⟨?_,IU hv,aK.zero,by simp[aJ],by show aK _;exact⟨by simp,by simp⟩⟩;simp[cb9,e1,h3,np,nB]):p:=h
def av8 (h:p:=by exact rC (Qh hT _ (λi=> .inl cA) x.on 0 (.inr λi=>by rfl) h3) (by simpa[jV] using h6) Yl):p:=h
def PU (h:p:=by
 go_wp2_with fail
 go_ret;exact⟨by rw[af9 (λj hj=>HA.out j Yi)];rfl,hB⟩):p:=h
def YA (h:p:=by
 go_wp2_with fail
 go_loopw [8] (λi wr=> ∃k:Nat,k<=n/\i=WK Xr k/\(∀j,j<k->P j=Ww)/\Below w w wr) (λi _=>n - (WS i).toNat)
 case atStart=>exact⟨0,bU _,rfl,by omega,af w⟩
 case round=>
  obtain⟨k,hk,rfl,dw,hB⟩:=hrel;have HA:=aa dw;clear dw;by_cases ar:k<n
  .refine LR λdz bJ=> ?_;obtain⟨x,hx⟩: ∃x,xs[k]? =Ws x:=⟨_,Wy we⟩;obtain⟨b,o,cs,rfl,gP,eF,hr,bk⟩:=(H.out.to hR hB (ag _) hB.size).at_ hx;have Bg:=HG.out k x cs wr hx hB hr eF;obtain⟨u0,u1,u2,rfl⟩:=dp1 eF;refine Dd λh0 h1 h2=> ?_;simp only[WR] at h0;exact PT
  .exact PU):p:=h
def Yx (h:p:=by
 go_wp2_with fail
 go_loopw [8] (λi wr=> ∃k:Nat,k<=n/\i=WK Xr k/\(∀j,j<k->P j=Ww)/\Below w w wr) (λi _=>n - (WS i).toNat)
 case atStart=>exact⟨0,bU _,rfl,by omega,af w⟩
 case round=>
  obtain⟨k,hk,rfl,dw,hB⟩:=hrel;have HA:=aa dw;clear dw;by_cases ar:k<n
  .refine LR λdz bJ=> ?_;obtain⟨x,hx⟩: ∃x,xs[k]? =Ws x:=⟨_,Wy we⟩;obtain⟨b,o,cs,rfl,gP,eF,hr,bk⟩:=(H.out.to hR hB (ag _) hB.size).at_ hx;have Bg:=HG.out k x cs wr hx hB hr eF;obtain⟨u0,rfl⟩:=dk8 eF;have h0:=bk 0 _ rfl;simp only[Nat.mul_one,WR] at h0;exact PT
  .exact PU):p:=h
def ag1 (h:p:=by
 go_wp2_with fail
 go_loopw [8] (λi wr=> ∃k:Nat,k<=n/\i=WK Xr k/\(∀j,j<k->P j=Ww)/\Below w w wr) (λi _=>n - (WS i).toNat)
 case atStart=>exact⟨0,bU _,rfl,by omega,af w⟩
 case round=>
  obtain⟨k,hk,rfl,dw,hB⟩:=hrel;have HA:=aa dw;clear dw;by_cases ar:k<n
  .refine LR λdz bJ=> ?_;obtain⟨x,hx⟩: ∃x,xs[k]? =Ws x:=⟨_,Wy we⟩;obtain⟨b,o,cs,rfl,gP,eF,hr,bk⟩:=(H.out.to hR hB (ag _) hB.size).at_ hx;have Bg:=HG.out k x cs wr hx hB hr eF;obtain⟨u0,u1,u2,u3,u4,u5,u6,rfl⟩:=dk9 eF;refine Dd λh0 h1 h2=> ?_;have h3:=bk 3 _ rfl;have h4:=bk 4 _ rfl;have h5:=bk 5 _ rfl;have h6:=bk 6 _ rfl;simp only[WR] at h0;exact PT
  .exact PU):p:=h
def ak1 (h:p:=by
 simp only[aj];go_enter func121,ntmps121;go_wp2_with(go_at_call 39;refine(HN.out _ (HP.out.later (ae (af w) _))).m ?_;rintro e w1 ⟨rfl,ap⟩;have oG:=aq (aq H1.out (ae (af w) _)) ap;refine Fp λp1 ye=> ?_;have DE:=aa (aq (bQ w _) ap);have bf:=aa (ai (ae (af w) _) ap);clear oG ap)
 exact ak0):p:=h
def ak8 (h:p:=by
 go_wp2_with fail
 all_goals
  go_end0
  refine⟨⟨_,rfl⟩,?_,?_⟩
  .repeat' first|with_reducible refine MP ?_ _ _|with_reducible refine MO ?_ |with_reducible exact MN _ _
  .have h:=HP.out;clear HP;unfold eY at h⊢
   rw[nJ] at h;try rw[MQ]
   refine(jN (h) _ _).trans ?_;exact Qn):p:=h
def bv6 (h:p:=by
 refine ie 29 78 ?_;refine ie 30 79 ?_;refine ie 31 80 ?_;refine bF 28 λK hK=> ?_;go_simp;refine(Jq.out _ (ai bH.out hS)).m ?_;rintro e w4 ⟨rfl,aS⟩;try go_simp
 refine BQ λhS=> ?_;clear hK;refine aG ?_;iterate 2 refine cI 34 49 ?_
 exact Jd):p:=h
def bv7 (h:p:=by
 refine ie 29 78 ?_;refine ie 30 79 ?_;refine ie 31 80 ?_;refine bF 28 λK hK=> ?_;go_simp;refine(Jq.out _ (ai bH.out hS)).m ?_;rintro e w4 ⟨rfl,aS⟩;try go_simp
 refine BQ λhS=> ?_;clear hK;refine aG ?_;iterate 2 refine cI 34 49 ?_
 exact RP):p:=h
def be5 (h:p:=by
 have hF:F k=false:=by rw[HF.out];unfold fV;rw[oO.out,q4];simp
 have q5:(z.site==m.dark)=true:=by rw[q4];simp
 clear q1 q2 q4 k0;exact Q6):p:=h
def bq3 (h:p:=by
 have HR:=aa (show r=false by rw[vP.out];have:aD cl 0 8=false:=by simp[aD];omega
                              rw[this];rfl)
 exact ZP):p:=h
end Go.Proofs.YtklfdkdebgfmiaaGreatDoor
