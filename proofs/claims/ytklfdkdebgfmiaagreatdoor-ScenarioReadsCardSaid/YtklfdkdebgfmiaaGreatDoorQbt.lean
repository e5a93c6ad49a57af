/- A part of the proof. -/
import Derived.Test.YtklfdkdebgfmiaaGreatDoorQbp
set_option linter.defProp false
set_option linter.unusedVariables false
set_option linter.unusedSimpArgs false
set_option maxRecDepth 100000
set_option maxHeartbeats 32000000
open Option renaming none->Wr,some->Ws
open Decidable renaming decide->Wt
open Go renaming World->Wu,Value->Wv,Calls->WJ,TypeId->WQ,Oper->XH
open Bool renaming false->Ww,true->Wz
open Go.RowKit renaming Hid->WA
open Go.Lib renaming itoa->WB
open Go.Proofs renaming intOf->WS
open And renaming intro->WE
open Go.Proofs.Tryz renaming prog->WH
open Go.Value renaming int->WK,string->WM,slice->Yb,bool->Yc,agg->Ye
open Go.IntKind renaming i64->Xr
open Go.Region renaming Mode->X6
open Go.Obj renaming cells->Yd
namespace Go.Proofs.YtklfdkdebgfmiaaGreatDoor
section
open Go Go.RowKit Go.MapKept Go.Proofs.Tryz
def fy4 {d:au} (g:bx d=Wz) {k:Nat} (c:d.kind=k) (j:k<=16):(Aa k).least<=d.refs.length/\d.refs.length<=(Aa k).most/\d.nums.length=(Aa k).nums/\QG k d.by_=true:=by have h:=(Rd g).2.2.2;rw[Z4 d k j c] at h;simp only[WC,decide_eq_true_eq] at h;exact⟨h.1,h.2.1,h.2.2.1,h.2.2.2.1⟩
def o9 {d:au} {i:Nat} {a:ak} (h:d.refs[i]? =Ws a):iw d i=a:=by unfold iw;rw[WP,h];rfl
def jP {d:au} {i n:Nat} (h:d.nums[i]? =Ws n):rp d i=WB (n:Nat):=by unfold rp;rw[WP,h];rfl
def fy5 (d:au) (rv nv:Wv) (w:Wu) (A:fD w) (X:bG w w rv d.refs) (V:aW w w nv (d.nums.map λx:Nat=>(x:Int))) (z:bx d=Wz):
 aQ 61 #[Ye #[d.kind,bs d.name,rv,nv,d.by_,Yc d.always]] w (WM (bs (cU d))):=by
 have g:=j'.of A.g X V z;obtain⟨hL,hx⟩:=fy3 z;have Y:=(oU z).1;obtain⟨k,eV⟩: ∃k,d.kind=k:=⟨_,rfl⟩;have D: ∀pb,yG pb d.kind=Ws (nL pb k):=λpb=>by rw[eV];exact bb0 pb Yi
 obtain⟨f1,f2,f3,f4⟩:=fy4 z eV Yi;have J: ∀i,i<d.refs.length->∃a,d.refs[i]? =Ws a:=λi h=>⟨_,Wy h⟩;have G: ∀i,i<d.nums.length->∃a,d.nums[i]? =Ws a:=λi h=>⟨_,Wy h⟩;rcases vJ (show k<=16 by omega) with rfl|rfl|rfl|rfl|rfl|rfl|rfl|rfl|rfl|rfl|rfl|rfl|rfl|rfl|rfl|rfl|rfl<;>simp only[Aa] at f1 f2 f3
 .skip
  have ew:ci d=[d.name]:=Kf;have y: ∀(pb:Nat) (W:Wu),Below w w W->W.heap[pb]? =Ws (Yd #[.func (.func 240) #[] #[]] 210 (0,0))->WJ WH 239 #[Ye #[d.kind,bs d.name,rv,nv,d.by_,Yc d.always]] W (fw W ((ci d).map bs)):=λpb W j C=>by rw[ew];exact bw4 (g.later j)
  rw[show cU d=jB++[32]++dr [32] (ci d)++[59] from by unfold cU;rw[eV];rfl];exact qe d rv nv w A g z (ci d) jB 239 238 0 0 0 Wz Ww (λpb=> #[]) (λpb=> #[Ye #[d.kind,bs d.name,rv,nv,d.by_,Yc d.always]]) (WD func239 aC rfl) D az hL hx y (λpb=>by simp)
 .skip
  have ew:ci d=[d.name]:=Kf;have y: ∀(pb:Nat) (W:Wu),Below w w W->W.heap[pb]? =Ws (Yd #[.func (.func 240) #[] #[]] 210 (0,0))->WJ WH 239 #[Ye #[d.kind,bs d.name,rv,nv,d.by_,Yc d.always]] W (fw W ((ci d).map bs)):=λpb W j C=>by rw[ew];exact bw4 (g.later j)
  rw[show cU d=fq++[32]++dr [32] (ci d)++[59] from by unfold cU;rw[eV];rfl];exact qe d rv nv w A g z (ci d) fq 239 238 0 0 0 Wz Ww (λpb=> #[]) (λpb=> #[Ye #[d.kind,bs d.name,rv,nv,d.by_,Yc d.always]]) (WD func239 aC rfl) D az hL hx y (λpb=>by simp)
 .obtain⟨a,ha⟩:=J 0 (by omega);obtain⟨b,hb⟩:=J 1 (by omega);have ew:ci d=[d.name,nD,a,el,b]:=by first|(simp only[ci,eV,o9 ha,o9 hb];done)|(simp only[ci,eV,o9 ha,o9 hb];rfl)
  have y: ∀(pb:Nat) (W:Wu),Below w w W->W.heap[pb]? =Ws (Yd #[.func (.func 240) #[] #[]] 210 (0,0))->WJ WH 243 #[Ye #[d.kind,bs d.name,rv,nv,d.by_,Yc d.always]] W (fw W ((ci d).map bs)):=λpb W j C=>by rw[ew];exact fq1 (g.later j) a b ha hb
  rw[show cU d=fe++[32]++dr [32] (ci d)++[59] from by unfold cU;rw[eV];rfl];exact qe d rv nv w A g z (ci d) fe 243 238 2 2 0 Wz Ww (λpb=> #[]) (λpb=> #[Ye #[d.kind,bs d.name,rv,nv,d.by_,Yc d.always]]) (WD func243 aC rfl) D az hL hx y (λpb=>by simp)
 .obtain⟨a,ha⟩:=J 0 (by omega);obtain⟨F,h0⟩:=G 0 (by omega);have ew:ci d=[d.name,nD,a,yN,Lib.itoa (F:Nat)]:=by first|(simp only[ci,eV,o9 ha,jP h0];done)|(simp only[ci,eV,o9 ha,jP h0];rfl)
  have y: ∀(pb:Nat) (W:Wu),Below w w W->W.heap[pb]? =Ws (Yd #[.func (.func 240) #[] #[]] 210 (0,0))->WJ WH 244 #[Ye #[d.kind,bs d.name,rv,nv,d.by_,Yc d.always]] W (fw W ((ci d).map bs)):=λpb W j C=>by rw[ew];exact fq2 (g.later j) a ha F h0
  rw[show cU d=mT++[32]++dr [32] (ci d)++[59] from by unfold cU;rw[eV];rfl];exact qe d rv nv w A g z (ci d) mT 244 238 1 1 1 Wz Ww (λpb=> #[]) (λpb=> #[Ye #[d.kind,bs d.name,rv,nv,d.by_,Yc d.always]]) (WD func244 aC rfl) D az hL hx y (λpb=>by simp)
 .skip
  refine Re λew=> ?_;have y: ∀(pb:Nat) (W:Wu),Below w w W->W.heap[pb]? =Ws (Yd #[.func (.func 240) #[] #[]] 210 (0,0))->WJ WH 240 #[Ye #[d.kind,bs d.name,rv,nv,d.by_,Yc d.always]] W (fw W ((ci d).map bs)):=λpb W j C=>by rw[ew];exact Ng (g.later j)
  rw[show cU d=PK++[32]++dr [32] (ci d)++[59] from by unfold cU;rw[eV];rfl];exact qe d rv nv w A g z (ci d) PK 240 238 2 2 1 Ww Ww (λpb=> #[]) (λpb=> #[Ye #[d.kind,bs d.name,rv,nv,d.by_,Yc d.always]]) (WD func240 aC rfl) D az hL hx y (λpb=>by simp)
 .obtain⟨F,h0⟩:=G 0 (by omega);obtain⟨I,h1⟩:=G 1 (by omega);obtain⟨O,h2⟩:=G 2 (by omega);have ew:ci d=[d.name,el,fZ d.refs]++[ka,Lib.itoa (F:Nat),jY,Lib.itoa (I:Nat),jX,Lib.itoa (O:Nat)]:=by first|(simp only[ci,eV,tT,Nat.zero_add,Nat.reduceAdd,jP h0,jP h1,jP h2];done)|(simp only[ci,eV,tT,Nat.zero_add,Nat.reduceAdd,jP h0,jP h1,jP h2];rfl)
  have y: ∀(pb:Nat) (W:Wu),Below w w W->W.heap[pb]? =Ws (Yd #[.func (.func 240) #[] #[]] 210 (0,0))->WJ WH 245 #[Ye #[d.kind,bs d.name,rv,nv,d.by_,Yc d.always]] W (fw W ((ci d).map bs)):=λpb W j C=>by rw[ew];exact fn4 (g.later j) F I O h0 h1 h2
  rw[show cU d=Pr++[32]++dr [32] (ci d)++[59] from by unfold cU;rw[eV];rfl];exact qe d rv nv w A g z (ci d) Pr 245 238 1 16 3 Wz Ww (λpb=> #[]) (λpb=> #[Ye #[d.kind,bs d.name,rv,nv,d.by_,Yc d.always]]) (WD func245 aC rfl) D az hL hx y (λpb=>by simp)
 .obtain⟨c,hc⟩:=G 0 (by omega);obtain⟨F,h0⟩:=G 1 (by omega);obtain⟨I,h1⟩:=G 2 (by omega);obtain⟨O,h2⟩:=G 3 (by omega);have ew:ci d=[d.name,Lib.itoa (c:Nat),el,fZ d.refs]++[ka,Lib.itoa (F:Nat),jY,Lib.itoa (I:Nat),jX,Lib.itoa (O:Nat)]:=by first|(simp only[ci,eV,tT,Nat.zero_add,Nat.reduceAdd,jP hc,jP h0,jP h1,jP h2];done)|(simp only[ci,eV,tT,Nat.zero_add,Nat.reduceAdd,jP hc,jP h0,jP h1,jP h2];rfl)
  have y: ∀(pb:Nat) (W:Wu),Below w w W->W.heap[pb]? =Ws (Yd #[.func (.func 240) #[] #[]] 210 (0,0))->WJ WH 248 #[Ye #[d.kind,bs d.name,rv,nv,d.by_,Yc d.always]] W (fw W ((ci d).map bs)):=λpb W j C=>by rw[ew];exact fn5 (g.later j) c hc F I O h0 h1 h2
  rw[show cU d=PN++[32]++dr [32] (ci d)++[59] from by unfold cU;rw[eV];rfl];exact qe d rv nv w A g z (ci d) PN 248 238 1 16 4 Wz Ww (λpb=> #[]) (λpb=> #[Ye #[d.kind,bs d.name,rv,nv,d.by_,Yc d.always]]) (WD func248 aC rfl) D az hL hx y (λpb=>by simp)
 .obtain⟨a,ha⟩:=J 0 (by omega);obtain⟨F,h0⟩:=G 0 (by omega);obtain⟨I,h1⟩:=G 1 (by omega);obtain⟨O,h2⟩:=G 2 (by omega);have ew:ci d=[d.name,el,a]++[ka,Lib.itoa (F:Nat),jY,Lib.itoa (I:Nat),jX,Lib.itoa (O:Nat)]:=by first|(simp only[ci,eV,tT,Nat.zero_add,Nat.reduceAdd,o9 ha,jP h0,jP h1,jP h2];done)|(simp only[ci,eV,tT,Nat.zero_add,Nat.reduceAdd,o9 ha,jP h0,jP h1,jP h2];rfl)
  have y: ∀(pb:Nat) (W:Wu),Below w w W->W.heap[pb]? =Ws (Yd #[.func (.func 240) #[] #[]] 210 (0,0))->WJ WH 249 #[Ye #[d.kind,bs d.name,rv,nv,d.by_,Yc d.always]] W (fw W ((ci d).map bs)):=λpb W j C=>by rw[ew];exact fn3 (g.later j) a ha F I O h0 h1 h2
  rw[show cU d=PI++[32]++dr [32] (ci d)++[59] from by unfold cU;rw[eV];rfl];exact qe d rv nv w A g z (ci d) PI 249 238 1 1 3 Wz Ww (λpb=> #[]) (λpb=> #[Ye #[d.kind,bs d.name,rv,nv,d.by_,Yc d.always]]) (WD func249 aC rfl) D az hL hx y (λpb=>by simp)
 .obtain⟨a,ha⟩:=J 0 (by omega);obtain⟨F,h0⟩:=G 0 (by omega);obtain⟨I,h1⟩:=G 1 (by omega);have ew:ci d=[a,yn,Lib.itoa (F:Nat),ym,Lib.itoa (I:Nat)]:=by first|(simp only[ci,eV,o9 ha,jP h0,jP h1];done)|(simp only[ci,eV,o9 ha,jP h0,jP h1];rfl)
  have y: ∀(pb:Nat) (W:Wu),Below w w W->W.heap[pb]? =Ws (Yd #[.func (.func 240) #[] #[]] 210 (0,0))->WJ WH 250 #[Ye #[d.kind,bs d.name,rv,nv,d.by_,Yc d.always]] W (fw W ((ci d).map bs)):=λpb W j C=>by rw[ew];exact fq3 (g.later j) a ha F I h0 h1
  rw[show cU d=Po++[32]++dr [32] (ci d)++[59] from by unfold cU;rw[eV];rfl];exact qe d rv nv w A g z (ci d) Po 250 238 1 1 2 Ww Ww (λpb=> #[]) (λpb=> #[Ye #[d.kind,bs d.name,rv,nv,d.by_,Yc d.always]]) (WD func250 aC rfl) D az hL hx y (λpb=>by simp)
 .have U:d.by_<=7:=by simp[QG] at f4;omega
  have ew:ci d=[BX d.by_]:=Kf;have y: ∀(pb:Nat) (W:Wu),Below w w W->W.heap[pb]? =Ws (Yd #[.func (.func 240) #[] #[]] 210 (0,0))->WJ WH 252 #[Ye #[d.kind,bs d.name,rv,nv,d.by_,Yc d.always]] W (fw W ((ci d).map bs)):=λpb W j C=>by rw[ew];exact fx9 (g.later j) U
  rw[show cU d=Pq++[32]++dr [32] (ci d)++[59] from by unfold cU;rw[eV];rfl];exact qe d rv nv w A g z (ci d) Pq 252 251 0 0 0 Ww Ww (λpb=> #[]) (λpb=> #[Ye #[d.kind,bs d.name,rv,nv,d.by_,Yc d.always]]) (WD func252 aC rfl) D az hL hx y (λpb=>by simp)
 .skip
  refine Re λew=> ?_;have y: ∀(pb:Nat) (W:Wu),Below w w W->W.heap[pb]? =Ws (Yd #[.func (.func 240) #[] #[]] 210 (0,0))->WJ WH 240 #[Ye #[d.kind,bs d.name,rv,nv,d.by_,Yc d.always]] W (fw W ((ci d).map bs)):=λpb W j C=>by rw[ew];exact Ng (g.later j)
  rw[show cU d=PO++[32]++dr [32] (ci d)++[59] from by unfold cU;rw[eV];rfl];exact qe d rv nv w A g z (ci d) PO 240 238 1 1 0 Ww Ww (λpb=> #[]) (λpb=> #[Ye #[d.kind,bs d.name,rv,nv,d.by_,Yc d.always]]) (WD func240 aC rfl) D az hL hx y (λpb=>by simp)
 .skip
  have ew:ci d=if d.always then kK d++[iD] else kK d:=Kf
  have y: ∀(pb:Nat) (W:Wu),Below w w W->W.heap[pb]? =Ws (Yd #[.func (.func 240) #[] #[]] 210 (0,0))->WJ WH 254 #[Ye #[d.kind,bs d.name,rv,nv,d.by_,Yc d.always],aj pb] W (fw W ((ci d).map bs)):=λpb W j C=>by rw[ew];exact fy1 (g.later j) pb (ah C rfl)
  rw[show cU d=PJ++[32]++dr [32] (ci d)++[59] from by unfold cU;rw[eV];rfl];exact qe d rv nv w A g z (ci d) PJ 254 238 1 1 1 Ww Wz (λpb=> #[aj pb]) (λpb=> #[Ye #[d.kind,bs d.name,rv,nv,d.by_,Yc d.always],aj pb]) (WD func254 aC rfl) D az hL hx y (λpb=>by simp)
 .obtain⟨a,ha⟩:=J 0 (by omega);obtain⟨F,h0⟩:=G 0 (by omega);have ew:ci d=[a,yM,BM d.by_,Lib.itoa (F:Nat)]:=by first|(simp only[ci,eV,o9 ha,jP h0];done)|(simp only[ci,eV,o9 ha,jP h0];rfl)
  have y: ∀(pb:Nat) (W:Wu),Below w w W->W.heap[pb]? =Ws (Yd #[.func (.func 240) #[] #[]] 210 (0,0))->WJ WH 257 #[Ye #[d.kind,bs d.name,rv,nv,d.by_,Yc d.always]] W (fw W ((ci d).map bs)):=λpb W j C=>by rw[ew];exact fn2 (g.later j) a ha F h0
  rw[show cU d=PQ++[32]++dr [32] (ci d)++[59] from by unfold cU;rw[eV];rfl];exact qe d rv nv w A g z (ci d) PQ 257 255 1 1 1 Ww Ww (λpb=> #[]) (λpb=> #[Ye #[d.kind,bs d.name,rv,nv,d.by_,Yc d.always]]) (WD func257 aC rfl) D az hL hx y (λpb=>by simp)
 .obtain⟨a,ha⟩:=J 0 (by omega);have ew:ci d=[a,el,fZ d.refs.tail]:=by first|(simp only[ci,eV,o9 ha,List.drop_one];done)|(simp only[ci,eV,o9 ha,List.drop_one];rfl)
  have y: ∀(pb:Nat) (W:Wu),Below w w W->W.heap[pb]? =Ws (Yd #[.func (.func 240) #[] #[]] 210 (0,0))->WJ WH 258 #[Ye #[d.kind,bs d.name,rv,nv,d.by_,Yc d.always]] W (fw W ((ci d).map bs)):=λpb W j C=>by rw[ew];exact fy2 (g.later j) a ha Yi
  rw[show cU d=PL++[32]++dr [32] (ci d)++[59] from by unfold cU;rw[eV];rfl];exact qe d rv nv w A g z (ci d) PL 258 238 2 17 0 Ww Ww (λpb=> #[]) (λpb=> #[Ye #[d.kind,bs d.name,rv,nv,d.by_,Yc d.always]]) (WD func258 aC rfl) D az hL hx y (λpb=>by simp)
 .obtain⟨a,ha⟩:=J 0 (by omega);obtain⟨b,hb⟩:=J 1 (by omega);have ew:ci d=[a,yL,b]:=by first|(simp only[ci,eV,o9 ha,o9 hb];done)|(simp only[ci,eV,o9 ha,o9 hb];rfl)
  have y: ∀(pb:Nat) (W:Wu),Below w w W->W.heap[pb]? =Ws (Yd #[.func (.func 240) #[] #[]] 210 (0,0))->WJ WH 259 #[Ye #[d.kind,bs d.name,rv,nv,d.by_,Yc d.always]] W (fw W ((ci d).map bs)):=λpb W j C=>by rw[ew];exact fq4 (g.later j) a b ha hb
  rw[show cU d=PM++[32]++dr [32] (ci d)++[59] from by unfold cU;rw[eV];rfl];exact qe d rv nv w A g z (ci d) PM 259 238 2 2 0 Ww Ww (λpb=> #[]) (λpb=> #[Ye #[d.kind,bs d.name,rv,nv,d.by_,Yc d.always]]) (WD func259 aC rfl) D az hL hx y (λpb=>by simp)
 .skip
  refine Re λew=> ?_;have y: ∀(pb:Nat) (W:Wu),Below w w W->W.heap[pb]? =Ws (Yd #[.func (.func 240) #[] #[]] 210 (0,0))->WJ WH 240 #[Ye #[d.kind,bs d.name,rv,nv,d.by_,Yc d.always]] W (fw W ((ci d).map bs)):=λpb W j C=>by rw[ew];exact Ng (g.later j)
  rw[show cU d=Pp++[32]++dr [32] (ci d)++[59] from by unfold cU;rw[eV];rfl];exact qe d rv nv w A g z (ci d) Pp 240 238 0 0 1 Ww Ww (λpb=> #[]) (λpb=> #[Ye #[d.kind,bs d.name,rv,nv,d.by_,Yc d.always]]) (WD func240 aC rfl) D az hL hx y (λpb=>by simp)
 .skip
  refine Re λew=> ?_;have y: ∀(pb:Nat) (W:Wu),Below w w W->W.heap[pb]? =Ws (Yd #[.func (.func 240) #[] #[]] 210 (0,0))->WJ WH 240 #[Ye #[d.kind,bs d.name,rv,nv,d.by_,Yc d.always]] W (fw W ((ci d).map bs)):=λpb W j C=>by rw[ew];exact Ng (g.later j)
  rw[show cU d=PP++[32]++dr [32] (ci d)++[59] from by unfold cU;rw[eV];rfl];exact qe d rv nv w A g z (ci d) PP 240 238 1 1 1 Ww Ww (λpb=> #[]) (λpb=> #[Ye #[d.kind,bs d.name,rv,nv,d.by_,Yc d.always]]) (WD func240 aC rfl) D az hL hx y (λpb=>by simp)
def Rh {P:Program} {ops:Array XH} {Q:Exit->Act->Wu->Prop} {md:X6} {S:Wu->Prop} {fuel:Nat} {listed:Array Bool} {a:Act} {w:Wu} (F:Wu->Prop) (c:F w) (h: ∀W,F W->wpAnyH P md ops Q S fuel listed a W):wpAnyH P md ops Q S fuel listed a w:=h w c
section
variable {W:Wu} {b:Nat} {T:WQ} {u0 u1 u2 u3 u4 u5 u6:Wv}
def Ri (D:W.heap[b]? =Ws (Yd #[u0,u1,u2,u3,u4,u5,u6] T (0,0))) (c g j y z A C:Wv):
 (((((((W.setCell b c).setCell (b 1 Wr) g).setCell (b 2 Wr) j).setCell (b 3 Wr) y).setCell (b 4 Wr) z).setCell (b 5 Wr) A).setCell (b 6 Wr) C).heap[b]? =Ws (Yd #[c,g,j,y,z,A,C] T (0,0)):=
 (aZ (aZ (aZ (aZ (aZ (aZ (aZ D 0 c) 1 g) 2 j) 3 y) 4 z) 5 A) 6 C).trans aC
def Rj {c:Nat} {o:Obj} (h:W.heap[c]? =Ws o) (g: ¬c=b) (j y z A C D F:Wv):
 (((((((W.setCell b j).setCell (b 1 Wr) y).setCell (b 2 Wr) z).setCell (b 3 Wr) A).setCell (b 4 Wr) C).setCell (b 5 Wr) D).setCell (b 6 Wr) F).heap[c]? =Ws o:=
 lY (lY (lY (lY (lY (lY (lY h g) g) g) g) g) g) g
def Rk {w:Wu} (h:Below w w W) (c:w.heap.size<=b) (g j y z A C D:Wv):
 Below w w (((((((W.setCell b g).setCell (b 1 Wr) j).setCell (b 2 Wr) y).setCell (b 3 Wr) z).setCell (b 4 Wr) A).setCell (b 5 Wr) C).setCell (b 6 Wr) D):=
 cF (cF (cF (cF (cF (cF (cF h c g) c j) c y) c z) c A) c C) c D
end
def bu6 (y z:Wv) (l:List ak) (w:Wu) (g:bG w w y l) (j:bG w w z l):
 aQ 58 #[y,z] w (Yc Wz):=by
 obtain⟨A1,n,c1,rfl,hZ,bt,_⟩:=cD.form g;obtain⟨A2,n2,c2,rfl,kX,cR,_⟩:=cD.form j;obtain rfl:n=n2:=Yi;rw[WF] at hZ;have A:=aa g;have C:=aa j;have HN:=aa hZ;clear g j hZ kX;have J:((n:Int)!=(n:Int))=false:=Yl;go_enter func58,ntmps58;go_wp2_with fail
 go_loopw [5] (λi wr=> ∃k:Nat,k<=n/\i=WK Xr k/\Below w w wr) (λi _=>n - (WS i).toNat)
 case atStart=>exact⟨0,bU _,rfl,af w⟩
 case round=>
  obtain⟨k,hk,rfl,hB⟩:=hrel;have c:=aa hB;clear hB;by_cases ar:k<n
  .have I:(0:Int)<=k:=by omega
   have D:(k:Int)<n:=Yi;obtain⟨x,hx⟩: ∃x,l[k]? =Ws x:=⟨_,Wy lU⟩;obtain⟨b1,p1,rfl,ap,bt⟩:=bG.cell A.out hx;obtain⟨b2,p2,rfl,am,cR⟩:=bG.cell C.out hx;have F:=(c.out.cell (p:=⟨b1,p1+k,Wr⟩) ap).trans bt;have G:=(c.out.cell (p:=⟨b2,p2+k,Wr⟩) am).trans cR;have O:((bs x).toList !=(bs x).toList)=false:=Yl;have U:((bs x).toList==(bs x).toList)=true:=Yl;clear hx bt cR;go_upto_region 6 with (fail)
   refine fC (S:=λw'=>w'.cell? ⟨b1,p1+k,Wr⟩=Ws (WM (bs x))/\w'.cell? ⟨b2,p2+k,Wr⟩=Ws (WM (bs x))/\Below wr wr w') 9 9 (by exact⟨F,G,aX (af wr)⟩) λhS=> ?_;iterate 9 refine cI 9 17 ?_
   refine gK ?_;go_wp2_with fail
   exact⟨⟨k+1,by omega,by go_num,ai c.out hS.2.2⟩,by simp[WS];omega⟩
  .have D: ¬(k:Int)<n:=by omega
   go_wp2_with fail
   go_ret;exact⟨rfl,c.out⟩
def fv2 (x:cC) (F G:Wv) (w:Wu) (g:aW w w F x.ms) (j:aW w w G x.ms):
 aQ 59 #[Ye (x.vals F),Ye (x.vals G)] w (Yc Wz):=by
 obtain⟨A1,n1,c1,rfl,hZ,bt,_⟩:=g.form;obtain⟨A2,n2,c2,rfl,kX,cR,_⟩:=j.form;have U:=aa (show ∀W,Below w w W->aQ 23 #[Yb A1 n1 c1,Yb A2 n2 c2] W (Yc Wz) from λW c=>(LQ _ _ x.ms x.ms W W.heap.size ((g.below c (ag _)).more c.size) ((j.below c (ag _)).more c.size)).mono λe w' ⟨O,J⟩=>⟨by rw[O];exact cE Yl,J⟩);rw[cC.vals_def,cC.vals_def];clear g j hZ kX;go_enter func59,ntmps59;go_upto_region 1 with (fail)
 refine cP (λW=>Below w w W/\W.heap[w.heap.size]? =Ws (Yd #[x.kind,x.item,x.other,x.n,x.by_,Yc x.always,Yb A1 n1 c1] 119 (0,0))/\W.heap[w.heap.size+1]? =Ws (Yd #[x.kind,x.item,x.other,x.n,x.by_,Yc x.always,Yb A2 n2 c2] 119 (0,0))) ⟨ae (ae (af w) _) _,aq (bQ w _) (ae (af _) _),FN w _ _⟩ ?_;intro V ⟨z,D,C⟩;have y:=aa z;obtain⟨a0,a1,a2,a3,a4,a5,a6⟩:=iA D;obtain⟨b0,b1,b2,b3,b4,b5,b6⟩:=iA C;clear z D C;go_wp2_with
  (go_at_call 23;refine(U.out _ y.out).m ?_;rintro e X ⟨rfl,A⟩;have I:=aa (ai y.out A);clear A)
 go_ret;exact⟨rfl,I.out⟩
def fv3 (m:aM) (v1 v2:MV) (w:Wu) (F:m.In w w v1) (G:m.In w w v2):
 aQ 22 #[Ye (m.cells v1),Ye (m.cells v2)] w (Yc Wz):=by
 obtain⟨⟨S1,s1,dh,_,_⟩,⟨F1,f1,cr,_,_⟩,⟨R1,r1,cM,hh6,hh7⟩,⟨M1,m1,J,Vb,hg3⟩,⟨L1,l1,dt,O2,hf0⟩,⟨I1,i1,ed,he3,he5⟩,⟨U1,u1,dP,hl2,wG⟩⟩:=F.cells;have AO:=aa (show m.cells v1= #[Yb S1 m.sites.length s1,Yb F1 m.feeds.length f1,Yb R1 m.racks.length r1,Yb M1 m.machs.length m1,Yb L1 m.links.length l1,Yb I1 m.items.length i1,WK Xr m.dark,WK Xr m.slots,WK Xr m.reserve,WK Xr m.failures,Yb U1 m.rules.length u1] from by rw[aM.cells_def,dh,cr,cM,J,dt,ed,dP]);have VF:=F.ss;have UR:=F.fs;have Vx:=F.rs;have Vf:=F.ms;have U':=F.ls;have UW:=F.is;have VN:=F.us;rw[dh] at VF;rw[cr] at UR;rw[cM] at Vx;rw[J] at Vf;rw[dt] at U';rw[ed] at UW;rw[dP] at VN;have dj3:=aa VF;have dh9:=aa UR;have dj1:=aa Vx;have di7:=aa Vf;have di3:=aa U';have di1:=aa UW;have dj6:=aa VN;clear VF UR Vx Vf U' UW VN;obtain⟨⟨S2,s2,bS,_,_⟩,⟨F2,f2,cL,_,_⟩,⟨R2,r2,cV,hh8,hh9⟩,⟨M2,m2,I,hg5,hg6⟩,⟨L2,l2,di,hf1,hf2⟩,⟨I2,i2,ez,he6,he7⟩,⟨U2,u2,dq,hl3,hl4⟩⟩:=G.cells;have ui:=aa (show m.cells v2= #[Yb S2 m.sites.length s2,Yb F2 m.feeds.length f2,Yb R2 m.racks.length r2,Yb M2 m.machs.length m2,Yb L2 m.links.length l2,Yb I2 m.items.length i2,WK Xr m.dark,WK Xr m.slots,WK Xr m.reserve,WK Xr m.failures,Yb U2 m.rules.length u2] from by rw[aM.cells_def,bS,cL,cV,I,di,ez,dq]);have VG:=G.ss;have US:=G.fs;have Vy:=G.rs;have Vg:=G.ms;have Va:=G.ls;have UX:=G.is;have VO:=G.us;rw[bS] at VG;rw[cL] at US;rw[cV] at Vy;rw[I] at Vg;rw[di] at Va;rw[ez] at UX;rw[dq] at VO;have dj4:=aa VG;have di0:=aa US;have dj2:=aa Vy;have di8:=aa Vg;have di4:=aa Va;have di2:=aa UX;have dj7:=aa VO;clear VG US Vy Vg Va UX VO;have dd9:=aa (λW (c:Below w w W)=>bu6 _ _ m.sites W ((dj3.out.below c (ag _)).more c.size) ((dj4.out.below c (ag _)).more c.size));have de2:=aa (λW (c:Below w w W)=>bu6 _ _ m.feeds W ((dh9.out.below c (ag _)).more c.size) ((di0.out.below c (ag _)).more c.size));rw[AO.out,ui.out];clear F dh cr cM J dt ed dP;clear G bS cL cV I di ez dq;go_enter func22,ntmps22;go_upto_region 1 with (fail)
 refine cP (λW=>Below w w W/\W.heap[w.heap.size]? =Ws (Yd #[Yb S1 m.sites.length s1,Yb F1 m.feeds.length f1,Yb R1 m.racks.length r1,Yb M1 m.machs.length m1,Yb L1 m.links.length l1,Yb I1 m.items.length i1,m.dark,m.slots,m.reserve,m.failures,Yb U1 m.rules.length u1] 30 (0,0))/\W.heap[w.heap.size+1]? =Ws (Yd #[Yb S2 m.sites.length s2,Yb F2 m.feeds.length f2,Yb R2 m.racks.length r2,Yb M2 m.machs.length m2,Yb L2 m.links.length l2,Yb I2 m.items.length i2,m.dark,m.slots,m.reserve,m.failures,Yb U2 m.rules.length u2] 30 (0,0))) ⟨ae (ae (af w) _) _,aq (bQ w _) (ae (af _) _),FN w _ _⟩ ?_;intro z ⟨aU,J,I⟩;have aT:=aa aU;have AT:=aa J;have GK:=aa I;obtain⟨a0,a1,a2,a3,a4,a5,a6,a7,a8,a9,fN⟩:=eR J;obtain⟨b0,b1,b2,b3,b4,b5,b6,b7,b8,b9,xD⟩:=eR I;clear aU J I;go_wp2_with
  (go_at_call 58;first
    |(refine(de2.out _ Y.out).m ?_;rintro e w3 ⟨rfl,y⟩;have bg:=aa (ai Y.out y);have U:=aq AT.out (ai n_.out y);have V:=aq GK.out (ai n_.out y);obtain⟨d0,d1,d2,d3,d4,d5,d6,d7,d8,d9,Cs⟩:=eR U;obtain⟨g0,g1,g2,g3,g4,g5,g6,g7,g8,g9,Cv⟩:=eR V;have Y:=aa (ai n_.out y);clear y U V)
    |(refine(dd9.out _ aT.out).m ?_;rintro e w2 ⟨rfl,am⟩;have Y:=aa (ai aT.out am);have n_:=aa am;have U:=aq AT.out am;have V:=aq GK.out am;obtain⟨d0,d1,d2,d3,d4,d5,d6,d7,d8,d9,Cs⟩:=eR U;obtain⟨g0,g1,g2,g3,g4,g5,g6,g7,g8,g9,Cv⟩:=eR V;clear am U V))
 go_loopw [5] (λi wr=> ∃k:Nat,k<=m.racks.length/\i=WK Xr k/\Below z z wr) (λi _=>m.racks.length - (WS i).toNat)
 case atStart=>exact⟨0,bU _,rfl,Y.out⟩
 case round=>
  obtain⟨k,hk,rfl,hB⟩:=hrel;have HB:=aa hB;refine oX λbH=> ?_;refine Jc λiH lL=> ?_;have j:wr.cell? (w 2 Wr)=Ws (Yb R1 m.racks.length r1):=ah iH rfl;clear hB;by_cases A:k<m.racks.length
  .have Z:(0:Int)<=k:=by omega
   have C:(k:Int)<m.racks.length:=Yi;obtain⟨x,hx⟩: ∃x,m.racks[k]? =Ws x:=⟨_,Wy A⟩;obtain⟨B1,p1,Cr,rfl,ap,_,⟨rfl,_⟩,bt⟩:=dj1.out.at_ hx;obtain⟨B2,p2,GY,rfl,am,_,⟨rfl,_⟩,cR⟩:=dj2.out.at_ hx;refine RM λdJ jL jC jW mQ mR=> ?_;simp only[WR] at dJ jW;clear bt cR hx;have du:=aa (λW (h:Below wr wr W)=>WE ((show W.cell? (w 2 Wr)=Ws (Yb (Ws (B1 p1 Wr)) m.racks.length r1) from ah (aq iH h) rfl)) (WE ((show W.cell? ⟨(w.heap.size+1),2,Wr⟩=Ws (Yb (Ws (B2 p2 Wr)) m.racks.length r2) from ah (aq lL h) rfl)) (WE (kc h dJ) (WE (kc h jL) (WE (kc h jC) (WE (kc h jW) (WE (kc h mQ) (kc h mR))))))));clear iH lL dJ jL jC jW mQ mR;go_upto_region 6 with (fail)
   refine fC (S:=Below wr wr) 11 11 (aX (af wr)) λhS=> ?_;iterate 11 refine cI 11 106 ?_
   exact Nh
  .have C: ¬(k:Int)<m.racks.length:=by omega
   go_wp2_with fail
   clear iH lL j;go_loopw [6] (λi wr=> ∃k:Nat,k<=m.machs.length/\i=WK Xr k/\Below z z wr) (λi _=>m.machs.length - (WS i).toNat)
   case atStart=>exact⟨0,bU _,rfl,HB.out⟩
   case round=>
    obtain⟨k,hk,rfl,hB⟩:=hrel;have HB:=aa hB;refine oX λbH=> ?_;refine Jc λiH lL=> ?_;have j:wr.cell? (w 3 Wr)=Ws (Yb M1 m.machs.length m1):=ah iH rfl;clear hB;by_cases A:k<m.machs.length
    .have Z:(0:Int)<=k:=by omega
     have C:(k:Int)<m.machs.length:=Yi;obtain⟨x,hx⟩: ∃x,m.machs[k]? =Ws x:=⟨_,Wy A⟩;obtain⟨B1,p1,Cr,rfl,ap,_,⟨rfl,_⟩,bt⟩:=di7.out.at_ hx;obtain⟨B2,p2,GY,rfl,am,_,⟨rfl,_⟩,cR⟩:=di8.out.at_ hx;refine RM λdJ jL jC jW mQ mR=> ?_;simp only[WR] at dJ jW;clear bt cR hx;have du:=aa (λW (h:Below wr wr W)=>WE ((show W.cell? (w 3 Wr)=Ws (Yb (Ws (B1 p1 Wr)) m.machs.length m1) from ah (aq iH h) rfl)) (WE ((show W.cell? ⟨(w.heap.size+1),3,Wr⟩=Ws (Yb (Ws (B2 p2 Wr)) m.machs.length m2) from ah (aq lL h) rfl)) (WE (kc h dJ) (WE (kc h jL) (WE (kc h jC) (WE (kc h jW) (WE (kc h mQ) (kc h mR))))))));clear iH lL dJ jL jC jW mQ mR;go_upto_region 11 with (fail)
     refine fC (S:=Below wr wr) 11 11 (aX (af wr)) λhS=> ?_;iterate 11 refine cI 11 124 ?_
     exact Nh
    .have C: ¬(k:Int)<m.machs.length:=by omega
     go_wp2_with fail
     clear iH lL j;go_loopw [7] (λi wr=> ∃k:Nat,k<=m.links.length/\i=WK Xr k/\Below z z wr) (λi _=>m.links.length - (WS i).toNat)
     case atStart=>exact⟨0,bU _,rfl,HB.out⟩
     case round=>
      obtain⟨k,hk,rfl,hB⟩:=hrel;have HB:=aa hB;refine oX λbH=> ?_;refine Jc λiH lL=> ?_;have j:wr.cell? (w 4 Wr)=Ws (Yb L1 m.links.length l1):=ah iH rfl;clear hB;by_cases A:k<m.links.length
      .have Z:(0:Int)<=k:=by omega
       have C:(k:Int)<m.links.length:=Yi;obtain⟨x,hx⟩: ∃x,m.links[k]? =Ws x:=⟨_,Wy A⟩;obtain⟨B1,p1,Cr,rfl,ap,_,⟨rfl,_⟩,bt⟩:=di3.out.at_ hx;obtain⟨B2,p2,GY,rfl,am,_,⟨rfl,_⟩,cR⟩:=di4.out.at_ hx;refine RM λdJ jL jC jW mQ mR=> ?_;simp only[WR] at dJ jW;clear bt cR hx;have du:=aa (λW (h:Below wr wr W)=>WE ((show W.cell? (w 4 Wr)=Ws (Yb (Ws (B1 p1 Wr)) m.links.length l1) from ah (aq iH h) rfl)) (WE ((show W.cell? ⟨(w.heap.size+1),4,Wr⟩=Ws (Yb (Ws (B2 p2 Wr)) m.links.length l2) from ah (aq lL h) rfl)) (WE (kc h dJ) (WE (kc h jL) (WE (kc h jC) (WE (kc h jW) (WE (kc h mQ) (kc h mR))))))));clear iH lL dJ jL jC jW mQ mR;go_upto_region 16 with (fail)
       refine fC (S:=Below wr wr) 11 11 (aX (af wr)) λhS=> ?_;iterate 11 refine cI 11 142 ?_
       exact Nh
      .have C: ¬(k:Int)<m.links.length:=by omega
       go_wp2_with fail
       clear iH lL j;go_loopw [8,9,10] (λi _ _ wr=> ∃k:Nat,k<=m.items.length/\i=WK Xr k/\Below z z wr) (λi _ _ _=>m.items.length - (WS i).toNat)
       case atStart=>exact⟨0,bU _,rfl,HB.out⟩
       case round=>
        obtain⟨k,hk,rfl,hB⟩:=hrel;have HB:=aa hB;refine oX λbH=> ?_;refine Jc λiH lL=> ?_;have j:wr.cell? (w 5 Wr)=Ws (Yb I1 m.items.length i1):=ah iH rfl;clear hB;by_cases A:k<m.items.length
        .have Z:(0:Int)<=k:=by omega
         have C:(k:Int)<m.items.length:=Yi;obtain⟨x,hx⟩: ∃x,m.items[k]? =Ws x:=⟨_,Wy A⟩;obtain⟨B1,p1,Cr,rfl,ap,_,⟨o1,rfl,uJ,_⟩,bt⟩:=di1.out.at_ hx;obtain⟨B2,p2,GY,rfl,am,_,⟨o2,rfl,uK,_⟩,cR⟩:=di2.out.at_ hx;refine bu7 λdJ jL jC oq mq oP pI jW mQ mR zr zt zu zv=> ?_;simp only[WR] at dJ jW;clear bt cR hx;obtain⟨A1,n1,j,rfl,hZ,bt,_⟩:=uJ.form;obtain⟨A2,n2,c2,rfl,kX,cR,_⟩:=uK.form;have du:=aa (λW (h:Below wr wr W)=>WE ((show W.cell? (w 5 Wr)=Ws (Yb (Ws (B1 p1 Wr)) m.items.length i1) from ah (aq iH h) rfl)) (WE ((show W.cell? ⟨(w.heap.size+1),5,Wr⟩=Ws (Yb (Ws (B2 p2 Wr)) m.items.length i2) from ah (aq lL h) rfl)) (WE (kc h dJ) (WE (kc h jL) (WE (kc h jC) (WE (kc h oq) (WE (kc h mq) (WE (kc h oP) (WE (kc h pI) (WE (kc h jW) (WE (kc h mQ) (WE (kc h mR) (WE (kc h zr) (WE (kc h zt) (WE (kc h zu) (kc h zv))))))))))))))));clear iH lL dJ jL jC oq mq oP pI jW mQ mR zr zt zu zv;go_upto_region 21 with (fail)
         go_cut [9,10] from 153 to 217 (λp q wx=> ∃xb yb,p=aj xb/\q=aj yb/\¬xb=yb/\Below wr wr wx/\wx.heap[xb]? =Ws (Yd #[bs x.name,WK Xr x.kind,WK Xr x.count,WK Xr x.load,WK Xr x.size,WK Xr x.share,Yb A1 n1 j] 138 (0,0))/\wx.heap[yb]? =Ws (Yd #[bs x.name,WK Xr x.kind,WK Xr x.count,WK Xr x.load,WK Xr x.size,WK Xr x.share,Yb A2 n2 c2] 138 (0,0)))
         case first=>
          refine pE (S:=Below wr wr) 14 (aX (af wr)) λhS=> ?_;iterate 10 refine mC 14 160 ?_
          refine wpAnyH_ready (rs:=[10,11]) aC Yl ?_;refine AllReadyH.cons rfl (λK hK=> ?_) (AllReadyH.cons rfl (λK hK=> ?_) AllReadyH.nil)
          .go_simp;refine sM λhS=> ?_;clear hK;refine aG ?_;refine dY 11 λK hK=> ?_;go_simp;refine sM λhS=> ?_;clear hK;refine aG ?_;refine Rh (λg=>g.heap[wr.heap.size]? =some (.cells #[.string ⟨#[]⟩,.int .i64 0,.int .i64 0,.int .i64 0,.int .i64 0,.int .i64 0,.slice none 0 0] 138 (0,0))/\g.heap[wr.heap.size+1]? =some (.cells #[.string ⟨#[]⟩,.int .i64 0,.int .i64 0,.int .i64 0,.int .i64 0,.int .i64 0,.slice none 0 0] 138 (0,0))/\Below wr wr g) ⟨aq (bQ (wr.drew) _) (ae (af _) _),FN wr.drew _ _,hS⟩ ?_;intro W2 ⟨D,X,am⟩;clear hS;have hS:=am;obtain⟨q0,q1,q2,q3,q4,q5,q6⟩:=iA D;obtain⟨z0,z1,z2,z3,z4,z5,z6⟩:=Dc D;refine dY 12 λK hK=> ?_;go_simp;refine hK.out _ _ (Rk am (by omega) _ _ _ _ _ _ _) λhS=> ?_;clear hK;refine aG ?_;refine Rh (λg=>g.heap[wr.heap.size]? =some (.cells #[.string (bs x.name),.int .i64 x.kind,.int .i64 x.count,.int .i64 x.load,.int .i64 x.size,.int .i64 x.share,.slice A1 n1 j] 138 (0,0))/\g.heap[wr.heap.size+1]? =some (.cells #[.string ⟨#[]⟩,.int .i64 0,.int .i64 0,.int .i64 0,.int .i64 0,.int .i64 0,.slice none 0 0] 138 (0,0))/\Below wr wr g) ⟨Ri D _ _ _ _ _ _ _,Rj X (by omega) _ _ _ _ _ _ _,hS⟩ ?_;clear D X am hS q0 q1 q2 q3 q4 q5 q6 z0 z1 z2 z3 z4 z5 z6;intro W3 ⟨jT,O,y⟩;have hS:=y;obtain⟨q0,q1,q2,q3,q4,q5,q6⟩:=iA O;obtain⟨z0,z1,z2,z3,z4,z5,z6⟩:=Dc O;refine dY 13 λK hK=> ?_;go_simp;refine hK.out _ _ (Rk y (by omega) _ _ _ _ _ _ _) λhS=> ?_;clear hK;refine aG ?_;refine oQ ?_;go_wp2_with fail
           go_meet;exact⟨wr.heap.size,wr.heap.size+1,rfl,rfl,by omega,hS,Rj jT Yi _ _ _ _ _ _ _,Ri O _ _ _ _ _ _ _⟩
          .go_simp;refine sM λhS=> ?_;clear hK;refine aG ?_;refine dY 10 λK hK=> ?_;go_simp;refine sM λhS=> ?_;clear hK;refine aG ?_;refine Rh (λg=>g.heap[wr.heap.size+1]? =some (.cells #[.string ⟨#[]⟩,.int .i64 0,.int .i64 0,.int .i64 0,.int .i64 0,.int .i64 0,.slice none 0 0] 138 (0,0))/\g.heap[wr.heap.size]? =some (.cells #[.string ⟨#[]⟩,.int .i64 0,.int .i64 0,.int .i64 0,.int .i64 0,.int .i64 0,.slice none 0 0] 138 (0,0))/\Below wr wr g) ⟨FN wr.drew _ _,aq (bQ (wr.drew) _) (ae (af _) _),hS⟩ ?_;intro W2 ⟨D,X,am⟩;clear hS;have hS:=am;obtain⟨q0,q1,q2,q3,q4,q5,q6⟩:=iA D;obtain⟨z0,z1,z2,z3,z4,z5,z6⟩:=Dc D;refine dY 12 λK hK=> ?_;go_simp;refine hK.out _ _ (Rk am (by omega) _ _ _ _ _ _ _) λhS=> ?_;clear hK;refine aG ?_;refine Rh (λg=>g.heap[wr.heap.size+1]? =some (.cells #[.string (bs x.name),.int .i64 x.kind,.int .i64 x.count,.int .i64 x.load,.int .i64 x.size,.int .i64 x.share,.slice A1 n1 j] 138 (0,0))/\g.heap[wr.heap.size]? =some (.cells #[.string ⟨#[]⟩,.int .i64 0,.int .i64 0,.int .i64 0,.int .i64 0,.int .i64 0,.slice none 0 0] 138 (0,0))/\Below wr wr g) ⟨Ri D _ _ _ _ _ _ _,Rj X (by omega) _ _ _ _ _ _ _,hS⟩ ?_;clear D X am hS q0 q1 q2 q3 q4 q5 q6 z0 z1 z2 z3 z4 z5 z6;intro W3 ⟨jT,O,y⟩;have hS:=y;obtain⟨q0,q1,q2,q3,q4,q5,q6⟩:=iA O;obtain⟨z0,z1,z2,z3,z4,z5,z6⟩:=Dc O;refine dY 13 λK hK=> ?_;go_simp;refine hK.out _ _ (Rk y (by omega) _ _ _ _ _ _ _) λhS=> ?_;clear hK;refine aG ?_;refine oQ ?_;go_wp2_with fail
           go_meet;exact⟨wr.heap.size+1,wr.heap.size,rfl,rfl,by omega,hS,Rj jT Yi _ _ _ _ _ _ _,Ri O _ _ _ _ _ _ _⟩
         case rest=>
         obtain⟨xb,yb,rfl,rfl,aO,fk,dx,cs2⟩:=hcut;obtain⟨x0,x1,x2,x3,x4,x5,x6⟩:=iA dx;obtain⟨y0,y1,y2,y3,y4,y5,y6⟩:=iA cs2;have kH:=aa (ai HB.out fk);have li:=aa (show ∀W,Below w w W->aQ 23 #[Yb A1 n1 j,Yb A2 n2 c2] W (Yc Wz) from λW c=>(LQ _ _ x.on x.on W W.heap.size ((uJ.below c (ag _)).more c.size) ((uK.below c (ag _)).more c.size)).mono λe w' ⟨he,hb⟩=>⟨by rw[he];exact cE Yl,hb⟩);clear fk dx cs2 uJ uK hZ kX;simp only[aj];go_wp2_with
          (go_at_call 23;refine(li.out _ (ai aT.out kH.out)).m ?_;rintro e w5 ⟨rfl,bp⟩;have bY:=aa (ai kH.out bp);clear bp)
         exact⟨⟨k+1,by omega,by go_num,bY.out⟩,by simp[WS];omega⟩
        .have C: ¬(k:Int)<m.items.length:=by omega
         go_wp2_with fail
         clear iH lL j;go_loopw [11] (λi wr=> ∃k:Nat,k<=m.rules.length/\i=WK Xr k/\Below z z wr) (λi _=>m.rules.length - (WS i).toNat)
         case atStart=>exact⟨0,bU _,rfl,HB.out⟩
         case round=>
          obtain⟨k,hk,rfl,hB⟩:=hrel;have HB:=aa hB;refine oX λbH=> ?_;refine Jc λiH lL=> ?_;have j:wr.cell? (w 10 Wr)=Ws (Yb U1 m.rules.length u1):=ah iH rfl;clear hB;by_cases A:k<m.rules.length
          .have Z:(0:Int)<=k:=by omega
           have C:(k:Int)<m.rules.length:=Yi;obtain⟨x,hx⟩: ∃x,m.rules[k]? =Ws x:=⟨_,Wy A⟩;obtain⟨B1,p1,Cr,rfl,ap,_,⟨o1,rfl,uJ,_⟩,bt⟩:=dj6.out.at_ hx;obtain⟨B2,p2,GY,rfl,am,_,⟨o2,rfl,uK,_⟩,cR⟩:=dj7.out.at_ hx;refine bu7 λdJ jL jC oq mq oP pI jW mQ mR zr zt zu zv=> ?_;simp only[WR] at dJ jW;clear bt cR hx;have yS:=aa (λW (c:Below w w W)=>fv2 x o1 o2 W ((uJ.below c (ag _)).more c.size) ((uK.below c (ag _)).more c.size));simp only[cC.vals_def] at yS;clear uJ uK;have du:=aa (λW (h:Below wr wr W)=>WE ((show W.cell? (w 10 Wr)=Ws (Yb (Ws (B1 p1 Wr)) m.rules.length u1) from ah (aq iH h) rfl)) (WE ((show W.cell? ⟨(w.heap.size+1),10,Wr⟩=Ws (Yb (Ws (B2 p2 Wr)) m.rules.length u2) from ah (aq lL h) rfl)) (WE (kc h dJ) (WE (kc h jL) (WE (kc h jC) (WE (kc h oq) (WE (kc h mq) (WE (kc h oP) (WE (kc h pI) (WE (kc h jW) (WE (kc h mQ) (WE (kc h mR) (WE (kc h zr) (WE (kc h zt) (WE (kc h zu) (kc h zv))))))))))))))));clear iH lL dJ jL jC oq mq oP pI jW mQ mR zr zt zu zv;go_upto_region 27 with (fail)
           refine fC (S:=Below wr wr) 12 12 (aX (af wr)) λhS=> ?_;iterate 10 refine cI 12 225 ?_
           refine bF 10 λK hK=> ?_;go_simp;refine(yS.out _ (ai bH.out hS)).m ?_;rintro e w4 ⟨rfl,aS⟩;try go_simp
           refine BQ λhS=> ?_;clear hK;refine aG ?_;refine ie 11 236 ?_;exact Nh
          .have C: ¬(k:Int)<m.rules.length:=by omega
           clear iH lL;go_wp2_with fail
           go_ret;exact⟨rfl,bH.out⟩
def qg (x:cC):Bool:=Wt (x.other=0)&&Wt (x.by_=0)&& !x.always&&Wt (x.ms=[])
section
variable (m:aM) {x:cC}
def fv4 (h:x.kind=0):df m x=(aH x.item m.items.length&&Wt (pL m x.item=0)&&qg x&&Wt (x.n=0)):=by exact RN
def fv5 (h:x.kind=1):df m x=(aH x.item m.items.length&&Wt (x.other=0)&&Wt (x.by_=0)&&Wt (x.ms=[])&&aD x.n 0 16):=by exact Rl
def fv6 (h:x.kind=2):df m x=(aH x.item m.items.length&&aD x.by_ 2 4&&Wt (x.other=0)&& !x.always&&Wt (x.ms=[])&&aD x.n 0 16):=by exact Rl
def fv7 (h:x.kind=3):df m x=(aH x.item m.items.length&&ff m x.ms&&Wt (x.other=0)&&Wt (x.by_=0)&& !x.always&&Wt (x.n=0)):=by exact Rl
def fv8 (h:x.kind=4):df m x=(aH x.item m.items.length&&aH x.other m.items.length&& !Wt (x.item=x.other)&&Wt (x.by_=0)&& !x.always&&Wt (x.ms=[])&&Wt (x.n=0)):=by exact Rl
def fv9 (h:x.kind=5):df m x=(Wt (x.item=0)&&qg x&&aD x.n 0 200):=by exact RN
def fw0 (h:x.kind=6):df m x=(aH x.item m.items.length&&qg x&&aD x.n 0 16):=by exact RN
end
def RO {n:Int} {k:Nat} (h:aH n k=Wz):1<=n:=by simp[aH,aD] at h;exact h.1
def Ni {n:Int} {k:Nat} (h:aH n k=Wz):n<=k:=by simp[aH,aD] at h;exact h.2
def fw1 {m:aM} {n:Int} {y:fg} (h:m.items[(n - 1).toNat]? =Ws y):pL m n=y.kind:=by unfold pL;rw[h];rfl
def fw2 (m:aM) (v:MV) (x:cC) (o:Wv) (w:Wu) (hv:m.In w w v) (ho:aW w w o x.ms):
 aQ 166 #[Ye (m.cells v),Ye (x.vals o)] w (Yc (df m x)):=by
 obtain⟨A,n,c,rfl,hn,hc,iG⟩:=ho.sk.form;refine rz λSa sc hs dh bS Fa fc cB cr cL Ra rc hr cM cV Ma mc hm dd cz La lc hl dt di Ia ic hi ed ez Ua uc hu dP dq HS=> ?_;have yZ:=aa (λW (Y:Below w w W)=>bu1 m v (Yb A n c) x.ms W (hv.to Y (ag _) Y.size) ((ho.below Y (ag _)).more Y.size));rw[HS.out] at yZ;have x':=hv.is;rw[hi] at x';have nx:=aa x';have j:=aa (show Wt (x.ms=[])=Wt (n=0) by rw[<-hn,WU];simp);obtain⟨pl,Bx⟩: ∃q,qg x=q:=⟨_,rfl⟩;have D:=aa (show pl=(Wt (x.other=0)&&Wt (x.by_=0)&& !x.always&&Wt (n=0)) by rw[<-Bx,qg,j.out]);have C:=aa Bx;obtain⟨it,hit⟩: ∃q,aH x.item m.items.length=q:=⟨_,rfl⟩;obtain⟨b2,am⟩: ∃q,aH x.other m.items.length=q:=⟨_,rfl⟩;obtain⟨b3,aL⟩: ∃q,ff m x.ms=q:=⟨_,rfl⟩;have dC:=aa hit;have fB:=aa am;have pu:=aa aL;clear hit am aL Bx ho hn x';rw[HS.out,cC.vals_def];clear hv hs cB hr hm hl hi hu;go_enter func166,ntmps166;go_upto_region 1 with (fail)
 refine cP (λW=>Below w w W/\W.heap[w.heap.size]? =Ws (Yd #[Yb Sa m.sites.length sc,Yb Fa m.feeds.length fc,Yb Ra m.racks.length rc,Yb Ma m.machs.length mc,Yb La m.links.length lc,Yb Ia m.items.length ic,m.dark,m.slots,m.reserve,m.failures,Yb Ua m.rules.length uc] 30 (0,0))/\W.heap[w.heap.size+1]? =Ws (Yd #[x.kind,x.item,x.other,x.n,x.by_,Yc x.always,Yb A n c] 119 (0,0))) ⟨ae (ae (af w) _) _,aq (bQ w _) (ae (af _) _),FN w _ _⟩ ?_;intro W1 ⟨aU,dm,X⟩;have aT:=aa aU;have g_:=aa dm;have lq:=aa X;obtain⟨a0,a1,a2,a3,a4,a5,a6,a7,a8,a9,fN⟩:=eR dm;obtain⟨x0,x1,x2,x3,x4,x5,x6⟩:=iA X;have ba:=blk_lt X;clear aU dm X;obtain⟨xb,dx⟩: ∃q,w.heap.size+1=q:=⟨_,rfl⟩;rw[dx] at lq x0 x1 x2 x3 x4 x5 x6⊢
 clear dx ba;obtain⟨al,wm⟩: ∃q,x.always=q:=⟨_,rfl⟩;rw[wm] at x5 D lq;have z:=aa wm;clear wm;go_upto_region 2 with
  (go_at_call 167;refine qy ?_;rintro e w3 ⟨rfl,hw⟩;obtain rfl:=hw.symm;first|rw[dC.out]|rw[fB.out])
 go_cut [6] (λq wx=>q=Yc pl/\W1=wx)
 case first=>
  by_cases ho:x.other=0
  .have eo:(x.other==0)=true:=by simp[ho]
   by_cases g:x.by_=0
   .have eb:(x.by_==0)=true:=by simp[g]
    cases al with
    |true=>have HZ:=aa (show pl=Ww by rw[D.out];simp);clear ho g;exact Nj
    |false=>
     by_cases V:n=0
     .have en:((n:Int)==0)=true:=by simp[V]
      have HZ:=aa (show pl=Wz by rw[D.out];simp[ho,g,V]);clear ho g V;exact Nj
     .have en:((n:Int)==0)=false:=by simp[V]
      have HZ:=aa (show pl=Ww by rw[D.out];simp[V]);clear ho g V;exact Nj
   .have eb:(x.by_==0)=false:=by simp[g]
    have HZ:=aa (show pl=Ww by rw[D.out];simp[g]);clear ho g;exact Nj
  .have eo:(x.other==0)=false:=by simp[ho]
   have HZ:=aa (show pl=Ww by rw[D.out];simp[ho]);clear ho;exact Nj
 case rest=>
 obtain⟨rfl,rfl⟩:=hcut;by_cases k0:x.kind=0
 .skip
  have e0:(x.kind==0)=true:=by simp[k0]
  have HR:=aa (fv4 m k0);try rw[dC.out] at HR
  try rw[fB.out] at HR
  try rw[pu.out] at HR
  try rw[C.out] at HR
  try rw[j.out] at HR
  try rw[z.out] at HR
  clear k0;cases it with
  |false=>exact Nk
  |true=>
   have dz:=RO dC.out;have bJ:=Ni dC.out;obtain⟨y,hy⟩: ∃y,m.items[(x.item - 1).toNat]? =Ws y:=⟨_,Wy Yi⟩;have cy2:=aa (fw1 hy);obtain⟨b,o,cs,rfl,g,_,⟨yo,rfl,_⟩,bk⟩:=nx.out.at_ hy;have e1:=(aT.out.cell (p:=⟨b,o+(x.item - 1).toNat*7+1,Wr⟩) g).trans (bk 1 _ rfl);rw[show(x.item - 1).toNat=x.item.toNat - 1 by omega] at e1;have q1:IntKind.i64.wrap (x.item - 1)=x.item - 1:=Xf _ Yi;have q3:(0:Int)<=x.item - 1:=Yi;have q4:x.item - 1<m.items.length:=Yi;rw[cy2.out] at HR;clear hy bk dz bJ;by_cases U:y.kind=0
   .have ey:(y.kind==0)=true:=by simp[U]
    have Z:=aa (show Wt (y.kind=0)=Wz by simp[U]);rw[Z.out] at HR;clear U;cases pl with
    |false=>exact Nk
    |true=>exact Nk
   .have ey:(y.kind==0)=false:=by simp[U]
    have Z:=aa (show Wt (y.kind=0)=Ww by simp[U]);rw[Z.out] at HR;clear U;cases pl with
    |false=>exact Nk
    |true=>exact Nk
 .have e0:(x.kind==0)=false:=by simp[k0]
  have K0:=aa k0;clear k0;by_cases k1:x.kind=1
  .skip
   have e1:(x.kind==1)=true:=by simp[k1]
   have HR:=aa (fv5 m k1);try rw[dC.out] at HR
   try rw[fB.out] at HR
   try rw[pu.out] at HR
   try rw[C.out] at HR
   try rw[j.out] at HR
   try rw[z.out] at HR
   clear k1;obtain⟨c0,eU⟩: ∃q,aD x.n 0 16=q:=⟨_,rfl⟩;rw[eU] at HR;have sS:=aa eU;clear eU;cases it with
   |false=>exact vp
   |true=>exact vp
  .have e1:(x.kind==1)=false:=by simp[k1]
   have K1:=aa k1;clear k1;by_cases F:x.kind=2
   .skip
    have e2:(x.kind==2)=true:=by simp[F]
    have HR:=aa (fv6 m F);try rw[dC.out] at HR
    try rw[fB.out] at HR
    try rw[pu.out] at HR
    try rw[C.out] at HR
    try rw[j.out] at HR
    try rw[z.out] at HR
    clear F;obtain⟨c0,eU⟩: ∃q,aD x.by_ 2 4=q:=⟨_,rfl⟩;rw[eU] at HR;have sS:=aa eU;clear eU;obtain⟨c1,bt⟩: ∃q,aD x.n 0 16=q:=⟨_,rfl⟩;rw[bt] at HR;have Cd:=aa bt;clear bt;cases it with
    |false=>exact vp
    |true=>exact vp
   .have e2:(x.kind==2)=false:=by simp[F]
    have K2:=aa F;clear F;by_cases G:x.kind=3
    .skip
     have e3:(x.kind==3)=true:=by simp[G]
     have HR:=aa (fv7 m G);try rw[dC.out] at HR
     try rw[fB.out] at HR
     try rw[pu.out] at HR
     try rw[C.out] at HR
     try rw[j.out] at HR
     try rw[z.out] at HR
     clear G;cases it with
     |false=>
      cases b3 with
      |false=>exact Rm
      |true=>exact Rm
     |true=>
      cases b3 with
      |false=>exact Rm
      |true=>exact Rm
    .have e3:(x.kind==3)=false:=by simp[G]
     have K3:=aa G;clear G;by_cases I:x.kind=4
     .skip
      have e4:(x.kind==4)=true:=by simp[I]
      have HR:=aa (fv8 m I);try rw[dC.out] at HR
      try rw[fB.out] at HR
      try rw[pu.out] at HR
      try rw[C.out] at HR
      try rw[j.out] at HR
      try rw[z.out] at HR
      clear I;cases it with
      |false=>
       cases b2 with
       |false=>exact vp
       |true=>exact vp
      |true=>
       cases b2 with
       |false=>exact vp
       |true=>exact vp
     .have e4:(x.kind==4)=false:=by simp[I]
      have K4:=aa I;clear I;by_cases J:x.kind=5
      .skip
       have e5:(x.kind==5)=true:=by simp[J]
       have HR:=aa (fv9 m J);try rw[dC.out] at HR
       try rw[fB.out] at HR
       try rw[pu.out] at HR
       try rw[C.out] at HR
       try rw[j.out] at HR
       try rw[z.out] at HR
       clear J;obtain⟨c0,eU⟩: ∃q,aD x.n 0 200=q:=⟨_,rfl⟩;rw[eU] at HR;have sS:=aa eU;clear eU;exact vp
      .have e5:(x.kind==5)=false:=by simp[J]
       have K5:=aa J;clear J;by_cases O:x.kind=6
       .skip
        have e6:(x.kind==6)=true:=by simp[O]
        have HR:=aa (fw0 m O);try rw[dC.out] at HR
        try rw[fB.out] at HR
        try rw[pu.out] at HR
        try rw[C.out] at HR
        try rw[j.out] at HR
        try rw[z.out] at HR
        clear O;obtain⟨c0,eU⟩: ∃q,aD x.n 0 16=q:=⟨_,rfl⟩;rw[eU] at HR;have sS:=aa eU;clear eU;cases it with
        |false=>
         cases pl with
         |false=>exact vp
         |true=>exact vp
        |true=>
         cases pl with
         |false=>exact vp
         |true=>exact vp
       .have e6:(x.kind==6)=false:=by simp[O]
        have K6:=aa O;clear O;have HR:=aa (as3 m x (by rintro ⟨h1,h2⟩;have:=K0.out;have:=K1.out;have:=K2.out;have:=K3.out;have:=K4.out;have:=K5.out;have:=K6.out;omega));go_wp2_with first
         |(go_at_call 167;refine qy ?_;rintro e w3 ⟨rfl,hw⟩;obtain rfl:=hw.symm;first|rw[dC.out]|rw[fB.out])
        go_ret;exact⟨cE HR.out.symm,aT.out⟩
end
end Go.Proofs.YtklfdkdebgfmiaaGreatDoor
