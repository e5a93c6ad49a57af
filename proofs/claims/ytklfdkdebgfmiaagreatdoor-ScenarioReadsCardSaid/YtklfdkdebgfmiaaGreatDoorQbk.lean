/- A part of the proof. -/
import Derived.Test.YtklfdkdebgfmiaaGreatDoorQbi
import Derived.Test.YtklfdkdebgfmiaaGreatDoorQbj
set_option linter.defProp false
set_option linter.unusedVariables false
set_option linter.unusedSimpArgs false
set_option maxRecDepth 100000
set_option maxHeartbeats 32000000
open Option renaming none->Wr,some->Ws
open Decidable renaming decide->Wt
open Go renaming World->Wu,Value->Wv,Calls->WJ,TypeId->WQ,maxLen->Xe,Ending->X0
open Bool renaming false->Ww,true->Wz
open Go.RowKit renaming Hid->WA
open Go.Lib renaming itoa->WB,decDigits->WV,split->Xh
open Go.Proofs renaming intOf->WS
open Go.Proofs.Tryz renaming prog->WH
open Go.Value renaming int->WK,string->WM,ownBlock->Xq,slice->Yb,bool->Yc,agg->Ye
open Go.World renaming setCell->XD
open Go.IntKind renaming i64->Xr
open Go.Ending renaming returned->Xz
open Go.Obj renaming cells->Yd
namespace Go.Proofs.YtklfdkdebgfmiaaGreatDoor
section
open Go Go.RowKit Go.Proofs.Tryz
def yy (t:e_) (r:ak×List jZ):Bool:=Wt (t.kind=2)&&Wt (r.1=t.text)
def ar0 (t:e_) (r:ak):((((t.kind:Int)==2)&&((bs r).toList==(bs t.text).toList)))=(Wt (t.kind=2)&&Wt (r=t.text)):=by
 rw[jr,jr,gI,gI];congr 1
 .rw[WU];simp;omega
 .rw[WU];simp
def dz5 (r:ak×List jZ) (j:List Wv) (t:e_) (b B:Nat) (w:Wu) (C:tY w B j r) (D:w.cell? b=Ws (WK Xr t.kind)) (F:w.cell? (b 1 Wr)=Ws (WM (bs t.text))) (G:b<w.heap.size):
 aQ 118 #[Ye j.toArray,aj b] w (Yc (yy t r)):=by
 obtain⟨k,Pn,n,c,rfl⟩:=C;have y:=ar0 t r.1;unfold yy;rw[<-y];have A: ¬b=w.heap.size:=Yi;clear y;simp only[aj];by_cases g:((t.kind:Int)==2)=Wz
 .go_enter func118,ntmps118;go_wp2_with fail
  go_ret;exact⟨by simp[g],ae (af w) _⟩
 .have z:((t.kind:Int)==2)=false:=by simpa using g
  clear g;go_enter func118,ntmps118;go_wp2_with fail
  go_ret;exact⟨by simp[z],ae (af w) _⟩
def ar1 (r:ak×List jZ) (j:List Wv) (t:e_) (b B:Nat) (w:Wu) (C:tY w B j r) (D:w.cell? b=Ws (WK Xr t.kind)) (F:w.cell? (b 1 Wr)=Ws (WM (bs t.text))) (G:b<w.heap.size):
 aQ 120 #[Ye j.toArray,aj b] w (Yc (yy t r)):=by
 obtain⟨k,Pn,n,c,rfl⟩:=C;have y:=ar0 t r.1;unfold yy;rw[<-y];have A: ¬b=w.heap.size:=Yi;clear y;simp only[aj];by_cases g:((t.kind:Int)==2)=Wz
 .go_enter func120,ntmps120;go_wp2_with fail
  go_ret;exact⟨by simp[g],ae (af w) _⟩
 .have z:((t.kind:Int)==2)=false:=by simpa using g
  clear g;go_enter func120,ntmps120;go_wp2_with fail
  go_ret;exact⟨by simp[z],ae (af w) _⟩
def dz6 (t:e_):(rules.any (yy t))=(ga t).isSome:=by
 unfold ga yy;by_cases h:t.kind=2
 .simp only[h,decide_true,Bool.true_and,if_true];generalize rules=l;induction l with
  |nil=>rfl
  |cons a l ih=>
   simp only[List.any_cons,List.findIdx?_cons];cases hd:Wt (a.1=t.text) with
   |true=>simp
   |false=>simp only[Bool.false_or,ih];cases List.findIdx? (λx=>Wt (x.1=t.text)) l<;>simp
 .simp[h]
def dz7 (pb B M:Nat) (p:PS) (w:Wu) (h:bZ w pb B M p):
 aQ 41 #[aj pb] w (WK Xr p.beyond):=by
 have HN:=aa (Fm pb B M p w h);have I:=h.cells.1;have HB:Hid (p.beyond=if(ga p.head).isSome then 8 else 3):=rfl;generalize p.head=t at HN HB;generalize p.beyond=k at HB;have HR:=aa (λW (g:pb<W.heap.size)=>Zg pb W g);have HC:=aa (fun(W:Wu) v b (z:b<W.heap.size) (D:W.cell? b=Ws (WK Xr t.kind)) (F:W.cell? (b 1 Wr)=Ws (WM (bs t.text))) (G:bW 3 tY W W v rules)=>
  dl3 tY tY.ab v rules 118 #[aj b] (jg rules (yy t)) W G (WD func118 aC rfl)
   (λj x C A hx g y _=>by rw[eW hx];exact dz5 x C t b _ A y ((g.cell (p:=b) z).trans D) ((g.cell (p:=b 1 Wr) z).trans F) (bq z g.size)))
 rw[BF,dz6] at HC;refine ou λnV=> ?_;clear h;unfold aj at HN HR HC;unfold bm at HC;rw[oy] at HN;obtain⟨r,y⟩: ∃r,(ga t).isSome=r:=⟨_,rfl⟩;rw[y] at HB HC;clear y;simp only[aj];cases r with
 |true=>
  have HK:Hid (k=8):=by show _=_;rw[HB.out];rfl
  exact ar2
 |false=>
  have HK:Hid (k=3):=by show _=_;rw[HB.out];rfl
  exact ar2
def eH {w:Wu} {base e:Nat} {size:Nat} {v:Wv} {n:Nat} {xs:List Wv} (h:w.ownsRow base e size v n xs): ∃A m c,v=Yb A m c:=by
 rcases h.2 with ⟨rfl,_⟩|⟨g,cap,j,rfl,_⟩
 .exact⟨Wr,0,0,rfl⟩
 .exact⟨_,_,_,rfl⟩
def oS {w w':Wu} {base e pb B:Nat} {size:Nat} {v:Wv} {n:Nat} {xs:List Wv} (h:w.ownsRow base e size v n xs) (F:aF B pb w w') (D:w.heap.size<=B) (I:pb<base):w'.ownsRow base e size v n xs:=by
 refine⟨h.1,?_⟩;rcases h.2 with G|⟨g,cap,j,z,A,y,C⟩
 .exact .inl G
 .exact .inr ⟨g,cap,j,z,A,F.blk y (bq (blk_lt y) D) Yi,C⟩
def ei0 (w:Wu) (B:Nat) (v:Wv) (d:au):Prop:=
 ∃r n,v= .agg #[.int .i64 d.kind,.string (bs d.name),r,n,.int .i64 d.by_,.bool d.always]/\w.ownsRow B 9 1 r d.refs.length (d.refs.map λs=>Value.string (bs s))/\
  w.ownsRow B 3 1 n d.nums.length (d.nums.map fun(k:Nat)=>WK .i64 k)/\d.kind<=1000000/\d.by_<=1000000
def Mq (w:Wu) (pb B M:Nat) (r:PS×au) (e:X0) (w':Wu):Prop:=
 ∃v B',e=Xz v/\ei0 w' B' v r.2/\bZ w' pb B' (M+1) r.1/\(r.1.e=0->r.1.Ok M)/\aF w.heap.size pb w w'
def ar3 (t:e_):rules.findIdx? (yy t)=ga t:=by
 unfold ga yy;by_cases h:t.kind=2
 .rw[if_pos h];simp[h]
 .rw[if_neg h];simp[h]
def bZ.reset {w:Wu} {pb B B' M:Nat} {p:PS} {k:Nat} (h:bZ w pb B M p) (c:pb<B') (j:B'<=w.heap.size):bZ ((((((w.setCell (pb 2 Wr) (WK Xr k)).setCell (pb 3 Wr) (WM ⟨#[]⟩)).setCell (pb 4 Wr) (Yb Wr 0 0)).setCell (pb 5 Wr) (Yb Wr 0 0)).setCell (pb 6 Wr) (WK Xr 0)).setCell (pb 7 Wr) (Yc Ww)) pb B' M {p with d:={kind:=k}}:=by
 obtain⟨t,r,n,g1,g2,g3,g4,g5,g6,g7⟩:=h;have g:aF w.heap.size pb w ((((((w.setCell (pb 2 Wr) (WK Xr k)).setCell (pb 3 Wr) (WM ⟨#[]⟩)).setCell (pb 4 Wr) (Yb Wr 0 0)).setCell (pb 5 Wr) (Yb Wr 0 0)).setCell (pb 6 Wr) (WK Xr 0)).setCell (pb 7 Wr) (Yc Ww)):=
  ((((((aF.refl _ _ _).set (.inl rfl) _).set (.inl rfl) _).set (.inl rfl) _).set (.inl rfl) _).set (.inl rfl) _).set (.inl rfl) _
 refine⟨t,Yb Wr 0 0,Yb Wr 0 0,(aZ (aZ (aZ (aZ (aZ (aZ g1 2 _) 3 _) 4 _) 5 _) 6 _) 7 _).trans rfl,g2.to mW.ab (g.below Yi) (ag _) (ag _),WX _ _ _ _,WX _ _ _ _,c,by simp[XD];omega,⟨g7.last,?_,?_,g7.e,?_,g7.n.1,by simp⟩⟩
 .have:=g7.toks;simp;omega
 .have:=g7.nums;simp;omega
 .have:=g7.toks;simp;omega
def bZ.set6 {w:Wu} {pb B M b:Nat} {p:PS} {C:Array Wv} {t:WQ} {y z A D F G:Wv} (h:bZ w pb B M p) (g:w.heap[b]? =Ws (Yd C t (0,0))) (j: ¬t=9/\¬t=3) (c:pb<b):
 bZ ((((((w.setCell b y).setCell (b 1 Wr) z).setCell (b 2 Wr) A).setCell (b 3 Wr) D).setCell (b 4 Wr) F).setCell (b 5 Wr) G) pb B M p:=
 (((((h.setT g j c).setT (aZ g _ _) j c).setT (aZ (aZ g _ _) _ _) j c).setT (aZ (aZ (aZ g _ _) _ _) _ _) j c).setT (aZ (aZ (aZ (aZ g _ _) _ _) _ _) _ _) j c).setT (aZ (aZ (aZ (aZ (aZ g _ _) _ _) _ _) _ _) _ _) j c
def ar4 {w:Wu} {base e:Nat} {size:Nat} {v:Wv} {n b:Nat} {xs:List Wv} {z A C D F G:Wv} (h:w.ownsRow base e size v n xs) (J:b<base):
 ((((((w.setCell b z).setCell (b 1 Wr) A).setCell (b 2 Wr) C).setCell (b 3 Wr) D).setCell (b 4 Wr) F).setCell (b 5 Wr) G).ownsRow base e size v n xs:=by
 have c: ∀k,v.ownBlock=Ws k->¬k=b:=λk j I=>by
  rcases h.2 with ⟨rfl,_⟩|⟨g,cap,y,rfl,O,_⟩
  .simp[Xq] at j
  .have:g=k:=by simpa[Value.ownBlock] using j
   omega
 exact mu (mu (mu (mu (mu (mu h c _ _) c _ _) c _ _) c _ _) c _ _) c _ _
def ar5 {p:PS} (h:ga p.head=Wr):p.decl=(p.fail 3,{}):=by unfold PS.decl;rw[h]
def ar6 {p:PS} {i:Nat} (h:ga p.head=Ws i):p.decl=((((PS.parts {(p.take 2 []).1 with d:={kind:=i}} (rules.getD i ([],[])).2).take 4 [[59]]).1),(((PS.parts {(p.take 2 []).1 with d:={kind:=i}} (rules.getD i ([],[])).2).take 4 [[59]]).1).d):=by unfold PS.decl;rw[h]
def ei1 (pb B M:Nat) (p:PS) (w:Wu) (h:bZ w pb B M p) (y:ga p.head=Wr):
 WJ WH 42 #[aj pb] w (Mq w pb B M p.decl):=by
 have J:=aa (ar5 y);refine Qw λHP HN=> ?_;have I:=aa (λW (hW:bZ W pb B M p)=>MU pb B M p W 3 hW Yi);have jz:=h.cells.1;have a_:=h.size;have O:=aa (λW (hW:pb<W.heap.size)=>Zg pb W hW);generalize p.head=t at HN y;have z:=aa (fun(W:Wu) v b (F:b<W.heap.size) (h0:W.cell? b=Ws (WK Xr t.kind)) (h1:W.cell? (b 1 Wr)=Ws (WM (bs t.text))) (hs:bW 3 tY W W v rules)=>
  Yz tY tY.ab v rules 120 #[aj b] (jg rules (yy t)) W hs (WD func120 aC rfl)
   (λj x cs W2 hx hW y _=>by rw[eW hx];exact ar1 x cs t b _ W2 y ((hW.cell (p:=b) F).trans h0) ((hW.cell (p:=b 1 Wr) F).trans h1) (bq F hW.size)))
 rw[Yw,ar3,y] at z;refine ou λnV=> ?_;generalize p.decl=pd at J;clear h y;unfold aj at HN O z I;unfold bm at z;rw[oy] at HN;simp only[aj];go_enter func42,ntmps42;go_wp2_with first
  |(go_at_call 39;refine(HN.out _ (HP.out.later (ae (af w) _))).m ?_;rintro e w1 ⟨rfl,C⟩;have He:=ai (ae (af w) _) C;have dh:=He.size;have U:=aq (bQ w _) C)
  |(go_at_call 117;refine(O.out _ bI).m ?_;rintro e w2 ⟨v,rfl,Y,am⟩;refine ar7 λaL ht aS=> ?_;have V:=aq (aq U (ae (af w1) _)) am)
  |(go_at_call 119;refine(z.out _ _ _ (blk_lt ht) (ah ht rfl) (ah ht rfl) Y.sl).m ?_;rintro e w3 ⟨rfl,D⟩;have A:=aa (ai aS D);have mM:=aa (aq V D);clear C He U am aL ht aS V D Y)
  |(go_at_call 40;refine(I.out _ (HP.out.later A.out)).m ?_;rintro e w4 ⟨rfl,Z,G,tl⟩;have g:=G.blk mM.out (blk_lt mM.out) Yi;obtain⟨q0,q1,q2,q3,q4,q5⟩:=af4 g;have r0:=ah (o:=0) g rfl;have r1:=ah (o:=1) g rfl;have r2:=ah (o:=2) g rfl;have r3:=ah (o:=3) g rfl;have r4:=ah (o:=4) g rfl;have r5:=ah (o:=5) g rfl;have tC:=blk_lt g;have mL:=aa Z;have eN:=aa G;have sX:=aa g;clear Z G tl g)
 refine bodyPost_ret (v:=Ye #[WK Xr 0,WM ⟨#[]⟩,Yb Wr 0 0,Yb Wr 0 0,WK Xr 0,Yc Ww]) (by simp[results,results42,go_sem,r0,r1,r2,r3,r4,r5,tC]) rfl ?_;rw[J.out];refine⟨_,B,rfl,⟨_,_,rfl,WX _ _ _ _,WX _ _ _ _,by simp,by simp⟩,?_,?_,?_⟩
 .have h:=mL.out;first|exact(h.set6 sX.out az jz).more (XR _)|exact h.more (XR _)
 .intro he;exact absurd he (p.fail_e az)
 .have X:aF w.heap.size pb w w4:=(aF.of_below A.out (ag _) A.out.size).trans (eN.out.mono A.out.size);first|exact X|exact(((((X.set (.inr (ag _)) _).set (.inr (ag _)) _).set (.inr (ag _)) _).set (.inr (ag _)) _).set (.inr (ag _)) _).set (.inr (ag _)) _
def ei2 {t:e_} {i:Nat} (h:ga t=Ws i):i<17:=by
 unfold ga at h;split at h
 .exact(List.findIdx?_eq_some_iff_findIdx_eq.1 h).1
 .cases h
def ar8 {p:PS} {x:jZ} {l:List jZ}:p.parts (x::l)=(if p.e=0 then p.part x else p).parts l:=rfl
def I_ {α:Type} {l:List α} {k:Nat} {x:α} (h:l[k]? =Ws x):l.drop k=x::l.drop (k+1):=by have c:=(List.getElem?_eq_some_iff.1 h);rw[List.drop_eq_getElem_cons c.1,c.2]
def PS.fail_d (p:PS) (e:Nat):(p.fail e).d=p.d:=TM
def PS.take_d (p:PS) (k:Nat) (l:List ak):(p.take k l).1.d=p.d:=by
 unfold PS.take;split
 .exact PS.fail_d p 3
 .rfl
def PS.comma_d (p:PS):p.comma.1.d=p.d:=by
 unfold PS.comma;split
 .rfl
 .exact PS.take_d _ _ _
def PS.ref_kind (p:PS):p.ref.d.kind=p.d.kind:=by show(p.take 1 []).1.d.kind=_;rw[PS.take_d]
def PS.listGo_kind (n:Nat) (p:PS):(PS.listGo n p).d.kind=p.d.kind:=by
 fun_induction PS.listGo n p with
 |case1 n p h c=>
  refine c.trans ((PS.ref_kind _).trans ?_);split
  .rw[PS.fail_d,PS.comma_d]
  .rw[PS.comma_d]
 |case2 n p h=>rw[PS.comma_d]
def PS.classGo_kind (l:List ak) (p:PS):(PS.classGo l p).d.kind=p.d.kind:=by
 rw[PS.classGo];split
 .rw[PS.fail_d]
 .have y:=PS.take_le p 2 l;have g:(p.take 2 l).1.d.kind=p.d.kind:=congrArg au.kind (PS.take_d p 2 l);dsimp only;split
  .rename_i h;have j:=PS.comma_lt _ h;rw[PS.classGo_kind,PS.comma_d];exact g
  .rw[PS.comma_d];exact g
termination_by p.ts.length
decreasing_by exact bq j y
def PS.part_kind (p:PS) (x:jZ):(p.part x).d.kind=p.d.kind:=by
 cases x with
 |name=>(have h:=congrArg au.kind (PS.take_d p 1 []);exact h)
 |ref=>exact PS.ref_kind p
 |number=>(have h:=congrArg au.kind (PS.take_d p 3 []);exact h)
 |list=>exact(PS.listGo_kind 1 p.ref).trans (PS.ref_kind p)
 |classes=>exact PS.classGo_kind _ p
 |domain=>(have h:=congrArg au.kind (PS.take_d p 2 [fe,fq,jB]);exact h)
 |alw=>
  show p.alw.d.kind=_;unfold PS.alw;split
  ·(have h:=congrArg au.kind (PS.take_d p 2 []);exact h)
  .rfl
 |word s=>(have h:=congrArg au.kind (PS.take_d p 2 [s]);exact h)
def PS.parts_kind: ∀(l:List jZ) (p:PS),(p.parts l).d.kind=p.d.kind
 |[],p=>rfl
 |x::l,p=>by
  rw[PS.parts,PS.parts_kind l];split
  .exact PS.part_kind p x
  .rfl
def ei3 (pb B M:Nat) (p:PS) (w:Wu) (hM:M<=100000) (h:bZ w pb B M p) (i:Nat) (F:ga p.head=Ws i):
 WJ WH 42 #[aj pb] w (Mq w pb B M p.decl):=by
 have J:=aa (ar6 F);have gm9:=ei2 F;refine Qw λHP HN=> ?_;have HT:=aa (λW (hW:bZ W pb B M p)=>Ay pb B M p W 2 2 [] (Yb Wr 0 0) rfl hW az (bG.nil_ _ _));have dd6:=aa (fun(p:PS) (M:Nat) (hM:p.Ok M)=>Yr (l:=[[59]]) hM (show(4:Nat)≠0 by decide));have uj:=aa (λW B' q v (hW:bZ W pb B' (M+1) q) (G:bG W W v [[59]])=>Ay pb B' (M+1) q W 4 4 [[59]] v rfl hW az G);have jz:=h.cells.1;have a_:=h.size;have HR:=aa (λW (hW:pb<W.heap.size)=>Zg pb W hW);generalize p.head=t at HN F;have HC:=aa (fun(W:Wu) v b (hb:b<W.heap.size) (A:W.cell? b=Ws (WK Xr t.kind)) (h1:W.cell? (b 1 Wr)=Ws (WM (bs t.text))) (hs:bW 3 tY W W v rules)=>
  Yz tY tY.ab v rules 120 #[aj b] (jg rules (yy t)) W hs (WD func120 aC rfl)
   (λj x cs W2 hx hW F _=>by rw[eW hx];exact ar1 x cs t b _ W2 F ((hW.cell (p:=b) hb).trans A) ((hW.cell (p:=b 1 Wr) hb).trans h1) (bq hb hW.size)))
 rw[Yw,ar3,F] at HC;refine ou λnV=> ?_;have dz:(0:Int)<=(i:Int):=Yi;have bJ:(i:Int)<17:=Yi;obtain⟨rl,CX⟩: ∃r,rules[i]? =Ws r:=⟨_,Wy (by exact gm9)⟩;have dc7:=aa CX;have zD:rules.getD i ([],[])=rl:=by rw[WP,CX];rfl
 rw[zD] at J;generalize p.decl=pd at J;generalize p.take 2 []=pt at J HT;obtain⟨p1,t1⟩:=pt;dsimp only at J;clear h F CX zD;unfold aj at HN HR HC HT uj;unfold bm at HC;rw[oy] at HN;simp only[aj];go_enter func42,ntmps42;go_wp2_with first
  |(go_at_call 39;refine(HN.out _ (HP.out.later (ae (af w) _))).m ?_;rintro e w1 ⟨rfl,ap⟩;have He:=ai (ae (af w) _) ap;have dh:=He.size;have cM:=aq (bQ w _) ap)
  |(go_at_call 117;refine(HR.out _ bI).m ?_;rintro e w2 ⟨v,rfl,G,am⟩;refine ar7 λaL ht aS=> ?_;have cV:=aq (aq cM (ae (af w1) _)) am)
  |(go_at_call 119;refine(HC.out _ _ _ (blk_lt ht) (ah ht rfl) (ah ht rfl) G.sl).m ?_;rintro e w3 ⟨rfl,O⟩;have bY:=aa (ai aS O);have mM:=aa (aq cV O);have df0:=aa (G.keep (aF.of_below (pb:=pb) O (ag _) O.size) O.size);clear ap He cM am aL ht aS cV O G)
  |(go_at_call 121;refine(HT.out _ (HP.out.later bY.out)).mono ?_;unfold rq;rintro e y ⟨rfl,D,Z,tl⟩;have ke:=Z.blk mM.out (blk_lt mM.out) (by omega);have gs5:=Z.size;have J6:=aa (df0.out.keep Z gs5);obtain⟨rb,rfl,gN,kf,BA⟩:=J6.out;obtain⟨pv,g0,g1,g2,g3⟩:=BA i rl dc7.out;obtain⟨Bw,qW,_⟩:=D.cells;have f2:=qW 2;have f3:=qW 3;have f4:=qW 4;have f5:=qW 5;have f6:=qW 6;have f7:=qW 7;have d2:=(D.cells).2.2.2.1;have d3:=(D.cells).2.2.2.2.1;have d6:=(D.cells).2.2.2.2.2.1;have d7:=(D.cells).2.2.2.2.2.2;obtain⟨tv,rv,nv,Us,_⟩:=id D;have d4:y.cell? ⟨pb,4,none⟩=some rv:=ah Us rfl;have d5:y.cell? ⟨pb,5,none⟩=some nv:=ah Us rfl;have EY:rb<y.heap.size:=by omega
    have hi0: ¬rb=pb:=Yi;have mL:=aa D;have eN:=aa Z;have sX:=aa ke;have Gm:=aa g3;obtain⟨b2,c2,rfl,di,cz,hh4,gj6,ck4⟩:=g3;have cx5:=aa ck4;clear D Z tl ke qW gN kf BA Us ck4)
 have Lz:=mL.out.reset (k:=i) (B':=y.heap.size) Yi (ag _);have O0:aF y.heap.size pb y ((((((y.setCell (pb 2 Wr) (WK Xr i)).setCell (pb 3 Wr) (WM ⟨#[]⟩)).setCell (pb 4 Wr) (Yb Wr 0 0)).setCell (pb 5 Wr) (Yb Wr 0 0)).setCell (pb 6 Wr) (WK Xr 0)).setCell (pb 7 Wr) (Yc Ww)):=
  ((((((aF.refl _ _ _).set (.inl rfl) _).set (.inl rfl) _).set (.inl rfl) _).set (.inl rfl) _).set (.inl rfl) _).set (.inl rfl) _
 refine cP (λW=>bZ W pb y.heap.size M {p1 with d:={kind:=i}}/\aF y.heap.size pb y W) ⟨Lz,O0⟩ ?_;intro W5 ⟨ng,pg⟩;have lm:=aa ng;have eI:=aa pg;have cs5:=pg.size;have VW:=blk_lt sX.out;have U:Hid (pd=((((PS.parts {p1 with d:={kind:=i}} rl.2).take 4 [[59]]).1),(((PS.parts {p1 with d:={kind:=i}} rl.2).take 4 [[59]]).1).d)):=J.out;have xp:=aa (show({p1 with d:={kind:=i}}:PS).d.kind=i from rfl);generalize ({p1 with d:={kind:=i}}:PS)=q0 at lm U xp;obtain⟨n,hn⟩: ∃n,rl.2.length=n:=⟨_,rfl⟩;have AI:=aa hn;simp only[hn];have wz:n<=c2:=Yi;have gV:c2<=9223372036854775807:=by simpa[Xe] using cz
 clear Lz O0 ng pg hn g0 g1 g2 Bw f2 f3 f4 f5 f6 f7 d2 d3 d4 d5 d6 d7 di cz mL J;go_loopw [37] (λi wr=> ∃(k:Nat) (q:PS),i=WK Xr k/\k<=n/\bZ wr pb y.heap.size (M+1) q/\(q.e=0->q.Ok M)/\aF y.heap.size pb y wr/\q0.parts rl.2=q.parts (rl.2.drop k)) (λi _=>n - (WS i).toNat)
 case atStart=>exact⟨0,q0,rfl,bU _,lm.out.more (XR M),λ_=>lm.out.ok,eI.out,by rw[List.drop_zero]⟩
 case round=>
  obtain⟨k,q,rfl,hk,jG,xH,ph,uL⟩:=hrel;have qH:=aa ph;have DZ:=aa uL;by_cases ar:k<n
  .have OC:(0:Int)<=(k:Int):=by omega
   have G_:(k:Int)<n:=Yi;obtain⟨x,hx⟩: ∃x,rl.2[k]? =Ws x:=⟨_,Wy Ko⟩;obtain⟨u,hu,g,bnd,caps,rfl,eg,Bg⟩:=cx5.out k x hx;have hd3:=(ph.cell k gj6 Yi).trans hu;have HX:=aa hx;unfold dp at eg;by_cases wA:q.e=0
   .have Y:=jG.okM (xH wA);have Gf:=aa (Bg wr y M q (by omega) ph (ag _) Y);have oO:=aa (show q.parts (rl.2.drop k)=(q.part x).parts (rl.2.drop (k+1)) from by rw[I_ hx,ar8,if_pos wA]);have a1:=jG.cells.2.2.1;have hz:=jG.cells.1;have Lg:((q.e:Int)==0)=true:=by simp;omega
    have hi5:=ph.size;clear jG xH ph uL hx hu Bg Y wA;go_wp2_with fail
    refine Gf.out.mono ?_;unfold sD;rintro e w6 ⟨rfl,Ha,gi9,Er⟩;go_wp2_with fail
    exact⟨⟨k+1,q.part x,by go_num,by omega,Ha,gi9,qH.out.trans Er,by rw[DZ.out,oO.out]⟩,by simp[WS];omega⟩
   .have oO:=aa (show q.parts (rl.2.drop k)=q.parts (rl.2.drop (k+1)) from by rw[I_ hx,ar8,if_neg wA]);have a1:=jG.cells.2.2.1;have hz:=jG.cells.1;have Lg:((q.e:Int)==0)=false:=by simp;omega
    have Tc:=aa jG;have qK:=aa xH;clear jG xH ph uL hx hu Bg wA;go_wp2_with fail
    exact⟨⟨k+1,q,by go_num,by omega,Tc.out,qK.out,qH.out,by rw[DZ.out,oO.out]⟩,by simp[WS];omega⟩
  .have qX:k=n:=by omega
   have V:=aa (show q0.parts rl.2=q from by rw[uL,qX,<-AI.out,List.drop_length];rfl);rw[V.out] at U;have JY:=aa jG;have da9:=aa xH;have eB:=bq VW ph.size;have kZ:=ph.blk sX.out VW Yi;have zd:=aa kZ;have X:=aa (λv (G:bG (wr.alloc (Yd #[WM ⟨#[59]⟩] 9)) (wr.alloc (Yd #[WM ⟨#[59]⟩] 9)).heap.size v [[59]])=>uj.out _ _ q v (jG.later (ae (af wr) _)) G);have AR:=aa (bG.of_new (w:=wr) [[59]] (t:=9) (C:= #[WM ⟨#[59]⟩]) (n:=1) (c:=1) rfl rfl rfl rfl Yl);have gY:=aa (λA=>dd6.out q M A);have GF:=aa (show((q.take 4 [[59]]).1.e=0->q.e=0) from λA=>by apply Classical.byContradiction;intro aO;rw[PS.take_err aO] at A;exact aO A);have gX:=aa (show(q.take 4 [[59]]).1.d.kind=i from by rw[PS.take_d,<-V.out,PS.parts_kind];exact xp.out);generalize q.take 4 [[59]]=qt at X U gY GF gX;obtain⟨r,rt⟩:=qt;dsimp only at U gY GF gX;clear jG xH ph uL qX kZ;go_wp2_with fail
   refine(X.out _ AR.out).mono ?_;unfold rq;rintro e I ⟨rfl,Hb,wl,Ow⟩;obtain⟨tv,rv,nv,c1,uw,c3,c4,c5,c6,c7⟩:=id Hb;obtain⟨rA,rn,rc,rfl⟩:=eH c3;obtain⟨nA,nn,nc,rfl⟩:=eH c4;have d2:I.cell? (pb 2 Wr)=Ws (WK Xr r.d.kind):=ah c1 rfl;have d3:I.cell? (pb 3 Wr)=Ws (WM (bs r.d.name)):=ah c1 rfl;have d4:I.cell? (pb 4 Wr)=Ws (Yb rA rn rc):=ah c1 rfl;have d5:I.cell? (pb 5 Wr)=Ws (Yb nA nn nc):=ah c1 rfl;have d6:I.cell? (pb 6 Wr)=Ws (WK Xr r.d.by_):=ah c1 rfl;have d7:I.cell? (pb 7 Wr)=Ws (Yc r.d.always):=ah c1 rfl;have Ie:=blk_lt c1;have z:=wl.blk (aq zd.out (ae (af wr) _)) bI Yi;obtain⟨I',q1,q2,q3,q4,q5⟩:=af4 z;have r0:=ah (o:=0) z rfl;have r1:=ah (o:=1) z rfl;have r2:=ah (o:=2) z rfl;have r3:=ah (o:=3) z rfl;have r4:=ah (o:=4) z rfl;have r5:=ah (o:=5) z rfl;have VY:=blk_lt z;have C3:=aa c3;have C4:=aa c4;have C7:=aa c7;have JU:=aa Hb;have lj:=aa wl;have bn8:=aa z;clear Hb wl Ow z c1 uw c3 c4 c5 c6 c7;go_wp2_with fail
   refine bodyPost_ret (v:=Ye #[WK Xr r.d.kind,bs r.d.name,Yb rA rn rc,Yb nA nn nc,WK Xr r.d.by_,Yc r.d.always]) (by simp[results,results42,go_sem,r0,r1,r2,r3,r4,r5,VY]) rfl ?_;rw[U.out];have gP:w.heap.size<y.heap.size:=VW;have mf:=C7.out.by_;have eV:r.d.kind<=1000000:=by rw[gX.out];omega
   refine⟨_,y.heap.size,rfl,⟨_,_,rfl,ar4 C3.out gP,ar4 C4.out gP,eV,by show r.d.by_<=1000000;omega⟩,JU.out.set6 bn8.out az jz,λA=>(gY.out (da9.out (GF.out A))).1,?_⟩;have fY:aF w.heap.size pb w I:=(((aF.of_below bY.out (ag _) bY.out.size).trans (eN.out.mono bY.out.size)).trans (qH.out.mono (eJ gP))).trans ((aF.of_below (ae (af wr) _) (by have:=qH.out.size;omega) Yl).trans (lj.out.mono (by have:=qH.out.size;simp;omega)));exact(((((fY.set (.inr (ag _)) _).set (.inr (ag _)) _).set (.inr (ag _)) _).set (.inr (ag _)) _).set (.inr (ag _)) _).set (.inr (ag _)) _
def ei4 (pb B M:Nat) (p:PS) (w:Wu) (c:M<=100000) (h:bZ w pb B M p):WJ WH 42 #[aj pb] w (Mq w pb B M p.decl):=by
 cases hr:ga p.head with
 |none=>exact ei1 pb B M p w h hr
 |some i=>exact ei3 pb B M p w c h i hr
def Zh (w:Wu) (r:Except (Nat×Nat) (List au)) (e:X0) (w':Wu):Prop:=
 Below w w w'/\match r with
  | .error x=>e=Xz (.tuple #[Yb Wr 0 0,x.1,x.2])
  | .ok l=> ∃v,e=Xz (.tuple #[v,WK Xr 0,WK Xr 0])/\bW 6 oD w' w' v l
def ei5:(Tryz.prog.info? 96).map (λi=>(i.zero,i.size,i.bytes))=Ws (Ws (Ye #[WK Xr 0,WM ⟨#[]⟩,Yb Wr 0 0,Yb Wr 0 0,WK Xr 0,Yc Ww]),6,88):=aC
def Dm (d:au) (r n:Wv):List Value:=[WK Xr d.kind,WM (bs d.name),r,n,WK Xr d.by_,Yc d.always]
def rr (w:Wu) (pb:Nat) (rows:List (List Wv)) (l:List au):Prop:=
 rows.length=l.length/\∀(j:Nat) d,l[j]? =Ws d->∃r n B,rows[j]? =Ws (Dm d r n)/\pb<B/\w.ownsRow B 9 1 r d.refs.length (d.refs.map λs=>WM (bs s))/\w.ownsRow B 3 1 n d.nums.length (d.nums.map fun(k:Nat)=>WK .i64 k)/\d.kind<=1000000/\d.by_<=1000000/\∀k∈d.nums,k<=2000000
def rr.kp {w w':Wu} {pb:Nat} {rows:List (List Wv)} {l:List au} (h:rr w pb rows l) (c:aF w.heap.size pb w w'):rr w' pb rows l:=
 ⟨h.1,λj d g=>by obtain⟨r,n,B,h1,h2,h3,h4,h5⟩:=h.2 j d g;exact⟨r,n,B,h1,h2,oS h3 c (ag _) h2,oS h4 c (ag _) h2,h5⟩⟩
def rr.grown {w w':Wu} {pb:Nat} {rows:List (List Wv)} {l:List au} (h:rr w pb rows l) {base:Nat} {v:Wv} {n:Nat} {xs:List Wv} (ho:w.ownsRow base 96 6 v n xs) (U:w.grownBy w' v.ownBlock):rr w' pb rows l:=by
 have far {B e:Nat} {u:Wv} {m:Nat} {ys:List Wv} (F:w.ownsRow B e 1 u m ys) (O: ¬e=96):w'.ownsRow B e 1 u m ys:=by
  refine⟨F.1,?_⟩;rcases F.2 with V|⟨g,cap,y,z,A,c,C⟩
  .exact .inl V
  .refine .inr ⟨g,cap,y,z,A,iY c U (λk D G=> ?_),C⟩;subst G;rcases ho.2 with ⟨rfl,_⟩|⟨I,cap2,cur2,rfl,_,X,_⟩
   .simp[Xq] at D
   .have:I=g:=by simpa[Value.ownBlock] using D
    subst this;rw[X] at c;injection c with c;injection c with _ c _;exact O c.symm
 refine⟨h.1,λj d J=> ?_⟩;obtain⟨r,n,B,z,A,c,C,h5⟩:=h.2 j d J;exact⟨r,n,B,z,A,far c az,far C az,h5⟩
def rr.snoc {w:Wu} {pb B:Nat} {rows:List (List Wv)} {l:List au} {d:au} {r n:Wv} (h:rr w pb rows l) (C:pb<B) (y:w.ownsRow B 9 1 r d.refs.length (d.refs.map λs=>WM (bs s)))
 (z:w.ownsRow B 3 1 n d.nums.length (d.nums.map fun(k:Nat)=>WK .i64 k)) (A:d.kind<=1000000/\d.by_<=1000000/\∀k∈d.nums,k<=2000000):rr w pb (rows++[Dm d r n]) (l++[d]):=by
 refine⟨by simp[h.1],λj x hx=> ?_⟩;rcases Xk j l.length with hj|hj
 .rw[Xx hj] at hx;obtain⟨r',n',B',g1,g⟩:=h.2 j x hx;exact⟨r',n',B',by rw[Xx GP];exact g1,g⟩
 .rw[List.getElem?_append_right hj] at hx;have c:j - l.length=0:=by
   have:=(List.getElem?_eq_some_iff.1 hx).1;simp at this;omega
  rw[c] at hx;simp at hx;subst hx;refine⟨r,n,B,?_,C,y,z,A⟩;rw[XZ GP,h.1,c];rfl
def rr.sl {w:Wu} {pb base:Nat} {rows:List (List Wv)} {l:List au} {v:Wv} (h:rr w pb rows l) (ho:w.ownsRow base 96 6 v l.length rows.flatten):bW 6 oD w w v l:=by
 refine bW.of_own rows (λr g=> ?_) h.1 ho (λj r x g hx=> ?_)
 .obtain⟨j,hj⟩:=List.mem_iff_getElem?.1 g;have A:=(List.getElem?_eq_some_iff.1 hj).1;obtain⟨d,hd⟩: ∃d,l[j]? =Ws d:=⟨_,Wy (by rw[<-h.1];exact A)⟩;obtain⟨r',n',B',c,_⟩:=h.2 j d hd;rw[hj] at c;injection c with c;subst c;rfl
 .obtain⟨r',n',B',c,g2,g3,g4,g5,g6,g7⟩:=h.2 j x hx;rw[g] at c;injection c with c;subst c;refine⟨r',n',rfl,?_,?_,g5,g6⟩
  .have z:=Sl.of_own g3;unfold bG cD;rw[XB];exact z
  .have z:=Sl.of_own g4;refine⟨by rw[XB];exact z,λy C=> ?_⟩;obtain⟨k,hk,rfl⟩:=List.mem_map.1 C;have:=g7 k hk;constructor<;>omega
def dy (c:UInt8) (w:ak):Prop:= ∀x∈w,x≠c
def dy.append {c:UInt8} {a b:ak} (g:dy c a) (h:dy c b):dy c (a++b):=λx hx=>(List.mem_append.1 hx).elim (g x) (h x)
def dy.cons {c x:UInt8} {b:ak} (h:x≠c) (j:dy c b):dy c (x::b):=λy g=>by
 rcases List.mem_cons.1 g with rfl|g
 .exact h
 .exact j y g
def dy.tail {c x:UInt8} {b:ak} (h:dy c (x::b)):dy c b:=λy hy=>h y qO
def ZV {c x:UInt8} {t l:ak} (h:x≠c):(c::t).isPrefixOf (x::l)=false:=by simp[List.isPrefixOf,Ne.symm h]
def bc8 (c:UInt8) (t:ak): ∀(w r:ak),dy c w->Lib.index (w++((c::t)++r)) (c::t)=w.length
 |[],r,_=>by show Lib.index (c::(t++r)) (c::t)=_;rw[Lib.index,if_pos Yl];rfl
 |x::w,r,h=>by have j:=bc8 c t w r h.tail;show Lib.index (x::(w++((c::t)++r))) (c::t)=_;rw[Lib.index,j,ZV (h x Yl)];have g:((w.length:Int)== -1)=false:=Yl;simp[g]
def bc9 (c:UInt8) (t:ak): ∀(w:ak),dy c w->Lib.index w (c::t)= -1
 |[],_=>by simp[Lib.index]
 |x::w,h=>by rw[Lib.index,bc9 c t w h.tail,ZV (h x Yl)];simp
def Q2 (c:UInt8) (t w:ak) (h:dy c w):Xh w (c::t)=[w]:=by unfold Xh;rw[Lib.count_miss (bc9 c t w h)];rfl
def Q3 (c:UInt8) (t w r:ak) (h:dy c w):Xh (w++((c::t)++r)) (c::t)=w::Xh r (c::t):=by
 have g:=bc8 c t w r h;have e:(w++((c::t)++r)).drop (w.length+(c::t).length)=r:=by rw[<-Xd];exact List.drop_left' Yl
 unfold Xh;rw[Lib.count_hit Yl g,Nat.add_comm,Lib.splitK,g];have j:((w.length:Int)== -1)=false:=Yl;simp only[j,WW,if_false,Int.toNat_natCast,WR];rw[e];simp
def bd0 (c:UInt8) (t:ak): ∀(w:ak) (r:List ak),(∀x∈w::r,dy c x)->Xh (dr (c::t) (w::r)) (c::t)=w::r
 |w,[],h=>Q2 c t w (h w Yl)
 |w,x::r,h=>by show Xh (w++(c::t)++dr (c::t) (x::r)) (c::t)=_;rw[Xd,Q3 c t w _ (h w Yl),bd0 c t x r λy hy=>h y Oc]
def bd1: ∀(l:List ak),(∀x∈l,dy 10 x)->Xh (aE l) [10]=l++[[]]
 |[],_=>Q2 10 [] [] (by simp[dy])
 |x::l,h=>by have e:aE (x::l)=x++(([10]:ak)++aE l):=xz;rw[e,Q3 10 [] x _ (h x Yl),bd1 l λy hy=>h y qO];rfl
def fb3 (l:List ak) (h: ∀x∈l,dy 10 x):bB (aE l)=l:=by unfold bB;rw[bd1 l h];simp
def qw (s:ak):Bool:=tV.isPrefixOf s
def bd2: ∀(D:List ak) (c:ak) (R:List ak),(∀x∈D,qw x=Ww)->qw c=Wz->(D++c::R).findIdx? (λs=>tV.isPrefixOf s)=Ws D.length
 |[],c,R,_,h=>by have g:tV.isPrefixOf c=true:=h;simp[List.findIdx?_cons,g]
 |x::D,c,R,hD,h=>by have g:tV.isPrefixOf x=false:=hD x Yl;have j:=bd2 D c R (λy hy=>hD y qO) h;rw[WZ,List.findIdx?_cons,g,j];simp
def fb4 (D:List ak) (c:ak) (R:List ak) (A: ∀x∈D,qw x=Ww) (C:qw c=Wz) (g: ∀x∈D++c::R,dy 10 x) (F:(aE (D++c::R)).length<=65536):
 ox (aE (D++c::R))=
  match lC (aE D) with
  | .error x=> .error (BY (aE D) x.1,x.2)
  | .ok ds=>match nE ds with
    | .error x=> .error (0,x.2)
    | .ok m=>match yx c with
      |none=> .error (D.length+1,3)
      |some q=>match gz (D.length+2) [] R with
       | .error x=> .error x
       | .ok acts=>if ii ⟨m,q.1,q.2,acts⟩ then .ok ⟨m,q.1,q.2,acts⟩ else .error (D.length+1,1):=by
 have j:(D++c::R).take D.length=D:=Yl;have y:(D++c::R).getD D.length []=c:=Yl;have z:(D++c::R).drop (D.length+1)=R:=by rw[List.drop_append];simp
 unfold ox;rw[if_neg Yi,fb3 _ g,bd2 D c R A C];simp only[j,y,z]<;>rfl
def ZW {c:UInt8} (h:c.toNat<48\/57<c.toNat) (n:Nat):dy c (WV n):=λx hx e=>by subst e;have:=Fk _ _ (ag _) _ hx;omega
def MM {c:UInt8} (h:c.toNat<48\/57<c.toNat) (g:c≠45) (v:Int):dy c (WB v):=by
 unfold WB;split
 .exact .cons (Ne.symm g) (ZW h _)
 .exact ZW h _
def ZX {c:UInt8} {g:ak} (j:dy c g): ∀(l:List ak),(∀x∈l,dy c x)->dy c (dr g l)
 |[],_=>by simp[dy,dr]
 |[a],h=>h a Yl
 |a::b::l,h=>((h a Yl).append j).append (ZX j (b::l) λy hy=>h y Oc)
def fb5 (s:lB):qw (em s)=true:=by unfold qw em;rw[Xd,Xd];exact List.isPrefixOf_iff_prefix.2 ⟨_,rfl⟩
def fb6 (s:lB):dy 10 (em s):=by
 unfold em;refine((dy.append ?_ (ZX (by unfold dy;decide) _ λx hx=> ?_)).append ?_).append (MM az az _)
 .unfold dy tV;decide
 .obtain⟨n,_,rfl⟩:=List.mem_map.1 hx;exact MM az az _
 .unfold dy gl;decide
def fb7 (a b:ak) (y:dy 99 a) (j:Nat) (z:j<a.length):Lib.occAt (a++(gl++b)) gl j=false:=by
 apply Bool.eq_false_iff.2;intro h;unfold Lib.occAt at h;obtain⟨t,ht⟩:=List.isPrefixOf_iff_prefix.1 h;have c:((a++(gl++b)).drop j)[1]? =Ws 99:=by rw[<-ht];rfl
 rw[List.getElem?_drop] at c;rcases Xk (j+1) a.length with g|g
 .rw[Xx g] at c;exact y _ (eD c) rfl
 .have e:j+1=a.length:=by omega
  rw[XZ Yi,e,Nat.sub_self] at c;exact absurd c (by simp[gl])
def fb8 (a b:ak) (c:dy 99 a):Lib.cut (a++(gl++b)) gl=(a,b,Wz):=by
 have g:Lib.index (a++(gl++b)) gl=a.length:=Lib.index_first Yl (by unfold Lib.occAt;rw[List.drop_left];exact List.isPrefixOf_iff_prefix.2 ⟨_,rfl⟩) (fb7 a b c);unfold Lib.cut;rw[g,if_pos Yi,Int.toNat_natCast];congr 1
 .simp
 .congr 1;rw[<-Xd];exact List.drop_left' Yl
def fb9 (s:lB) (j:s.control≠[]) (c: ∀x∈s.control,aK x) (g:aK s.clients):yx (em s)=Ws (s.control,s.clients):=by
 have e:(em s).drop 8=dr [44,32] (s.control.map WB)++(gl++WB s.clients):=by unfold em;rw[Xd,Xd];exact List.drop_left' rfl
 unfold yx;rw[e,fb8 _ _ (ZX (by unfold dy;decide) _ λx hx=>by obtain⟨n,_,rfl⟩:=List.mem_map.1 hx;exact MM az az _)];simp only[if_true];rw[I0 _ g]
 match hs:s.control,j with
 |a::r,_=>rw[WO,bd0 44 [32] _ _ (λx hx=>by rw[<-WO] at hx;obtain⟨n,_,rfl⟩:=List.mem_map.1 hx;exact MM az az _),<-WO,XB];have:=Fl (a::r) (λx hx=>c x (hs▸hx));show(Ws s.clients).bind (λn=>(dU ((a::r).map (λn=>bs (WB n)))).map λl=>(l,n))=_;rw[this];rfl
def bd3: ∀(ts:List cZ),(∀x∈ts,lD x)->dy 10 (iC ts)
 |[],_=>by simp[dy,iC]
 |x::r,h=>by
  rw[Mz];refine dy.append ?_ (bd3 r λy hy=>h y qO);have hx:dy 10 x.2.1:=by
   rcases h x Yl with h|h|h
   .intro c g e;subst e;have:=List.all_eq_true.1 h.1 _ g;exact absurd this az
   .rw[h.2.1];exact ZW az _
   .intro c g e;subst e;rcases h.2.2 with h|h<;>rw[h] at g<;>simp at g
  split
  .exact hx
  .exact .cons az hx
def fc0 {d:au} (h:bx d=Wz):dy 10 (cU d):=by have c:je d=true:=N';have:=bd3 (fH d) (au0 h);rw[ay4 d c] at this;exact this.tail
def fc1: ∀k,k<=16->∃c r,(rules.getD k ([],[])).1=c::r/\c≠99:=by
 intro k g;have: ∀k,k<=16->((rules.getD k ([],[])).1.head?.getD 99)≠99:=az;have h:=this k g;cases e:(rules.getD k ([],[])).1 with
 |nil=>rw[e] at h;exact absurd rfl h
 |cons c r=>rw[e] at h;exact⟨c,r,rfl,h⟩
def fc2 {d:au} (h:bx d=Wz):qw (cU d)=false:=by have g:je d=true:=N';obtain⟨c,r,e,hc⟩:=fc1 d.kind (FZ g);unfold qw cU;rw[e];exact ZV hc
def bd4: ∀k,k<18->dy 10 (dV k)/\(dV k).head?≠Ws 35:=by unfold dy;decide
def fc3 (x:aP) (z:fE x=Wz): ∀w∈eO x,dy 10 w:=by
 intro w hw;unfold eO at hw;have it (n:Int):dy 10 (WB n):=MM az az n;have ms: ∀l:List Int,w∈l.map WB->dy 10 w:=λl h=>by obtain⟨n,_,rfl⟩:=List.mem_map.1 h;exact it n
 have lit: ∀l:List UInt8,l.all (λc=> !(c==10))=Wz->dy 10 l:=λl h c g e=>by rw[Xo] at h;have:=h c g;subst e;exact absurd this az
 split at hw
 .cases hw
 .split at hw
  .exact ms _ hw
  .split at hw
   .rcases List.mem_cons.1 hw with rfl|hw
    .exact it _
    .exact ms _ hw
   .split at hw
    .exact ms [x.a,x.b] hw
    .split at hw
     .exact ms [x.a,x.b,x.c] hw
     .split at hw
      .exact ms [x.a,x.b,x.val] hw
      .split at hw
       .rename_i y;have j:=Qr z y;have iS:dy 10 x.key.data.toList:=by simp only[uU,Bool.and_eq_true] at j;have h:=j.2;intro c g e;subst e;rw[wU,List.all_eq_true] at h;exact absurd (h _ g) (by decide)
        rcases List.mem_append.1 hw with hw|hw
        .exact ms [x.a,x.b] hw
        .unfold ow at hw;split at hw
         .simp only[List.mem_cons,List.not_mem_nil,or_false] at hw;rcases hw with rfl|rfl
          .exact lit _ az
          .exact iS
         .split at hw
          .exact bd5
          .split at hw
           .simp only[List.mem_cons,List.not_mem_nil,or_false] at hw;rcases hw with rfl|rfl|rfl|rfl
            .exact lit _ az
            .exact iS
            .exact it _
            .exact it _
           .exact bd5
       .exact ms [x.a] hw
def fc4 {c:UInt8} {g:ak} (j:dy c g) (l:List ak) (h: ∀x∈l,dy c x):dy c (Lib.joinTail g l):=by
 induction l with
 |nil=>simp[dy,Lib.joinTail]
 |cons a l ih=>
  have:Lib.joinTail g (a::l)=g++(a++Lib.joinTail g l):=by simp[Lib.joinTail]
  rw[this];exact j.append ((h a Yl).append (ih λy hy=>h y qO))
def ex3 {x:aP} (c:fE x=Wz):dy 10 (eS x):=by obtain⟨h0,pe⟩:=Ff (Fg c);rw[Wg];exact(bd4 _ Yi).1.append (fc4 (by unfold dy;decide) _ (fc3 x c))
def ex4 {x:aP} (g:fE x=Wz): ¬(eS x=[]\/(eS x).head?=Ws 35):=by
 obtain⟨h0,pe⟩:=Ff (Fg g);rintro (h|h)
 .exact ed0 x g h
 .have j:=aj1 x.kind.toNat (by omega);rw[Wg] at h;cases e:dV x.kind.toNat with
  |nil=>exact j e
  |cons c r=>rw[e] at h;exact(bd4 x.kind.toNat Yi).2 (by rw[e];exact h)
def bd6: ∀(l:List aP) (k:Nat) (acc:List aP) (R:List ak),(∀a∈l,fE a=Wz/\a.Num)->acc.length+l.length<=1024->
 gz k acc (l.map eS++R)=gz (k+l.length) (acc++l) R
 |[],k,acc,R,_,_=>by simp
 |a::l,k,acc,R,h,hn=>by obtain⟨hv,hN⟩:=h a Yl;have c:=bd6 l (k+1) (acc++[a]) R (λy hy=>h y qO) (by simp at hn⊢;omega);rw[WO,WZ,gz,if_neg (ex4 hv),aj0 a hN hv];simp only;rw[if_neg Kk,c];simp only[Xd,List.singleton_append,Xg];congr 1;omega
def Nl {s:lB} (h:ii s=Wz):dZ s.m=Wz/\jK s=Wz/\(0<=s.clients/\s.clients<=8)/\s.acts.length<=1024/\∀a∈s.acts,fE a=true:=by unfold ii at h;simp only[WC,decide_eq_true_eq,vb,Xo] at h;obtain⟨⟨⟨⟨h1,h2⟩,h3⟩,h4⟩,h5⟩:=h;exact⟨h1,h2,h3,h4,h5⟩
def ZY {s:lB} (hm:dZ s.m=Wz) (h:jK s=Wz):s.control≠[]/\∀x∈s.control,aK x:=by unfold jK at h;rw[WC] at h;obtain⟨h1,h2⟩:=h;refine⟨λe=>by rw[e] at h2;simp at h2,λx hx=> ?_⟩;obtain⟨b,hb⟩:=F0 h1 hx;simp only[WC] at hb;have:=kr.1 hb.1.1;have:=(F3 hm).mn;exact⟨by omega,by omega⟩
def ex5 {m:aM} (h:sH m):(lz m).length<=1024:=by
 have F:=h.sn;have G:=h.fn;have I:=h.rn;have J:=h.mn;have O:=h.ln;have U:=h.xn;have V:=h.un;have X:(dX m).length<=1:=by unfold dX;split<;>simp
 rw[z_];simp only[WG];have c:(dS m).length=m.sites.length:=by simp[dS]
 have g:(dF m).length=m.feeds.length:=by simp[dF]
 have j:(dR m).length=m.racks.length:=by simp[dR]
 have y:(dM m).length=m.machs.length:=by simp[dM]
 have z:(dL m).length=m.links.length:=by simp[dL]
 have A:(dI m).length=m.items.length:=by simp[dI]
 have C:(dD m).length=1:=rfl;have D:(rU m).length=m.rules.length:=by simp[rU]
 omega
def jE (s:lB):List ak:=(lz s.m).map cU
def ZZ {s:lB} (h:ii s=Wz):wP s=aE (jE s++em s::s.acts.map eS):=by unfold wP;rw[if_pos h];simp[aE,jE]
def ex6 {s:lB} (h:ii s=Wz) (y:(aE (jE s)).length<=16384) (R:List ak) (j: ∀x∈R,dy 10 x) (A:(aE (jE s++em s::R)).length<=65536):
 ox (aE (jE s++em s::R))=match gz ((jE s).length+2) [] R with
  | .error x=> .error x
  | .ok acts=>if ii {s with acts:=acts} then .ok {s with acts:=acts} else .error ((jE s).length+1,1):=by
 obtain⟨h1,h2,h3,h4,h5⟩:=Nl h;have hm:=F3 h1;obtain⟨c1,c2⟩:=ZY h1 h2;have c:=QY hm;have g: ∀x∈jE s,qw x=Ww/\dy 10 x:=λx hx=>by obtain⟨d,hd,rfl⟩:=List.mem_map.1 hx;exact⟨fc2 (c d hd),fc0 (c d hd)⟩
 rw[fb4 (jE s) (em s) R (λx hx=>(g x hx).1) (fb5 s) (λx hx=>by
  rcases List.mem_append.1 hx with hx|hx
  .exact(g x hx).2
  .rcases List.mem_cons.1 hx with rfl|hx
   .exact fb6 s
   .exact j x hx) A]
 have z:lC (aE (jE s))= .ok (lz s.m):=ew0 _ c (ex5 hm) y;rw[z];simp only;rw[es9 h1];simp only;rw[fb9 s c1 c2 ⟨by omega,by omega⟩]
def ex7 {s:lB} (h:ii s=Wz) (j: ∀a∈s.acts,a.Num) (y:(aE (jE s)).length<=16384) (g:(wP s).length<=65536):ox (wP s)= .ok s:=by
 obtain⟨h1,h2,h3,h4,h5⟩:=Nl h;have e:=ZZ h;rw[e] at g⊢
 rw[ex6 h y _ (λx hx=>by obtain⟨a,c,rfl⟩:=List.mem_map.1 hx;exact ex3 (h5 a c)) g];have:=bd6 s.acts ((jE s).length+2) [] [] (λa c=>⟨h5 a c,j a c⟩) oh;rw[XT] at this;rw[this];simp only[gz,Xl];rw[if_pos h]
def zf: ∀(l:ak),dy 10 l\/∃w r,l=w++10::r/\dy 10 w
 |[]=> .inl λc g=>by simp at g
 |c::l=>by
  by_cases g:c=10
  .subst g;exact .inr ⟨[],l,rfl,λc g=>by simp at g⟩
  .rcases zf l with h|⟨w,r,rfl,h⟩
   .exact .inl (.cons g h)
   .exact .inr ⟨c::w,r,rfl,.cons g h⟩
def ex8 (t:ak):Xh t [10]≠[]:=by
 rcases zf t with h|⟨w,r,rfl,h⟩
 .rw[Q2 10 [] t h];simp
 .have:=Q3 10 [] w r h;rw[show w++10::r=w++(([10]:ak)++r) from rfl,this];simp
def bd7 {t:ak} (h:dy 10 t):bB t=if t=[] then[] else[t]:=by unfold bB;rw[Q2 10 [] t h];by_cases e:t=[]<;>simp[e]
def bd8 (w r:ak) (h:dy 10 w):bB (w++10::r)=w::bB r:=by
 unfold bB;rw[show w++10::r=w++(([10]:ak)++r) from rfl,Q3 10 [] w r h];have c:=ex8 r;cases hs:Xh r [10] with
 |nil=>exact absurd hs c
 |cons a q=>have e:(w::a::q).getLast?=(a::q).getLast?:=Yl;simp only[e];split<;>simp
def Nm: ∀(n:Nat) (t:ak),t.length<=n->(∀x∈bB t,dy 10 x)/\(aE (bB t)).length<=t.length+1
 |n,t,hn=>by
  rcases zf t with h|⟨w,r,rfl,h⟩
  .rw[bd7 h];by_cases e:t=[]
   .simp[e,aE]
   .rw[if_neg e];exact⟨by simpa using h,by simp[aE]⟩
  .rw[bd8 w r h]
   match n,hn with
   |0,hn=>simp at hn
   |n+1,hn=>
    obtain⟨h1,h2⟩:=Nm n r Kk;refine⟨λx hx=> ?_,?_⟩
    .rcases List.mem_cons.1 hx with rfl|hx
     .exact h
     .exact h1 x hx
    .have e:aE (w::bB r)=w++10::aE (bB r):=by simp[aE]
     rw[e];simp;omega
def Nn: ∀(k n:Nat),1<=k->n<10^k->(WV n).length<=k
 |0,n,g,_=>by omega
 |k+1,n,_,h=>by
  rw[WV];by_cases c:n<10
  .rw[dif_pos c];simp
  .rw[dif_neg c];have g:1<=k:=by
    rcases Nat.eq_zero_or_pos k with e|e
    .subst e;simp at h;omega
    .exact e
   have:=Nn k (n / 10) g (by rw[Nat.pow_succ] at h;omega);simp;omega
def bd9 {v:Int} (h:aK v):(WB v).length<=20:=by
 obtain⟨h1,h2⟩:=h;unfold WB;split
 .have:=Nn 19 v.natAbs Yi Yi;simp;omega
 .have:=Nn 19 v.toNat Yi Yi;omega
def az3 (n:Nat): ∀(l:List ak),(∀x∈l,x.length<=n)->(dr [44,32] l).length<=(n+2)*l.length
 |[],_=>by simp[dr]
 |[a],h=>by have:=h a Yl;simp[dr];omega
 |a::b::l,h=>by
  have g:=h a Yl;have c:=az3 n (b::l) λy hy=>h y Oc;have e:dr [44,32] (a::b::l)=a++[44,32]++dr [44,32] (b::l):=rfl;rw[e];simp only[WG,Xg,XO] at c⊢
  have:(n+2)*(l.length+1+1)=(n+2)*(l.length+1)+(n+2):=by rw[Nat.mul_add _ (l.length+1) 1,Nat.mul_one]
  omega
def az4 {s:lB} (j: ∀x∈s.control,aK x) (y:aK s.clients) (c:s.control.length<=10):(em s).length<=1000:=by
 unfold em;have A:=bd9 y;have z:=az3 20 (s.control.map WB) λx hx=>by obtain⟨n,c,rfl⟩:=List.mem_map.1 hx;exact bd9 (j n c)
 rw[WF] at z;have g:tV.length=8:=rfl;have h:gl.length=9:=rfl;simp only[WG,g,h];omega
def pR (s:lB):Bool:=dZ s.m&&jK s&&aD s.clients 0 8
end
section
open Go Go.RowKit Go.MapKept Go.Proofs.Tryz
structure gi (rb:Nat) (ob:Option Nat) (w w':Wu):Prop where
 os:w'.os=w.os
 tape:w'.tape=w.tape
 output:w'.output=w.output
 size:w.heap.size<=w'.heap.size
 block: ∀i,i<w.heap.size->¬i=rb->Ws i≠ob->w'.heap[i]? =w.heap[i]?
def nK (w:Wu) (rb B:Nat) (T:WQ) (C:Array Wv) (off:Nat) (E k:Nat) (v:Wv) (n:Nat) (xs news:List Wv) (w':Wu):Prop:=
 ∃v',w'.heap[rb]? =Ws (Yd (C.setIfInBounds off v') T (0,0))/\w'.ownsRow B E k v' (n+1) (xs++news)/\(∀j,v'.ownBlock=Ws j->v.ownBlock=Ws j\/w.heap.size<=j)/\gi rb v.ownBlock w w'
def gi.of_below {rb:Nat} {ob:Option Nat} {w w':Wu} (h:Below w w w'):gi rb ob w w':=⟨h.os,h.tape,h.output,h.size,λi c _ _=>h.block i c⟩
def gi.trans {rb:Nat} {ob:Option Nat} {a b c:Wu} (h:gi rb ob a b) (k:gi rb ob b c):gi rb ob a c:=
 ⟨k.os.trans h.os,k.tape.trans h.tape,k.output.trans h.output,bo h.size k.size,λi y g j=>(k.block i (bq y h.size) g j).trans (h.block i y g j)⟩
def gi.grown {rb:Nat} {ob:Option Nat} {w w':Wu} (h:w.grownBy w' ob):gi rb ob w w':=⟨h.os,h.tape,h.output,h.size,λi g _ c=>h.block i g c⟩
def gi.set {rb:Nat} {ob:Option Nat} (w:Wu) (o:Nat) (u:Wv):gi rb ob w (w.setCell (rb o Wr) u):=
 ⟨rfl,rfl,rfl,by simp[XD],λi g c _=>Below.heap_setCell w (rb o Wr) u i c⟩
def nK.mk' {w W g:Wu} {rb B off E k n c cap H:Nat} {T:WQ} {C:Array Wv} {v:Wv} {xs news:List Wv} (F:W.heap[rb]? =Ws (Yd C T (0,0))) (D:Below w w W) (y:W.grownBy g v.ownBlock)
 (G:v.ownBlock≠Ws rb) (z:g.ownsRow B E k (Yb (Ws (c 0 Wr)) (n+1) cap) (n+1) (xs++news)) (I:v.ownBlock=Ws c\/c=H) (O:w.heap.size<=H) (J: ¬c=rb):
 nK w rb B T C off E k v n xs news (g.setCell (rb off Wr) (Yb (Ws (c 0 Wr)) (n+1) cap)):=by
 have A:=iY F y (λj hj e=>G Co);refine⟨_,aZ A off _,mu z (λj hj=> ?_) _ _,λj hj=> ?_,((gi.of_below D).trans (gi.grown y)).trans (gi.set _ _ _)⟩
 .have:c=j:=by simpa[Value.ownBlock] using hj
  omega
 .have:c=j:=by simpa[Value.ownBlock] using hj
  subst this;rcases I with h|h
  .exact .inl h
  .exact .inr Yi
def eZ {w w':Wu} {ob:Option Nat} (h:w.grownBy w' ob) {b o:Nat} (g:b<w.heap.size) (c:ob≠Ws b):w'.cell? (b o Wr)=w.cell? (b o Wr):=
 XN (h.block b g (λe=>c e.symm))
end
end Go.Proofs.YtklfdkdebgfmiaaGreatDoor
