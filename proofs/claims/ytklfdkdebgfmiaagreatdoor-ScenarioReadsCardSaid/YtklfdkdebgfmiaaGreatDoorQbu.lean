/- A part of the proof. -/
import Derived.Test.YtklfdkdebgfmiaaGreatDoorQbp
import Derived.Test.YtklfdkdebgfmiaaGreatDoorQbq
set_option linter.defProp false
set_option linter.unusedVariables false
set_option linter.unusedSimpArgs false
set_option maxRecDepth 100000
set_option maxHeartbeats 32000000
open Option renaming none->Wr,some->Ws
open Decidable renaming decide->Wt
open Go renaming World->Wu,Value->Wv,Calls->WJ,Addr->X8
open Bool renaming false->Ww,true->Wz
open Go.RowKit renaming Hid->WA
open Go.Lib renaming split->Xh,countB->XM
open Go.Proofs renaming intOf->WS
open And renaming intro->WE
open Go.Proofs.Tryz renaming prog->WH
open Go.Value renaming int->WK,string->WM,ownBlock->Xq,slice->Yb,bool->Yc,agg->Ye
open Go.IntKind renaming i64->Xr
open Go.Ending renaming returned->Xz
open Go.Obj renaming cells->Yd
namespace Go.Proofs.YtklfdkdebgfmiaaGreatDoor
section
open Go Go.RowKit Go.MapKept Go.Proofs.Tryz
def ue (w:Wu) (B:Nat) (cs:List Wv) (x:aP):Prop:= ∃m s,cs=(x.cells m s).toList/\x.In w B m s/\x.ms.length<=1000000/\x.ss.length<=1000000
def ue.ab:jf ue:=λ_ _ _ _ _ _ _ ⟨m,s,g,h,j⟩ z y c=>⟨m,s,g,(h.below z y).more c,j⟩
def fq6 {m:aM} (h:dZ m=Wz): ∀x∈m.machs,aH x.rack m.racks.length=true:=by
 intro x hx;have y:dN (uT m) [] m.machs=true:=by have g:fu m=true:=ca3;unfold fu at g;simp only[WC] at g;exact g.1.2
 rw[wY] at y;obtain⟨j,hj,rfl⟩:=List.getElem_of_mem hx;have c:=List.all_eq_true.1 y j (List.mem_range.2 hj);rw[E8 (Wy hj)] at c;unfold uT at c;rw[WC] at c;exact c.1
def fq7 (x:aP) (m s:Wv) (w:Wu) (hx:x.In w w m s) (z:x.ms.length<=1000000) (A:x.ss.length<=1000000):
 aQ 57 #[Ye (x.cells m s)] w (Yc (!fE x)):=by
 obtain⟨Am,nm,cm,rfl,_,_,_⟩:=hx.ms.form;obtain⟨As,ns,cs,rfl,_,_,_⟩:=hx.ss.form;have c:=aa (λW (j:Below w w W)=>P6 x _ _ W ((hx.below j (ag _)).more j.size) z A);simp only[aP.cells_def] at c⊢
 clear hx;go_enter func57,ntmps57;go_wp2_with(go_at_call 34;refine(c.out _ (ae (af w) _)).m ?_;rintro e C ⟨rfl,g⟩;have y:=aa (ai (ae (af w) _) g);clear g)
 go_ret;exact⟨rfl,y.out⟩
def bq0 (s:lB) (v:MV) (V U:Wv) (w:Wu) (F:fD w) (z:s.m.In w w v) (D:aW w w V s.control) (C:bW 10 ue w w U s.acts) (X:s.control.length<=100000):
 aQ 21 #[Ye (s.m.cells v++ #[V,WK Xr s.clients,U])] w (Yc (ii s)):=by
 obtain⟨m,l,cl,acts⟩:=s;simp only at z D C X⊢
 obtain⟨⟨Sa,sc,hs,dh,bS⟩,⟨Fa,fc,cB,cr,cL⟩,⟨Ra,rc,hr,cM,cV⟩,⟨Ma,mc,hm,dd,cz⟩,⟨La,lc,eX,dt,di⟩,⟨Ia,ic,hi,ed,ez⟩,⟨Ua,uc,hu,dP,dq⟩⟩:=z.cells;obtain⟨A,n,c,rfl,hn,Bi,iG⟩:=D.form;obtain⟨A2,n2,c2,rfl,kX,ci8,gk7⟩:=C.form;refine bq1 λHM HS=> ?_;have Jm:=aa (λW (g:Below w w W)=>Y_ m v W (F.below g F.g.size) (z.to g (ag _) g.size));have AK:=aa (fun(bN:dZ m=Wz) W (g:Below w w W)=>fq5 m v l cl acts _ (Yb A2 n2 c2) W (z.to g (ag _) g.size) ((D.below g (ag _)).more g.size) X (fq6 bN));have y:=aa (λW (g:Below w w W)=>dl9 ue ue.ab _ acts 57 #[] (jg acts (λx=> !fE x)) W (C.to ue.ab g (ag _) g.size) (WD func57 aC rfl) (λj x cs W2 hx am ⟨ma,sa,fW,mh,h1,h2⟩ b_=>by rw[eW hx,fW];exact fq7 x ma sa W2 mh h1 h2));rw[HM.out] at Jm;rw[HS.out] at AK⊢
 have Y:=aa kX;have vP:Hid (ii ⟨m,l,cl,acts⟩=(dZ m&&jK ⟨m,l,cl,acts⟩&&aD cl 0 8&&Wt (acts.length<=1024)&&acts.all fE)):=rfl;generalize wB:ii ⟨m,l,cl,acts⟩=r at vP⊢
 generalize Z:jK ⟨m,l,cl,acts⟩=b2 at vP AK;generalize uD:dZ m=b1 at vP Jm AK;clear wB Z uD F z D C hs cB hr hm eX hi hu;have I:=ae (af w) (Yd #[Yb Sa m.sites.length sc,Yb Fa m.feeds.length fc,Yb Ra m.racks.length rc,Yb Ma m.machs.length mc,Yb La m.links.length lc,Yb Ia m.items.length ic,m.dark,m.slots,m.reserve,m.failures,Yb Ua m.rules.length uc,Yb A n c,cl,Yb A2 n2 c2] 34);go_enter func21,ntmps21;go_upto_region 1 with (fail)
 refine cP (λW=>Below w w W/\W.heap[w.heap.size]? =Ws (Yd #[Yb Sa m.sites.length sc,Yb Fa m.feeds.length fc,Yb Ra m.racks.length rc,Yb Ma m.machs.length mc,Yb La m.links.length lc,Yb Ia m.items.length ic,m.dark,m.slots,m.reserve,m.failures,Yb Ua m.rules.length uc,Yb A n c,cl,Yb A2 n2 c2] 34 (0,0))) ⟨I,bQ w _⟩ ?_;clear I;intro W1 ⟨O,G⟩;have aT:=aa O;have Ec:=aa G;obtain⟨a0,a1,a2,a3,a4,a5,a6,a7,a8,a9,fN,rS,xB,xC⟩:=jt G;clear O G;cases b1 with
 |false=>
  have HR:=aa (show r=Ww by rw[vP.out];rfl)
  go_wp2_with(first
   |(go_at_call 50;refine(Jm.out _ aT.out).m ?_;rintro e w2 ⟨rfl,am⟩;have bS:=aq Ec.out am;have g0:w2.cell? w=Ws (Yb Sa m.sites.length sc):=ah bS rfl;have g1:w2.cell? (w 1 Wr)=Ws (Yb Fa m.feeds.length fc):=ah bS rfl;have g2:w2.cell? (w 2 Wr)=Ws (Yb Ra m.racks.length rc):=ah bS rfl;have g3:w2.cell? (w 3 Wr)=Ws (Yb Ma m.machs.length mc):=ah bS rfl;have g4:w2.cell? (w 4 Wr)=Ws (Yb La m.links.length lc):=ah bS rfl;have g5:w2.cell? (w 5 Wr)=Ws (Yb Ia m.items.length ic):=ah bS rfl;have g6:w2.cell? (w 6 Wr)=Ws (WK Xr m.dark):=ah bS rfl;have g7:w2.cell? (w 7 Wr)=Ws (WK Xr m.slots):=ah bS rfl;have g8:w2.cell? (w 8 Wr)=Ws (WK Xr m.reserve):=ah bS rfl;have g9:w2.cell? (w 9 Wr)=Ws (WK Xr m.failures):=ah bS rfl;have Cv:w2.cell? (w 10 Wr)=Ws (Yb Ua m.rules.length uc):=ah bS rfl;have G6:w2.cell? (w 11 Wr)=Ws (Yb A n c):=ah bS rfl;have Ot:w2.cell? (w 12 Wr)=Ws (WK Xr cl):=ah bS rfl;have El:w2.cell? (w 13 Wr)=Ws (Yb A2 n2 c2):=ah bS rfl;have aR:=aa (ai aT.out am);have Eb:=aa bS;clear am bS))
  go_ret;exact⟨by rw[HR.out];rfl,aR.out⟩
 |true=>
  cases b2 with
  |false=>have HR:=aa (show r=Ww by rw[vP.out];rfl);exact ZP
  |true=>
   by_cases q1:cl<0
   .exact bq3
   .by_cases q2:8<cl
    .exact bq3
    .have HI:=aa (show aD cl 0 8=true by simp[aD];omega);by_cases q3:(1024:Int)<(n2:Int)
     .have HR:=aa (show r=false by
       rw[vP.out];have:Wt (acts.length<=1024)=false:=by have:=Y.out;simp;omega
       rw[this];simp)
      exact ZP
     .have HR:=aa (show r=acts.all fE by
       rw[vP.out,HI.out];have:Wt (acts.length<=1024)=true:=by have:=Y.out;simp;omega
       rw[this];simp)
      rw[BF] at y
      go_wp2_with(first
       |(go_at_call 50;refine(Jm.out _ aT.out).m ?_;rintro e w2 ⟨rfl,am⟩;have bS:=aq Ec.out am;have g0:w2.cell? w=Ws (Yb Sa m.sites.length sc):=ah bS rfl;have g1:w2.cell? (w 1 Wr)=Ws (Yb Fa m.feeds.length fc):=ah bS rfl;have g2:w2.cell? (w 2 Wr)=Ws (Yb Ra m.racks.length rc):=ah bS rfl;have g3:w2.cell? (w 3 Wr)=Ws (Yb Ma m.machs.length mc):=ah bS rfl;have g4:w2.cell? (w 4 Wr)=Ws (Yb La m.links.length lc):=ah bS rfl;have g5:w2.cell? (w 5 Wr)=Ws (Yb Ia m.items.length ic):=ah bS rfl;have g6:w2.cell? (w 6 Wr)=Ws (WK Xr m.dark):=ah bS rfl;have g7:w2.cell? (w 7 Wr)=Ws (WK Xr m.slots):=ah bS rfl;have g8:w2.cell? (w 8 Wr)=Ws (WK Xr m.reserve):=ah bS rfl;have g9:w2.cell? (w 9 Wr)=Ws (WK Xr m.failures):=ah bS rfl;have Cv:w2.cell? (w 10 Wr)=Ws (Yb Ua m.rules.length uc):=ah bS rfl;have G6:w2.cell? (w 11 Wr)=Ws (Yb A n c):=ah bS rfl;have Ot:w2.cell? (w 12 Wr)=Ws (WK Xr cl):=ah bS rfl;have El:w2.cell? (w 13 Wr)=Ws (Yb A2 n2 c2):=ah bS rfl;have aR:=aa (ai aT.out am);have Eb:=aa bS;clear am bS)
       |(go_at_call 55;refine(AK.out (by trivial) _ aR.out).m ?_;rintro e w3 ⟨rfl,aL⟩;have p_:=aq Eb.out aL;have gt6:w3.cell? (w 12 Wr)=Ws (WK Xr cl):=ah p_ rfl;have gt7:w3.cell? (w 13 Wr)=Ws (Yb A2 n2 c2):=ah p_ rfl;have bg:=aa (ai aR.out aL);clear aL p_)
       |(go_at_call 56;refine(y.out _ bg.out).m ?_;rintro e w4 ⟨rfl,J⟩;have bE:=aa (ai bg.out J);clear J))
      go_ret;refine⟨?_,bE.out⟩;rw[HR.out];have e:(!acts.any λx=> !fE x)=acts.all fE:=TG;first
       |exact congrArg (λq=>Xz (Yc q)) e.symm
       |exact congrArg (λq=>Xz (Yc q)) e
       |(trace_state;fail "x")
end
section
open Go Go.RowKit Go.Proofs.Tryz
def fs0 (len:Nat): ∀(N:Nat) (s:ak) (ts:List e_),s.length<=N->gJ len s= .ok ts->(∃l e,ts=l++[e]/\e.kind=0)/\(∀t∈ts,t.n<=2000000)/\ts.length<=s.length+1:=by
 intro N;induction N with
 |zero=>
  intro s ts g h;cases s with
  |nil=>rw[gJ] at h;injection h with h;subst h;exact⟨⟨[],_,rfl,rfl⟩,by simp,by simp⟩
  |cons c r=>simp at g
 |succ N ih=>
  intro s ts g h;cases s with
  |nil=>rw[gJ] at h;injection h with h;subst h;exact⟨⟨[],_,rfl,rfl⟩,by simp,by simp⟩
  |cons c r=>
   rw[gJ] at h;cases ht:tok (c::r) with
   |error e=>rw[ht] at h;cases h
   |ok y=>
    obtain⟨k,t,n⟩:=y;rw[ht] at h;simp only at h;obtain⟨h1,h2,h3,h4⟩:=Ym ht;have j:=Db (r.drop (t.length - 1));rw[Xc] at j;cases hq:gJ len (bV (r.drop (t.length - 1))) with
    |error e=>rw[hq] at h;cases h
    |ok l=>
     rw[hq] at h;simp only[Except.map] at h;injection h with h;subst h;obtain⟨⟨l',e,e1,e2⟩,h5,h6⟩:=ih _ l (by simp at g;omega) hq;refine⟨⟨_::l',e,by rw[e1];rfl,e2⟩,λx hx=> ?_,by simp;omega⟩;rcases List.mem_cons.1 hx with rfl|hx
     .show n<=2000000;omega
     .exact h5 x hx
def fs1 (len:Nat): ∀(N:Nat) (s:ak) (x:Nat×Nat),s.length<=N->gJ len s= .error x->x.2=8\/x.2=3\/x.2=2:=by
 intro N;induction N with
 |zero=>
  intro s x g h;cases s with
  |nil=>rw[gJ] at h;cases h
  |cons c r=>simp at g
 |succ N ih=>
  intro s x g h;cases s with
  |nil=>rw[gJ] at h;cases h
  |cons c r=>
   rw[gJ] at h;cases ht:tok (c::r) with
   |error e=>rw[ht] at h;injection h with h;subst h;exact aj5 ht
   |ok y=>
    obtain⟨k,t,n⟩:=y;rw[ht] at h;simp only at h;obtain⟨h1,h2,h3,h4⟩:=Ym ht;have j:=Db (r.drop (t.length - 1));rw[Xc] at j;cases hq:gJ len (bV (r.drop (t.length - 1))) with
    |error e=>rw[hq] at h;injection h with h;subst h;exact ih _ _ (by simp at g;omega) hq
    |ok l=>rw[hq] at h;cases h
def fs2 {s:ak} {ts:List e_} (h:nC s= .ok ts):(∃l e,ts=l++[e]/\e.kind=0)/\(∀t∈ts,t.n<=2000000)/\ts.length<=16385:=by
 unfold nC at h;split at h
 .cases h
 .rename_i c;obtain⟨h1,h2,h3⟩:=fs0 _ _ _ _ (ag _) h;have:=Db s;exact⟨h1,h2,by omega⟩
def bq8 {s:ak} {x:Nat×Nat} (h:nC s= .error x):x.2=8\/x.2=3\/x.2=2:=by
 unfold nC at h;split at h
 .injection h with h;subst h;exact .inl rfl
 .exact fs1 _ _ _ _ (ag _) h
def fs3 (p:PS):p.decl.2=p.decl.1.d\/p.decl.2={}:=by
 cases hr:ga p.head with
 |none=>rw[ar5 hr];exact .inr rfl
 |some i=>rw[ar6 hr];exact .inl rfl
def tokM (pb:Nat) (w:Wu):Nat:=match w.cell? pb with|some (Yb _ n _)=>n|_=>0
def bZ.tokM {w:Wu} {pb B M:Nat} {p:PS} (h:bZ w pb B M p):tokM pb w=p.ts.length:=by obtain⟨t,r,n,h1,h2,h3⟩:=h;obtain⟨A,k,c,rfl,hk,_⟩:=h2.form;have g:w.cell? pb=Ws (Yb A k c):=ah h1 rfl;unfold Go.Proofs.YtklfdkdebgfmiaaGreatDoor.tokM;rw[g,<-hk]
def bZ.other {w w':Wu} {pb B M:Nat} {p:PS} {base:Nat} {v:Wv} {n:Nat} {xs:List Wv} (h:bZ w pb B M p) (ho:w.ownsRow base 96 6 v n xs) (X:pb<base) (z:w.grownBy w' v.ownBlock):bZ w' pb B M p:=by
 obtain⟨t,r,nn,h1,h2,h3,h4,h5,h6,h7⟩:=h;have far {e:Nat} {u:Wv} {m:Nat} {ys:List Wv} (C:w.ownsRow B e 1 u m ys) (I: ¬e=96):w'.ownsRow B e 1 u m ys:=by
  refine⟨C.1,?_⟩;rcases C.2 with J|⟨g,cap,A,k1,O,j,U⟩
  .exact .inl J
  .refine .inr ⟨g,cap,A,k1,O,iY j z (λk y D=> ?_),U⟩;subst D;rcases ho.2 with ⟨rfl,_⟩|⟨F,cap2,cur2,rfl,_,V,_⟩
   .simp[Xq] at y
   .have:F=g:=by simpa[Value.ownBlock] using y
    subst this;rw[V] at j;injection j with j;injection j with _ j _;exact I j.symm
 have G:Below pb w w':=(XA pb w).grown z (eJ (blk_lt h1)) (λk y=>by have:=(WL ho k y).1;omega);exact⟨t,r,nn,iY h1 z (λk y=>by have:=(WL ho k y).1;omega),h2.to mW.ab G (ag _) (ag _),far h3 az,far h4 az,h5,bo h6 z.size,h7⟩
def fs4 (s:ByteArray) (w:Wu) (y:fD w) (x:Nat×Nat) (c:nC s.data.toList= .error x):WJ WH 17 #[s] w (Zh w (lC s.data.toList)):=by
 have D:Hid (lC s.data.toList= .error x):=by show _=_;unfold lC;rw[c]
 have hx:=bq8 c;have g:=aj7 s w y;rw[c] at g;have A:=aa g;have F:((x.2:Int)!=0)=true:=bI;clear g c hx y;go_enter func17,ntmps17;go_wp2_with(go_at_call 38;refine A.out.mono ?_;unfold Yn;rintro e G ⟨j,z⟩;simp only at z;subst z;have C:=aa j;clear j)
 go_ret3
 rw[D.out];exact⟨C.out,rfl⟩
def fs5 (s:ByteArray) (w:Wu) (hG:fD w) (ts:List e_) (hs:nC s.data.toList= .ok ts):WJ WH 17 #[s] w (Zh w (lC s.data.toList)):=by
 have HR:Hid (lC s.data.toList=kN ⟨ts,0,{}⟩ []):=by show _=_;unfold lC;rw[hs]
 obtain⟨dt,di,Bp⟩:=fs2 hs;have HS:=aj7 s w hG;rw[hs] at HS;have D6:=aa HS;obtain⟨M,hM⟩: ∃M,ts.length=M:=⟨_,rfl⟩;have gY:Hid (PS.Ok ⟨ts,0,{}⟩ M):=⟨dt,by simp;omega,by simp;omega,by simp,by simp;omega,di,by simp⟩;rw[hM] at Bp;have gi6:M<=100000:=Yi;have hd8:=λa b c d w=>ah8 a b c d w;have hd9: ∀(a b c d:Wv) (w:Wu),Sem.run WH (Instr.field 100 (Ye #[a,b,c,d]) 3) w= .ok d w:=λa b c d w=>by kernel_rfl
 obtain⟨i0,hi,cJ,ba,bd⟩:=XU ei5;clear HS hs dt di hM hG;go_enter func17,ntmps17;go_wp2_with(go_at_call 38;refine D6.out.mono ?_;unfold Yn;rintro e F ⟨ap,v,rfl,V⟩;have HV:=aa V;obtain⟨A,n,c,rfl,hn,hc,iG⟩:=V.form;have bf:=aa ap;clear ap V hn)
 refine cP (λW=>bZ W F (F.heap.size+1) M ⟨ts,0,{}⟩/\Below F F W/\W.heap.size=F.heap.size+1) ⟨⟨_,_,_,bQ F _,HV.out.to mW.ab (ae (af F) _) (ag _) (ag _),WX _ _ _ _,WX _ _ _ _,XQ _,by simp,gY.out⟩,ae (af F) _,by simp⟩ ?_;intro W0 ⟨Ul,jb,C'⟩;obtain⟨pb,q_⟩: ∃pb,F.heap.size=pb:=⟨_,rfl⟩;rw[q_] at Ul C';have Ts:=aa C';simp only[q_];have qD:=aa (ai bf.out jb);have JX:=aa (show w.heap.size<=pb from by rw[<-q_];exact bf.out.size);have db0:=aa Ul;clear Ul jb q_ C';go_loopw [9] (λv wr=> ∃(q:PS) (out:List au) (rows:List (List Wv)) (B':Nat),bZ wr pb B' M q/\q.e=0/\lC s.data.toList=kN q out/\rr wr pb rows out/\wr.ownsRow (pb+1) 96 6 v out.length rows.flatten/\out.length<=1024/\aF (pb+1) pb W0 wr) (λ_ wr=>tokM pb wr)
 case atStart=>exact⟨_,[],[],_,db0.out,rfl,HR.out,⟨rfl,by simp⟩,WX _ _ _ _,by simp,aF.refl _ _ _⟩
 case round=>
  obtain⟨q,out,rows,B',jG,wA,uL,pi,Z,ES,ph⟩:=hrel;have JY:=aa jG;have DZ:=aa uL;have sY:=aa pi;have xt:=aa Z;have qH:=aa ph;have gx2:=aa wA;have jz:=jG.cells.1;have de1:=aa jG.tokM;have z:=aa (Fm pb B' M q wr jG);have Cx:Below w w wr:=qD.out.trans ((ph.below (XR _)).mono JX.out);have rH:=aa Cx;obtain⟨vA,vn,vc,rfl⟩:=eH Z;have evn:vn=out.length:=by
   rcases Z.2 with ⟨V,h0⟩|⟨g,cap,cur,V,_⟩
   .injection V with _ h2 _;omega
   .injection V with _ h2 _
  subst evn;by_cases U:q.head.kind=0
  .have hk:((q.head.kind:Int)!=0)=false:=by simp;omega
   have uh:=aa (ea1 (out:=out) U);unfold aj at z;rw[oy] at z;clear jG uL pi Z ph wA U Cx;go_wp2_with(go_at_call 39;refine z.out.m ?_;rintro e w3 ⟨rfl,y⟩;have j:=aa y;clear y)
   go_ret3
   rw[DZ.out,uh.out];refine⟨ai rH.out j.out,_,rfl,?_⟩;exact rr.sl (sY.out.kp (aF.of_below j.out (ag _) j.out.size)) (fS xt.out j.out)
  .have hk:((q.head.kind:Int)!=0)=true:=by simp;omega
   by_cases ho:out.length=1024
   .have uQ:((out.length:Int)==1024)=true:=by simp;omega
    have uh:=aa (ea0 U ho wA);have sR:=aa (λW (D:bZ W pb B' M q)=>dz7 pb B' M q W D);have eL:q.beyond<=8/\q.beyond≠0:=by unfold PS.beyond;split<;>decide
    have NP:=aa (λW (D:bZ W pb B' M q)=>MU pb B' M q W q.beyond D eL.1);have SO:=aa (show(q.fail q.beyond).e=q.beyond from by unfold PS.fail;rw[if_pos wA]);have SR:=aa (show(q.fail q.beyond).head=q.head from by unfold PS.head;rw[PS.fail_ts]);have C:=aa (λW (D:bZ W pb B' M (q.fail q.beyond))=>Fm pb B' M (q.fail q.beyond) W D);have Lc:((q.beyond:Int)!=0)=true:=by have:=eL.2;simp;omega
    generalize q.beyond=ca6 at uh sR NP SO SR C Lc;generalize q.fail ca6=qf at NP SO SR C;rw[SR.out] at C;unfold aj at z sR NP C;rw[oy] at z C;clear jG uL pi Z ph wA U Cx eL;go_wp2_with first
     |(go_at_call 39;refine z.out.m ?_;rintro e w3 ⟨rfl,y⟩;have j:=aa y;clear y)
     |(go_at_call 41;refine(sR.out _ (JY.out.later j.out)).m ?_;rintro e w4 ⟨rfl,aS⟩;have bE:=aa (ai j.out aS);clear aS)
     |(go_at_call 40;refine(NP.out _ (JY.out.later bE.out)).m ?_;rintro e w5 ⟨rfl,ng,pg,gh7⟩;have Te:=aa ng;have Hu:=ng.cells.1;have Ba:=ng.cells.2.2.1;rw[SO.out] at Ba;have eI:=aa ((aF.of_below bE.out (ag _) bE.out.size:aF wr.heap.size pb wr w4).trans (pg.mono bE.out.size));clear ng pg gh7)
    refine pE (S:=λw'=>w'.cell? ⟨pb,1,Wr⟩=Ws (WK Xr (ca6:Nat))) 10 (by exact Ba) λhS=> ?_;refine cb 0 44 ?_;iterate 4 refine mC 12 44 ?_
    refine dY 1 λK hK=> ?_;go_simp;refine(C.out _ (Te.out.later (aX (af _)))).m ?_;rintro e w9 ⟨rfl,O⟩;have T9:=(O.cell (p:=⟨pb,1,Wr⟩) Hu).trans Ba;have lh:=aa (ai (aX (af _)) O);clear O;try go_simp
    clear hS;refine hK.out _ _ (by exact T9) (λhS=> ?_);clear hK;refine aG ?_;refine cb 2 46 ?_;refine cb 7 2 ?_;refine cb 8 3 ?_;refine cb 9 4 ?_;refine oQ ?_;go_wp2_with fail
    go_ret3
    rw[DZ.out,uh.out];refine⟨?_,rfl⟩;exact(rH.out.trans ((eI.out.below (eJ jz)).mono JX.out)).trans (lh.out.mono (bo rH.out.size eI.out.size))
   .have uQ:((out.length:Int)==1024)=false:=by simp;omega
    have NL:=aa (λW (D:bZ W pb B' M q)=>ei4 pb B' M q W gi6 D);have DL:=aa (fs3 q);have lS:=aa (λh=>PS.decl_lt (p:=q) h);have qG:=aa (λh=>dz8 (p:=q) U ho h);have ST:=aa (λh=>dz9 (p:=q) U ho h);generalize q.decl=qd at NL DL lS qG ST;obtain⟨q2,d⟩:=qd;dsimp only at DL lS qG ST;unfold aj at z NL;rw[oy] at z;clear jG uL pi Z ph wA U Cx;by_cases he:q2.e=0
    .have gl6:((q2.e:Int)!=0)=false:=by simp;omega
     have Y:=aa he;clear he;go_wp2_with first
      |(go_at_call 39;refine z.out.m ?_;rintro e w3 ⟨rfl,y⟩;have j:=aa y;clear y)
      |(go_at_call 42;refine(NL.out _ (JY.out.later j.out)).mono ?_;unfold Mq;rintro e w4 ⟨dv,G,rfl,⟨r,nn,rfl,I,J,EC,ws⟩,X,KY,iR⟩;obtain⟨rA,rn,rc,rfl⟩:=eH I;obtain⟨nA,n2,nc,rfl⟩:=eH J;have Bw:=X.size;have eN:=aa ((aF.of_below j.out (ag _) j.out.size:aF wr.heap.size pb wr w3).trans (iR.mono j.out.size));have mp:=aa KY;have mL:=aa X;have vK:=aa I;have zb:=aa J;refine bq9 λDJ za tC=> ?_;clear I J EC ws X KY iR)
      |(at_builtin;refine wpList_append_own _ rfl (.tmp 34) (.tmp 37) _ rfl (pb+1) 96 i0 _ 6 88 underlying54 hi cJ ba bd rfl (by decide) _ out.length rows.flatten rfl za.out ⟨w4.heap.size,0,none⟩ 1 1 [.int .i64 d.kind,.string (bs d.name),.slice rA rn rc,.slice nA n2 nc,.int .i64 d.by_,.bool d.always] rfl rfl (mw rfl) (by simp[Value.oneCell']) (by simp[maxLen];omega) (by omega) (by simp;omega) ?_
        intro v' w5 fh bh _;refine br0 λxJ=> ?_;have K7:=xJ.snoc (d:=d) Bw.1 (fS vK.out (ae (af w4) _)) (fS zb.out (ae (af w4) _)) ⟨DJ.out.1,DJ.out.2,by
         rcases DL.out with e|e
         .rw[e];exact mL.out.ok.n.2
         .rw[e];simp⟩
        have D3:=aa (K7.grown za.out bh);have lm:Hid (bZ w5 pb G (M+1) q2):=bZ.other (mL.out.later (ae (af w4) _)) za.out (XQ _) bh;have bn4:=aa fh;have VT:pb+1<=wr.heap.size:=by have:=qH.out.size;have:=Ts.out;omega
        refine br1 λeI Hu Ba=> ?_;clear bh fh xJ K7)
     refine⟨⟨q2,out++[d],rows++[Dm d (Yb rA rn rc) (Yb nA n2 nc)],G,lm.out.okM (mp.out Y.out),Y.out,by rw[DZ.out,qG.out Y.out],D3.out,?_,by simp;omega,eI.out⟩,?_⟩
     .have h:=bn4.out;rw[WG,List.flatten_append];exact h
     .rw[lm.out.tokM,de1.out];exact lS.out Y.out
    .have gl6:((q2.e:Int)!=0)=true:=by simp;omega
     have Y:=aa he;clear he;have C:=aa (λW G (D:bZ W pb G (M+1) q2)=>Fm pb G (M+1) q2 W D);unfold aj at C;rw[oy] at C;go_wp2_with first
      |(go_at_call 39;refine z.out.m ?_;rintro e w3 ⟨rfl,y⟩;have j:=aa y;clear y)
      |(go_at_call 42;refine(NL.out _ (JY.out.later j.out)).mono ?_;unfold Mq;rintro e w4 ⟨dv,G,rfl,⟨r,nn,rfl,I,J,EC,ws⟩,X,KY,iR⟩;obtain⟨rA,rn,rc,rfl⟩:=eH I;obtain⟨nA,n2,nc,rfl⟩:=eH J;have Bw:=X.size;have eN:=aa ((aF.of_below j.out (ag _) j.out.size:aF wr.heap.size pb wr w3).trans (iR.mono j.out.size));have mp:=aa KY;have mL:=aa X;have vK:=aa I;have zb:=aa J;refine bq9 λDJ za tC=> ?_;clear I J EC ws X KY iR)
      |(at_builtin;refine wpList_append_own _ rfl (.tmp 34) (.tmp 37) _ rfl (pb+1) 96 i0 _ 6 88 underlying54 hi cJ ba bd rfl (by decide) _ out.length rows.flatten rfl za.out ⟨w4.heap.size,0,none⟩ 1 1 [.int .i64 d.kind,.string (bs d.name),.slice rA rn rc,.slice nA n2 nc,.int .i64 d.by_,.bool d.always] rfl rfl (mw rfl) (by simp[Value.oneCell']) (by simp[maxLen];omega) (by omega) (by simp;omega) ?_
        intro v' w5 fh bh _;refine br0 λxJ=> ?_;have K7:=xJ.snoc (d:=d) Bw.1 (fS vK.out (ae (af w4) _)) (fS zb.out (ae (af w4) _)) ⟨DJ.out.1,DJ.out.2,by
         rcases DL.out with e|e
         .rw[e];exact mL.out.ok.n.2
         .rw[e];simp⟩
        have D3:=aa (K7.grown za.out bh);have lm:Hid (bZ w5 pb G (M+1) q2):=bZ.other (mL.out.later (ae (af w4) _)) za.out (XQ _) bh;have bn4:=aa fh;have VT:pb+1<=wr.heap.size:=by have:=qH.out.size;have:=Ts.out;omega
        refine br1 λeI Hu Ba=> ?_;clear bh fh xJ K7)
     have Te:=lm;refine pE (S:=λw'=>w'.cell? ⟨pb,1,Wr⟩=Ws (WK Xr (q2.e:Nat))) 10 (by exact Ba) λhS=> ?_;refine cb 0 44 ?_;iterate 4 refine mC 12 44 ?_
     refine dY 1 λK hK=> ?_;go_simp;refine(C.out _ _ (Te.out.later (aX (af _)))).m ?_;rintro e w9 ⟨rfl,O⟩;have T9:=(O.cell (p:=⟨pb,1,Wr⟩) Hu).trans Ba;have lh:=aa (ai (aX (af _)) O);clear O;try go_simp
     clear hS;refine hK.out _ _ (by exact T9) (λhS=> ?_);clear hK;refine aG ?_;refine cb 2 46 ?_;refine cb 7 2 ?_;refine cb 8 3 ?_;refine cb 9 4 ?_;refine oQ ?_;go_wp2_with fail
     go_ret3
     rw[DZ.out,ST.out Y.out];refine⟨?_,rfl⟩;exact(qD.out.trans ((eI.out.below (XR _)).mono JX.out)).trans (lh.out.mono (bo qD.out.size eI.out.size))
def fs6 (s:ByteArray) (w:Wu) (c:fD w):WJ WH 17 #[s] w (Zh w (lC s.data.toList)):=by
 cases hs:nC s.data.toList with
 |error x=>exact fs4 s w c x hs
 |ok ts=>exact fs5 s w c ts hs
end
section
open Go Go.RowKit Go.MapKept Go.Proofs.Tryz
def ZU: ∀(n:Nat) (p:PS) (out:List au),p.ts.length<=n->out.length<=1024->(∀x,kN p out= .error x->x.2≠0)/\(∀l,kN p out= .ok l->l.length<=1024)
 |n,p,out,hn,ho=>by
  have g: ∀q:PS×List au,q.1.ts.length<p.ts.length->q.2.length<=1024->(∀x,kN q.1 q.2= .error x->x.2≠0)/\(∀l,kN q.1 q.2= .ok l->l.length<=1024):=λq z c=>by
   cases n with
   |zero=>omega
   |succ n=>exact ZU n q.1 q.2 Yi c
  rw[kN];split
  .exact⟨(λx h=>by cases h),λl h=>by injection h with h;subst h;exact ho⟩
  .simp only
   have c:(if out.length=1024 then(p.fail p.beyond,out) else(p.decl.1,out++[p.decl.2])).2.length<=1024:=by
    split
    .exact ho
    .simp;omega
   generalize (if out.length=1024 then(p.fail p.beyond,out) else(p.decl.1,out++[p.decl.2]))=q at c;split
   .rename_i y;exact⟨(λx h=>by injection h with h;subst h;exact y),λl h=>by cases h⟩
   .split
    .rename_i j;exact g q j c
    .exact⟨(λx h=>by cases h),λl h=>by injection h with h;subst h;exact c⟩
def br6 {s:ak} {x:Nat×Nat} (h:lC s= .error x):x.2≠0:=by
 unfold lC at h;cases hs:nC s with
 |error y=>rw[hs] at h;injection h with h;subst h;have:=bq8 hs;omega
 |ok ts=>rw[hs] at h;exact(ZU _ _ [] (ag _) Yl).1 x h
def fs8 {s:ak} {l:List au} (h:lC s= .ok l):l.length<=1024:=by
 unfold lC at h;cases hs:nC s with
 |error y=>rw[hs] at h;cases h
 |ok ts=>rw[hs] at h;exact(ZU _ _ [] (ag _) Yl).2 l h
def br7 (t:cO): ∀(l:List au) (i:Nat) (m:aM) (x:Nat×Nat),mV t i m l= .error x->x.2≠0
 |[],_,_,_,h=>by cases h
 |d::r,i,m,x,h=>by
  by_cases c:ea t d=0
  .rw[Rz c] at h;exact br7 t r _ _ x h
  .rw[Rw c] at h;injection h with h;subst h;exact c
def br8 {l:List au} {x:Nat×Nat} (h:nE l= .error x):x.2≠0:=by
 unfold nE at h;cases hc:iN [] [] l with
 |error y=>rw[hc] at h;injection h with h;subst h;have:=ZJ _ _ _ _ hc;omega
 |ok t=>
  rw[hc] at h;simp only at h;cases hs:mV t 0 {} l with
  |error y=>rw[hs] at h;injection h with h;subst h;exact br7 t _ _ _ _ hs
  |ok m=>
   rw[hs] at h;simp only at h;split at h
   .injection h with h;subst h;simp
   .split at h
    .cases h
    .injection h with h;subst h;simp
def Q7 (L:List ak) (k:Nat):(aE (L.take k)).length<=(aE L).length:=by
 have e:aE L=aE (L.take k)++aE (L.drop k):=by exact RY
 rw[e,WG];omega
def RZ {L:List ak} {x:ak} (h:x∈L):x.length+1<=(aE L).length:=by
 induction L with
 |nil=>cases h
 |cons a l ih=>
  have e:aE (a::l)=a++[10]++aE l:=xz;rw[e,WG,WG];rcases List.mem_cons.1 h with rfl|h
  .simp<;>omega
  .have:=ih h;simp<;>omega
def fs9 {line:ak} {c:List Int×Int} (h:yx line=Ws c):c.1.length<=line.length+1:=by
 obtain⟨a,b,f,hcut⟩: ∃a b f,Lib.cut (line.drop 8) gl=(a,b,f):=⟨_,_,_,rfl⟩;rw[be1 hcut] at h;split at h
 .obtain⟨n,_,h⟩:=Option.bind_eq_some_iff.1 h;obtain⟨l,hl,rfl⟩:=Option.map_eq_some_iff.1 h;have g:=De hl;rw[WF] at g;have j:=Lib.countB_le ⟨#[44,32]⟩ az (bs a).size (bs a) (ag _);have y:(Lib.splitB ⟨#[44,32]⟩ 0 (XM (bs a) ⟨#[44,32]⟩) (bs a)).length<=XM (bs a) ⟨#[44,32]⟩+1:=Lib.splitB_length_le ⟨#[44,32]⟩ 0 _ _;rw[RG,WF] at y;have z:=(be0 hcut).1;rw[Xc] at z;rw[kJ] at j;show l.length<=_;have e:Xh a [44,32]=Xh a ((⟨#[44,32]⟩:ByteArray).data.toList):=rfl;rw[e] at g;omega
 .cases h
def ft0 (L:List ak) {k:Nat} {x:ak} (h:L[k]? =Ws x):aE (L.take (k+1))=aE (L.take k)++(x++[10]):=by rw[XJ,h];exact br3 _ _
def Nb (v m:Wv) (l:List Int):Prop:=l≠[]->∀a n c,m=Yb (Ws a) n c->v.ownBlock≠Ws a.block
def br9 (w:Wu) (B:Nat) (v:Wv) (x:aP) (m s:Wv):Prop:=
 x.In w w m s/\j8 B m/\j8 B s/\Nb v m x.ms/\Nb v s x.ss/\x.ms.length<=1000000/\x.ss.length<=1000000
def xd (w:Wu) (B:Nat) (v:Wv) (rows:List (List Wv)) (l:List aP):Prop:=
 rows.length=l.length/\∀(j:Nat) x,l[j]? =Ws x->∃m s,rows[j]? =Ws (x.cells m s).toList/\br9 w B v x m s
def aW.at_blk {w w':Wu} {v:Wv} {l:List Int} (h:aW w w v l) (D:w.heap.size<=w'.heap.size) (y:l≠[]->∀a n c,v=Yb (Ws a) n c->a.block<w.heap.size->w'.heap[a.block]? =w.heap[a.block]?):aW w' w' v l:=by obtain⟨⟨A,c',rfl,h1,h2,h3⟩,hI⟩:=h;refine⟨⟨_,_,rfl,h1,h2,λg=> ?_⟩,hI⟩;obtain⟨b',o',rfl,hb,hc⟩:=h3 g;exact⟨_,_,rfl,by omega,λj C z=>(show w'.cell? ⟨b',o'+j,Wr⟩=w.cell? ⟨b',o'+j,Wr⟩ from XN (y (λe=>g (by rw[e];rfl)) (b' o' Wr) _ _ rfl hb)).trans (hc j C z)⟩
def aW.blk_lt {w:Wu} {B:Nat} {v:Wv} {l:List Int} (h:aW w B v l) (g:l≠[]) {a:X8} {n c:Nat} (e:v=Yb (Ws a) n c):a.block<B:=by obtain⟨⟨A,c',rfl,h1,h2,h3⟩,hI⟩:=h;obtain⟨b',o',rfl,hb,hc⟩:=h3 (by simpa using g);injection e with e;injection e with e;subst e;exact hb
def In.at_blk {x:aP} {w w':Wu} {m s:Wv} (h:x.In w w m s) (g:w.heap.size<=w'.heap.size) (hm:x.ms≠[]->∀a n c,m=Yb (Ws a) n c->a.block<w.heap.size->w'.heap[a.block]? =w.heap[a.block]?) (j:x.ss≠[]->∀a n c,s=Yb (Ws a) n c->a.block<w.heap.size->w'.heap[a.block]? =w.heap[a.block]?):x.In w' w' m s:=
 ⟨h.kind,h.a,h.b,h.c,h.ok,h.key,h.val,h.old,h.ms.at_blk g hm,h.ss.at_blk g j⟩
section
variable {w w':Wu} {B sb:Nat} {v v':Wv} {rows:List (List Wv)} {l:List aP}
theorem xd.kp (h:xd w B v rows l) (y:aF w.heap.size sb w w') (z:sb<B):xd w' B v rows l:=
 ⟨h.1,λj x hx=>by obtain⟨m,s,h1,h2,h3,h4,h5,h6,h7⟩:=h.2 j x hx;exact⟨m,s,h1,In.at_blk h2 y.size (λ_ a n c e g=>y.block _ g (by have:=h3 a n c e;omega)) (λ_ a n c e g=>y.block _ g (by have:=h4 a n c e;omega)),h3,h4,h5,h6,h7⟩⟩
theorem Nb.turn {m:Wv} {ys:List Int} (h:Nb v m ys) (z:aW w w m ys) (g:v'.ownBlock=v.ownBlock\/v'.ownBlock=Ws w.heap.size):Nb v' m ys:=by
 intro y a n c e j;rcases g with g|g
 .exact h y a n c e (g▸j)
 .have:=z.blk_lt y e;rw[g] at j;injection j with j;omega
theorem xd.grown (h:xd w B v rows l) (z:w.grownBy w' v.ownBlock) (C:v'.ownBlock=v.ownBlock\/v'.ownBlock=Ws w.heap.size):xd w' B v' rows l:=
 ⟨h.1,λj x hx=>by obtain⟨m,s,h1,h2,h3,h4,h5,h6,h7⟩:=h.2 j x hx;exact⟨m,s,h1,In.at_blk h2 z.size (λA a n c e g=>z.block _ g (λy=>h5 A a n c e y.symm)) (λA a n c e g=>z.block _ g (λy=>h6 A a n c e y.symm)),h3,h4,h5.turn h2.ms C,h6.turn h2.ss C,h7⟩⟩
theorem xd.snoc {x:aP} {m s:Wv} (h:xd w B v rows l) (hx:br9 w B v x m s):xd w B v (rows++[(x.cells m s).toList]) (l++[x]):=by
 refine⟨by simp[h.1],λj y c=> ?_⟩;rcases Xk j l.length with hj|hj
 .rw[Xx hj] at c;obtain⟨m',s',g1,g⟩:=h.2 j y c;exact⟨m',s',by rw[Xx GP];exact g1,g⟩
 .rw[List.getElem?_append_right hj] at c;have z:j - l.length=0:=by
   have:=(List.getElem?_eq_some_iff.1 c).1;simp at this;omega
  rw[z] at c;simp at c;subst c;refine⟨m,s,?_,hx⟩;rw[XZ GP,h.1,z];rfl
theorem xd.sl {base:Nat} (h:xd w B v rows l) (ho:w.ownsRow base 46 10 v l.length rows.flatten):bW 10 ue w w v l:=by
 refine bW.of_own rows (λr g=> ?_) h.1 ho (λj r x g hx=> ?_)
 .obtain⟨j,hj⟩:=List.mem_iff_getElem?.1 g;have y:=(List.getElem?_eq_some_iff.1 hj).1;obtain⟨d,hd⟩: ∃d,l[j]? =Ws d:=⟨_,Wy (by rw[<-h.1];exact y)⟩;obtain⟨m,s,c,_⟩:=h.2 j d hd;rw[hj] at c;injection c with c;subst c;rfl
 .obtain⟨m,s,c,g2,_,_,_,_,g3⟩:=h.2 j x hx;rw[g] at c;injection c with c;subst c;exact⟨m,s,rfl,g2,g3⟩
end
def fn9 {s:ByteArray} {y:aP} (h:km (cW s)=Ws y) (j:s.size<=100000):y.ms.length<=1000000/\y.ss.length<=1000000:=by
 have A:=an4 s j;obtain⟨w,r,e,_⟩:=I4 s;have c:km (cW s)=(qi (aJ (cW s) 0)).bind λk=>(iB k ((cW s).drop 1)).bind λy=>if fE y then Ws y else none:=by rw[e];rfl
 rw[c] at h;obtain⟨k,_,h⟩:=Option.bind_eq_some_iff.1 h;obtain⟨z,hz,h⟩:=Option.bind_eq_some_iff.1 h;split at h
 .injection h with h;subst h;have g:=an5 hz;rw[Xc] at g;omega
 .cases h
def fw6 {m:aM} {k:Nat} {x:ri} (h:m.machs[k]? =Ws x):fl (uT m) [] m.machs k=(aH x.rack m.racks.length&&aD x.cap 0 1048576):=Kg
def fw7 (m:aM) (v:MV) (w:Wu) (hv:m.In w w v):
 aQ 163 #[Ye (m.cells v)] w (Yc (fu m)):=by
 refine rz λSa sc hs dh bS Fa fc cB cr cL Ra rc hr cM cV Ma mc hm dd cz La lc hl dt di Ia ic hi ed ez Ua uc hu dP dq HS=> ?_;have Y:=hv.ms;rw[hm] at Y;have ll:=aa Y;have li:=aa hv;have C:=aa (wY (uT m) m.machs []);have gG:=aa (λk x (h:m.machs[k]? =Ws x)=>fw6 h);refine at5 λHO=> ?_;generalize fu m=r at HO;generalize fl (uT m) [] m.machs=F at C gG;have hn:m.machs.length<=9223372036854775807:=bo dd cz;clear Y;rw[HS.out];clear hv hs cB hr hm hl hi hu;go_enter func163,ntmps163;go_upto_region 1 with (fail)
 refine zX ?_;intro O ⟨aU,I⟩;have aT:=aa aU;have g_:=aa I;have tE:=blk_lt I;obtain⟨a0,a1,a2,a3,a4,a5,a6,a7,a8,a9,fN⟩:=eR I;clear aU I;by_cases q0:(m.sites.length:Int)<1
 .exact FL
 .skip
  by_cases q1:(4:Int)<(m.sites.length:Int)
  .exact FL
  .skip
   by_cases q2:(16:Int)<(m.feeds.length:Int)
   .exact FL
   .skip
    by_cases q3:(16:Int)<(m.racks.length:Int)
    .exact FL
    .skip
     by_cases q4:(m.machs.length:Int)<1
     .exact FL
     .skip
      by_cases q5:(16:Int)<(m.machs.length:Int)
      .exact FL
      .skip
       by_cases q6:(12:Int)<(m.links.length:Int)
       .exact FL
       .skip
        go_wp2_with fail
        go_loopw [3] (λi wr=> ∃k:Nat,k<=m.machs.length/\i=WK Xr k/\(∀j,j<k->F j=Wz)/\Below O O wr) (λi _=>m.machs.length - (WS i).toNat)
        case atStart=>exact⟨0,bU _,rfl,λj hj=>by omega,af O⟩
        case round=>
         obtain⟨k,hk,rfl,bN,hB⟩:=hrel;have gY:=aa bN;have HB:=aa hB;have V:=aq g_.out hB;have jA:=aa V;refine oX λbH=> ?_;obtain⟨c0,c1,c2,c3,c4,c5,c6,c7,c8,c9,gg4⟩:=eR V;clear bN hB V;by_cases U:k<m.machs.length
         .have dz:(0:Int)<=k:=by omega
          have bJ:(k:Int)<m.machs.length:=Yi;obtain⟨x,hx⟩: ∃x,m.machs[k]? =Ws x:=⟨_,Wy U⟩;have D:=aa (gG.out k x hx);obtain⟨b,o,cs,rfl,hb,_,⟨rfl,E4⟩,bk⟩:=ll.out.at_ hx;refine Sb λe1 e2=> ?_;obtain⟨b1,ap⟩: ∃q,aH x.rack m.racks.length=q:=⟨_,rfl⟩;obtain⟨b2,am⟩: ∃q,aD x.cap 0 1048576=q:=⟨_,rfl⟩;rw[ap,am] at D;have X:=aa ap;have fB:=aa am;clear ap am hx E4 bk;cases b1 with
          |false=>
           have HR:=aa (show r=Ww by rw[HO.out,C.out,uZ U (by rw[D.out];rfl)];simp);go_upto_region 6 with (fail)
           refine Sf λhS=> ?_;iterate 9 refine cI 21 51 ?_
           refine bF 9 λK g=> ?_;go_simp;refine qy ?_;rintro e y ⟨rfl,rfl⟩;rw[X.out];try go_simp
           refine g.out _ _ hS (λhS=> ?_);clear g;refine aG ?_;iterate 2 refine cI 21 51 ?_
           iterate 8 refine rE 21 51 ?_
           refine ie 20 71 ?_;refine gK ?_;go_wp2_with fail
           go_ret;exact⟨by rw[HR.out];rfl,ai bH.out hS.2.2.2.2⟩
          |true=>
           cases b2 with
           |false=>
            have HR:=aa (show r=Ww by rw[HO.out,C.out,uZ U (by rw[D.out];rfl)];simp);go_upto_region 6 with (fail)
            refine Sf λhS=> ?_;iterate 9 refine cI 21 51 ?_
            refine bF 9 λK g=> ?_;go_simp;refine qy ?_;rintro e y ⟨rfl,rfl⟩;rw[X.out];try go_simp
            refine g.out _ _ hS (λhS=> ?_);clear g;refine aG ?_;iterate 8 refine cI 21 51 ?_
            refine bF 18 λK g=> ?_;go_simp;refine(Q' _ _).m ?_;rintro e y ⟨rfl,rfl⟩;rw[fB.out];try go_simp
            refine g.out _ _ hS (λhS=> ?_);clear g;refine aG ?_;iterate 2 refine cI 21 51 ?_
            refine gK ?_;go_wp2_with fail
            go_ret;exact⟨by rw[HR.out];rfl,ai bH.out hS.2.2.2.2⟩
           |true=>
            have kg:=aa (show F k=Wz from by rw[D.out];rfl);go_upto_region 6 with (fail)
            refine Sf λhS=> ?_;iterate 9 refine cI 21 51 ?_
            refine bF 9 λK g=> ?_;go_simp;refine qy ?_;rintro e y ⟨rfl,rfl⟩;rw[X.out];try go_simp
            refine g.out _ _ hS (λhS=> ?_);clear g;refine aG ?_;iterate 8 refine cI 21 51 ?_
            refine bF 18 λK g=> ?_;go_simp;refine(Q' _ _).m ?_;rintro e y ⟨rfl,rfl⟩;rw[fB.out];try go_simp
            refine g.out _ _ hS (λhS=> ?_);clear g;refine aG ?_;iterate 2 refine cI 21 51 ?_
            refine gK ?_;go_wp2_with fail
            exact⟨⟨k+1,by omega,by go_num,λq hq=>by
             rcases Xk q k with h|h
             .exact gY.out q h
             .have:q=k:=by omega
              subst this;exact kg.out,ai HB.out hS.2.2.2.2⟩,by simp[WS];omega⟩
         .have bJ: ¬(k:Int)<m.machs.length:=by omega
          have DT:=aa (show dN (uT m) [] m.machs=Wz from by rw[C.out];exact zU λj hj=>gY.out j Yi);have J:=aa (λW (A:Below w w W)=>fn8 m v W (li.out.to A (ag _) A.size));have Z:=aa (λW (A:Below w w W)=>fw5 m v W (li.out.to A (ag _) A.size));rw[HS.out] at J Z;obtain⟨sr,mE⟩: ∃q,dN (jh m) [] m.racks=q:=⟨_,rfl⟩;obtain⟨sl,kG⟩: ∃q,dN (ji m) [] m.links=q:=⟨_,rfl⟩
          have HR:=aa (show r=(sr&&sl) by
           rw[HO.out,DT.out,mE,kG];have z1:aD (m.sites.length:Nat) 1 4=true:=by simp[aD];omega
           have z2:Wt (m.feeds.length<=16)=true:=bI;have z3:Wt (m.racks.length<=16)=true:=bI;have z4:aD (m.machs.length:Nat) 1 16=true:=by simp[aD];omega
           have z5:Wt (m.links.length<=12)=true:=bI;rw[z1,z2,z3,z4,z5];simp)
          rw[mE] at J;rw[kG] at Z;clear mE kG;cases sr with
          |false=>
           go_wp2_with first
            |(go_at_call 266;refine(J.out _ bH.out).m ?_;rintro e y ⟨rfl,z⟩;have G:=aa z;clear z)
           go_ret;exact⟨by rw[HR.out];rfl,ai bH.out G.out⟩
          |true=>
           go_wp2_with first
            |(go_at_call 266;refine(J.out _ bH.out).m ?_;rintro e y ⟨rfl,z⟩;have oI:=aq jA.out z;obtain⟨g0,g1,g2,g3,g4,g5,g6,g7,g8,g9,Cv⟩:=eR oI;have G:Hid (Below w w y):=ai bH.out z;clear z oI)
            |(go_at_call 267;refine(Z.out _ G.out).m ?_;rintro e w5 ⟨rfl,bp⟩;have bY:Hid (Below w w w5):=ai G.out bp;clear bp)
           go_ret;exact⟨by rw[HR.out];rfl,bY.out⟩
def Jb (x:fg):Bool:=if x.kind=0 then yB 0 x else if x.kind=1 then yB 1 x else if x.kind=2 then yB 2 x else Ww
def fv0 (m:aM) (x:fg):dO m x=(Jb x&&ff m x.on&&aD x.load 0 1048576&&aD x.size 0 1048576&&aD x.share 1 1048576):=by
 unfold Jb dO;split
 .rfl
 .split
  .rfl
  .split<;>rfl
def fv1 (m:aM) (v:MV) (x:fg) (o:Wv) (w:Wu) (hv:m.In w w v) (ho:aW w w o x.on):
 aQ 165 #[Ye (m.cells v),Ye (x.vals o)] w (Yc (dO m x)):=by
 obtain⟨A,n,c,rfl,hn,hc,iG⟩:=ho.sk.form;refine rz λSa sc hs dh bS Fa fc cB cr cL Ra rc hr cM cV Ma mc hm dd cz La lc hl dt di Ia ic hi ed ez Ua uc hu dP dq HS=> ?_;have yZ:=aa (λW (y:Below w w W)=>bu1 m v (Yb A n c) x.on W (hv.to y (ag _) y.size) ((ho.below y (ag _)).more y.size));rw[HS.out] at yZ;have HO:=aa (fv0 m x);have HN:=aa hn;generalize dO m x=r at HO⊢
 obtain⟨b1,ap⟩: ∃q,ff m x.on=q:=⟨_,rfl⟩;obtain⟨b2,am⟩: ∃q,aD x.load 0 1048576=q:=⟨_,rfl⟩;obtain⟨b3,aL⟩: ∃q,aD x.size 0 1048576=q:=⟨_,rfl⟩;obtain⟨b4,aS⟩: ∃q,aD x.share 1 1048576=q:=⟨_,rfl⟩;rw[ap,am,aL,aS] at HO;have dC:=aa ap;have fB:=aa am;have pu:=aa aL;have sS:=aa aS;clear ap am aL aS ho hn;rw[HS.out,fg.vals_def];clear hv hs cB hr hm hl hi hu;go_enter func165,ntmps165;go_upto_region 1 with (fail)
 refine cP (λW=>Below w w W/\W.heap[w.heap.size]? =Ws (Yd #[Yb Sa m.sites.length sc,Yb Fa m.feeds.length fc,Yb Ra m.racks.length rc,Yb Ma m.machs.length mc,Yb La m.links.length lc,Yb Ia m.items.length ic,m.dark,m.slots,m.reserve,m.failures,Yb Ua m.rules.length uc] 30 (0,0))/\W.heap[w.heap.size+1]? =Ws (Yd #[bs x.name,x.kind,x.count,x.load,x.size,x.share,Yb A n c] 138 (0,0))) ⟨ae (ae (af w) _) _,aq (bQ w _) (ae (af _) _),FN w _ _⟩ ?_;intro V ⟨C,z,j⟩;have aT:=aa C;have X:=aa z;have lq:=aa j;obtain⟨a0,a1,a2,a3,a4,a5,a6,a7,a8,a9,fN⟩:=eR z;obtain⟨x0,x1,x2,x3,x4,x5,x6⟩:=iA j;have I:=blk_lt j;clear C z j;obtain⟨xb,dx⟩: ∃q,w.heap.size+1=q:=⟨_,rfl⟩;rw[dx] at lq x0 x1 x2 x3 x4 x5 x6⊢
 clear dx I;cases b1 with
 |false=>exact Rg
 |true=>
  cases b2 with
  |false=>exact Rg
  |true=>
   cases b3 with
   |false=>exact Rg
   |true=>
    cases b4 with
    |false=>exact Rg
    |true=>
     by_cases k0:x.kind=0
     .have J:(x.kind==0)=true:=by simp[k0]
      have HR:=aa (show r=((Wt (x.count=1)||Wt (x.count=3)||Wt (x.count=5))&&Wt (x.count=(x.on.length:Nat))) by rw[HO.out];simp[Jb,yB,k0]);clear k0;exact RL
     .have J:(x.kind==0)=false:=by simp[k0]
      have D:=aa k0;clear k0;by_cases g:x.kind=2
      .have U:(x.kind==2)=true:=by simp[g]
       have HR:=aa (show r=(Wt (x.count=1)&&Wt ((x.on.length:Nat)=1)) by rw[HO.out];simp[Jb,yB,g]);clear g;exact RL
      .have U:(x.kind==2)=false:=by simp[g]
       have G:=aa g;clear g;by_cases k1:x.kind=1
       .have O:(x.kind==1)=true:=by simp[k1]
        have HR:=aa (show r=aD x.count 1 8 by rw[HO.out];simp[Jb,yB,k1]);clear k1;exact RL
       .have O:(x.kind==1)=false:=by simp[k1]
        have F:=aa k1;clear k1;have HR:=aa (show r=Ww by rw[HO.out];simp[Jb,D.out,F.out,G.out]);go_wp2_with first
         |(go_at_call 271;refine(yZ.out _ aT.out).m ?_;rintro e w2 ⟨rfl,am⟩;rw[dC.out];have cQ:=aq lq.out am;obtain⟨y0,y1,y2,y3,y4,y5,y6⟩:=iA cQ;refine tK λaR=> ?_;clear am cQ)
         |(go_at_call 168;refine(FO _ _ _ _).m ?_;rintro e w3 ⟨rfl,hw⟩;obtain rfl:=hw.symm;first|rw[fB.out]|rw[pu.out]|rw[sS.out]|skip)
        go_ret;exact⟨cE HR.out.symm,aR.out⟩
end
end Go.Proofs.YtklfdkdebgfmiaaGreatDoor
