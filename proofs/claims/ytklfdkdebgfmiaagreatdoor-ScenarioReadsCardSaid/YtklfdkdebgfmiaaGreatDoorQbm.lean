/- A part of the proof. -/
import Derived.Test.YtklfdkdebgfmiaaGreatDoorQbk
set_option linter.defProp false
set_option linter.unusedVariables false
set_option linter.unusedSimpArgs false
set_option maxRecDepth 100000
set_option maxHeartbeats 32000000
open Option renaming none->Wr,some->Ws
open Decidable renaming decide->Wt
open Go renaming World->Wu,Value->Wv,Calls->WJ,TypeId->WQ,maxLen->Xe,Addr->X8
open Bool renaming false->Ww,true->Wz
open Go.RowKit renaming Hid->WA
open Go.Proofs renaming intOf->WS
open Go.Proofs.Tryz renaming prog->WH
open Go.Value renaming int->WK,string->WM,oneCell'->Xp,ownBlock->Xq,slice->Yb,bool->Yc,agg->Ye,pointer->Yf
open Go.Instr renaming lookup->WT
open Go.World renaming cell?->X3
open Go.IntKind renaming i64->Xr
open Go.Ending renaming returned->Xz
open Go.Obj renaming cells->Yd
open Go.Operand renaming tmp->Yg,const->Yh
namespace Go.Proofs.YtklfdkdebgfmiaaGreatDoor
section
open Go Go.RowKit Go.MapKept Go.Proofs.Tryz
def aF.turn {B b:Nat} {w w':Wu} (h:jv w w' b):aF B b w w':=by have c:=h.1 0 w ((af w).mono (bU _)) (bU _);exact⟨c.os,c.tape,c.output,by rw[h.2.1];exact ag _,λi _ g=>h.2.2 i g⟩
def F5 (l:List ak):ak->Option Value:=λs=>if s∈l then Ws (Yc Wz) else Wr
def fa3 (l:List ak) (s x:ak):aY (F5 l) s (Yc Wz) x=F5 (l++[s]) x:=by
 rw[zV];unfold F5;by_cases h:x=s
 .subst h;simp
 .simp[h]
def fa4 {w:Wu} {b:Nat} {f:ak->Option Wv} (h:de lV w b f) (o:Nat):w.cell? (b o Wr)=none:=by obtain⟨l,hl,_⟩:=h;have c:w.heap[b]? =Ws (.map (bK 0 (da lV l)).toArray (da lV l).length):=hl;simp[X3,c]
def Sl.kp {w w':Wu} {B B' M:Nat} {v:Wv} {xs:List Wv} (h:Sl w B v xs) (F:aF B' M w w') (C:B<=B') (D: ∀o,w.cell? (M o Wr)=Wr):Sl w' B v xs:=by
 obtain⟨A,c,rfl,h1,h2,h3⟩:=h;refine⟨A,c,rfl,h1,h2,λy=> ?_⟩;obtain⟨b,o,rfl,hb,hc⟩:=h3 y;have z: ¬b=M:=λe=>by subst e;obtain⟨u,g⟩: ∃u,xs[0]? =Ws u:=⟨_,Wy (List.length_pos_iff.2 y)⟩;have:=hc 0 u g;rw[D] at this;cases this
 exact⟨b,o,rfl,hb,λj u g=>(F.cell _ (bq hb C) z).trans (hc j u g)⟩
def IH (l:List ak) (j:Nat):Bool:=fl (λs b=>br s&& !Wt (s∈b)) [] l j
def fa5 (l:List ak):oY l=ep (IH l) l.length:=wY _ l []
def fa6 {l:List ak} {j:Nat} {s:ak} (h:l[j]? =Ws s):IH l j=(br s&& !Wt (s∈l.take j)):=by unfold IH;rw[Q0 h]
def fa7 {m:aM} (h:fu m=Wz) (g:m.items.length<=8):(cG m).length<=60:=by have c:=h;unfold fu aH aD at c;simp only[WC,decide_eq_true_eq] at c;obtain⟨⟨⟨⟨⟨⟨⟨⟨_,h1⟩,h2⟩,h3⟩,⟨_,h4⟩⟩,_⟩,_⟩,_⟩,_⟩:=c;simp[cG];omega
def Y_ (m:aM) (v:MV) (w:Wu) (hG:fD w) (hv:m.In w w v):
 aQ 50 #[Ye (m.cells v)] w (Yc (dZ m)):=by
 have ce6:=hv.slots;have Uf:=hv.reserve;obtain⟨hb3,hb4⟩:=ce6;have HG:=aa hG;have GD:=aa (λW (g:Below w w W)=>fa2 m v W (hv.to g (ag _) g.size));have S8:=aa (λW (g:Below w w W) (hl:(cG m).length<=60)=>eq6 m v W (hv.to g (ag _) g.size) Yi);have F:=aa (λW (g:Below w w W) (hb:W.heap[w.heap.size]? =Ws (Yd (m.cells v) 30 (0,0)))=>dl5 E_ E_.ab v.i m.items 149 #[aj w.heap.size] (jg m.items (λx=> !dO m x)) W (hv.is.to E_.ab g (ag _) g.size) (WD func149 aC rfl)
  (λj x cs W2 hx C hR _=>by rw[eW hx];obtain⟨o,rfl,ho,_⟩:=hR;exact en7 m v x o w W2 (aq hb C) (hv.to (g.trans (C.mono g.size)) (ag _) (bo g.size C.size)) ho))
 have G:=aa (λW (g:Below w w W) (hb:W.heap[w.heap.size]? =Ws (Yd (m.cells v) 30 (0,0)))=>dl7 E' E'.ab v.u m.rules 152 #[aj w.heap.size] (jg m.rules (λx=> !df m x)) W (hv.us.to E'.ab g (ag _) g.size) (WD func152 aC rfl)
  (λj x cs W2 hx C hR _=>by rw[eW hx];obtain⟨o,rfl,ho,i1,i2,i3,i4,i5⟩:=hR;exact en8 m v x o w W2 (aq hb C) (hv.to (g.trans (C.mono g.size)) (ag _) (bo g.size C.size)) ho i2 i4 i5 i3))
 rw[BF] at F G;refine rz λSa sc hs dh bS Fa fc cB cr cL Ra rc hr cM cV Ma mc hm dd cz La lc hl dt di Ia ic hi ed ez Ua uc hu dP dq HS=> ?_;have bm8:=aa (show(w.alloc (Yd (m.cells v) 30)).heap[w.heap.size]? =Ws (Yd (m.cells v) 30 (0,0)) from bQ w _);have tg:=aa (λW=>t7 m.dark 1 m.sites.length W);have th:=aa (λW=>t7 m.slots 1 16 W);have vW:=aa (λW=>t7 m.reserve 0 (m.slots - 1) W);have J9:=aa (λW=>t7 m.failures 0 7 W);have Z:(!m.items.any λx=> !dO m x)=m.items.all (dO m):=TG;have ch8:(!m.rules.any λx=> !df m x)=m.rules.all (df m):=TG;have HO:Hid (dZ m=(fu m&&Wt (m.items.length<=8)&&Wt (m.rules.length<=40)&&aD m.dark 1 (m.sites.length:Nat)&&aD m.slots 1 16&&aD m.reserve 0 (m.slots - 1)&&aD m.failures 0 7&&ep (IH (cG m)) (cG m).length&&(!m.items.any λx=> !dO m x)&&(!m.rules.any λx=> !df m x))):=by show _=_;rw[Z,ch8,<-fa5];rfl
 have SQ:=aa (λh hi=>fa7 (m:=m) h hi);have kG:aD m.slots 1 16=Wz->1<=m.slots/\m.slots<=16:=λh=>by simpa[aD] using h
 have xx:=aa kG;refine ou λnV=> ?_;refine tP λlM=> ?_;rw[hi] at F;rw[hu] at G;rw[HS.out] at GD S8 F G bm8⊢
 generalize dZ m=r at HO;generalize fu m=b0 at GD HO SQ;generalize aD m.dark 1 (m.sites.length:Nat)=b3 at tg HO;generalize aD m.slots 1 16=b4 at th HO xx;generalize aD m.reserve 0 (m.slots - 1)=b5 at vW HO;generalize aD m.failures 0 7=b6 at J9 HO;generalize (m.items.any λx=> !dO m x)=b7 at F HO;generalize (m.rules.any λx=> !df m x)=b8 at G HO;generalize cG m=nms at S8 HO SQ;unfold bm aj at F G;clear hG hv hs cB hr hm hl hi hu Uf Z ch8 kG;cases b0 with
 |false=>exact MK
 |true=>
  by_cases g1:m.items.length<=8;rotate_left
  .have G1:=aa g1;have k1:(8:Int)<(m.items.length:Nat):=by omega
   clear g1;go_enter func50,ntmps50;go_wp2_with first
    |(go_at_call 144;refine(GD.out _ (ae (af w) _)).m ?_;rintro e w1 ⟨rfl,ap⟩;refine Q1 λhZ e0 e1 e2 e3 e4 e5 e6 e7 e8 e9 dJ ba bf iM=> ?_;clear ap hZ)
    |(go_at_call_of 145 (WK Xr m.dark);refine(tg.out _).m ?_;rintro e w2 ⟨rfl,rfl⟩)
    |(go_at_call_of 145 (WK Xr m.slots);refine(th.out _).m ?_;rintro e w2 ⟨rfl,rfl⟩)
    |(go_at_call_of 145 (WK Xr m.reserve);refine(vW.out _).m ?_;rintro e w2 ⟨rfl,rfl⟩)
    |(go_at_call_of 145 (WK Xr m.failures);refine(J9.out _).m ?_;rintro e w2 ⟨rfl,rfl⟩)
   go_ret;exact⟨by rw[HO.out];simp;(try have hq:=G1.out);(try omega),bf.out⟩
  have G1:=aa g1;have k1: ¬(8:Int)<(m.items.length:Nat):=Yi;clear g1;by_cases g2:m.rules.length<=40;rotate_left
  .have G2:=aa g2;have k2:(40:Int)<(m.rules.length:Nat):=by omega
   clear g2;go_enter func50,ntmps50;go_wp2_with first
    |(go_at_call 144;refine(GD.out _ (ae (af w) _)).m ?_;rintro e w1 ⟨rfl,ap⟩;refine Q1 λhZ e0 e1 e2 e3 e4 e5 e6 e7 e8 e9 dJ ba bf iM=> ?_;clear ap hZ)
    |(go_at_call_of 145 (WK Xr m.dark);refine(tg.out _).m ?_;rintro e w2 ⟨rfl,rfl⟩)
    |(go_at_call_of 145 (WK Xr m.slots);refine(th.out _).m ?_;rintro e w2 ⟨rfl,rfl⟩)
    |(go_at_call_of 145 (WK Xr m.reserve);refine(vW.out _).m ?_;rintro e w2 ⟨rfl,rfl⟩)
    |(go_at_call_of 145 (WK Xr m.failures);refine(J9.out _).m ?_;rintro e w2 ⟨rfl,rfl⟩)
   go_ret;exact⟨by rw[HO.out];simp;(try have hq:=G2.out);(try omega),bf.out⟩
  have G2:=aa g2;have k2: ¬(40:Int)<(m.rules.length:Nat):=Yi;clear g2;cases b3 with
  |false=>exact MK
  |true=>
   cases b4 with
   |false=>exact MK
   |true=>
    obtain⟨hi3,hi4⟩:=xx.out rfl;cases b5 with
    |false=>exact MK
    |true=>
     cases b6 with
     |false=>exact MK
     |true=>
      have jp:=aa (SQ.out rfl G1.out);go_enter func50,ntmps50;go_wp2_with first
       |(go_at_call 144;refine(GD.out _ (ae (af w) _)).m ?_;rintro e w1 ⟨rfl,ap⟩;refine Q1 λhZ e0 e1 e2 e3 e4 e5 e6 e7 e8 e9 dJ ba bf iM=> ?_;clear ap hZ)
       |(go_at_call_of 145 (WK Xr m.dark);refine(tg.out _).m ?_;rintro e w2 ⟨rfl,rfl⟩)
       |(go_at_call_of 145 (WK Xr m.slots);refine(th.out _).m ?_;rintro e w2 ⟨rfl,rfl⟩)
       |(go_at_call_of 145 (WK Xr m.reserve);refine(vW.out _).m ?_;rintro e w2 ⟨rfl,rfl⟩)
       |(go_at_call_of 145 (WK Xr m.failures);refine(J9.out _).m ?_;rintro e w2 ⟨rfl,rfl⟩)
      refine(S8.out _ (ae bf.out _) jp.out).m ?_;rintro e w3 ⟨u,rfl,Hy,aL⟩;have X:=(de.made lV w2).later aL;have cm8:=aq (aq iM.out (ae (af w2) (.map #[] 0))) aL;have bg:=aa (ai (ae bf.out (.map #[] 0)) aL);have gr4:=Hy;obtain⟨A,n,c,rfl,hn,hc,iG⟩:=gr4.sk.form;have HU:=aa Hy;have Gw:=aa X;have NV:=aa cm8;have AI:=aa hn;clear Hy aL X cm8 hn e0 e1 e2 e3 e4 e5 e6 e7 e8 e9 dJ;go_wp2_with fail
      go_loopw [55] (λi wr=> ∃k:Nat,k<=n/\i=WK Xr k/\de lV wr w2 (F5 (nms.take k))/\(∀j,j<k->IH nms j=Wz)/\aF w3.heap.size w2.heap.size w3 wr) (λi _=>n - (WS i).toNat)
      case atStart=>exact⟨0,bU _,rfl,Gw.out.of_eq (λk=>by simp[F5]),by omega,aF.refl _ _ _⟩
      case round=>
       obtain⟨k,hk,rfl,KX,dw,nd⟩:=hrel;have HA:=aa dw;have z:=nd.blk NV.out (blk_lt NV.out) Yi;have D:Below w w wr:=bg.out.trans ((nd.mono (ag _)).below (eJ Gw.out.lt) |>.mono Yi);have bR:=aa D;have Cf:=aa KX;have mK:=aa nd;have da7:=aa z;clear dw KX nd;by_cases ar:k<n
       .have dz:(0:Int)<=k:=by omega
        have bJ:(k:Int)<n:=Yi;obtain⟨s,hs⟩: ∃s,nms[k]? =Ws s:=⟨_,Wy Ko⟩;have Y:bG wr w3 (Yb A n c) nms:=Sl.kp HU.out mK.out (ag _) (fa4 Gw.out);obtain⟨b,o,rfl,gP,lJ⟩:=Y.cell hs;have NR:=aa (Y8 s wr (HG.out.step D));have hF:=fa6 hs;have AR:=aa hs;have HF:=aa hF;have LH:nms.take (k+1)=nms.take k++[s]:=by rw[XJ,hs];rfl
        have dd7:=aa LH;clear z D Y hs hF LH;generalize br s=q at NR HF;cases q with
        |false=>
         go_wp2_with(go_at_call 147;refine NR.out.m ?_;rintro e U ⟨rfl,y⟩;have I:=aa (ai bR.out y);clear y)
         go_ret;refine⟨?_,I.out⟩;rw[HO.out,uZ (k:=k) Ko (by rw[HF.out];rfl)];simp
        |true=>
         by_cases O:s∈nms.take k
         .have SY:=aa O;have pz:=aa (show F5 (nms.take k) s=some (.bool true) from if_pos O)
          clear O;go_wp2_with first
           |(go_at_call 147;refine NR.out.m ?_;rintro e U ⟨rfl,y⟩;have I:=aa (ai bR.out y);have qJ:=aa (Cf.out.later y);clear y;have fJ:(WT 197 (.map (Ws w2.heap.size)) (WM (bs s)) Ww).run WH U= .ok (Yc Wz) U:=by have h:=qm (P:=WH) underlying197 Xw Do qJ.out s Ww (zeroValue4 _);rw[pz.out] at h;exact h)
          go_ret;refine⟨?_,I.out⟩;rw[HO.out,uZ (k:=k) Ko (by rw[HF.out];simp[SY.out])];simp
         .have SY:=aa O;have pz:=aa (show F5 (nms.take k) s=none from if_neg O)
          clear O;go_wp2_with first
           |(go_at_call 147;refine NR.out.m ?_;rintro e U ⟨rfl,y⟩;have I:=aa y;have qJ:=aa (Cf.out.later y);clear y;have fJ:(WT 197 (.map (Ws w2.heap.size)) (WM (bs s)) Ww).run WH U= .ok (Yc Ww) U:=by have h:=qm (P:=WH) underlying197 Xw Do qJ.out s Ww (zeroValue4 _);rw[pz.out] at h;exact h)
           |(refine ev rfl (Yg 67) (Yg 68) (Yh (Yc Wz)) 197 (.inl rfl) 9 4 .string underlying197 Xw Do w2.heap.size _ rfl qJ.out s (Yc Wz) rfl rfl ?_;intro w5 G' jm;have yY:=aa G';have D7:=aa jm;clear G' jm)
          refine⟨⟨k+1,by omega,by go_num,?_,λj hj=> ?_,?_⟩,by simp[WS];omega⟩
          .rw[dd7.out];exact yY.out.of_eq (λx=>(fa3 _ _ _).symm)
          .by_cases e:j=k
           .subst e;rw[HF.out];simp[SY.out]
           .exact HA.out j Yi
          .have h4:=aF.of_below (pb:=w2.heap.size) I.out mK.out.size I.out.size;exact(mK.out.trans h4).trans (aF.turn D7.out)
       .have qX:k=n:=by omega
        subst qX;have cu8:=aa (show ep (IH nms) nms.length=Wz from zU (λj hj=>HA.out j (by rw[<-AI.out];exact hj)));have V:=aa (F.out wr D z);have cv9:=aa (λW (g:Below wr wr W)=>G.out W (ai D g) (aq z g));have e5:wr.cell? (w 5 Wr)=Ws (Yb Ia m.items.length ic):=ah z rfl;have eB:=blk_lt z;clear z D;cases b7 with
        |true=>
         go_wp2_with(go_at_call 148;refine V.out.m ?_;rintro e w6 ⟨rfl,J⟩;have cK:=aa (ai bR.out J);clear J)
         go_ret;exact⟨by rw[HO.out];simp,cK.out⟩
        |false=>
         go_wp2_with first
          |(go_at_call 148;refine V.out.m ?_;rintro e w6 ⟨rfl,J⟩;have dJ:w6.cell? (w 10 Wr)=Ws (Yb Ua m.rules.length uc):=ah (aq da7.out J) rfl;have cK:=aa J;clear J)
          |(go_at_call 151;refine(cv9.out _ cK.out).m ?_;rintro e w7 ⟨rfl,gB⟩;have iL:=aa (ai cK.out gB);clear gB)
         go_ret;refine⟨?_,ai bR.out iL.out⟩;rw[HO.out,cu8.out];simp[G1.out,G2.out]
def ku (s:ak):Value:=WM (bs s)
def Nq (x:mU):List Value:=[WM (bs x.name),WK Xr x.site,WK Xr x.feed]
def M0 (x:ri):List Value:=[WM (bs x.name),WK Xr x.rack,WK Xr x.cap]
def M3 (x:tO):List Value:=[WK Xr x.a,WK Xr x.b,WK Xr x.cap]
def yF (x:fg) (o:Wv):List Value:=[WM (bs x.name),WK Xr x.kind,WK Xr x.count,WK Xr x.load,WK Xr x.size,WK Xr x.share,o]
def BJ (x:cC) (o:Wv):List Value:=[WK Xr x.kind,WK Xr x.item,WK Xr x.other,WK Xr x.n,WK Xr x.by_,Yc x.always,o]
def IK (x:fg):Prop:=aK x.kind/\aK x.count/\aK x.load/\aK x.size/\aK x.share
def IL (x:cC):Prop:=aK x.kind/\aK x.item/\aK x.other/\aK x.n/\aK x.by_
def vh {α:Type} (C:α->Wv->List Wv) (L:α->List Int) (G:α->Prop) (w:Wu) (B:Nat) (rows:List (List Wv)) (l:List α):Prop:=
 rows.length=l.length/\∀(j:Nat) x,l[j]? =Ws x->∃o,rows[j]? =Ws (C x o)/\w.ownsRow B 3 1 o (L x).length ((L x).map (WK .i64))/\(∀y∈L x,aK y)/\G x
section
variable {w w':Wu} {rb B:Nat} {ob:Option Nat} {e:WQ} {size:Nat} {u:Wv} {n:Nat} {xs:List Wv}
def eK (h:w.ownsRow B e size u n xs) (D:gi rb ob w w') (G:rb<B) (z: ∀k,u.ownBlock=Ws k->ob≠Ws k):w'.ownsRow B e size u n xs:=by
 refine⟨h.1,?_⟩;rcases h.2 with F|⟨g,cap,c,j,A,y,C⟩
 .exact .inl F
 .refine .inr ⟨g,cap,c,j,A,?_,C⟩;rw[D.block g (blk_lt y) Yi (λe=>z g (by rw[j];rfl) e.symm)];exact y
def dW {B':Nat} {y:WQ} {size':Nat} {v:Wv} {U:Nat} {j:List Wv} (h:w.ownsRow B e size u n xs) (J:w.ownsRow B' y size' v U j) (C: ¬e=y): ∀k,u.ownBlock=Ws k->v.ownBlock≠Ws k:=by
 intro k z A;rcases h.2 with ⟨rfl,_⟩|⟨g,cap,D,rfl,_,O,_⟩
 .simp[Xq] at z
 .rcases J.2 with ⟨rfl,_⟩|⟨I,cap',cur',rfl,_,c,_⟩
  .simp[Xq] at A
  .have F:g=k:=by simpa[Value.ownBlock] using z
   have G:I=k:=by simpa[Xq] using A
   subst F G;rw[O] at c;injection c with c;injection c with _ c _;exact C c
def vh.gp {α:Type} {C:α->Wv->List Wv} {L:α->List Int} {G:α->Prop} {rows:List (List Wv)} {l:List α} (h:vh C L G w B rows l) (g:gi rb ob w w') (c:rb<B)
 (y: ∀(o:Wv) (n:Nat) (ys:List Wv),w.ownsRow B 3 1 o n ys->∀k,o.ownBlock=Ws k->ob≠Ws k):vh C L G w' B rows l:=
 ⟨h.1,λj x hx=>by obtain⟨o,h1,h2,h3,h4⟩:=h.2 j x hx;exact⟨o,h1,eK h2 g c (y _ _ _ h2),h3,h4⟩⟩
def vh.snoc {α:Type} {C:α->Wv->List Wv} {L:α->List Int} {G:α->Prop} {rows:List (List Wv)} {l:List α} {x:α} {o:Wv} (h:vh C L G w B rows l) (ho:w.ownsRow B 3 1 o (L x).length ((L x).map (WK .i64))) (D: ∀y∈L x,aK y) (A:G x):
 vh C L G w B (rows++[C x o]) (l++[x]):=by
 refine⟨by simp[h.1],λj y c=> ?_⟩;rcases Xk j l.length with hj|hj
 .rw[Xx hj] at c;obtain⟨o',g1,g⟩:=h.2 j y c;exact⟨o',by rw[Xx GP];exact g1,g⟩
 .rw[List.getElem?_append_right hj] at c;have z:j - l.length=0:=by
   have:=(List.getElem?_eq_some_iff.1 c).1;simp at this;omega
  rw[z] at c;simp at c;subst c;exact⟨o,by rw[XZ GP,h.1,z];rfl,ho,D,A⟩
end
structure fG (w:Wu) (B M:Nat) (m:aM) (v:MV):Prop where
 s_:w.ownsRow B 9 1 v.s m.sites.length (m.sites.map ku)
 f_:w.ownsRow B 9 1 v.f m.feeds.length (m.feeds.map ku)
 r_:w.ownsRow B 132 3 v.r m.racks.length (m.racks.map Nq).flatten
 m_:w.ownsRow B 134 3 v.m m.machs.length (m.machs.map M0).flatten
 l_:w.ownsRow B 136 3 v.l m.links.length (m.links.map M3).flatten
 i_: ∃rows,w.ownsRow B 138 7 v.i m.items.length rows.flatten/\vh yF fg.on IK w B rows m.items
 u_: ∃rows,w.ownsRow B 119 7 v.u m.rules.length rows.flatten/\vh BJ cC.ms IL w B rows m.rules
 sf: ∀k,v.s.ownBlock=Ws k->v.f.ownBlock≠Ws k
 len:m.sites.length<=M/\m.feeds.length<=M/\m.racks.length<=M/\m.machs.length<=M/\m.links.length<=M/\m.items.length<=M/\m.rules.length<=M
 rI: ∀x∈m.racks,aK x.site/\aK x.feed
 mI: ∀x∈m.machs,aK x.rack/\aK x.cap
 lI: ∀x∈m.links,aK x.a/\aK x.b/\aK x.cap
 nums:aK m.dark/\aK m.slots/\aK m.reserve/\aK m.failures
section
variable {w w':Wu} {rb B M:Nat} {m:aM} {v:MV}
def fG.gp (h:fG w B M m v) (g:gi rb Wr w w') (c:rb<B):fG w' B M m v:=
 have no: ∀(u:Wv) k,u.ownBlock=Ws k->(Wr:Option Nat)≠Ws k:=λ_ _ _ e=>by cases e
 ⟨eK h.s_ g c (no _),eK h.f_ g c (no _),eK h.r_ g c (no _),eK h.m_ g c (no _),eK h.l_ g c (no _),
  by obtain⟨rows,h1,h2⟩:=h.i_;exact⟨rows,eK h1 g c (no _),h2.gp g c λo _ _ _=>no o⟩,
  by obtain⟨rows,h1,h2⟩:=h.u_;exact⟨rows,eK h1 g c (no _),h2.gp g c λo _ _ _=>no o⟩,h.sf,h.len,h.rI,h.mI,h.lI,h.nums⟩
def fG.more (h:fG w B M m v) {c:Nat} (g:M<=c):fG w B c m v:=
 ⟨h.s_,h.f_,h.r_,h.m_,h.l_,h.i_,h.u_,h.sf,by have:=h.len;omega,h.rI,h.mI,h.lI,h.nums⟩
def gi.of_kp {w w':Wu} {rb:Nat} {ob:Option Nat} (h:aF w.heap.size rb w w'):gi rb ob w w':=⟨h.os,h.tape,h.output,h.size,λi g c _=>h.block i g c⟩
def gi.kp {w w':Wu} {rb B:Nat} {ob:Option Nat} (h:gi rb ob w w') (j:B<=w.heap.size) (ho: ∀k,ob=Ws k->B<=k):aF B rb w w':=
 ⟨h.os,h.tape,h.output,h.size,λi y g=>h.block i (bq y j) g (λe=>by have:=ho i e.symm;omega)⟩
def fG.addS (h:fG w B M m v) {v':Wv} (c:rb<B) (y:gi rb v.s.ownBlock w w') (A: ∀j,v'.ownBlock=Ws j->v.s.ownBlock=Ws j\/w.heap.size<=j)
 (x:ak) (ho:w'.ownsRow B 9 1 v' (m.sites.length+1) (m.sites.map ku++[ku x])):fG w' B (M+1) {m with sites:=m.sites++[x]} {v with s:=v'}:=by
 exact⟨by simpa using ho,
  eK h.f_ y c (λj z e=>h.sf j e z),
  eK h.r_ y c (dW h.r_ h.s_ az),
  eK h.m_ y c (dW h.m_ h.s_ az),
  eK h.l_ y c (dW h.l_ h.s_ az),
  by obtain⟨rows,g,h2⟩:=h.i_;exact⟨rows,eK g y c (dW g h.s_ az),h2.gp y c λo _ _ ho=>dW ho h.s_ az⟩,
  by obtain⟨rows,g,h2⟩:=h.u_;exact⟨rows,eK g y c (dW g h.s_ az),h2.gp y c λo _ _ ho=>dW ho h.s_ az⟩,
  λj z e=>(A j z).elim (λg=>h.sf j g e) (λg=>absurd (WL h.f_ j e).2 Yi),
  by have:=h.len;simp only[WG,XF];omega,
  h.rI,
  h.mI,
  h.lI,
  h.nums⟩
def fG.addF (h:fG w B M m v) {v':Wv} (c:rb<B) (y:gi rb v.f.ownBlock w w') (A: ∀j,v'.ownBlock=Ws j->v.f.ownBlock=Ws j\/w.heap.size<=j)
 (x:ak) (ho:w'.ownsRow B 9 1 v' (m.feeds.length+1) (m.feeds.map ku++[ku x])):fG w' B (M+1) {m with feeds:=m.feeds++[x]} {v with f:=v'}:=by
 exact⟨eK h.s_ y c h.sf,
  by simpa using ho,
  eK h.r_ y c (dW h.r_ h.f_ az),
  eK h.m_ y c (dW h.m_ h.f_ az),
  eK h.l_ y c (dW h.l_ h.f_ az),
  by obtain⟨rows,g,h2⟩:=h.i_;exact⟨rows,eK g y c (dW g h.f_ az),h2.gp y c λo _ _ ho=>dW ho h.f_ az⟩,
  by obtain⟨rows,g,h2⟩:=h.u_;exact⟨rows,eK g y c (dW g h.f_ az),h2.gp y c λo _ _ ho=>dW ho h.f_ az⟩,
  λj z e=>(A j e).elim (λg=>h.sf j z g) (λg=>absurd (WL h.s_ j z).2 Yi),
  by have:=h.len;simp only[WG,XF];omega,
  h.rI,
  h.mI,
  h.lI,
  h.nums⟩
def fG.addR (h:fG w B M m v) {v':Wv} (c:rb<B) (g:gi rb v.r.ownBlock w w') (C: ∀j,v'.ownBlock=Ws j->v.r.ownBlock=Ws j\/w.heap.size<=j)
 (x:mU) (ho:w'.ownsRow B 132 3 v' (m.racks.length+1) ((m.racks.map Nq).flatten++Nq x)) (A:aK x.site/\aK x.feed):fG w' B (M+1) {m with racks:=m.racks++[x]} {v with r:=v'}:=by
 exact⟨eK h.s_ g c (dW h.s_ h.r_ az),
  eK h.f_ g c (dW h.f_ h.r_ az),
  by simpa using ho,
  eK h.m_ g c (dW h.m_ h.r_ az),
  eK h.l_ g c (dW h.l_ h.r_ az),
  by obtain⟨rows,h1,h2⟩:=h.i_;exact⟨rows,eK h1 g c (dW h1 h.r_ az),h2.gp g c λo _ _ ho=>dW ho h.r_ az⟩,
  by obtain⟨rows,h1,h2⟩:=h.u_;exact⟨rows,eK h1 g c (dW h1 h.r_ az),h2.gp g c λo _ _ ho=>dW ho h.r_ az⟩,
  h.sf,
  by have:=h.len;simp only[WG,XF];omega,
  λy z=>(List.mem_append.1 z).elim (h.rI y) (λz=>by rw[List.mem_singleton.1 z];exact A),
  h.mI,
  h.lI,
  h.nums⟩
def fG.addM (h:fG w B M m v) {v':Wv} (c:rb<B) (g:gi rb v.m.ownBlock w w') (C: ∀j,v'.ownBlock=Ws j->v.m.ownBlock=Ws j\/w.heap.size<=j)
 (x:ri) (ho:w'.ownsRow B 134 3 v' (m.machs.length+1) ((m.machs.map M0).flatten++M0 x)) (A:aK x.rack/\aK x.cap):fG w' B (M+1) {m with machs:=m.machs++[x]} {v with m:=v'}:=by
 exact⟨eK h.s_ g c (dW h.s_ h.m_ az),
  eK h.f_ g c (dW h.f_ h.m_ az),
  eK h.r_ g c (dW h.r_ h.m_ az),
  by simpa using ho,
  eK h.l_ g c (dW h.l_ h.m_ az),
  by obtain⟨rows,h1,h2⟩:=h.i_;exact⟨rows,eK h1 g c (dW h1 h.m_ az),h2.gp g c λo _ _ ho=>dW ho h.m_ az⟩,
  by obtain⟨rows,h1,h2⟩:=h.u_;exact⟨rows,eK h1 g c (dW h1 h.m_ az),h2.gp g c λo _ _ ho=>dW ho h.m_ az⟩,
  h.sf,
  by have:=h.len;simp only[WG,XF];omega,
  h.rI,
  λy z=>(List.mem_append.1 z).elim (h.mI y) (λz=>by rw[List.mem_singleton.1 z];exact A),
  h.lI,
  h.nums⟩
def fG.addL (h:fG w B M m v) {v':Wv} (c:rb<B) (g:gi rb v.l.ownBlock w w') (C: ∀j,v'.ownBlock=Ws j->v.l.ownBlock=Ws j\/w.heap.size<=j)
 (x:tO) (ho:w'.ownsRow B 136 3 v' (m.links.length+1) ((m.links.map M3).flatten++M3 x)) (A:aK x.a/\aK x.b/\aK x.cap):fG w' B (M+1) {m with links:=m.links++[x]} {v with l:=v'}:=by
 exact⟨eK h.s_ g c (dW h.s_ h.l_ az),
  eK h.f_ g c (dW h.f_ h.l_ az),
  eK h.r_ g c (dW h.r_ h.l_ az),
  eK h.m_ g c (dW h.m_ h.l_ az),
  by simpa using ho,
  by obtain⟨rows,h1,h2⟩:=h.i_;exact⟨rows,eK h1 g c (dW h1 h.l_ az),h2.gp g c λo _ _ ho=>dW ho h.l_ az⟩,
  by obtain⟨rows,h1,h2⟩:=h.u_;exact⟨rows,eK h1 g c (dW h1 h.l_ az),h2.gp g c λo _ _ ho=>dW ho h.l_ az⟩,
  h.sf,
  by have:=h.len;simp only[WG,XF];omega,
  h.rI,
  h.mI,
  λy z=>(List.mem_append.1 z).elim (h.lI y) (λz=>by rw[List.mem_singleton.1 z];exact A),
  h.nums⟩
def fG.addI (h:fG w B M m v) {v':Wv} (c:rb<B) (g:gi rb v.i.ownBlock w w') (F: ∀j,v'.ownBlock=Ws j->v.i.ownBlock=Ws j\/w.heap.size<=j)
 (x:fg) (o:Wv) (rows:List (List Wv)) (G:w.ownsRow B 138 7 v.i m.items.length rows.flatten) (D:vh yF fg.on IK w B rows m.items) (ho:w'.ownsRow B 138 7 v' (m.items.length+1) (rows.flatten++yF x o)) (z:w'.ownsRow B 3 1 o (fg.on x).length ((fg.on x).map (WK .i64))) (C: ∀y∈fg.on x,aK y) (A:IK x):fG w' B (M+1) {m with items:=m.items++[x]} {v with i:=v'}:=by
 obtain⟨rows0,CY,ee⟩:=h.i_;exact⟨eK h.s_ g c (dW h.s_ CY az),
  eK h.f_ g c (dW h.f_ CY az),
  eK h.r_ g c (dW h.r_ CY az),
  eK h.m_ g c (dW h.m_ CY az),
  eK h.l_ g c (dW h.l_ CY az),
  ⟨rows++[yF x o],by simpa using ho,(D.gp g c λo _ _ ho=>dW ho CY az).snoc z C A⟩,
  by obtain⟨rows,h1,h2⟩:=h.u_;exact⟨rows,eK h1 g c (dW h1 CY az),h2.gp g c λo _ _ ho=>dW ho CY az⟩,
  h.sf,
  by have:=h.len;simp only[WG,XF];omega,
  h.rI,
  h.mI,
  h.lI,
  h.nums⟩
def fG.addU (h:fG w B M m v) {v':Wv} (c:rb<B) (g:gi rb v.u.ownBlock w w') (F: ∀j,v'.ownBlock=Ws j->v.u.ownBlock=Ws j\/w.heap.size<=j)
 (x:cC) (o:Wv) (rows:List (List Wv)) (G:w.ownsRow B 119 7 v.u m.rules.length rows.flatten) (D:vh BJ cC.ms IL w B rows m.rules) (ho:w'.ownsRow B 119 7 v' (m.rules.length+1) (rows.flatten++BJ x o)) (z:w'.ownsRow B 3 1 o (cC.ms x).length ((cC.ms x).map (WK .i64))) (C: ∀y∈cC.ms x,aK y) (A:IL x):fG w' B (M+1) {m with rules:=m.rules++[x]} {v with u:=v'}:=by
 obtain⟨rows0,C5,ee⟩:=h.u_;exact⟨eK h.s_ g c (dW h.s_ C5 az),
  eK h.f_ g c (dW h.f_ C5 az),
  eK h.r_ g c (dW h.r_ C5 az),
  eK h.m_ g c (dW h.m_ C5 az),
  eK h.l_ g c (dW h.l_ C5 az),
  by obtain⟨rows,h1,h2⟩:=h.i_;exact⟨rows,eK h1 g c (dW h1 C5 az),h2.gp g c λo _ _ ho=>dW ho C5 az⟩,
  ⟨rows++[BJ x o],by simpa using ho,(D.gp g c λo _ _ ho=>dW ho C5 az).snoc z C A⟩,
  h.sf,
  by have:=h.len;simp only[WG,XF];omega,
  h.rI,
  h.mI,
  h.lI,
  h.nums⟩
def Z2 {α:Type} {R:Wu->Nat->List Wv->α->Prop} {k:Nat} {e:WQ} {c:α->List Wv} {l:List α} {u:Wv} (h:w.ownsRow B e k u l.length (l.map c).flatten) (z: ∀x,(c x).length=k) (y: ∀x∈l,R w w (c x) x):bW k R w w u l:=by
 refine bW.of_own (l.map c) (λr g=> ?_) Yl h (λj r x g hx=> ?_)
 .obtain⟨x,_,rfl⟩:=List.mem_map.1 g;exact z x
 .rw[WN,hx] at g;simp at g;subst g;exact y x (eD hx)
def ba4 {α:Type} {R:Wu->Nat->List Wv->α->Prop} {C:α->Wv->List Wv} {L:α->List Int} {G:α->Prop} {e:WQ} {rows:List (List Wv)} {l:List α} {u:Wv} (h:w.ownsRow B e 7 u l.length rows.flatten) (g:vh C L G w B rows l)
 (D: ∀x o,(C x o).length=7) (A: ∀x o,aW w w o (L x)->G x->R w w (C x o) x):bW 7 R w w u l:=by
 refine bW.of_own rows (λr y=> ?_) g.1 h (λj r x y hx=> ?_)
 .obtain⟨j,hj⟩:=List.mem_iff_getElem?.1 y;have z:=(List.getElem?_eq_some_iff.1 hj).1;obtain⟨x,hx⟩: ∃x,l[j]? =Ws x:=⟨_,Wy (by rw[<-g.1];exact z)⟩;obtain⟨o,c,_⟩:=g.2 j x hx;rw[hj] at c;injection c with c;subst c;exact D _ _
 .obtain⟨o,c,g2,g3,g4⟩:=g.2 j x hx;rw[y] at c;injection c with c;subst c;exact A x o ⟨Sl.of_own g2,g3⟩ g4
def fG.in_ (h:fG w B M m v):m.In w w v:=by
 obtain⟨r1,i1,i2⟩:=h.i_;obtain⟨r2,u1,u2⟩:=h.u_;refine⟨?_,?_,Z2 h.r_ (λ_=>rfl) (λx hx=>⟨rfl,h.rI x hx⟩),Z2 h.m_ (λ_=>rfl) (λx hx=>⟨rfl,h.mI x hx⟩),Z2 h.l_ (λ_=>rfl) (λx hx=>⟨rfl,h.lI x hx⟩),
  ba4 i1 i2 (λ_ _=>rfl) (λx o ho c=>⟨o,rfl,ho,c⟩),ba4 u1 u2 (λ_ _=>rfl) (λx o ho c=>⟨o,rfl,ho,c⟩),h.nums.1,h.nums.2.1,h.nums.2.2.1,h.nums.2.2.2⟩
 .have g:=Sl.of_own h.s_;unfold bG cD;rw[XB];exact g
 .have g:=Sl.of_own h.f_;unfold bG cD;rw[XB];exact g
end
def ew8 (d:au) (rv nv:Wv) (w:Wu) (hG:fD w) (g C L M N:Nat) (NM D O:Bool) (wd:ByteArray) (eb:dp g) (V:bG w w rv d.refs) (U:aW w w nv (d.nums.map λx:Nat=>(x:Int)))
 (hf: ∀pb,∃cap,yG pb d.kind=Ws (Ye #[wd,Yc NM,L,M,N,.func (.func g) #[] #[],Yc D,.func (.func C) #[] cap])) (mf: ∀W,Below w w W->aQ g #[d.by_] W (Yc O)) (Y:d.always=Wz) (wm:D=Wz) (I:L<=d.refs.length) (am:d.refs.length<=M) (G:d.nums.length=N) (uE:O=Wz):
 aQ 125 #[Ye #[d.kind,bs d.name,rv,nv,d.by_,Yc d.always]] w (Yc ((Wt (L<=d.refs.length)&&(Wt (d.refs.length<=M)&&(Wt (d.nums.length=N)&&(O&&((D|| !d.always)&&(if NM then br d.name else Wt (d.name=[])))))))
  &&d.refs.all br&&d.nums.all λn=>Wt (n<=1048576))):=by
 refine aa0 λmH HF sR nx=> ?_;have mN:=aa (λW (hW:Below w w W)=>Yy (R1 λs=>WM (bs s)) (R1.ab _) rv d.refs 202 #[] (jg d.refs λs=> !br s) W ((V.below hW (ag _)).more hW.size).sk (WD func202 aC rfl)
  (λj x cs F hx gA A _=>by rw[eW hx];unfold R1 at A;subst A;exact Z9 x F (hG.step (ai hW gA))))
 have sU:=aa (λW (hW:Below w w W)=>Z3 (R1 (WK .i64)) (R1.ab _) nv (d.nums.map λx:Nat=>(x:Int)) 200 #[] (jg (d.nums.map λx:Nat=>(x:Int)) λn=> !Wt (n<=1048576)) W ((U.below hW (ag _)).more hW.size).sk (WD func200 aC rfl)
  (λj x cs F hx gA A _=>by rw[eW hx];unfold R1 at A;subst A;obtain⟨y,hy,rfl⟩:=List.mem_map.1 (eD hx);have h:=Z7 y F;have e:Wt (y<=1048576)=Wt ((y:Int)<=1048576):=Ol;rw[e] at h;exact h))
 simp only[BF,bm] at mN sU;have e1:(d.refs.any λs=> !br s)= !(d.refs.all br):=TL;have e2:((d.nums.map λx:Nat=>(x:Int)).any λn=> !Wt (n<=1048576))= !(d.nums.all λn=>Wt (n<=1048576)):=by exact aa1
 rw[e1] at mN;rw[e2] at sU;have xr:=aa (show(bs d.name).toList.isEmpty=Wt (d.name=[]) from by rw[jr,gI];cases d.name<;>rfl);obtain⟨RA,rn,rc,rfl,eP,_,_⟩:=V.sk.form;obtain⟨NA,nn,nc,rfl,dQ,_,_⟩:=U.sk.form;rw[WF] at dQ;rw[eP,dQ];rw[eP] at I am;rw[dQ] at G;have k1: ¬(rn:Int)<(L:Int):=Yi;have k2: ¬(M:Int)<(rn:Int):=Yi;have k3:((nn:Int)!=(N:Int))=false:=bI;rw[decide_eq_true I,decide_eq_true am,decide_eq_true G,Y];subst wm uE;clear I am G Y;generalize br d.name=ni at nx;generalize Wt (d.name=[])=ne at xr;generalize d.refs.all br=ra at mN;generalize (d.nums.all λn=>Wt (n<=1048576))=na at sU;unfold dp at eb;clear V U hf mf e1 e2 eP dQ hG;go_enter func125,ntmps125;go_upto_region 1 with (fail)
 refine cP (λW=>Below w w W/\W.heap[w.heap.size]? =Ws (Yd #[d.kind,bs d.name,Yb RA rn rc,Yb NA nn nc,d.by_,Yc Wz] 96 (0,0))) ⟨ae (af w) _,bQ w _⟩ ?_;intro W1 ⟨aU,cS⟩;refine M4 λq0 ba cJ=> ?_;have aT:=aa aU;have lq:=aa cS;clear aU cS;go_cut [3,4] (λp q wx=>q=Yc Wz/\∃z,p=aj z/\W1.heap.size<=z/\Below W1 W1 wx/\∃cap,wx.heap[z]? =Ws (Yd #[wd,Yc NM,L,M,N,.func (.func g) #[] #[],Yc Wz,.func (.func C) #[] cap] 212 (0,0)))
 case first=>
  rename_i J K' hJ gO;have HJ:=aa hJ;have rN:=aa gO;clear hJ gO;go_region_held3 (λw'=>w'.cell? w=Ws (WK Xr d.kind)) (go_simp)
   (first
     |(go_at_call 160;refine(mH.out _).m ?_;rintro e w2 ⟨Z,pb,rfl,hM,_,_,am⟩;obtain⟨cap,hF⟩:=HF.out pb;refine Iu λaV=> ?_;have kU:(Instr.lookup 213 (.map (some Z)) (.int .i64 d.kind) true).run prog w2= .ok (.tuple #[.agg #[.string wd,.bool NM,.int .i64 L,.int .i64 M,.int .i64 N,.func (.func g) #[] #[],.bool true,.func (.func C) #[] cap],.bool true]) w2:=by exact Z_
       have gM: ∀o,(WT 213 (.map (Ws Z)) (WK Xr d.kind) Wz).run WH (w2.alloc o)= .ok (.tuple #[Ye #[wd,Yc NM,L,M,N,.func (.func g) #[] #[],Yc Wz,.func (.func C) #[] cap],Yc Wz]) (w2.alloc o):=λo=>by exact Z'
       refine QI λc0 lJ wv=> ?_;try(have gF:W1.heap.size<w2.heap.size:=by(have hq:=am.size;simp at hq;omega))
       refine QJ λbd jU iW=> ?_;clear hM am))
  all_goals
   dsimp only[Exit.then];refine rN.out _ _ (Met.intro (HJ.out _ _ ?_))
   (repeat apply Exists.intro)
   refine⟨⟨rfl,?_⟩,rfl⟩
  .exact QL
  .exact QL
  .exact bb4
 case rest=>
  obtain⟨rfl,z,rfl,jn,aV,cap,mD⟩:=hcut;have X:=aq lq.out aV;obtain⟨up,rT,uq,ur,ut,uu⟩:=jD X;obtain⟨zl,zm,GQ,GS,GT,GU,GV,GW⟩:=PR mD;have rH:=aa (ai aT.out aV);have Kd:=aa X;have Kc:=aa mD;clear X mD aV q0;simp only[aj]
  go_upto_region 4 with (first
   |(refine(sR.out _ rH.out).m ?_;rintro e w4 ⟨rfl,aS⟩;refine QK λdx jn oo mO mP=> ?_;have pF:w4.cell? (w 5 Wr)=Ws (Yc Wz):=ah dx rfl;have uv:w4.cell? ⟨z,1,Wr⟩=Ws (Yc NM):=ah jn rfl;have GX:w4.cell? ⟨z,6,Wr⟩=Ws (Yc Wz):=ah jn rfl;have sQ:=aa (ai rH.out aS);have AU:=aa dx;clear aS dx jn up rT uq ur ut uu zl zm GQ GS GT GU GV GW))
  exact bb5
def aa5 (rb Mb:Nat) (t:cO) (d:au) (kind count:Int) (m:Nat) (rv nv:Wv) (w:Wu) (hr:w.cell? rb=Ws (.map (Ws Mb))) (hM:de lV w Mb (ks t))
 (fK:bG w w rv d.refs) (Z:aW w w nv (d.nums.map λx:Nat=>(x:Int))) (hl:d.refs.length<=100000) (hm:d.nums.length=m+3):
 WJ WH 133 #[aj rb,Ye #[d.kind,bs d.name,rv,nv,d.by_,Yc d.always],kind,count] w λe w'=>
  ∃o,e=Xz (Ye ((lv t d kind count).vals o))/\w'.ownsRow w.heap.size 3 1 o d.refs.length ((lX (d.refs.map (bC t))).map (WK .i64))/\Below w w w':=by
 have eB:=bP _ _ hr;obtain⟨k0,fY⟩: ∃k0,d.nums[m]? =Ws k0:=⟨_,Wy Yi⟩;obtain⟨k1,kU⟩: ∃k1,d.nums[m+1]? =Ws k1:=⟨_,Wy Yi⟩;obtain⟨z,gM⟩: ∃z,d.nums[m+2]? =Ws z:=⟨_,Wy Yi⟩
 have HU:=aa (show ∀o,(lv t d kind count).vals o= #[WM (bs d.name),WK Xr kind,WK Xr count,WK Xr k0,WK Xr k1,WK Xr z,o] from λo=>by
  rw[fg.vals_def];have e:d.nums.drop (d.nums.length - 3)=[k0,k1,z]:=by
   rw[hm,show m+3 - 3=m by omega];apply List.ext_getElem?;intro i;rw[List.getElem?_drop]
   match i with
   |0=>simpa using fY
   |1=>simpa using kU
   |2=>simpa using gM
   |i+3=>rw[List.getElem?_eq_none Yi];rfl
  simp[lv,e,fv])
 obtain⟨RA,rn,rc,rfl,eP,_,_⟩:=fK.sk.form;obtain⟨NA,nn,nc,rfl,dQ,wz,hg9⟩:=Z.sk.form;rw[WF,hm] at dQ;subst dQ;obtain⟨nb,no,rfl,ww,eU⟩:=aW.cell Z (j:=m) (x:=k0) (by rw[WN,fY];rfl);have bt:w.cell? ⟨nb,no+(m+1),Wr⟩=Ws (WK Xr k1):=by obtain⟨b,o,e,_,h⟩:=aW.cell Z (j:=m+1) (x:=k1) (by rw[WN,kU];rfl);injection e with e;injection e with Y e2;subst Y e2;exact h
 have cR:w.cell? ⟨nb,no+(m+2),Wr⟩=Ws (WK Xr z):=by obtain⟨b,o,e,_,h⟩:=aW.cell Z (j:=m+2) (x:=z) (by rw[WN,gM];rfl);injection e with e;injection e with Y e2;subst Y e2;exact h
 have HR:=aa hr;have HM:=aa hM;have nz:=aa fK;have cv6:=aa eU;have cv7:=aa bt;have NH:=aa cR;simp only[aj];clear hr hM fK Z fY kU gM eU bt cR;go_enter func133,ntmps133;go_upto_region 1 with (fail)
 refine cP (λW=>Below w w W/\W.heap[w.heap.size]? =Ws (Yd #[d.kind,bs d.name,Yb RA rn rc,Yb (Ws (nb no Wr)) (m+3) nc,d.by_,Yc d.always] 96 (0,0))/\W.heap[w.heap.size+1]? =Ws (Yd #[WM ⟨#[]⟩,WK Xr 0,WK Xr 0,WK Xr 0,WK Xr 0,WK Xr 0,Yb Wr 0 0] 138 (0,0))) ⟨ae (ae (af w) _) _,(sF w _ _ _ _).1,(sF w _ _ _ _).2⟩ ?_;intro y ⟨J,X,EH⟩;have x1:y.cell? (w 1 Wr)=Ws (WM (bs d.name)):=ah X rfl;have x2:y.cell? (w 2 Wr)=Ws (Yb RA rn rc):=ah X rfl;have x3:y.cell? (w 3 Wr)=Ws (Yb (Ws (nb no Wr)) (m+3) nc):=ah X rfl;have dz:(0:Int)<=((m+3:Nat):Int) - 3:=Yi;have bJ:((m+3:Nat):Int) - 3<=((m+3:Nat):Int):=Yi;have n0:y.cell? ⟨nb,no+m,Wr⟩=Ws (WK Xr k0):=(J.cell (p:=⟨nb,no+m,Wr⟩) ww).trans cv6.out;have n1:y.cell? ⟨nb,no+m+1,Wr⟩=Ws (WK Xr k1):=(J.cell (p:=⟨nb,no+m+1,Wr⟩) ww).trans cv7.out;have n2:y.cell? ⟨nb,no+m+2,Wr⟩=Ws (WK Xr z):=(J.cell (p:=⟨nb,no+m+2,Wr⟩) ww).trans NH.out;have U:=blk_lt X;have gs9:=blk_lt EH;have ba:w.heap.size<=y.heap.size:=J.size;have D:nb<y.heap.size:=Yi;have aT:=aa J;have Tu:=aa EH;have sV:=aa (λW (hW:Below w w W)=>Z0 rb Mb t (Yb RA rn rc) d.refs W ((hW.cell (p:=rb) eB).trans HR.out) (HM.out.later hW) ((nz.out.below hW (ag _)).more hW.size) hl);have ta:=aa (λBs sv W (h1:Bs<W.heap.size) (h2:W.cell? ⟨Bs,0,Wr⟩=Ws sv) h3=>bh0 Bs sv (d.refs.map (bC t)) (by rw[WF];omega) W h1 h2 h3);rw[bh3,WF] at ta;simp only[aj] at sV;clear J X EH;go_upto_region 2 with (fail)
 refine pE (S:=λw'=>w'.cell? (w 1 Wr)=Ws (WM (bs d.name))/\w'.cell? (w 2 Wr)=Ws (Yb RA rn rc)/\w'.cell? ⟨nb,no+m,Wr⟩=Ws (WK Xr k0)/\w'.cell? ⟨nb,no+m+1,Wr⟩=Ws (WK Xr k1)/\w'.cell? ⟨nb,no+m+2,Wr⟩=Ws (WK Xr z)) 21 (by exact⟨x1,x2,n0,n1,n2⟩) λhS=> ?_;iterate 7 refine mC 21 17 ?_
 iterate 9 refine mC 24 17 ?_
 refine dY 7 λK A=> ?_;go_simp;refine(sV.out _ (aX aT.out)).m ?_;rintro e V ⟨u,rfl,hu,aS⟩;obtain⟨UA,um,uc,rfl⟩:=eH hu;have de5:=aa hu;have F:Hid (Below y y V):=ai (aX (af y)) aS;clear hu aS;try go_simp
 clear hS;refine A.out _ _ (by exact⟨(F.out.cell (p:=w 1 Wr) U).trans x1,(F.out.cell (p:=w 2 Wr) U).trans x2,(F.out.cell (p:=⟨nb,no+m,Wr⟩) D).trans n0,(F.out.cell (p:=⟨nb,no+m+1,Wr⟩) D).trans n1,(F.out.cell (p:=⟨nb,no+m+2,Wr⟩) D).trans n2⟩) (λhS=> ?_);clear A;refine aG ?_;refine dY 8 λK A=> ?_;go_simp;refine(ay9 UA um uc _).m ?_;rintro e w5 ⟨rfl,rfl⟩;have O:Hid (Below y y (V.alloc (Yd #[Yb UA um uc] 31))):=ai F.out (ae (af V) _);simp only[bm,aj];try go_simp
 clear hS;refine A.out _ _ (by exact⟨(O.out.cell (p:=w 1 Wr) U).trans x1,(O.out.cell (p:=w 2 Wr) U).trans x2,(O.out.cell (p:=⟨nb,no+m,Wr⟩) D).trans n0,(O.out.cell (p:=⟨nb,no+m+1,Wr⟩) D).trans n1,(O.out.cell (p:=⟨nb,no+m+2,Wr⟩) D).trans n2⟩) (λhS=> ?_);clear A;refine aG ?_;refine dY 9 λK A=> ?_;go_simp;refine(ta.out V.heap.size (Yb UA um uc) _ Yl (ah (bQ V _) rfl) (Sl.of_own (fS de5.out (ae (af V) _)))).m ?_;rintro e c ⟨so,rfl,wD,bM⟩;obtain⟨SA,sm,F7,rfl⟩:=eH wD;have ze:=aa wD;have G:Hid (Below y y c):=ai O.out bM;clear wD bM;try go_simp
 clear hS;refine A.out _ _ (by exact⟨(G.out.cell (p:=w 1 Wr) U).trans x1,(G.out.cell (p:=w 2 Wr) U).trans x2,(G.out.cell (p:=⟨nb,no+m,Wr⟩) D).trans n0,(G.out.cell (p:=⟨nb,no+m+1,Wr⟩) D).trans n1,(G.out.cell (p:=⟨nb,no+m+2,Wr⟩) D).trans n2⟩) (λhS=> ?_);clear A;refine aG ?_;refine cb 19 36 ?_;have C:=aq Tu.out G.out;have y0:c.cell? ⟨w.heap.size+1,0,Wr⟩=_:=ah C rfl;have y1:c.cell? ⟨w.heap.size+1,1,Wr⟩=_:=ah C rfl;have y2:c.cell? ⟨w.heap.size+1,2,Wr⟩=_:=ah C rfl;have y3:c.cell? ⟨w.heap.size+1,3,Wr⟩=_:=ah C rfl;have y4:c.cell? ⟨w.heap.size+1,4,Wr⟩=_:=ah C rfl;have y5:c.cell? ⟨w.heap.size+1,5,Wr⟩=_:=ah C rfl;have y6:c.cell? ⟨w.heap.size+1,6,Wr⟩=_:=ah C rfl;obtain⟨z0,z1,z2,z3,z4,z5,z6⟩:=Dc C;have pp:w.heap.size+1<=c.heap.size:=by have:=G.out.size;omega
 have cx0:=aa C;refine dY 20 λK A=> ?_;go_simp;refine A.out _ _ (by refine(fun(I:Below (w.heap.size+1) c _)=>⟨(I.cell (p:=w 1 Wr) (XQ _)).trans hS.1,(I.cell (p:=w 2 Wr) (XQ _)).trans hS.2.1,(I.cell (p:=⟨nb,no+m,Wr⟩) (Nat.lt_succ_of_lt ww)).trans hS.2.2.1,(I.cell (p:=⟨nb,no+m+1,Wr⟩) (Nat.lt_succ_of_lt ww)).trans hS.2.2.2.1,(I.cell (p:=⟨nb,no+m+2,Wr⟩) (Nat.lt_succ_of_lt ww)).trans hS.2.2.2.2⟩) (((((((((af c).mono pp).setCell (p:=⟨w.heap.size+1,0,Wr⟩) (ag _) _).setCell (p:=⟨w.heap.size+1,1,Wr⟩) (ag _) _).setCell (p:=⟨w.heap.size+1,2,Wr⟩) (ag _) _).setCell (p:=⟨w.heap.size+1,3,Wr⟩) (ag _) _).setCell (p:=⟨w.heap.size+1,4,Wr⟩) (ag _) _).setCell (p:=⟨w.heap.size+1,5,Wr⟩) (ag _) _).setCell (p:=⟨w.heap.size+1,6,Wr⟩) (ag _) _)) (λhS=> ?_);clear A;refine aG ?_;refine oQ ?_;go_wp2_with fail
 clear hS;have g7:((((((((c).setCell ⟨w.heap.size+1,0,Wr⟩ (WM (bs d.name))).setCell ⟨w.heap.size+1,1,Wr⟩ (WK Xr kind)).setCell ⟨w.heap.size+1,2,Wr⟩ (WK Xr count)).setCell ⟨w.heap.size+1,3,Wr⟩ (WK Xr k0)).setCell ⟨w.heap.size+1,4,Wr⟩ (WK Xr k1)).setCell ⟨w.heap.size+1,5,Wr⟩ (WK Xr z)).setCell ⟨w.heap.size+1,6,Wr⟩ (Yb SA sm F7)).heap[w.heap.size+1]? =Ws (Yd #[bs d.name,kind,count,WK Xr k0,WK Xr k1,WK Xr z,Yb SA sm F7] 138 (0,0)):=(aZ (aZ (aZ (aZ (aZ (aZ (aZ (cx0.out) 0 (WM (bs d.name))) 1 (WK Xr kind)) 2 (WK Xr count)) 3 (WK Xr k0)) 4 (WK Xr k1)) 5 (WK Xr z)) 6 (Yb SA sm F7)).trans rfl;have lF:aF c.heap.size (w.heap.size+1) c ((((((((c).setCell ⟨w.heap.size+1,0,Wr⟩ (WM (bs d.name))).setCell ⟨w.heap.size+1,1,Wr⟩ (WK Xr kind)).setCell ⟨w.heap.size+1,2,Wr⟩ (WK Xr count)).setCell ⟨w.heap.size+1,3,Wr⟩ (WK Xr k0)).setCell ⟨w.heap.size+1,4,Wr⟩ (WK Xr k1)).setCell ⟨w.heap.size+1,5,Wr⟩ (WK Xr z)).setCell ⟨w.heap.size+1,6,Wr⟩ (Yb SA sm F7)):=aF.set (aF.set (aF.set (aF.set (aF.set (aF.set (aF.set (aF.refl _ _ _) (.inl rfl) _) (.inl rfl) _) (.inl rfl) _) (.inl rfl) _) (.inl rfl) _) (.inl rfl) _) (.inl rfl) _;generalize (((((((c).setCell ⟨w.heap.size+1,0,Wr⟩ (WM (bs d.name))).setCell ⟨w.heap.size+1,1,Wr⟩ (WK Xr kind)).setCell ⟨w.heap.size+1,2,Wr⟩ (WK Xr count)).setCell ⟨w.heap.size+1,3,Wr⟩ (WK Xr k0)).setCell ⟨w.heap.size+1,4,Wr⟩ (WK Xr k1)).setCell ⟨w.heap.size+1,5,Wr⟩ (WK Xr z)).setCell ⟨w.heap.size+1,6,Wr⟩ (Yb SA sm F7)=W7 at g7 lF⊢
 obtain⟨f0,f1,f2,f3,f4,f5,f6⟩:=iA g7;refine bodyPost_ret (v:=Ye #[bs d.name,kind,count,WK Xr k0,WK Xr k1,WK Xr z,Yb SA sm F7]) ?_ rfl ?_
 .simp[results,Tryz.f133,go_sem,f0,f1,f2,f3,f4,f5,f6]
 .refine⟨.slice SA sm F7,by rw[HU.out],?_,?_⟩
  .have h:=oS ze.out lF (ag _) (by have:=F.out.size;simp;omega);rw[eP] at h;refine⟨h.1,h.2.imp id ?_⟩;rintro ⟨g,cap,cur,Y,I,yf⟩;exact⟨g,cap,cur,Y,by have:=F.out.size;simp at I;omega,yf⟩
  .exact(aT.out.trans (G.out.mono ba)).trans ((lF.below pp).mono (XR _))
def QQ {w:Wu} {B B':Nat} {e:WQ} {size:Nat} {v:Wv} {n:Nat} {xs:List Wv} (h:w.ownsRow B e size v n xs) (j:B'<=B):w.ownsRow B' e size v n xs:=
 ⟨h.1,h.2.imp id λ⟨g,cap,cur,e1,hb,yf⟩=>⟨g,cap,cur,e1,bo j hb,yf⟩⟩
def fh6 (rb mb pb Mb B:Nat) (t:cO) (d:au) (A:Option X8) (nl c m:Nat) (k2:Int) (rv nv:Wv) (C:Array Wv) (T:WQ) (v:Wv) (n:Nat) (xs:List Wv) (w:Wu) (hr:w.heap[rb]? =Ws (Yd C T (0,0))) (F:C[0]? =Ws (.map (Ws Mb))) (hC:C[6]? =Ws v)
 (J:de lV w Mb (ks t)) (z:bG w B rv d.refs) (y:aW w B nv (d.nums.map λx:Nat=>(x:Int))) (O:d.refs.length<=100000) (D:d.nums.length=m+3)
 (hm:w.heap[mb]? =Ws (Yd #[Yf (Ws (rb 1 Wr))] 182 (0,0))) (hp:w.heap[pb]? =Ws (Yd #[aj rb] 107 (0,0))) (V:rb<B) (Y:mb<B) (U:pb<B) (g:B<=w.heap.size) (bA:w.ownsRow B 138 7 v n xs) (hn:n<=1000000):
 WJ WH 132 #[Ye #[d.kind,bs d.name,rv,nv,d.by_,Yc d.always],Yb A nl c,aj mb,aj pb] w λe w'=>(∃u,e=Xz u)/\∃o,nK w rb B T C 6 138 7 v n xs (yF (lv t d 0 nl) o) w'/\w'.ownsRow w.heap.size 3 1 o d.refs.length ((lX (d.refs.map (bC t))).map (WK .i64)):=by
 refine aa6 λi0 hi cJ ba bd ar oN=> ?_;have iU:v.ownBlock≠Ws rb:=λe=>by have:=(ar rb e).1;omega
 have uO:v.ownBlock≠Ws mb:=λe=>by have:=(ar mb e).1;omega
 have Pg:v.ownBlock≠Ws pb:=λe=>by have:=(ar pb e).1;omega
 have ee:v.ownBlock≠Ws w.heap.size:=λe=>by have:=(ar _ e).2;omega
 obtain⟨RA,rn,rc,rfl,eP,_,_⟩:=z.sk.form;obtain⟨NA,nn,nc,rfl,dQ,_,_⟩:=y.sk.form;rw[WF,D] at dQ;subst dQ;obtain⟨k0,fY⟩: ∃k0,d.nums[0]? =Ws k0:=⟨_,Wy Yi⟩;obtain⟨qb,qo,rfl,LB,pX⟩:=aW.cell y (j:=0) (x:=k0) (by rw[WN,fY];rfl);rw[WR] at pX;have X:v.ownBlock≠Ws qb:=λe=>by have:=(ar qb e).1;omega
 have pA:=aa (λW (hW:Below w w W)=>aa5 rb Mb t d 0 nl m (Yb RA rn rc) (Yb (Ws (qb qo Wr)) (m+3) nc) W ((hW.cell (p:=rb) (bq V g)).trans (ah hr F)) (J.later hW) ((z.below hW g).more (bo g hW.size)) ((y.below hW g).more (bo g hW.size)) O D);have G:=aa (λo=>fg.vals_def (lv t d 0 nl) o);simp only[aj] at pA hp⊢
 generalize lv t d 0 nl=u at pA G;have Z:=aa eP;clear z y J O D eP fY;go_enter func132,ntmps132;go_upto_region 1 with (fail)
 refine Zv ?_;intro W1 ⟨aU,I⟩;have qc:=aU.size;have uD:(0:Int)<(m:Int)+3:=Yi;obtain⟨x0,x1,x2,x3,x4,x5⟩:=jD I;refine B7 λgE c0=> ?_;refine Zw λc1 c2=> ?_;refine Zx λiX pA=> ?_;have aT:=aa aU;have pB:=aa gE;clear aU I gE hr hm hp hC F bA ar pX;go_wp2_with fail
 refine fC (S:=λw'=>w'.cell? mb=Ws (Yf (Ws (rb 1 Wr)))/\w'.cell? (rb 6 Wr)=Ws (v)/\w'.cell? pb=Ws (Yf (Ws rb))/\w'.cell? w=Ws (WK Xr d.kind)/\w'.cell? (w 1 Wr)=Ws (WM (bs d.name))/\w'.cell? (w 2 Wr)=Ws (Yb RA rn rc)/\w'.cell? (w 3 Wr)=Ws (Yb (Ws (qb qo Wr)) (m+3) nc)/\w'.cell? (w 4 Wr)=Ws (WK Xr d.by_)/\w'.cell? (w 5 Wr)=Ws (Yc d.always)) 12 15 (by exact⟨c0,c1,c2,x0,x1,x2,x3,x4,x5⟩) λhS=> ?_;iterate 9 refine cI 15 6 ?_
 refine bF 9 λK hK=> ?_;go_simp;refine(pA.out _ (aX (af W1))).m ?_;rintro e w4 ⟨o,rfl,ho,aS⟩;obtain⟨OA,om,oc,rfl⟩:=eH ho;refine Zy λbE mp JS=> ?_;rw[G.out];clear ho aS;try go_simp
 clear hS;refine bh4 λhS=> ?_;clear hK;refine aG ?_;refine bF 10 λK hK=> ?_;go_simp;refine bh5 λhS=> ?_;clear hK;refine aG ?_;refine bF 11 λK hK=> ?_;refine Zz ?_;intro gg cap w3 jo bh iq ar;refine bh6 λhS=> ?_;clear hK;refine aG ?_;refine eC 12 λK hK=> ?_;go_simp;refine iZ ?_;clear hK;refine aG ?_;refine eC 13 λK hK=> ?_;go_simp;refine iZ ?_;clear hK;refine aG ?_;refine ZA λf1=> ?_;refine eC 14 λK hK=> ?_;exact ZB
def fh7 (rb mb pb Mb B:Nat) (t:cO) (d:au) (A:Option X8) (nl c m:Nat) (g:Int) (rv nv:Wv) (C:Array Wv) (T:WQ) (v:Wv) (n:Nat) (xs:List Wv) (w:Wu) (hr:w.heap[rb]? =Ws (Yd C T (0,0))) (I:C[0]? =Ws (.map (Ws Mb))) (hC:C[6]? =Ws v)
 (V:de lV w Mb (ks t)) (F:bG w B rv d.refs) (D:aW w B nv (d.nums.map λx:Nat=>(x:Int))) (X:d.refs.length<=100000) (G:d.nums.length=m+3) (U:(d.nums.map λx:Nat=>(x:Int))[0]? =Ws g)
 (hm:w.heap[mb]? =Ws (Yd #[Yf (Ws (rb 1 Wr))] 182 (0,0))) (hp:w.heap[pb]? =Ws (Yd #[aj rb] 107 (0,0))) (zL:rb<B) (EP:mb<B) (cp2:pb<B) (z:B<=w.heap.size) (bA:w.ownsRow B 138 7 v n xs) (hn:n<=1000000):
 WJ WH 134 #[Ye #[d.kind,bs d.name,rv,nv,d.by_,Yc d.always],Yb A nl c,aj mb,aj pb] w λe w'=>(∃u,e=Xz u)/\∃o,nK w rb B T C 6 138 7 v n xs (yF (lv t d 1 g) o) w'/\w'.ownsRow w.heap.size 3 1 o d.refs.length ((lX (d.refs.map (bC t))).map (WK .i64)):=by
 refine aa6 λi0 hi cJ ba bd ar oN=> ?_;have iU:v.ownBlock≠Ws rb:=λe=>by have:=(ar rb e).1;omega
 have uO:v.ownBlock≠Ws mb:=λe=>by have:=(ar mb e).1;omega
 have Pg:v.ownBlock≠Ws pb:=λe=>by have:=(ar pb e).1;omega
 have y:v.ownBlock≠Ws w.heap.size:=λe=>by have:=(ar _ e).2;omega
 obtain⟨RA,rn,rc,rfl,eP,_,_⟩:=F.sk.form;obtain⟨NA,nn,nc,rfl,dQ,_,_⟩:=D.sk.form;rw[WF,G] at dQ;subst dQ;obtain⟨k0,fY⟩: ∃k0,d.nums[0]? =Ws k0:=⟨_,Wy Yi⟩;obtain⟨qb,qo,rfl,LB,pX⟩:=aW.cell D (j:=0) (x:=k0) (by rw[WN,fY];rfl);rw[WR] at pX;have Z:v.ownBlock≠Ws qb:=λe=>by have:=(ar qb e).1;omega
 have kV:(k0:Int)=g:=by rw[WN,fY] at U;simpa using U
 rw[kV] at pX;have pA:=aa (λW (hW:Below w w W)=>aa5 rb Mb t d 1 g m (Yb RA rn rc) (Yb (Ws (qb qo Wr)) (m+3) nc) W ((hW.cell (p:=rb) (bq zL z)).trans (ah hr I)) (V.later hW) ((F.below hW z).more (bo z hW.size)) ((D.below hW z).more (bo z hW.size)) X G);have J:=aa (λo=>fg.vals_def (lv t d 1 g) o);simp only[aj] at pA hp⊢
 generalize lv t d 1 g=u at pA J;have J2:=aa eP;clear F D V X G eP fY;go_enter func134,ntmps134;go_upto_region 1 with (fail)
 refine Zv ?_;intro W1 ⟨aU,O⟩;have qc:=aU.size;have uD:(0:Int)<(m:Int)+3:=Yi;obtain⟨x0,x1,x2,x3,x4,x5⟩:=jD O;refine B7 λgE c0=> ?_;refine Zw λc1 c2=> ?_;have Y:W1.cell? (qb qo Wr)=Ws (WK Xr g):=(aU.cell (p:=qb qo Wr) (bq LB z)).trans pX;refine Zx λiX pA=> ?_;have aT:=aa aU;have pB:=aa gE;clear aU O gE hr hm hp hC I bA ar pX;go_wp2_with fail
 refine fC (S:=λw'=>w'.cell? mb=Ws (Yf (Ws (rb 1 Wr)))/\w'.cell? (rb 6 Wr)=Ws (v)/\w'.cell? pb=Ws (Yf (Ws rb))/\w'.cell? w=Ws (WK Xr d.kind)/\w'.cell? (w 1 Wr)=Ws (WM (bs d.name))/\w'.cell? (w 2 Wr)=Ws (Yb RA rn rc)/\w'.cell? (w 3 Wr)=Ws (Yb (Ws (qb qo Wr)) (m+3) nc)/\w'.cell? (w 4 Wr)=Ws (WK Xr d.by_)/\w'.cell? (w 5 Wr)=Ws (Yc d.always)/\w'.cell? (qb qo Wr)=Ws (WK Xr g)) 14 17 (by exact⟨c0,c1,c2,x0,x1,x2,x3,x4,x5,Y⟩) λhS=> ?_;iterate 11 refine cI 17 6 ?_
 refine bF 11 λK hK=> ?_;go_simp;refine(pA.out _ (aX (af W1))).m ?_;rintro e w4 ⟨o,rfl,ho,aS⟩;obtain⟨OA,om,oc,rfl⟩:=eH ho;refine Zy λbE mp JS=> ?_;rw[J.out];clear ho aS;try go_simp
 clear hS;refine hK.out _ _ (by exact⟨kc (bE.out) c0,kc (bE.out) c1,kc (bE.out) c2,kc (bE.out) x0,kc (bE.out) x1,kc (bE.out) x2,kc (bE.out) x3,kc (bE.out) x4,kc (bE.out) x5,kc (bE.out) Y⟩) (λhS=> ?_);clear hK;refine aG ?_;refine bF 12 λK hK=> ?_;go_simp;refine hK.out _ _ (by exact⟨((ae (af _) _).cell (p:=mb) (bP _ _ (hS.1))).trans (hS.1),((ae (af _) _).cell (p:=rb 6 Wr) (bP _ _ (hS.2.1))).trans (hS.2.1),((ae (af _) _).cell (p:=pb) (bP _ _ (hS.2.2.1))).trans (hS.2.2.1),((ae (af _) _).cell (p:=w) (bP _ _ (hS.2.2.2.1))).trans (hS.2.2.2.1),((ae (af _) _).cell (p:=w 1 Wr) (bP _ _ (hS.2.2.2.2.1))).trans (hS.2.2.2.2.1),((ae (af _) _).cell (p:=w 2 Wr) (bP _ _ (hS.2.2.2.2.2.1))).trans (hS.2.2.2.2.2.1),((ae (af _) _).cell (p:=w 3 Wr) (bP _ _ (hS.2.2.2.2.2.2.1))).trans (hS.2.2.2.2.2.2.1),((ae (af _) _).cell (p:=w 4 Wr) (bP _ _ (hS.2.2.2.2.2.2.2.1))).trans (hS.2.2.2.2.2.2.2.1),((ae (af _) _).cell (p:=w 5 Wr) (bP _ _ (hS.2.2.2.2.2.2.2.2.1))).trans (hS.2.2.2.2.2.2.2.2.1),((ae (af _) _).cell (p:=qb qo Wr) (bP _ _ (hS.2.2.2.2.2.2.2.2.2))).trans (hS.2.2.2.2.2.2.2.2.2)⟩) (λhS=> ?_);clear hK;refine aG ?_;refine bF 13 λK hK=> ?_;refine Zz ?_;intro gg cap w3 jo bh iq ar;refine hK.out _ _ (by exact⟨(eZ bh (bP _ _ (hS.1)) uO).trans (hS.1),(eZ bh (bP _ _ (hS.2.1)) iU).trans (hS.2.1),(eZ bh (bP _ _ (hS.2.2.1)) Pg).trans (hS.2.2.1),(eZ bh (bP _ _ (hS.2.2.2.1)) y).trans (hS.2.2.2.1),(eZ bh (bP _ _ (hS.2.2.2.2.1)) y).trans (hS.2.2.2.2.1),(eZ bh (bP _ _ (hS.2.2.2.2.2.1)) y).trans (hS.2.2.2.2.2.1),(eZ bh (bP _ _ (hS.2.2.2.2.2.2.1)) y).trans (hS.2.2.2.2.2.2.1),(eZ bh (bP _ _ (hS.2.2.2.2.2.2.2.1)) y).trans (hS.2.2.2.2.2.2.2.1),(eZ bh (bP _ _ (hS.2.2.2.2.2.2.2.2.1)) y).trans (hS.2.2.2.2.2.2.2.2.1),(eZ bh (bP _ _ (hS.2.2.2.2.2.2.2.2.2)) Z).trans (hS.2.2.2.2.2.2.2.2.2)⟩) (λhS=> ?_);clear hK;refine aG ?_;refine eC 14 λK hK=> ?_;go_simp;refine iZ ?_;clear hK;refine aG ?_;refine eC 15 λK hK=> ?_;go_simp;refine iZ ?_;clear hK;refine aG ?_;refine ZA λf1=> ?_;refine eC 16 λK hK=> ?_;exact ZB
def fh8 (rb mb pb Mb B:Nat) (t:cO) (d:au) (A:Option X8) (nl c m:Nat) (k2:Int) (rv nv:Wv) (C:Array Wv) (T:WQ) (v:Wv) (n:Nat) (xs:List Wv) (w:Wu) (hr:w.heap[rb]? =Ws (Yd C T (0,0))) (F:C[0]? =Ws (.map (Ws Mb))) (hC:C[6]? =Ws v)
 (J:de lV w Mb (ks t)) (z:bG w B rv d.refs) (y:aW w B nv (d.nums.map λx:Nat=>(x:Int))) (O:d.refs.length<=100000) (D:d.nums.length=m+3)
 (hm:w.heap[mb]? =Ws (Yd #[Yf (Ws (rb 1 Wr))] 182 (0,0))) (hp:w.heap[pb]? =Ws (Yd #[aj rb] 107 (0,0))) (V:rb<B) (Y:mb<B) (U:pb<B) (g:B<=w.heap.size) (bA:w.ownsRow B 138 7 v n xs) (hn:n<=1000000):
 WJ WH 135 #[Ye #[d.kind,bs d.name,rv,nv,d.by_,Yc d.always],Yb A nl c,aj mb,aj pb] w λe w'=>(∃u,e=Xz u)/\∃o,nK w rb B T C 6 138 7 v n xs (yF (lv t d 2 1) o) w'/\w'.ownsRow w.heap.size 3 1 o d.refs.length ((lX (d.refs.map (bC t))).map (WK .i64)):=by
 refine aa6 λi0 hi cJ ba bd ar oN=> ?_;have iU:v.ownBlock≠Ws rb:=λe=>by have:=(ar rb e).1;omega
 have uO:v.ownBlock≠Ws mb:=λe=>by have:=(ar mb e).1;omega
 have Pg:v.ownBlock≠Ws pb:=λe=>by have:=(ar pb e).1;omega
 have ee:v.ownBlock≠Ws w.heap.size:=λe=>by have:=(ar _ e).2;omega
 obtain⟨RA,rn,rc,rfl,eP,_,_⟩:=z.sk.form;obtain⟨NA,nn,nc,rfl,dQ,_,_⟩:=y.sk.form;rw[WF,D] at dQ;subst dQ;obtain⟨k0,fY⟩: ∃k0,d.nums[0]? =Ws k0:=⟨_,Wy Yi⟩;obtain⟨qb,qo,rfl,LB,pX⟩:=aW.cell y (j:=0) (x:=k0) (by rw[WN,fY];rfl);rw[WR] at pX;have X:v.ownBlock≠Ws qb:=λe=>by have:=(ar qb e).1;omega
 have pA:=aa (λW (hW:Below w w W)=>aa5 rb Mb t d 2 1 m (Yb RA rn rc) (Yb (Ws (qb qo Wr)) (m+3) nc) W ((hW.cell (p:=rb) (bq V g)).trans (ah hr F)) (J.later hW) ((z.below hW g).more (bo g hW.size)) ((y.below hW g).more (bo g hW.size)) O D);have G:=aa (λo=>fg.vals_def (lv t d 2 1) o);simp only[aj] at pA hp⊢
 generalize lv t d 2 1=u at pA G;have Z:=aa eP;clear z y J O D eP fY;go_enter func135,ntmps135;go_upto_region 1 with (fail)
 refine Zv ?_;intro W1 ⟨aU,I⟩;have qc:=aU.size;have uD:(0:Int)<(m:Int)+3:=Yi;obtain⟨x0,x1,x2,x3,x4,x5⟩:=jD I;refine B7 λgE c0=> ?_;refine Zw λc1 c2=> ?_;refine Zx λiX pA=> ?_;have aT:=aa aU;have pB:=aa gE;clear aU I gE hr hm hp hC F bA ar pX;go_wp2_with fail
 refine fC (S:=λw'=>w'.cell? mb=Ws (Yf (Ws (rb 1 Wr)))/\w'.cell? (rb 6 Wr)=Ws (v)/\w'.cell? pb=Ws (Yf (Ws rb))/\w'.cell? w=Ws (WK Xr d.kind)/\w'.cell? (w 1 Wr)=Ws (WM (bs d.name))/\w'.cell? (w 2 Wr)=Ws (Yb RA rn rc)/\w'.cell? (w 3 Wr)=Ws (Yb (Ws (qb qo Wr)) (m+3) nc)/\w'.cell? (w 4 Wr)=Ws (WK Xr d.by_)/\w'.cell? (w 5 Wr)=Ws (Yc d.always)) 10 13 (by exact⟨c0,c1,c2,x0,x1,x2,x3,x4,x5⟩) λhS=> ?_;iterate 7 refine cI 13 6 ?_
 refine bF 7 λK hK=> ?_;go_simp;refine(pA.out _ (aX (af W1))).m ?_;rintro e w4 ⟨o,rfl,ho,aS⟩;obtain⟨OA,om,oc,rfl⟩:=eH ho;refine Zy λbE mp JS=> ?_;rw[G.out];clear ho aS;try go_simp
 clear hS;refine bh4 λhS=> ?_;clear hK;refine aG ?_;refine bF 8 λK hK=> ?_;go_simp;refine bh5 λhS=> ?_;clear hK;refine aG ?_;refine bF 9 λK hK=> ?_;refine Zz ?_;intro gg cap w3 jo bh iq ar;refine bh6 λhS=> ?_;clear hK;refine aG ?_;refine eC 10 λK hK=> ?_;go_simp;refine iZ ?_;clear hK;refine aG ?_;refine eC 11 λK hK=> ?_;go_simp;refine iZ ?_;clear hK;refine aG ?_;refine ZA λf1=> ?_;refine eC 12 λK hK=> ?_;exact ZB
end
end Go.Proofs.YtklfdkdebgfmiaaGreatDoor
