/- A part of the proof. -/
import Derived.Test.YtklfdkdebgfmiaaGreatDoorQbh
set_option linter.defProp false
set_option linter.unusedVariables false
set_option linter.unusedSimpArgs false
set_option maxRecDepth 100000
set_option maxHeartbeats 32000000
open Option renaming none->Wr,some->Ws
open Decidable renaming decide->Wt
open Go renaming World->Wu,Value->Wv,Calls->WJ,TypeId->WQ,maxLen->Xe,Oper->XH,Addr->X8
open Bool renaming false->Ww,true->Wz
open Go.RowKit renaming Hid->WA
open Go.Proofs renaming intOf->WS
open And renaming intro->WE
open Go.Proofs.Tryz renaming prog->WH
open Go.Value renaming int->WK,string->WM,ownBlock->Xq,slice->Yb,bool->Yc,agg->Ye,pointer->Yf
open Go.Instr renaming lookup->WT
open Go.World renaming setCell->XD,cell?->X3
open Go.IntKind renaming i64->Xr
open Go.Region renaming ready->XC,Mode->X6
open Go.Ending renaming returned->Xz
open Go.Obj renaming cells->Yd
open Go.Operand renaming tmp->Yg,const->Yh
namespace Go.Proofs.YtklfdkdebgfmiaaGreatDoor
section
open Go Go.RowKit Go.Shelf Go.Lib Go.MapKept Go.Proofs.Tryz
def I8:List (ak×Int):=[(mT,1),(fe,2),(fq,4)]
def eb9 (s:ak):(I8.lookup s).getD 0=(fM s:Nat):=by
 unfold fM;by_cases c:s=mT
 .subst c;rfl
 by_cases g:s=fe
 .subst g;rfl
 by_cases h:s=fq
 .subst h;rfl
 have j:=beq_eq_false_iff_ne.2 c;have y:=beq_eq_false_iff_ne.2 g;have z:=beq_eq_false_iff_ne.2 h;simp[I8,List.lookup,j,y,z,c,g,h]
def aq7 (s:ak):fM s<=4:=by unfold fM;split<;>(try split)<;>(try split)<;>omega
def Qz {w w':Wu} {b:Nat} {d:Array ak} (h:Sort.Holds t5 w b 0 d) (e:w'.heap[b]? =w.heap[b]?):Sort.Holds t5 w' b 0 d:=λj c=>by
 obtain⟨h1,h2⟩:=h j c;refine⟨(XN (a:=⟨b,0+j,Wr⟩) e).trans h1,?_⟩;simp only[World.frozen?,e] at h2⊢
 exact h2
def ec0 {w:Wu} {b c:Nat} {l:List ak} (h:Sort.Holds t5 w b 0 l.toArray) (z:b<w.heap.size) (A:l.length<=c) (C:c<=100):bG w w (Yb (Ws (b 0 Wr)) l.length c) l:=by
 refine⟨_,c,by simp,by simpa using A,by simp[Xe];omega,λ_=>⟨b,0,rfl,z,λj u y=> ?_⟩⟩;have g:j<l.length:=by have:=(List.getElem?_eq_some_iff.1 y).1;simpa using this
 obtain⟨h1,_⟩:=h j (by simpa using g);rw[h1,getElem!_pos _ j (by simpa using g)];simp[Wy g] at y;rw[<-y];simp[t5]
def bZ.del {w w':Wu} {pb B M blk:Nat} {p:PS} {r n:Wv} (h:bZ w pb B M p) (G:w.cell? (pb 4 Wr)=Ws r) (I:w.cell? (pb 5 Wr)=Ws n) (J: ∀g,r.ownBlock=Ws g->¬g=blk) (A: ∀g,n.ownBlock=Ws g->¬g=blk)
 (Y:pb<blk) (z: ∀i,¬i=blk->w'.heap[i]? =w.heap[i]?) (C:w'.os=w.os) (D:w'.tape=w.tape) (F:w'.output=w.output) (hs:w'.heap.size=w.heap.size):bZ w' pb B M p:=by
 obtain⟨t,r',n',g1,g2,g3,g4,g5,g6,g7⟩:=h;have c:w.cell? (pb 4 Wr)=Ws r':=ah g1 rfl;have j:w.cell? (pb 5 Wr)=Ws n':=ah g1 rfl;rw[G] at c;rw[I] at j;injection c with c;injection j with j;subst c j;have own {e:WQ} {v:Wv} {k:Nat} {xs:List Wv} (ho:w.ownsRow B e 1 v k xs) (O: ∀g,v.ownBlock=Ws g->¬g=blk):w'.ownsRow B e 1 v k xs:=by
  refine⟨ho.1,?_⟩;rcases ho.2 with A|⟨g,cap,y,k1,U,V,X⟩
  .exact .inl A
  .exact .inr ⟨g,cap,y,k1,U,(z g (O g (by rw[k1];rfl))).trans V,X⟩
 refine⟨t,_,_,(z pb Yi).trans g1,g2.to mW.ab (B₂:=pb) ⟨C,D,F,by omega,λi Z=>z i Yi⟩ (ag _) (ag _),own g3 J,own g4 A,g5,by omega,g7⟩
def PS.clsR (q:PS×e_):PS:={q.1 with d:={q.1.d with by_:=q.1.d.by_+fM q.2.text}}
def ec1 {p:PS} {l:List ak} (c:l≠[]):p.classGo l=if(PS.clsR (p.take 2 l)).comma.2=Wz then PS.classGo (l.filter λs=> !Wt (s=(p.take 2 l).2.text)) (PS.clsR (p.take 2 l)).comma.1 else(PS.clsR (p.take 2 l)).comma.1:=by
 rw[PS.classGo,if_neg c];by_cases h:(PS.clsR (p.take 2 l)).comma.2=Wz
 .rw[if_pos h];exact dif_pos h
 .rw[if_neg h];exact dif_neg h
def ec2 {p:PS} {M:Nat} {l:List ak} (j:p.Ok M) (c:(p.take 2 l).1.Ok M):(PS.clsR (p.take 2 l)).Ok M:=by
 show PS.Ok {(p.take 2 l).1 with d:={(p.take 2 l).1.d with by_:=(p.take 2 l).1.d.by_+fM (p.take 2 l).2.text}} M;refine⟨c.last,c.toks,c.nums,c.e,?_,c.n⟩;have y:=c.by_;by_cases h:p.e≠0\/p.head.kind≠2\/(l≠[]/\p.head.text∉l)
 .rw[Fo h] at y⊢
  have:fM ([]:ak)=0:=rfl;simp only[this];dsimp only at y⊢
  omega
 .rw[I6 h];have:=aq7 p.head.text;have g:=j.by_;obtain⟨a,r,h1,h2,h3⟩:=j.cons;simp only[h1,List.tail_cons];rw[h1] at g;simp at g;omega
def aq8 (w:Wu) (o:Obj) {b:Nat} (h:b<w.heap.size):(w.alloc o).heap[b]? =w.heap[b]? :=(ae (af w) o).block b h
def aq9 (w:Wu) {b o j:Nat} {u:Wv} (h: ¬o=j):(w.setCell (b o Wr) u).cell? (b j Wr)=w.cell? (b j Wr):=by
 simp only[X3,XD,Array.getElem?_modify];cases hq:w.heap[b]? with
 |none=>simp
 |some ob=>cases ob<;>simp[Array.getElem?_setIfInBounds,h]
def Ze (v m:Wv):Nat:=2*(match v with|Yb _ n _=>n|_=>0)+(match m with|Yc Wz=>1|_=>0)
def ec3 {p:PS} {l:List ak} (j:l≠[]) (h:(PS.clsR (p.take 2 l)).comma.2=Wz):(l.filter λs=> !Wt (s=(p.take 2 l).2.text)).length<l.length:=by
 have g:(p.take 2 l).1.e=0:=aq5 (p:=PS.clsR (p.take 2 l)) h;by_cases c:p.e≠0\/p.head.kind≠2\/(l≠[]/\p.head.text∉l)
 .rw[Fo c] at g;exact absurd g (p.fail_e az)
 .rw[I6 c];have hm:p.head.text∈l:=by
   apply Classical.byContradiction;intro y;exact c (.inr (.inr ⟨j,y⟩))
  rcases Nat.lt_or_eq_of_le (List.length_filter_le (λs=> !Wt (s=p.head.text)) l) with h|h
  .exact h
  .have:=List.filter_eq_self.1 (List.filter_sublist.eq_of_length h) p.head.text hm;simp at this
def ec4 (pb B M:Nat) (p:PS) (w:Wu) (hM:M<=1000000) (h:bZ w pb B M p):
 WJ WH 196 #[aj pb] w (sD w pb B M p.classes):=by
 have HP:=aa h;have a_:=h.size;have EF:=λa b c d w=>Qx a b c d w;refine tP λlM=> ?_;obtain⟨tv,r,n,J,h2,h3,h4,h5,h6,h7⟩:=id h;have jz:=blk_lt J;have xl:=aa (show w.cell? (pb 4 Wr)=Ws r from ah J rfl);have Cc:=aa (show w.cell? (pb 5 Wr)=Ws n from ah J rfl);have HR:=aa (λg hg=>show ¬g=w.heap.size from by have:=(WL h3 g hg).2;omega);have da5:=aa (λg hg=>show ¬g=w.heap.size from by have:=(WL h4 g hg).2;omega);have ny:=λo=>(show fF ((w.alloc o).alloc (.map #[] 0)) (w.heap.size+1) (wX []) from by have h:=fF.made (w.alloc o);rw[show(w.alloc o).heap.size=w.heap.size+1 from by simp] at h;exact h);have cv8:Hid (p.classes=p.classGo [mT,fe,fq]):=rfl;clear h J h2 h3 h4 h5 h6 h7;simp only[aj];go_enter func196,ntmps196
 go_wp2_with first
             |(refine wV _ rfl (Yg 7) (Yh (WM ⟨#[109,97,99,104,105,110,101]⟩)) (Yh (WK Xr 1)) 221 (.inr rfl) 9 3 .string underlying221 Xw (w.heap.size+1) (wX []) rfl (ny _) (WM (bs mT)) (WK Xr 1) rfl rfl Az (Fq az) ?_;intro w1 jj dK)
             |(refine wV _ rfl (Yg 7) (Yh (WM ⟨#[114,97,99,107]⟩)) (Yh (WK Xr 2)) 221 (.inr rfl) 9 3 .string underlying221 Xw (w.heap.size+1) (wX [(mT,1)]) rfl jj (WM (bs fe)) (WK Xr 2) rfl rfl Az (Fq az) ?_;intro w2 jk eT)
             |(refine wV _ rfl (Yg 7) (Yh (WM ⟨#[102,101,101,100]⟩)) (Yh (WK Xr 4)) 221 (.inr rfl) 9 3 .string underlying221 Xw (w.heap.size+1) (wX [(mT,1),(fe,2)]) rfl jk (WM (bs fq)) (WK Xr 4) rfl rfl Az (Fq az) ?_;intro w3 jl fj;have Z:=aa (fj.1 _ _ (eT.1 _ _ (dK.1 _ _ (ae (ae (af w) _) _) Yi) Yi) Yi);have lo:=aa (λi (hi: ¬i=w.heap.size+1)=>(fj.2.2 i hi).trans ((eT.2.2 i hi).trans (dK.2.2 i hi)));have rO:=aa jl;clear jj dK jk eT jl fj)
 go_loopw [2,4] (λv m wr=> ∃(left:List ak) (q:PS) (more:Bool),v=Yb (Ws (w 0 Wr)) left.length 3/\m=Yc more/\Sort.Holds t5 wr w 0 left.toArray/\left.length<=3/\bZ wr pb B M q/\aF B pb w wr/\fF wr (w.heap.size+1) (wX I8)/\wr.cell? (pb 4 Wr)=Ws r/\wr.cell? (pb 5 Wr)=Ws n/\p.classes=(if more then q.classGo left else q)) (λv m _=>Ze v m)
 case atStart=>
  have p_:=Z.out.size;have hb:w3.heap[w.heap.size]? =Ws (Yd #[bs mT,bs fe,bs fq] 9 (0,0)):=(lo.out _ Yi).trans (js (bQ w _) (ae (af _) _) Yl);have Bn:aF B pb w w3:=aF.of_below Z.out a_.2 p_;refine⟨[mT,fe,fq],p,Wz,rfl,rfl,λj hj=> ?_,by decide,HP.out.later Z.out,Bn,rO.out,(Z.out.cell (p:=pb 4 Wr) jz).trans xl.out,(Z.out.cell (p:=pb 5 Wr) jz).trans Cc.out,cv8.out⟩;refine⟨ah hb ?_,cd hb _⟩
  match j,hj with
  |0,_=>rfl
  |1,_=>rfl
  |2,_=>rfl
  |j+3,hj=>exact absurd hj Yl
 case round=>
  obtain⟨left,q,more,rfl,rfl,hH,Bp,jG,hK,Uj,nP,UD,eF⟩:=hrel;have V:=aa eF;have cz6:=aa Uj;have jc:=aa hK;have U:=aa jG;have HH:=aa hH;have VH:=jG.size;have gr8:=hK.size;have dB:=Uj.lt;clear eF Uj hK jG hH;cases more with
  |false=>
   go_wp2_with fail
   go_end0
   rw[V.out];exact⟨rfl,U.out.more (XR M),λ_=>U.out.ok,jc.out⟩
  |true=>
   by_cases kW:left=[]
   .subst kW;have HF:=aa (MU pb B M q wr 3 U.out (by omega));have D:Hid (p.classes=q.fail 3):=by show _=_;have h:=V.out;rw[if_pos rfl,PS.classGo,if_pos rfl] at h;exact h
    clear V;unfold aj at HF;go_wp2_with(go_at_call 40;refine HF.out.m ?_;rintro e A ⟨rfl,iE,F,tl⟩;have mL:=aa iE;have eN:=aa F;clear iE F tl)
    refine bodyPost_ret (v:= .tuple #[]) (by simp[results,results196,go_sem]) rfl ?_;rw[D.out];exact⟨rfl,mL.out.more (XR M),λ_=>mL.out.ok,jc.out.trans (eN.out.mono VH.2)⟩
   .have hh2:((left.length:Int)==0)=false:=by
     have:=List.length_pos_iff.2 kW;simp;omega
    have HT:=aa (Ay pb B M q wr 2 2 left (Yb (Ws (w 0 Wr)) left.length 3) rfl U.out az (ec0 HH.out Yi Bp Yi));have vH:=aa (λhq=>ec2 (l:=left) (p:=q) (M:=M) U.out.ok hq);have I:=aa (λhc=>ec3 (p:=q) kW hc);have D:Hid (p.classes=if(PS.clsR (q.take 2 left)).comma.2=Wz then PS.classGo (left.filter λs=> !Wt (s=(q.take 2 left).2.text)) (PS.clsR (q.take 2 left)).comma.1 else(PS.clsR (q.take 2 left)).comma.1):=by show _=_;have h:=V.out;rw[if_pos rfl,ec1 kW] at h;exact h
    clear V;generalize q.take 2 left=qt at HT vH I D;obtain⟨q1,t⟩:=qt;dsimp only at vH I D;obtain⟨z,C⟩: ∃z:PS,PS.clsR (q1,t)=z:=⟨_,rfl⟩;have dc2:Hid (z={q1 with d:={q1.d with by_:=q1.d.by_+fM t.text}}):=C.symm;rw[C] at vH I D;have SH:=aa (λW hW=>Yp pb B M z W hW);generalize z.comma=cm at SH I D;obtain⟨q3,more⟩:=cm;dsimp only at I D;obtain⟨left2,di⟩: ∃l2,(left.filter λs=> !Wt (s=t.text))=l2:=⟨_,rfl⟩;have hf3:left2.length<=left.length:=by rw[<-di];exact List.length_filter_le _ _
    have NK:=aa (λW (hW:W.heap.size>w.heap.size+1) (J:Sort.Holds t5 W w 0 left.toArray) bw (h2:W.cell? ⟨bw,0,Wr⟩=Ws (WM (bs t.text))) (h3:bw<W.heap.size) (h4: ¬bw=w.heap.size)=>eb8 left t.text w.heap.size 3 bw W J h2 h3 h4 Bp Yi);rw[di] at NK I D;clear C di;unfold aj at HT SH NK;unfold bm at NK
    go_wp2_with first
                |(go_at_call 121;refine HT.out.mono ?_;unfold rq;rintro e A ⟨rfl,iE,F,tl⟩;have mL:=aa iE;have eN:=aa F;have bk4:=aa tl;have hi1:=F.size;have cx6:=aa (Qz HH.out (F.block w.heap.size Yi Yi));have qJ:=aa (F.blk cz6.out dB Yi);clear iE F tl;simp only[oy])
                |(go_at_call 285;refine(NK.out _ bI (Qz cx6.out (aq8 _ _ Yi)) A.heap.size (ah (bQ A _) rfl) Yl Yi).m ?_;rintro e y ⟨rfl,ce5,G,Vm,nk,VM,cq0⟩;have cx7:=aa ce5;clear ce5)
    have cd0:=mL.out.later (ae (af A) (Yd #[bs t.text] 9));have e4:(A.alloc (Yd #[bs t.text] 9)).cell? (pb 4 Wr)=Ws r:=((ko.of_below (ae (af A) _) Yi) 4 az).trans ((bk4.out 4 az).trans nP);have e5:(A.alloc (Yd #[bs t.text] 9)).cell? (pb 5 Wr)=Ws n:=((ko.of_below (ae (af A) _) Yi) 5 az).trans ((bk4.out 5 az).trans UD);have ng:bZ y pb B M q1:=cd0.del e4 e5 HR.out da5.out jz G Vm nk VM cq0;have cc3:y.cell? (pb 4 Wr)=Ws r:=(XN (a:=pb 4 Wr) (G pb Yi)).trans e4;have cc4:y.cell? (pb 5 Wr)=Ws n:=(XN (a:=pb 5 Wr) (G pb Yi)).trans e5;have pg:aF B pb w y:=(jc.out.trans (((eN.out.mono VH.2).alloc (bo VH.2 (ag _)) (Yd #[bs t.text] 9)))).trans ⟨Vm,nk,VM,by omega,λi hi _=>G i Yi⟩;have G':fF y (w.heap.size+1) (wX I8):=(G _ Yi).trans ((aq8 A _ Yi).trans qJ.out);have cw:y.cell? A=Ws (WM (bs t.text)):=(XN (a:=A) (G A.heap.size Yi)).trans (ah (bQ A _) rfl);obtain⟨Vs,ck0,c1,c2,c3,c6,c7⟩:=ng.cells;have f6:=ck0 6;have fJ:=aq2 (w:=y.drew) (l:=I8) az G' t.text;rw[eb9] at fJ;have mf:=ng.ok.by_;have gq9:w.heap.size+1<y.heap.size:=by rw[cq0];simp;omega
    have ir:=aq7 t.text;have hm1:IntKind.i64.wrap ((q1.d.by_:Int)+(fM t.text:Nat))=(q1.d.by_:Int)+(fM t.text:Nat):=Xf _ Yi;have lm:=aa ng;have eI:=aa pg;have yY:=aa G';have sS:=aa cc3;have Cd:=aa cc4;clear cd0 e4 e5 ng cc3 cc4 pg G' ck0 G Vm nk VM c1 c2 c3 c7 nP UD EF lM ny
    go_region
    have C:=dc2.out;have Lu:z.Ok M:=vH.out lm.out.ok;have hv:WK .i64 ((q1.d.by_:Int)+(fM t.text:Nat))=WK Xr (z.d.by_:Nat):=by rw[C];simp
    rw[hv];have Ha:bZ (y.setCell (pb 6 Wr) (WK Xr (z.d.by_:Nat))).drew pb B M z:=bZ.later (lm.out.setD (by rw[C]) (by rw[C]) (by rw[C]) (λ_ _ _=>by rw[C];rfl) Lu) (aX (af _));have O:aF B pb w (y.setCell (pb 6 Wr) (WK Xr (z.d.by_:Nat))).drew:=(eI.out.set (.inl rfl) _).drew;have rd:(y.setCell (pb 6 Wr) (WK Xr (z.d.by_:Nat))).drew.cell? (pb 4 Wr)=Ws r:=(aq9 y az).trans sS.out;have nr:(y.setCell (pb 6 Wr) (WK Xr (z.d.by_:Nat))).drew.cell? (pb 5 Wr)=Ws n:=(aq9 y az).trans Cd.out;have wD:(y.setCell (pb 6 Wr) (WK Xr (z.d.by_:Nat))).drew.heap.size=y.heap.size:=by simp[XD]
    have Y:fF (y.setCell (pb 6 Wr) (WK Xr (z.d.by_:Nat))).drew (w.heap.size+1) (wX I8):=(lY yY.out Yi);have X:Sort.Holds t5 (y.setCell (pb 6 Wr) (WK Xr (z.d.by_:Nat))).drew w.heap.size 0 left2.toArray:=Qz cx7.out (Below.heap_setCell y (pb 6 Wr) _ w.heap.size bI);generalize (y.setCell (pb 6 Wr) (WK Xr (z.d.by_:Nat))).drew=w6 at Ha O rd nr wD Y X⊢
    have hk4:w.heap.size+1<w6.heap.size:=by rw[wD];exact gq9
    have rJ:=aa (SH.out w6 Ha);have NC:=aa (WE O (WE rd (WE nr (WE Y X))));have gr0:=Ha.size;clear Ha O rd nr Y X C Lu hv cw c6 f6 fJ;go_wp2_with(go_at_call 284;refine rJ.out.mono ?_;unfold I7;rintro e w7 ⟨rfl,Hb,wl,Ow⟩;have JU:=aa Hb;have lj:=aa wl;have bk5:=aa Ow;clear Hb wl Ow)
    obtain⟨O,rd,nr,Y,X⟩:=NC.out;refine⟨⟨left2,q3,more,rfl,rfl,Qz X (lj.out.block _ Yi Yi),by omega,JU.out,O.trans (lj.out.mono gr0.2),lj.out.blk Y Yi Yi,(bk5.out 4 az).trans rd,(bk5.out 5 az).trans nr,D.out⟩,?_⟩;have ar:=I.out;cases more with
    |true=>have:=ar rfl;simp[Ze];omega
    |false=>simp[Ze];omega
end
section
open Go Go.RowKit Go.Proofs.Tryz
def ec5 (w:Wu) (pb B:Nat):sE w pb B (.func (.func 196) #[aj pb] #[]) .classes:=Ft (x:= .classes) (WD func196 aC rfl) (λW B M p c g=>ec4 pb B M p W c g) w B
def MZ (F:Wu) (pb B:Nat):List Wv->List jZ->Prop
 |[],[]=>True
 |u::us,x::l=>sE F pb B u x/\MZ F pb B us l
 |_,_=>False
def MZ.get {F:Wu} {pb B:Nat}: ∀{us:List Wv} {l:List jZ},MZ F pb B us l->us.length=l.length/\∀(j:Nat) x,l[j]? =Ws x->∃u,us[j]? =Ws u/\sE F pb B u x
 |[],[],_=>⟨rfl,λj x h=>by simp at h⟩
 |[],_::_,h=>h.elim
 |_::_,[],h=>h.elim
 |u::us,y::l,h=>by
  obtain⟨h1,h2⟩:=MZ.get h.2;refine⟨by simp[h1],λj x hx=> ?_⟩;cases j with
  |zero=>simp at hx;subst hx;exact⟨u,rfl,h.1⟩
  |succ j=>simpa using h2 j x (by simpa using hx)
def ql {F:Wu} {pb B b n c:Nat} {us:List Wv} {l:List jZ} {C:Array Wv} {t:WQ} (z:F.heap[b]? =Ws (Yd C t (0,0))) (y: ∀(j:Nat) u,us[j]? =Ws u->C[j]? =Ws u) (h:MZ F pb B us l) (D:n=l.length) (A:l.length<=c) (G:c<=Xe) (I:pb<b) (g:b<B):MY F pb B (Yb (Ws (b 0 Wr)) n c) l:=by obtain⟨h1,h2⟩:=h.get;subst D;refine⟨b,c,rfl,A,G,I,g,λj x hx=> ?_⟩;obtain⟨u,h3,h4⟩:=h2 j x hx;exact⟨u,ah z (y j u h3),h4⟩
def t6 {us:List Wv} (j:Nat) (u:Wv) (h:us[j]? =Ws u):us.toArray[j]? =Ws u:=zi
def I9 {w:Wu} {e:WQ} {us:List Wv} {n:Nat} (c:n=us.length) (g:us≠[]) (hm:us.length<=1000):(w.alloc (Yd us.toArray e)).ownsRow w.heap.size e 1 (Yb (Ws (w 0 Wr)) n n) n us:=by subst c;refine⟨by simp,.inr ⟨w.heap.size,us.length,us.toArray,rfl,ag _,bQ w _,ag _,by simp[Xe];omega,by simp,by simp⟩⟩
def dz4 (w:Wu) (pb:Nat) (s:ak) (z:pb<w.heap.size):
 WJ WH 191 #[aj pb,bs s] w λe w'=> ∃caps,e=Xz (.func (.func 283) #[] caps)/\sE w' pb w'.heap.size (.func (.func 283) #[] caps) (.word s)/\Below w w w':=by
 refine(ee6 pb s w).m ?_;rintro e w' ⟨rfl,rfl⟩;refine⟨_,rfl,⟨283,#[],#[aj w.heap.size,aj (w.heap.size+1)],rfl,WD func283 aC rfl,λW B' M p _ g _ y=> ?_⟩,ae (ae (af w) _) _⟩;have j:=g.blk (js (bQ w _) (ae (af _) _) Yl) bI Yi;have c:=g.blk (bQ (w.alloc (Yd #[aj pb] 94)) (Yd #[bs s] 9)) Yl bI;simp at c;exact ea2 pb B' M p s _ _ W y (ah j rfl) (ah c rfl)
def QA {w:Wu} {base:Nat} {e:WQ} {v:Wv} {n:Nat} {xs:List Wv} (h:w.ownsRow base e 1 v n xs) (F:0<n):
 ∃g cap c,v=Yb (Ws ⟨g,0,Wr⟩) n cap/\base<=g/\w.heap[g]? =Ws (Yd c e (0,0))/\n<=cap/\cap<=Xe/\c.toList.take n=xs:=by
 rcases h.2 with ⟨_,G⟩|⟨g,cap,c,j,y,z,A,C,_,D⟩
 .omega
 .exact⟨g,cap,c,j,y,z,A,C,by simpa using D⟩
def Zf {c:Array Wv} {n:Nat} {us:List Wv} (h:c.toList.take n=us) (j:Nat) (u:Wv) (g:us[j]? =Ws u):c[j]? =Ws u:=by
 subst h;rw[List.getElem?_take] at g;split at g
 .simpa using g
 .cases g
def QB (w:Wu) (a b c d:Obj):((((w.alloc a).alloc b).alloc c).alloc d).heap[w.heap.size]? =Ws a/\((((w.alloc a).alloc b).alloc c).alloc d).heap[w.heap.size+1]? =Ws b/\((((w.alloc a).alloc b).alloc c).alloc d).heap[w.heap.size+2]? =Ws c/\((((w.alloc a).alloc b).alloc c).alloc d).heap[w.heap.size+3]? =Ws d:=by
 refine⟨aq (aq (aq (bQ w a) (ae (af _) b)) (ae (af _) c)) (ae (af _) d),?_,?_,?_⟩
 .have h:=aq (aq (bQ (w.alloc a) b) (ae (af _) c)) (ae (af _) d);simpa only[XL] using h
 .have h:=aq (bQ ((w.alloc a).alloc b) c) (ae (af _) d);simpa only[XL] using h
 .have h:=bQ (((w.alloc a).alloc b).alloc c) d;simpa only[XL] using h
def Zg (pb:Nat) (w:Wu) (q_:pb<w.heap.size):
 WJ WH 117 #[aj pb] w λe w'=> ∃v,e=Xz v/\Fs w' pb w'.heap.size v/\Below w w w':=by
 obtain⟨i0,hi,cJ,ba,bd⟩:=XU (show(Tryz.prog.info? 174).map (λi=>(i.zero,i.size,i.bytes))=Ws (Ws .nilFunc,1,8) by kernel_rfl);have HW:=aa (λW s h=>dz4 W pb s h);unfold aj at HW;have C':=q_;simp only[aj];go_enter func117,ntmps117;go_wp2_with fail
 refine(HW.out _ ka lr).m ?_;rintro e w1 ⟨caps1,rfl,co0,ap⟩;have bf:=aa (ai (af w) ap);have hi6:=bf.out.size;have AM:=aa co0;clear co0 ap;go_wp2_with fail
 refine(HW.out _ jY lr).m ?_;rintro e w2 ⟨caps2,rfl,kF,am⟩;have aR:=aa (ai (af w1) am);have hj6:=aR.out.size;have gZ:=aa kF;clear kF am;go_wp2_with fail
 refine(HW.out _ jX lr).m ?_;rintro e I ⟨caps3,rfl,co8,aL⟩;have bg:=aa (ai (af w2) aL);have hj7:=bg.out.size;have JT:=aa co8;clear co8 aL;go_wp2_with fail
 refine(HW.out _ nD lr).m ?_;rintro e w4 ⟨caps4,rfl,Bw,aS⟩;have fY:=aq (aq (aq (bQ _ (Yd ([.func (.func 283) #[] caps1,.func (.func 192) #[aj pb] #[],.func (.func 283) #[] caps2,.func (.func 192) #[aj pb] #[],.func (.func 283) #[] caps3,.func (.func 192) #[aj pb] #[]]:List Wv).toArray 174)) (ae (af _) _)) (ae (af _) _)) aS;have xp:=aa (show w4.heap[I.heap.size]? =Ws (Yd ([.func (.func 283) #[] caps1,.func (.func 192) #[aj pb] #[],.func (.func 283) #[] caps2,.func (.func 192) #[aj pb] #[],.func (.func 283) #[] caps3,.func (.func 192) #[aj pb] #[]]:List Wv).toArray 174 (0,0)) from fY);clear fY;have kU:=aq (aq (bQ _ (Yd ([.func (.func 193) #[aj pb] #[]]:List Wv).toArray 174)) (ae (af _) _)) aS;simp only[XL] at kU;have vE:=aa (show w4.heap[(I.heap.size+1)]? =Ws (Yd ([.func (.func 193) #[aj pb] #[]]:List Wv).toArray 174 (0,0)) from kU);clear kU;have gM:=aq (bQ _ (Yd ([.func (.func 193) #[aj pb] #[]]:List Wv).toArray 174)) aS;simp only[XL] at gM;have gH:=aa (show w4.heap[(I.heap.size+2)]? =Ws (Yd ([.func (.func 193) #[aj pb] #[]]:List Wv).toArray 174 (0,0)) from gM);clear gM;have bE:=aa (ai (ae (ae (ae (af I) _) _) _) aS);have hj8:=bE.out.size;have mL:=aa Bw;clear Bw aS;go_wp2_with fail
 refine Mp ?_;rintro e w5 ⟨caps5,rfl,Vs,bp⟩;have bY:=aa (ai (af w4) bp);have hj9:=bY.out.size;have lm:=aa Vs;clear Vs bp;go_wp2_with fail
 refine(HW.out _ nD lr).m ?_;rintro e w6 ⟨caps6,rfl,co9,bM⟩;have Bn:=aq (bQ _ (Yd ([.func (.func 193) #[aj pb] #[],.func (.func 283) #[] caps4,.func (.func 194) #[aj pb] #[],.func (.func 283) #[] caps5,.func (.func 194) #[aj pb] #[]]:List Wv).toArray 174)) bM;have mJ:=aa (show w6.heap[w5.heap.size]? =Ws (Yd ([.func (.func 193) #[aj pb] #[],.func (.func 283) #[] caps4,.func (.func 194) #[aj pb] #[],.func (.func 283) #[] caps5,.func (.func 194) #[aj pb] #[]]:List Wv).toArray 174 (0,0)) from Bn);clear Bn;have cK:=aa (ai (ae (af w5) _) bM);have hk0:=cK.out.size;have Tc:=aa co9;clear co9 bM;go_wp2_with fail
 refine(HW.out _ yN lr).m ?_;rintro e w7 ⟨caps7,rfl,cp0,gB⟩;have iL:=aa (ai (af w6) gB);have hk1:=iL.out.size;have JU:=aa cp0;clear cp0 gB;go_wp2_with fail
 refine Mp ?_;rintro e w8 ⟨caps8,rfl,cp1,eL⟩;have cl9:=aq (aq (bQ _ (Yd ([.func (.func 193) #[aj pb] #[],.func (.func 283) #[] caps6,.func (.func 194) #[aj pb] #[],.func (.func 283) #[] caps7,.func (.func 192) #[aj pb] #[]]:List Wv).toArray 174)) (ae (af _) _)) eL;have eN:=aa (show w8.heap[w7.heap.size]? =Ws (Yd ([.func (.func 193) #[aj pb] #[],.func (.func 283) #[] caps6,.func (.func 194) #[aj pb] #[],.func (.func 283) #[] caps7,.func (.func 192) #[aj pb] #[]]:List Wv).toArray 174 (0,0)) from cl9);clear cl9;have tt:=aq (bQ _ (Yd ([.func (.func 194) #[aj pb] #[],.func (.func 194) #[aj pb] #[],.func (.func 192) #[aj pb] #[]]:List Wv).toArray 174)) eL;simp only[XL] at tt;have eI:=aa (show w8.heap[(w7.heap.size+1)]? =Ws (Yd ([.func (.func 194) #[aj pb] #[],.func (.func 194) #[aj pb] #[],.func (.func 192) #[aj pb] #[]]:List Wv).toArray 174 (0,0)) from tt);clear tt;have gW:=aa (ai (ae (ae (af w7) _) _) eL);have hk2:=gW.out.size;have db8:=aa cp1;clear cp1 eL;rename_i K hK;try simp only[WZ,Xl,List.append_eq] at hK
 go_wp2_with(at_builtin;refine Xu _ rfl (Yg 63) (Yg 64) _ rfl w8.heap.size 174 i0 _ 1 8 underlying167 hi cJ ba bd rfl az _ _ _ rfl (I9 (us:=[.func (.func 193) #[aj pb] #[],.func (.func 283) #[] caps8,.func (.func 195) #[aj pb] #[]]) rfl Yl Yl) (I 0 Wr) 6 6 [.func (.func 283) #[] caps1,.func (.func 192) #[aj pb] #[],.func (.func 283) #[] caps2,.func (.func 192) #[aj pb] #[],.func (.func 283) #[] caps3,.func (.func 192) #[aj pb] #[]] rfl rfl (λj u hu=>World.news_of_block (aq (aq (aq (aq (aq xp.out bY.out) cK.out) iL.out) gW.out) (ae (af _) _)) j u hu) TA lT Yi Yl ?_;intro v9 w9 cn9 hgrow9 _;have lh:=aa (wS (I9 (us:=[.func (.func 193) #[aj pb] #[],.func (.func 283) #[] caps8,.func (.func 195) #[aj pb] #[]]) rfl Yl Yl) (ae (af w8) _) (ag _) hgrow9);have hk3:=lh.out.size;obtain⟨g9,cap9,cur9,rfl,he2,ck7,ci6,cm5,cq7⟩:=QA cn9 az;have JA:=aa (WE ck7 (WE ci6 (WE cm5 cq7)));clear cn9 hgrow9 ck7 ci6 cm5 cq7)
 go_wp2_with fail
 refine Mp ?_;rintro e AA ⟨caps10,rfl,co1,nO⟩;have rG:=aa (ai (af w9) nO);have hi7:=rG.out.size;have db1:=aa co1;clear co1 nO;rename_i K hK;try simp only[WZ,Xl,List.append_eq] at hK
 go_wp2_with(at_builtin;refine Xu _ rfl (Yg 75) (Yg 76) _ rfl AA.heap.size 174 i0 _ 1 8 underlying167 hi cJ ba bd rfl az _ _ _ rfl (I9 (us:=[.func (.func 193) #[aj pb] #[],.func (.func 192) #[aj pb] #[],.func (.func 283) #[] caps10,.func (.func 195) #[aj pb] #[]]) rfl Yl Yl) (I 0 Wr) 6 6 [.func (.func 283) #[] caps1,.func (.func 192) #[aj pb] #[],.func (.func 283) #[] caps2,.func (.func 192) #[aj pb] #[],.func (.func 283) #[] caps3,.func (.func 192) #[aj pb] #[]] rfl rfl (λj u hu=>World.news_of_block (aq (aq (aq (aq (aq (aq (aq xp.out bY.out) cK.out) iL.out) gW.out) lh.out) rG.out) (ae (af _) _)) j u hu) TA lT Yi Yl ?_;intro qz nw hown11 hgrow11 _;have DB:=aa (wS (I9 (us:=[.func (.func 193) #[aj pb] #[],.func (.func 192) #[aj pb] #[],.func (.func 283) #[] caps10,.func (.func 195) #[aj pb] #[]]) rfl Yl Yl) (ae (af AA) _) (ag _) hgrow11);have hi8:=DB.out.size;obtain⟨G6,cap11,cur11,rfl,he0,ck5,ci3,Vb,cq5⟩:=QA hown11 az;have Jv:=aa (WE ck5 (WE ci3 (WE Vb cq5)));clear hown11 hgrow11 ck5 ci3 Vb cq5)
 go_wp2_with fail
 refine Mp ?_;rintro e Jf ⟨caps12,rfl,co2,Hc⟩;have DC:=aa (ai (af nw) Hc);have hi9:=DC.out.size;have db2:=aa co2;clear co2 Hc;rename_i K hK;try simp only[WZ,Xl,List.append_eq] at hK
 go_wp2_with(at_builtin;refine Xu _ rfl (Yg 85) (Yg 86) _ rfl Jf.heap.size 174 i0 _ 1 8 underlying167 hi cJ ba bd rfl az _ _ _ rfl (I9 (us:=[.func (.func 193) #[aj pb] #[],.func (.func 283) #[] caps12,.func (.func 194) #[aj pb] #[]]) rfl Yl Yl) (I 0 Wr) 6 6 [.func (.func 283) #[] caps1,.func (.func 192) #[aj pb] #[],.func (.func 283) #[] caps2,.func (.func 192) #[aj pb] #[],.func (.func 283) #[] caps3,.func (.func 192) #[aj pb] #[]] rfl rfl (λj u hu=>World.news_of_block (aq (aq (aq (aq (aq (aq (aq (aq (aq xp.out bY.out) cK.out) iL.out) gW.out) lh.out) rG.out) DB.out) DC.out) (ae (af _) _)) j u hu) TA lT Yi Yl ?_;intro qA Ns hown13 hgrow13 _;have F':=aa (wS (I9 (us:=[.func (.func 193) #[aj pb] #[],.func (.func 283) #[] caps12,.func (.func 194) #[aj pb] #[]]) rfl Yl Yl) (ae (af Jf) _) (ag _) hgrow13);have hj0:=F'.out.size;obtain⟨El,cap13,cur13,rfl,he1,ck6,ci4,cm4,cq6⟩:=QA hown13 az;have Jw:=aa (WE ck6 (WE ci4 (WE cm4 cq6)));clear hown13 hgrow13 ck6 ci4 cm4 cq6)
 go_wp2_with fail
 refine(HW.out _ yn lr).m ?_;rintro e Nt ⟨caps14,rfl,co3,OM⟩;have Ga:=aa (ai (af Ns) OM);have hj1:=Ga.out.size;have db3:=aa co3;clear co3 OM;go_wp2_with fail
 refine(HW.out _ ym lr).m ?_;rintro e J ⟨caps15,rfl,co4,ch9⟩;have Gb:=aa (ai (af Nt) ch9);have hj2:=Gb.out.size;have db4:=aa co4;clear co4 ch9;go_wp2_with fail
 refine(HW.out _ yM lr).m ?_;rintro e V ⟨caps16,rfl,co5,Hd⟩;have CQ:=aq (aq (aq (aq (bQ _ (Yd ([.func (.func 194) #[aj pb] #[],.func (.func 283) #[] caps14,.func (.func 192) #[aj pb] #[],.func (.func 283) #[] caps15,.func (.func 192) #[aj pb] #[]]:List Wv).toArray 174)) (ae (af _) _)) (ae (af _) _)) (ae (af _) _)) Hd;have Gs:=aa (show V.heap[J.heap.size]? =Ws (Yd ([.func (.func 194) #[aj pb] #[],.func (.func 283) #[] caps14,.func (.func 192) #[aj pb] #[],.func (.func 283) #[] caps15,.func (.func 192) #[aj pb] #[]]:List Wv).toArray 174 (0,0)) from CQ);clear CQ;have EK:=aq (aq (aq (bQ _ (Yd ([.func (.func 196) #[aj pb] #[]]:List Wv).toArray 174)) (ae (af _) _)) (ae (af _) _)) Hd;simp only[XL] at EK;have Gq:=aa (show V.heap[(J.heap.size+1)]? =Ws (Yd ([.func (.func 196) #[aj pb] #[]]:List Wv).toArray 174 (0,0)) from EK);clear EK;have U4:=aq (aq (bQ _ (Yd ([.func (.func 194) #[aj pb] #[]]:List Wv).toArray 174)) (ae (af _) _)) Hd;simp only[XL] at U4;have Gr:=aa (show V.heap[(J.heap.size+2)]? =Ws (Yd ([.func (.func 194) #[aj pb] #[]]:List Wv).toArray 174 (0,0)) from U4);clear U4;have U5:=aq (bQ _ (Yd ([.func (.func 194) #[aj pb] #[],.func (.func 192) #[aj pb] #[],.func (.func 197) #[aj pb] #[]]:List Wv).toArray 174)) Hd;simp only[XL] at U5;have JJ:=aa (show V.heap[(J.heap.size+3)]? =Ws (Yd ([.func (.func 194) #[aj pb] #[],.func (.func 192) #[aj pb] #[],.func (.func 197) #[aj pb] #[]]:List Wv).toArray 174 (0,0)) from U5);clear U5;have Gc:=aa (ai (ae (ae (ae (ae (af J) _) _) _) _) Hd);have hj3:=Gc.out.size;have db5:=aa co5;clear co5 Hd;go_wp2_with fail
 refine Mp ?_;rintro e Jg ⟨caps17,rfl,co6,Uq⟩;have cl5:=aq (bQ _ (Yd ([.func (.func 194) #[aj pb] #[],.func (.func 283) #[] caps16,.func (.func 198) #[aj pb] #[],.func (.func 192) #[aj pb] #[]]:List Wv).toArray 174)) Uq;have bm1:=aa (show Jg.heap[V.heap.size]? =Ws (Yd ([.func (.func 194) #[aj pb] #[],.func (.func 283) #[] caps16,.func (.func 198) #[aj pb] #[],.func (.func 192) #[aj pb] #[]]:List Wv).toArray 174 (0,0)) from cl5);clear cl5;have DD:=aa (ai (ae (af V) _) Uq);have hj4:=DD.out.size;have db6:=aa co6;clear co6 Uq;go_wp2_with fail
 refine(HW.out _ yL lr).m ?_;rintro e z ⟨caps18,rfl,co7,Ur⟩;have cl6:=aq (bQ _ (Yd ([.func (.func 194) #[aj pb] #[],.func (.func 283) #[] caps17,.func (.func 195) #[aj pb] #[]]:List Wv).toArray 174)) Ur;have bm2:=aa (show z.heap[Jg.heap.size]? =Ws (Yd ([.func (.func 194) #[aj pb] #[],.func (.func 283) #[] caps17,.func (.func 195) #[aj pb] #[]]:List Wv).toArray 174 (0,0)) from cl6);clear cl6;have Su:=aa (ai (ae (af Jg) _) Ur);have hj5:=Su.out.size;have db7:=aa co7;clear co7 Ur;go_wp2_with fail
 go_ret;have X:=λF (h:Below z z F)=>h;have key: ∀F:Wu,Below z z F->F.heap[z.heap.size]? =Ws (Yd ([.func (.func 194) #[aj pb] #[],.func (.func 283) #[] caps18,.func (.func 194) #[aj pb] #[]]:List Wv).toArray 174 (0,0))->F.heap[(z.heap.size+1)]? =Ws (Yd ([.func (.func 192) #[aj pb] #[]]:List Wv).toArray 174 (0,0))->F.heap[(z.heap.size+2)]? =Ws (Yd ([.func (.func 194) #[aj pb] #[],.func (.func 192) #[aj pb] #[]]:List Wv).toArray 174 (0,0))->F.heap[(z.heap.size+3)]? =Ws (Yd ([WM (bs jB),WK Xr 0,Yb (Ws ⟨(I.heap.size+1),0,Wr⟩) 1 1,WM (bs fq),WK Xr 1,Yb (Ws ⟨(I.heap.size+2),0,Wr⟩) 1 1,WM (bs fe),WK Xr 2,Yb (Ws (w5 0 Wr)) 5 5,WM (bs mT),WK Xr 3,Yb (Ws (w7 0 Wr)) 5 5,WM (bs PK),WK Xr 4,Yb (Ws ⟨(w7.heap.size+1),0,Wr⟩) 3 3,WM (bs Pr),WK Xr 5,Yb (Ws (g9 0 Wr)) 9 cap9,WM (bs PN),WK Xr 6,Yb (Ws (G6 0 Wr)) 10 cap11,WM (bs PI),WK Xr 7,Yb (Ws (El 0 Wr)) 9 cap13,WM (bs Po),WK Xr 8,Yb (Ws (J 0 Wr)) 5 5,WM (bs Pq),WK Xr 9,Yb (Ws ⟨(J.heap.size+1),0,Wr⟩) 1 1,WM (bs PO),WK Xr 10,Yb (Ws ⟨(J.heap.size+2),0,Wr⟩) 1 1,WM (bs PJ),WK Xr 11,Yb (Ws ⟨(J.heap.size+3),0,Wr⟩) 3 3,WM (bs PQ),WK Xr 12,Yb (Ws (V 0 Wr)) 4 4,WM (bs PL),WK Xr 13,Yb (Ws (Jg 0 Wr)) 3 3,WM (bs PM),WK Xr 14,Yb (Ws (z 0 Wr)) 3 3,WM (bs Pp),WK Xr 15,Yb (Ws ⟨(z.heap.size+1),0,Wr⟩) 1 1,WM (bs PP),WK Xr 16,Yb (Ws ⟨(z.heap.size+2),0,Wr⟩) 2 2]:List Wv).toArray 169 (0,0))->Fs F pb F.heap.size (Yb (Ws ⟨(z.heap.size+3),0,Wr⟩) 17 17):=by
  intro F X cl7 OY U6 g;have Y:=ai Su.out X;have A:=ai DD.out Y;have Nx:=ai Gc.out A;have Nw:=ai Gb.out Nx;have So:=ai Ga.out Nw;have Nv:=ai F'.out So;have Sn:=ai DC.out Nv;have Nu:=ai DB.out Sn;have Sp:=ai rG.out Nu;have U:=ai lh.out Sp;have Nz:=ai gW.out U;have Z:=ai iL.out Nz;have Ny:=ai cK.out Z;have O:=ai bY.out Ny;have D:=ai bE.out O;have C:=ai bg.out D;have G:=ai aR.out C;have gu2:=ql (l:=[.name]) (n:=1) (c:=1) (aq vE.out O) t6 ⟨E9 F pb _,trivial⟩ rfl az az Yi (blk_lt (aq vE.out O));have gu3:=ql (l:=[.name]) (n:=1) (c:=1) (aq gH.out O) t6 ⟨E9 F pb _,trivial⟩ rfl az az Yi (blk_lt (aq gH.out O));have gv1:=ql (l:=[.name,.word nD,.ref,.word el,.ref]) (n:=5) (c:=5) (aq mJ.out Z) t6 ⟨E9 F pb _,mL.out.keep (aF.of_below O (ag _) O.size) O.size,tZ F pb _,lm.out.keep (aF.of_below Ny (ag _) Ny.size) Ny.size,tZ F pb _,trivial⟩ rfl az az Yi (blk_lt (aq mJ.out Z));have gv2:=ql (l:=[.name,.word nD,.ref,.word yN,.number]) (n:=5) (c:=5) (aq eN.out U) t6 ⟨E9 F pb _,Tc.out.keep (aF.of_below Z (ag _) Z.size) Z.size,tZ F pb _,JU.out.keep (aF.of_below Nz (ag _) Nz.size) Nz.size,oR F pb _,trivial⟩ rfl az az Yi (blk_lt (aq eN.out U));have gv3:=ql (l:=[.ref,.ref,.number]) (n:=3) (c:=3) (aq eI.out U) t6 ⟨tZ F pb _,tZ F pb _,oR F pb _,trivial⟩ rfl az az Yi (blk_lt (aq eI.out U));have gv4:=ql (l:=[.name,.word el,.list,.word ka,.number,.word jY,.number,.word jX,.number]) (n:=9) (c:=cap9) (aq JA.out.1 Sp) (Zf JA.out.2.2.2) ⟨E9 F pb _,db8.out.keep (aF.of_below U (ag _) U.size) U.size,Zd F pb _,AM.out.keep (aF.of_below G (ag _) G.size) G.size,oR F pb _,gZ.out.keep (aF.of_below C (ag _) C.size) C.size,oR F pb _,JT.out.keep (aF.of_below D (ag _) D.size) D.size,oR F pb _,trivial⟩ rfl JA.out.2.1 JA.out.2.2.1 Yi (blk_lt (aq JA.out.1 Sp));have gv5:=ql (l:=[.name,.number,.word el,.list,.word ka,.number,.word jY,.number,.word jX,.number]) (n:=10) (c:=cap11) (aq Jv.out.1 Sn) (Zf Jv.out.2.2.2) ⟨E9 F pb _,oR F pb _,db1.out.keep (aF.of_below Nu (ag _) Nu.size) Nu.size,Zd F pb _,AM.out.keep (aF.of_below G (ag _) G.size) G.size,oR F pb _,gZ.out.keep (aF.of_below C (ag _) C.size) C.size,oR F pb _,JT.out.keep (aF.of_below D (ag _) D.size) D.size,oR F pb _,trivial⟩ rfl Jv.out.2.1 Jv.out.2.2.1 Yi (blk_lt (aq Jv.out.1 Sn));have gv6:=ql (l:=[.name,.word el,.ref,.word ka,.number,.word jY,.number,.word jX,.number]) (n:=9) (c:=cap13) (aq Jw.out.1 So) (Zf Jw.out.2.2.2) ⟨E9 F pb _,db2.out.keep (aF.of_below Nv (ag _) Nv.size) Nv.size,tZ F pb _,AM.out.keep (aF.of_below G (ag _) G.size) G.size,oR F pb _,gZ.out.keep (aF.of_below C (ag _) C.size) C.size,oR F pb _,JT.out.keep (aF.of_below D (ag _) D.size) D.size,oR F pb _,trivial⟩ rfl Jw.out.2.1 Jw.out.2.2.1 Yi (blk_lt (aq Jw.out.1 So));have gv7:=ql (l:=[.ref,.word yn,.number,.word ym,.number]) (n:=5) (c:=5) (aq Gs.out A) t6 ⟨tZ F pb _,db3.out.keep (aF.of_below Nw (ag _) Nw.size) Nw.size,oR F pb _,db4.out.keep (aF.of_below Nx (ag _) Nx.size) Nx.size,oR F pb _,trivial⟩ rfl az az Yi (blk_lt (aq Gs.out A));have gv8:=ql (l:=[.classes]) (n:=1) (c:=1) (aq Gq.out A) t6 ⟨ec5 F pb _,trivial⟩ rfl az az Yi (blk_lt (aq Gq.out A));have gu4:=ql (l:=[.ref]) (n:=1) (c:=1) (aq Gr.out A) t6 ⟨tZ F pb _,trivial⟩ rfl az az Yi (blk_lt (aq Gr.out A));have gu5:=ql (l:=[.ref,.number,.alw]) (n:=3) (c:=3) (aq JJ.out A) t6 ⟨tZ F pb _,oR F pb _,eb5 F pb _,trivial⟩ rfl az az Yi (blk_lt (aq JJ.out A));have gu6:=ql (l:=[.ref,.word yM,.domain,.number]) (n:=4) (c:=4) (aq bm1.out Y) t6 ⟨tZ F pb _,db5.out.keep (aF.of_below A (ag _) A.size) A.size,eb4 F pb _,oR F pb _,trivial⟩ rfl az az Yi (blk_lt (aq bm1.out Y));have gu7:=ql (l:=[.ref,.word el,.list]) (n:=3) (c:=3) (aq bm2.out X) t6 ⟨tZ F pb _,db6.out.keep (aF.of_below Y (ag _) Y.size) Y.size,Zd F pb _,trivial⟩ rfl az az Yi (blk_lt (aq bm2.out X));have gu8:=ql (l:=[.ref,.word yL,.ref]) (n:=3) (c:=3) cl7 t6 ⟨tZ F pb _,db7.out.keep (aF.of_below X (ag _) X.size) X.size,tZ F pb _,trivial⟩ rfl az (by decide) Yi (blk_lt cl7);have gu9:=ql (l:=[.number]) (n:=1) (c:=1) OY t6 ⟨oR F pb _,trivial⟩ rfl (by decide) (by decide) Yi (blk_lt OY);have gv0:=ql (l:=[.ref,.number]) (n:=2) (c:=2) U6 t6 ⟨tZ F pb _,oR F pb _,trivial⟩ rfl (by decide) (by decide) Yi (blk_lt U6);refine⟨(z.heap.size+3),rfl,by omega,blk_lt g,λi r y=> ?_⟩
  match i,y with
  |0,y=>obtain rfl:=Xv y;exact⟨_,ah g rfl,ah g rfl,ah g rfl,gu2⟩
  |1,y=>obtain rfl:=Xv y;exact⟨_,ah g rfl,ah g rfl,ah g rfl,gu3⟩
  |2,y=>obtain rfl:=Xv y;exact⟨_,ah g rfl,ah g rfl,ah g rfl,gv1⟩
  |3,y=>obtain rfl:=Xv y;exact⟨_,ah g rfl,ah g rfl,ah g rfl,gv2⟩
  |4,y=>obtain rfl:=Xv y;exact⟨_,ah g rfl,ah g rfl,ah g rfl,gv3⟩
  |5,y=>obtain rfl:=Xv y;exact⟨_,ah g rfl,ah g rfl,ah g rfl,gv4⟩
  |6,y=>obtain rfl:=Xv y;exact⟨_,ah g rfl,ah g rfl,ah g rfl,gv5⟩
  |7,y=>obtain rfl:=Xv y;exact⟨_,ah g rfl,ah g rfl,ah g rfl,gv6⟩
  |8,y=>obtain rfl:=Xv y;exact⟨_,ah g rfl,ah g rfl,ah g rfl,gv7⟩
  |9,y=>obtain rfl:=Xv y;exact⟨_,ah g rfl,ah g rfl,ah g rfl,gv8⟩
  |10,y=>obtain rfl:=Xv y;exact⟨_,ah g rfl,ah g rfl,ah g rfl,gu4⟩
  |11,y=>obtain rfl:=Xv y;exact⟨_,ah g rfl,ah g rfl,ah g rfl,gu5⟩
  |12,y=>obtain rfl:=Xv y;exact⟨_,ah g rfl,ah g rfl,ah g rfl,gu6⟩
  |13,y=>obtain rfl:=Xv y;exact⟨_,ah g rfl,ah g rfl,ah g rfl,gu7⟩
  |14,y=>obtain rfl:=Xv y;exact⟨_,ah g rfl,ah g rfl,ah g rfl,gu8⟩
  |15,y=>obtain rfl:=Xv y;exact⟨_,ah g rfl,ah g rfl,ah g rfl,gu9⟩
  |16,y=>obtain rfl:=Xv y;exact⟨_,ah g rfl,ah g rfl,ah g rfl,gv0⟩
  |i+17,y=>exact absurd (List.getElem?_eq_some_iff.1 y).1 (by simp[rules])
 refine⟨_,rfl,?_,ae (ae (ae (ae (ai (ai (ai (ai (ai (ai (ai (ai (ai (ai (ai (ai (ai (ai (ai (ai (ai bf.out aR.out) bg.out) bE.out) bY.out) cK.out) iL.out) gW.out) lh.out) rG.out) DB.out) DC.out) F'.out) Ga.out) Gb.out) Gc.out) DD.out) Su.out) _) _) _) _⟩;refine key _ (ae (ae (ae (ae (af z) _) _) _) _) ?_ ?_ ?_ ?_
 .exact(QB z _ _ _ _).1
 .exact(QB z _ _ _ _).2.1
 .exact(QB z _ _ _ _).2.2.1
 .exact(QB z _ _ _ _).2.2.2
end
section
open Go Go.RowKit Go.MapKept Go.Proofs.Tryz
section
variable {P:Program} {ops:Array XH} {Q:Exit->Act->Wu->Prop} {md:X6} {S:Wu->Prop}
def aw5 {i:Nat} {g:XH} {v:Wv} {fuel:Nat} {listed:Array Bool} {a:Act} {w:Wu} (d:Option Tmp) (C:ops[i]? =Ws g) (z:g.dst=d)
 (F:Region.noSelect ops=Wz) (A:Region.free md ops listed i=Wz) (D:(XC md ops listed).contains i=Wz)
 (j: ∀c a w,Q (.panic c) (a.put d v) w->Q (.panic c) a w) (G:YieldsIf P ops S g v a) (y:S w)
 (h:wpAnyH P md ops Q S fuel (listed.setIfInBounds i Wz) (a.put d v) w):wpAnyH P md ops Q S (fuel+1) listed a w:=by
 subst z;exact wpAnyH_take C F A D j G y h
end
def en5 (m:aM) (v:MV) (x:cC) (A:Option X8) (n c:Nat) (w:Wu) (hv:m.In w w v) (G: ¬(0<=x.kind/\x.kind<=6)):
 aQ 153 #[Ye (m.cells v),Ye (x.vals (Yb A n c))] w (Yc Ww):=by
 refine rz λSa sc hs dh bS Fa fc cB cr cL Ra rc hr cM cV Ma mc hm dd cz La lc hl dt di Ia ic hi ed ez Ua uc hu dP dq HS=> ?_;have HF:=aa (eh5 G);have V:=aa (λW=>ao6 W);rw[HS.out,cC.vals_def];clear hv G hs cB hr hm hl hi hu;go_enter func153,ntmps153;go_upto_region 1 with (fail)
 refine aw6 ?_;intro W1 ⟨y,C,g⟩;have X:W1.cell? ⟨w.heap.size+1,0,Wr⟩=Ws (WK Xr x.kind):=ah g rfl;have z:=blk_lt g;have cJ: ¬w.heap.size+1=W1.heap.size:=Yi;have j:=aa y;have g_:=aa C;have lq:=aa g;clear y C g;go_cut [5,6] (λp q Z=>q=Yc Ww/\Below w w Z)
 case first=>
  rename_i J K' F D;have O:=aa F;have Y:=aa D;clear F D;go_region_held3 (λw'=>w'.cell? ⟨w.heap.size+1,0,Wr⟩=Ws (WK Xr x.kind)) (go_simp)
   (first
     |(go_at_call 233;refine(V.out _).m ?_;rintro e w2 ⟨M,rfl,hM,I,am⟩;refine Iu λaV=> ?_;have kU:(Instr.lookup 259 (.map (some M)) (.int .i64 x.kind) true).run prog w2= .ok (.tuple #[.agg #[.nilFunc,.nilFunc],.bool false]) w2:=by exact aw7
       have gM: ∀o,(WT 259 (.map (Ws M)) (WK Xr x.kind) Wz).run WH (w2.alloc o)= .ok (.tuple #[Ye #[.nilFunc,.nilFunc],Yc Ww]) (w2.alloc o):=λo=>by exact aw8
       have c0:w2.cell? ⟨w.heap.size+1,0,Wr⟩=Ws (WK Xr x.kind):=(aV.cell (p:=⟨w.heap.size+1,0,Wr⟩) z).trans X;obtain⟨lJ,wv⟩:=Ih am;try(have gF:W1.heap.size<w2.heap.size:=by(have hq:=am.size;simp at hq;omega))
       have bd:w.heap.size+1<w2.heap.size:=bq z aV.size;have jU: ¬w.heap.size+1=w2.heap.size:=Yi;have iW:=aa am.block;clear hM I am))
  all_goals
   dsimp only[Exit.then];refine Y.out _ _ (Met.intro (O.out _ _ ?_))
   (repeat apply Exists.intro)
   refine⟨⟨rfl,?_⟩,rfl⟩;have U:=ai j.out aV
   (repeat' first|with_reducible exact U|with_reducible refine cF ?_ (by dsimp only;have:=j.out.size;omega) _|with_reducible refine ae ?_ _)
 case rest=>
  obtain⟨rfl,hB⟩:=hcut;go_wp2_with fail
  refine pD 17 ?_;iterate 2 refine ja 17 14 ?_
  iterate 5 refine E7 17 14 ?_
  iterate 2 refine ja 17 14 ?_
  iterate 6 refine E7 17 14 ?_
  refine lW 15 29 ?_;refine lW 16 4 ?_;refine wh ?_;go_wp2_with fail
  go_ret;exact⟨rfl,aX hB⟩
def FV (m:aM) (v:MV) (x y:cC) (o o2:Wv) (w:Wu) (go gn:Nat) (rk:Bool) (eo:dp go) (en:dp gn) (hv:m.In w w v) (ho:aW w w o x.ms)
 (hf:P4 x.kind=Ws (Ye #[.func (.func go) #[] #[],.func (.func gn) #[] #[]])) (CP: ∀W,Below w w W->aQ go #[Ye (m.cells v),Ye (x.vals o)] W (Yc rk))
 (nh: ∀W,Below w w W->aQ gn #[Ye (x.vals o)] W (Ye (y.vals o2)))
 (uK: ∀W,Below w w W->aW W W.heap.size o2 y.ms):
 aQ 153 #[Ye (m.cells v),Ye (x.vals o)] w (Yc (rk&&FR x y)):=by
 have G:=aa (λW (hW:Below w w W)=>ej3 x y o o2 W ((ho.below hW (ag _)).more hW.size) (uK W hW));have U:=aa CP;have X:=aa nh;refine rz λSa sc hs dh bS Fa fc cB cr cL Ra rc hr cM cV Ma mc hm dd cz La lc hl dt di Ia ic hi ed ez Ua uc hu dP dq HS=> ?_;have HF:=aa hf;have mH:=aa (λW=>ao6 W);obtain⟨A,n,c,rfl,hn,hc,iG⟩:=ho.sk.form;obtain⟨A2,n2,c2,rfl,_,_,_⟩:=(uK w (af w)).sk.form;generalize FR x y=rs at G;rw[HS.out] at U⊢
 rw[cC.vals_def] at U X G⊢
 rw[cC.vals_def] at X G;unfold dp at eo en;clear hv ho hf CP nh uK hs cB hr hm hl hi hu hn;go_enter func153,ntmps153;go_upto_region 1 with (fail)
 refine aw6 ?_;intro W1 ⟨aU,dm,I⟩;have q0:W1.cell? ⟨w.heap.size+1,0,Wr⟩=Ws (WK Xr x.kind):=ah I rfl;have ba:=blk_lt I;have cJ: ¬w.heap.size+1=W1.heap.size:=Yi;have aT:=aa aU;have g_:=aa dm;have lq:=aa I;clear aU dm I;go_cut [5,6] (λp q wx=>q=Yc Wz/\∃fb,p=aj fb/\W1.heap.size<=fb/\Below W1 W1 wx/\wx.heap[fb]? =Ws (Yd #[.func (.func go) #[] #[],.func (.func gn) #[] #[]] 257 (0,0)))
 case first=>
  rename_i J K' hJ gO;have HJ:=aa hJ;have rN:=aa gO;clear hJ gO;go_region_held3 (λw'=>w'.cell? ⟨w.heap.size+1,0,Wr⟩=Ws (WK Xr x.kind)) (go_simp)
   (first
     |(go_at_call 233;refine(mH.out _).m ?_;rintro e w2 ⟨M,rfl,hM,Es,am⟩;refine Iu λaV=> ?_;have kU:(Instr.lookup 259 (.map (some M)) (.int .i64 x.kind) true).run prog w2= .ok (.tuple #[.agg #[.func (.func go) #[] #[],.func (.func gn) #[] #[]],.bool true]) w2:=by exact aw7
       have gM: ∀o,(WT 259 (.map (Ws M)) (WK Xr x.kind) Wz).run WH (w2.alloc o)= .ok (.tuple #[Ye #[.func (.func go) #[] #[],.func (.func gn) #[] #[]],Yc Wz]) (w2.alloc o):=λo=>by exact aw8
       have c0:w2.cell? ⟨w.heap.size+1,0,Wr⟩=Ws (WK Xr x.kind):=(aV.cell (p:=⟨w.heap.size+1,0,Wr⟩) ba).trans q0;obtain⟨lJ,wv⟩:=Ih am;try(have gF:W1.heap.size<w2.heap.size:=by(have hq:=am.size;simp at hq;omega))
       have bd:w.heap.size+1<w2.heap.size:=bq ba aV.size;have jU: ¬w.heap.size+1=w2.heap.size:=Yi;have iW:=aa am.block;clear hM Es am))
  all_goals
   dsimp only[Exit.then];refine rN.out _ _ (Met.intro (HJ.out _ _ ?_))
   (repeat apply Exists.intro)
   refine⟨⟨rfl,?_⟩,rfl⟩
  .exact⟨w2.heap.size,rfl,aV.size,ae aV _,Xn w2 _⟩
  .exact⟨w2.heap.size,rfl,aV.size,ae aV _,Xn w2 _⟩
  .refine⟨W1.heap.size,rfl,ag _,?_,?_⟩
   .repeat' first|with_reducible exact aV|with_reducible refine cF ?_ (ag _) _
   .have h0:=(iW.out W1.heap.size Yl).trans (Xn W1 _);exact(aZ (aZ h0 _ _) _ _).trans rfl
 case rest=>
  obtain⟨rfl,fb,rfl,jn,aV,mD⟩:=hcut;have O:=aq g_.out aV;have V:=aq lq.out aV;obtain⟨TS,TT,TV,TW,TX,TY,TZ,T3,T4,T5,TU⟩:=eR O;obtain⟨up,rT,uq,ur,ut,uu,T6⟩:=iA V;have zl:wc.cell? ⟨fb,0,Wr⟩=Ws (.func (.func go) #[] #[]):=ah mD rfl;have zm:wc.cell? ⟨fb,1,Wr⟩=Ws (.func (.func gn) #[] #[]):=ah mD rfl;have gF:=blk_lt V;have hm8:=blk_lt mD;have tE:w.heap.size<wc.heap.size:=blk_lt O;have aR:=aa (ai aT.out aV);have di6:=aa O;have Kd:=aa V;have Kc:=aa mD;clear O V mD aV q0;simp only[aj];cases rk with
  |false=>
   go_wp2_with fail
   refine aw9 λhS=> ?_;iterate 6 refine mC 17 14 ?_
   refine dY 6 λK g=> ?_;go_simp;refine(U.out _ (aX aR.out)).m ?_;rintro e w4 ⟨rfl,aS⟩;refine ax0 λbE eM dx jn Kt Ku Kw Kx Ky Kz KA KB KC KE Kv zn oo mO mP zo pF KF Ks uv=> ?_;have D:=aa eM;have AU:=aa dx;have C:=aa jn;clear aS eM dx jn TS TT TV TW TX TY TZ T3 T4 T5 TU up rT uq ur ut uu T6 zl zm;try go_simp
   clear hS;refine g.out _ _ bz6 (λhS=> ?_);clear g;refine aG ?_;iterate 2 refine mC 17 14 ?_
   iterate 6 refine gt8 17 14 ?_
   refine cb 15 29 ?_;refine cb 16 4 ?_;refine oQ ?_;go_wp2_with fail
   go_ret;exact⟨by simp,bE.out⟩
  |true=>
   go_wp2_with fail
   refine aw9 λhS=> ?_;iterate 6 refine mC 17 14 ?_
   refine dY 6 λK g=> ?_;go_simp;refine(U.out _ (aX aR.out)).m ?_;rintro e w4 ⟨rfl,aS⟩;refine ax0 λbE eM dx jn Kt Ku Kw Kx Ky Kz KA KB KC KE Kv zn oo mO mP zo pF KF Ks uv=> ?_;have D:=aa eM;have AU:=aa dx;have C:=aa jn;clear aS eM dx jn TS TT TV TW TX TY TZ T3 T4 T5 TU up rT uq ur ut uu T6 zl zm;try go_simp
   clear hS;refine g.out _ _ bz6 (λhS=> ?_);clear g;refine aG ?_;iterate 6 refine mC 17 14 ?_
   refine dY 13 λK g=> ?_;go_simp;refine(X.out _ bE.out).m ?_;rintro e j ⟨rfl,z⟩;have bY:=aa (ai bE.out z);have gC:=aq D.out z;have tB:=aq AU.out z;have Z:=aq C.out z;obtain⟨T8,ca8,cb0,cb1,cb2,cb3,cb4,cb5,cb6,cb7,ca9⟩:=eR gC;obtain⟨wg,qP,pG,pH,zp,zq,cb8⟩:=iA tB;have Y:j.cell? ⟨fb,0,Wr⟩=Ws (.func (.func go) #[] #[]):=ah Z rfl;have F:j.cell? ⟨fb,1,Wr⟩=Ws (.func (.func gn) #[] #[]):=ah Z rfl;clear z gC tB Z Kt Ku Kw Kx Ky Kz KA KB KC KE Kv zn oo mO mP zo pF KF Ks uv;try go_simp
   clear hS;refine g.out _ _ (by exact⟨Y,F,T8,ca8,cb0,cb1,cb2,cb3,cb4,cb5,cb6,cb7,ca9,wg,qP,pG,pH,zp,zq,cb8⟩) (λhS=> ?_);clear g;refine aG ?_;refine dY 14 λK g=> ?_;go_simp;refine(G.out _ bY.out).m ?_;rintro e w6 ⟨rfl,bM⟩;have cK:=aa (ai bY.out bM);have ze: ∀b o,b<j.heap.size->w6.cell? ⟨b,o,Wr⟩=j.cell? ⟨b,o,Wr⟩:=λb o h=>bM.cell (p:=⟨b,o,Wr⟩) h;have pp:fb<j.heap.size/\w.heap.size<j.heap.size/\w.heap.size+1<j.heap.size:=⟨bP _ _ Y,bP _ _ T8,bP _ _ wg⟩;clear bM;try go_simp
   clear hS;refine g.out _ _ (by simp only[ze _ _ pp.1,ze _ _ pp.2.1,ze _ _ pp.2.2];exact⟨Y,F,T8,ca8,cb0,cb1,cb2,cb3,cb4,cb5,cb6,cb7,ca9,wg,qP,pG,pH,zp,zq,cb8⟩) (λhS=> ?_);clear g;refine aG ?_;refine cb 15 29 ?_;refine cb 16 4 ?_;refine oQ ?_;go_wp2_with fail
   go_ret;exact⟨by simp,cK.out⟩
def aW.nil0 (W:Wu) (B:Nat):aW W B (Yb Wr 0 0) []:=⟨Sl.nil_ W B,by simp⟩
def en6 (m:aM) (v:MV) (x:cC) (o:Wv) (w:Wu) (j:m.In w w v) (ho:aW w w o x.ms) (z:aK x.item) (C:aK x.n) (D:aK x.by_) (F:aK x.other):
 aQ 153 #[Ye (m.cells v),Ye (x.vals o)] w (Yc (df m x)):=by
 obtain⟨A,n,c,rfl,hn,hc,iG⟩:=ho.sk.form;by_cases h:0<=x.kind/\x.kind<=6
 .obtain⟨k,hk⟩: ∃k:Nat,x.kind=k:=⟨x.kind.toNat,by omega⟩;have I:k<=6:=by omega
  rw[ej2 m x k I hk];have G:=λW (g:Below w w W)=>j.to g (ag _) g.size;have y:=λW (g:Below w w W)=>(ho.below g (ag _)).more g.size;have:k=0\/k=1\/k=2\/k=3\/k=4\/k=5\/k=6:=Yi;rcases this with rfl|rfl|rfl|rfl|rfl|rfl|rfl
  .exact FV m v x (jw 0 x) (Yb A n c) (Yb Wr 0 0) w 308 310 _ (WD func308 aC rfl) (WD func310 aC rfl) j ho Cn
    (λW g=>ef9 m v x _ W (G W g) (y W g) z C D F) (λW g=>ej4 x A n c W) (λW g=>aW.nil0 W _)
  .exact FV m v x (jw 1 x) (Yb A n c) (Yb Wr 0 0) w 311 312 _ (WD func311 aC rfl) (WD func312 aC rfl) j ho Cn
    (λW g=>ek1 m v x _ W (G W g) (y W g) z C D F) (λW g=>ej5 x A n c W) (λW g=>aW.nil0 W _)
  .exact FV m v x (jw 2 x) (Yb A n c) (Yb Wr 0 0) w 313 314 _ (WD func313 aC rfl) (WD func314 aC rfl) j ho Cn
    (λW g=>ek3 m v x _ W (G W g) (y W g) z C D F) (λW g=>ej6 x A n c W) (λW g=>aW.nil0 W _)
  .exact FV m v x (jw 3 x) (Yb A n c) (Yb A n c) w 315 316 _ (WD func315 aC rfl) (WD func316 aC rfl) j ho Cn
    (λW g=>ek4 m v x _ W (G W g) (y W g) z C D F) (λW g=>ej7 x A n c W) (λW g=>y W g)
  .exact FV m v x (jw 4 x) (Yb A n c) (Yb Wr 0 0) w 317 318 _ (WD func317 aC rfl) (WD func318 aC rfl) j ho Cn
    (λW g=>ef7 m v x _ W (G W g) (y W g) z C D F) (λW g=>ej8 x A n c W) (λW g=>aW.nil0 W _)
  .exact FV m v x (jw 5 x) (Yb A n c) (Yb Wr 0 0) w 319 320 _ (WD func319 aC rfl) (WD func320 aC rfl) j ho Cn
    (λW g=>ef8 m v x _ W (G W g) (y W g) z C D F) (λW g=>ej9 x A n c W) (λW g=>aW.nil0 W _)
  .exact FV m v x (jw 6 x) (Yb A n c) (Yb Wr 0 0) w 321 322 _ (WD func321 aC rfl) (WD func322 aC rfl) j ho Cn
    (λW g=>ek2 m v x _ W (G W g) (y W g) z C D F) (λW g=>ek0 x A n c W) (λW g=>aW.nil0 W _)
 .rw[as3 m x h];exact en5 m v x A n c w j h
def en7 (m:aM) (v:MV) (x:fg) (o:Wv) (mb:Nat) (w:Wu) (hm:w.heap[mb]? =Ws (Yd (m.cells v) 30 (0,0))) (y:m.In w w v) (ho:aW w w o x.on):
 aQ 149 #[Ye (x.vals o),aj mb] w (Yc (!dO m x)):=by
 have g:=aa (λW (j:Below w w W)=>eh4 m v x o W (y.to j (ag _) j.size) ((ho.below j (ag _)).more j.size));obtain⟨A,n,c,rfl,hn,hc,iG⟩:=ho.sk.form;generalize dO m x=r at g;rw[fg.vals_def] at g⊢
 rw[aM.cells_def] at g hm;obtain⟨e0,e1,e2,e3,e4,e5,e6,e7,e8,e9,dJ⟩:=eR hm;obtain⟨⟨Sa,sc,hs,dh,bS⟩,⟨Fa,fc,cB,cr,cL⟩,⟨Ra,rc,hr,cM,cV⟩,⟨Ma,mc,nj,dd,cz⟩,⟨La,lc,hl,dt,di⟩,⟨Ia,ic,hi,ed,ez⟩,⟨Ua,uc,hu,dP,dq⟩⟩:=y.cells;rw[hs,cB,hr,nj,hl,hi,hu] at g;rw[hs] at e0;rw[cB] at e1;rw[hr] at e2;rw[nj] at e3;rw[hl] at e4;rw[hi] at e5;rw[hu] at dJ;have C:=blk_lt hm;have z: ¬mb=w.heap.size:=Yi;clear hm y ho hs cB hr nj hl hi hu hn;simp only[aj];go_enter func149,ntmps149;go_wp2_with(go_at_call 150;refine(g.out _ (ae (af w) _)).m ?_;rintro e D ⟨rfl,ap⟩)
 exact Mn
def en8 (m:aM) (v:MV) (x:cC) (o:Wv) (mb:Nat) (w:Wu) (hm:w.heap[mb]? =Ws (Yd (m.cells v) 30 (0,0))) (y:m.In w w v) (ho:aW w w o x.ms) (z:aK x.item) (C:aK x.n) (D:aK x.by_) (F:aK x.other):
 aQ 152 #[Ye (x.vals o),aj mb] w (Yc (!df m x)):=by
 have g:=aa (λW (j:Below w w W)=>en6 m v x o W (y.to j (ag _) j.size) ((ho.below j (ag _)).more j.size) z C D F);obtain⟨A,n,c,rfl,hn,hc,iG⟩:=ho.sk.form;generalize df m x=r at g;rw[cC.vals_def] at g⊢
 rw[aM.cells_def] at g hm;obtain⟨e0,e1,e2,e3,e4,e5,e6,e7,e8,e9,dJ⟩:=eR hm;obtain⟨⟨Sa,sc,hs,dh,bS⟩,⟨Fa,fc,cB,cr,cL⟩,⟨Ra,rc,hr,cM,cV⟩,⟨Ma,mc,nj,dd,cz⟩,⟨La,lc,hl,dt,di⟩,⟨Ia,ic,hi,ed,ez⟩,⟨Ua,uc,hu,dP,dq⟩⟩:=y.cells;rw[hs,cB,hr,nj,hl,hi,hu] at g;rw[hs] at e0;rw[cB] at e1;rw[hr] at e2;rw[nj] at e3;rw[hl] at e4;rw[hi] at e5;rw[hu] at dJ;have I:=blk_lt hm;have G: ¬mb=w.heap.size:=Yi;clear hm y ho hs cB hr nj hl hi hu hn z C D F;simp only[aj];go_enter func152,ntmps152;go_wp2_with(go_at_call 153;refine(g.out _ (ae (af w) _)).m ?_;rintro e J ⟨rfl,ap⟩)
 exact Mn
def rB.drew {m:aM} {v:MV} {mb B:Nat} {w:Wu} (h:rB m v mb B w):rB m v mb B w.drew:=⟨h.1,h.2.to (L' (XA B w)) (ag _) (ag _)⟩
def et6 {m:aM} {w:Wu} {W:Wu} {lb k:Nat} (h:W.heap[lb]? =Ws (Yd #[WK Xr (m.sites.length:Nat),.func (.func 296) #[] #[aj w.heap.size],.func (.func 297) #[] #[],WK Xr (m.feeds.length:Nat),.func (.func 298) #[] #[aj w.heap.size],.func (.func 299) #[] #[],WK Xr (m.racks.length:Nat),.func (.func 300) #[] #[aj w.heap.size],.func (.func 301) #[] #[],WK Xr (m.machs.length:Nat),.func (.func 302) #[] #[aj w.heap.size],.func (.func 303) #[] #[],WK Xr (m.items.length:Nat),.func (.func 304) #[] #[aj w.heap.size],.func (.func 305) #[] #[aj w.heap.size]] 285 (0,0))) (c:k<5):
 W.cell? ⟨lb,k*3,Wr⟩=Ws (WK Xr ((gm m k).length:Nat))/\W.cell? ⟨lb,k*3+1,Wr⟩=Ws (.func (.func (rK k)) #[] #[aj w.heap.size])/\W.cell? ⟨lb,k*3+2,Wr⟩=Ws (.func (.func (rL k)) #[] (uP w.heap.size k)):=by
 have:k=0\/k=1\/k=2\/k=3\/k=4:=Yi;rcases this with rfl|rfl|rfl|rfl|rfl<;>refine⟨?_,?_,?_⟩<;>refine ah h ?_ <;>simp[gm,rK,rL,uP]
def eq2 (m:aM) {k j:Nat} {s:ak} (c:(gm m k)[j]? =Ws s):wZ m k++(gm m k).take (j+1)=wZ m k++(gm m k).take j++[s]:=by have g:=(List.getElem?_eq_some_iff.1 c).1;rw[XJ,c,Xd];rfl
def eq3 (m:aM) (v:MV) (B ob g:Nat) (caps:Array Wv) (J:List ak->Wu->Prop) (w:Wu) (hv:m.In w B v) (F:B<=w.heap.size) (iT:ob<w.heap.size) (eg:dp g)
 (cj8: ∀(pre:List ak) (s:ak) (kd n:Int) (W:Wu),J pre W->pre.length<(cG m).length->WJ WH g (#[WM (bs s),WK Xr kd,WK Xr n]++caps) W λe z=>e=Xz (Yc Ww)/\J (pre++[s]) z/\Below B W z/\mF ob W z)
 (hJ: ∀pre W z,J pre W->Below W.heap.size W z->J pre z) (h0:J [] w):
 WJ WH 223 #[Ye (m.cells v),bm g caps] w λe w'=>e=Xz (.tuple #[])/\J (cG m) w'/\Below B w w'/\mF ob w w':=by
 refine rz λSa sc hs dh bS Fa fc cB cr cL Ra rc hr cM cV Ma mc hm dd cz La lc hl dt di Ia ic hi ed ez Ua uc hu dP dq HS=> ?_;have HV:=aa hv;have cw4:=aa cj8;have SZ:=aa hJ;have JD:=aa h0;refine ou λnV=> ?_;unfold dp at eg;rw[HS.out];simp only[bm];clear hv cj8 hJ h0 hs cB hr hm hl hi hu;go_enter func223,ntmps223;go_wp2_with fail
 refine cP (λW=>Below w w W/\W.heap[w.heap.size]? =Ws (Yd #[Yb Sa m.sites.length sc,Yb Fa m.feeds.length fc,Yb Ra m.racks.length rc,Yb Ma m.machs.length mc,Yb La m.links.length lc,Yb Ia m.items.length ic,m.dark,m.slots,m.reserve,m.failures,Yb Ua m.rules.length uc] 30 (0,0))/\W.heap[w.heap.size+1]? =Ws (Yd #[WK Xr (m.sites.length:Nat),.func (.func 296) #[] #[aj w.heap.size],.func (.func 297) #[] #[],WK Xr (m.feeds.length:Nat),.func (.func 298) #[] #[aj w.heap.size],.func (.func 299) #[] #[],WK Xr (m.racks.length:Nat),.func (.func 300) #[] #[aj w.heap.size],.func (.func 301) #[] #[],WK Xr (m.machs.length:Nat),.func (.func 302) #[] #[aj w.heap.size],.func (.func 303) #[] #[],WK Xr (m.items.length:Nat),.func (.func 304) #[] #[aj w.heap.size],.func (.func 305) #[] #[aj w.heap.size]] 285 (0,0))) ⟨ae (ae (af w) _) _,(sF w _ _ _ _).1,(sF w _ _ _ _).2⟩ ?_;intro W1 ⟨aU,dm,CR⟩;have D:=aa aU;have cz8:=aa dm;have cy9:=aa CR;have ba:=blk_lt CR;clear aU dm CR;go_loopw [37] (λi wr=> ∃k:Nat,k<=5/\i=WK Xr k/\J (wZ m k) wr/\Below B W1 wr/\mF ob W1 wr) (λi _=>5 - (WS i).toNat)
 case atStart=>exact⟨0,by omega,rfl,SZ.out _ _ _ JD.out D.out,XA _ _,mF.refl _ _⟩
 case round=>
  obtain⟨k,hk,rfl,OE,kR,Oy⟩:=hrel;obtain⟨C,rfl⟩: ∃C:Wu,C=wr:=⟨_,rfl⟩;by_cases I:k<5
  .have dz:(0:Int)<=k:=by omega
   have bJ:(k:Int)<5:=Yi;have Lq:=Oy.2 _ _ _ _ cy9.out Yi az;obtain⟨r0,r1,r2⟩:=et6 Lq I;have eB:=blk_lt Lq;obtain⟨U,nh⟩: ∃U,rK k=U:=⟨_,rfl⟩;obtain⟨O,OU⟩: ∃O,rL k=O:=⟨_,rfl⟩;obtain⟨kc,fR⟩: ∃kc,uP w.heap.size k=kc:=⟨_,rfl⟩;obtain⟨n,hn⟩: ∃n,(gm m k).length=n:=⟨_,rfl⟩;have en:=eu1 I;have ek:=eu2 I;unfold dp at en ek;rw[nh] at r1 en;rw[OU,fR] at r2;rw[OU] at ek;rw[hn] at r0;simp only[aj] at r1
   have gV:n<=9223372036854775807:=by rw[<-hn];have:k=0\/k=1\/k=2\/k=3\/k=4:=by omega
                                      rcases this with rfl|rfl|rfl|rfl|rfl<;>simp[gm]<;>omega
   have cx3:=aa nh;have cx2:=aa OU;have cy1:=aa fR;have V:=aa hn;have cy0:=aa OE;have jI:=aa kR;have X:=aa Oy;clear Lq nh OU fR hn OE kR Oy;go_wp2_with fail
   refine cP (λW=>Below C C W/\W.heap[C.heap.size]? =Ws (Yd #[WK Xr (n:Nat),.func (.func U) #[] #[Yf (Ws w)],.func (.func O) #[] kc] 285 (0,0))) ⟨ae (af C) _,bQ C _⟩ ?_;intro W2 ⟨aV,cQ⟩;obtain⟨W2b,OH⟩: ∃b,C.heap.size=b:=⟨_,rfl⟩;have df1:=aa OH;rw[OH] at cQ;have a0:W2.cell? W2b=Ws (WK Xr (n:Nat)):=ah cQ rfl;have Y:=aa aV;have qN:=aa cQ;simp only[OH];clear aV cQ OH r0 r1 r2;go_wp2_with fail
   go_loopw [43] (λi y=> ∃j:Nat,j<=n/\i=WK Xr j/\J (wZ m k++(gm m k).take j) y/\Below B W2 y/\mF ob W2 y) (λi _=>n - (WS i).toNat)
   case atStart=>exact⟨0,bU _,rfl,by rw[List.take_zero,XT];exact SZ.out _ _ _ cy0.out Y.out,XA _ _,mF.refl _ _⟩
   case round=>
    obtain⟨y,rfl⟩: ∃y:Wu,y=wr:=⟨_,rfl⟩;obtain⟨j,hj,rfl,OD,KM,G8⟩:=hrel;by_cases cl0:j<n
    .have OC:(0:Int)<=j:=by omega
     have G_:(j:Int)<n:=Yi;obtain⟨s,hs⟩: ∃s,(gm m k)[j]? =Ws s:=⟨_,Wy (by rw[V.out];exact cl0)⟩;have Vn: ¬W2b=ob:=by have:=df1.out;have:=X.out.1;have:=D.out.size;omega
     have fk:=G8.2 _ _ _ _ qN.out Vn az;have b1:y.cell? (W2b 1 Wr)=Ws (.func (.func U) #[] #[Yf (Ws w)]):=ah fk rfl;have b2:y.cell? (W2b 2 Wr)=Ws (.func (.func O) #[] kc):=ah fk rfl;have df8:=aa Vn;have cv3:=aa fk;have Cx:Below B w y:=(((D.out.mono F).trans jI.out).trans (Y.out.mono (bo F (bo D.out.size X.out.1)))).trans KM;have ce3:mF ob W1 y:=(X.out.trans (mF.of_below Y.out)).trans G8;have Z:Hid (rB m v w B y):=⟨by rw[HS.out];exact ce3.2 _ _ _ _ cz8.out Yi az,HV.out.to Cx (ag _) (ag _)⟩;have ha8:B<=y.heap.size:=bo F Cx.size;have oe:Hid (∀W,rB m v w B W->WJ WH U #[j,Yf (Ws w)] W λe w'=>e=Xz (WM (bs s))/\w'=W):=λW G=>by rw[<-cx3.out];exact et9 G (bo F (eJ (blk_lt G.1))) I hs
     have gX:Hid (∀W,rB m v w B W->WJ WH O (#[WK Xr j]++kc) W λe w'=>(∃n:Int,e=Xz (WK Xr n))/\w'=W):=λW G=>by rw[<-cx2.out,<-cy1.out];exact eu0 G (bo F (eJ (blk_lt G.1))) I (by rw[V.out];exact cl0)
     have Bx:(wZ m k++(gm m k).take j).length<(cG m).length:=by have:=ek5 m k I;rw[V.out] at this;rw[WG,XW,V.out];omega
     have Jq:Hid (∀(kd nn:Int) (W:Wu),J (wZ m k++(gm m k).take j) W->WJ WH g (#[WM (bs s),WK Xr kd,WK Xr nn]++caps) W λe z=>e=Xz (Yc Ww)/\J (wZ m k++(gm m k).take (j+1)) z/\Below B W z/\mF ob W z):=λkd nn W G=>by rw[eq2 m hs];exact cw4.out _ s kd _ W G Bx
     have DS:=aa OD;have SB:=aa KM;have SM:=aa G8;clear OD KM G8 hs fk Vn Cx ce3 Bx;go_wp2_with fail
     refine pE (S:=λw'=>w'.cell? (W2b 1 Wr)=Ws (.func (.func U) #[] #[Yf (Ws w)])/\w'.cell? (W2b 2 Wr)=Ws (.func (.func O) #[] kc)) 12 (by exact⟨b1,b2⟩) λhS=> ?_;iterate 4 refine mC 12 46 ?_
     iterate 3 refine mC 13 46 ?_
     iterate 2 refine mC 14 46 ?_
     refine dY 4 λK A=> ?_;go_simp;have Un:=hS;refine(oe.out _ (rB.drew Z.out)).m ?_;rintro e w4 ⟨rfl,rfl⟩;try go_simp
     clear hS;refine A.out _ _ (Un) (λhS=> ?_);clear A;refine aG ?_;refine dY 8 λK A=> ?_;go_simp;have Un:=hS;refine(gX.out _ (rB.drew Z.out)).m ?_;rintro e w4 ⟨⟨kn,rfl⟩,rfl⟩;try go_simp
     clear hS;refine A.out _ _ (Un) (λhS=> ?_);clear A;refine aG ?_;refine dY 11 λK A=> ?_;go_simp;refine(Jq.out kn _ _ (SZ.out _ _ _ DS.out (aX (af y)))).m ?_;rintro e w5 ⟨rfl,gi3,bp,ce2⟩;have iF:=ce2.2 _ _ _ _ (show y.drew.heap[W2b]? =_ from cv3.out) df8.out az;have d1:w5.cell? (W2b 1 Wr)=_:=ah iF rfl;have d2:w5.cell? (W2b 2 Wr)=_:=ah iF rfl;try go_simp
     clear hS;refine A.out _ _ (by exact⟨d1,d2⟩) (λhS=> ?_);clear A;refine aG ?_;refine oQ ?_;go_wp2_with fail
     refine⟨⟨j+1,by omega,by go_num,gi3,SB.out.trans ((L' (XA B y)).trans bp),SM.out.trans ((mF.of_below (aX (af y))).trans ce2)⟩,by simp[WS];omega⟩
    .have cl1:j=n:=by omega
     have cx9:=aa OD;have SB:=aa KM;have SM:=aa G8;have cx8:=aa cl1;clear OD KM G8 cl1;go_wp2_with fail
     refine⟨⟨k+1,by omega,by go_num,?_,(jI.out.trans (Y.out.mono (bo F (bo D.out.size X.out.1)))).trans SB.out,(X.out.trans (mF.of_below Y.out)).trans SM.out⟩,by simp[WS];omega⟩;have h:=cx9.out;rw[cx8.out,<-V.out,List.take_length] at h;exact h
  .have tt:k=5:=by omega
   subst tt;go_wp2_with fail
   go_end0
   rw[en9] at OE;exact⟨rfl,OE,(D.out.mono F).trans kR,(mF.of_below D.out).trans Oy⟩
def eq4:(Tryz.prog.info? 9).map (λi=>(i.zero,i.size,i.bytes))=Ws (Ws (WM ⟨#[]⟩),1,16):=aC
def N7 (B ob:Nat) (pre:List ak) (W:Wu):Prop:= ∃u,W.heap[ob]? =Ws (Yd #[u] 23 (0,0))/\W.ownsRow B 9 1 u pre.length (pre.map λs=>WM (bs s))/\(∃A n c,u=Yb A n c)
def Y6 {w:Wu} {base e:Nat} {size:Nat} {v:Wv} {n:Nat} {xs:List Wv} (h:w.ownsRow base e size v n xs) {b:Nat} {C:Array Wv} {t:WQ} {f:Nat×Nat} (hb:w.heap[b]? =Ws (Yd C t f)) (ht: ¬t=e): ∀k,v.ownBlock=Ws k->¬b=k:=λk hk e'=>by exact ar9
def eq5 (B ob:Nat) (I:B<=ob) (pre:List ak) (s:ak) (kd n:Int) (W:Wu) (hJ:N7 B ob pre W) (hl:pre.length<1000000):
 WJ WH 224 #[bs s,kd,n,aj ob] W λe D=>e=Xz (Yc Ww)/\N7 B ob (pre++[s]) D/\Below B W D/\mF ob W D:=by
 obtain⟨u,iT,bA,⟨A,nn,c,rfl⟩⟩:=hJ;have ar:=blk_lt iT;have c0:W.cell? ob=Ws (Yb A nn c):=ah iT rfl;obtain⟨i0,hi,cJ,ba,bd⟩:=XU eq4;have sW:=aa iT;have HO:=aa bA;have aO: ¬ob=W.heap.size:=Yi;have V:=aa (aq iT (ae (af W) (Yd #[bs s] 9)));have O:=aa (bA.alloc (Yd #[bs s] 9));clear iT bA;simp only[aj];go_enter func224,ntmps224
 go_wp2_with(at_builtin;refine wpList_append_own _ rfl (.tmp 8) (.tmp 10) _ rfl B 9 i0 _ 1 16 underlying23 hi cJ ba bd rfl (by decide) _ pre.length (pre.map λs=>Value.string (bs s)) rfl (HO.out.alloc _) ⟨W.heap.size,0,none⟩ 1 1 [.string (bs s)] rfl rfl (mw rfl) (by simp[Value.oneCell']) (by simp[maxLen];omega) (by omega) (by simp;omega) ?_
             intro v' Z y F _;obtain⟨g,cap,cur,rfl,gj9,Hi,_⟩:=QA y Yi;have j:=iY V.out F (Y6 O.out V.out az);have Sw:=aa j;have f0:=cd j 0;have d0:=ah (o:=0) j rfl;have iX:=aa y;have z:=aa F;have U: ¬ob=g:=Y6 y j az g rfl;have jU:=blk_lt j;have G:=aa U;clear y F j Hi gj9 U)
 go_ret;have Y:Below B W Z:=(((XA B W).alloc Yi _).grown z.out bI (λk J=>(WL O.out k J).1));refine⟨rfl,⟨_,aZ Sw.out 0 _,?_,_,_,_,rfl⟩,Y.setCell (by dsimp only;exact I) _,?_,λi C t f h1 h2 h3=> ?_⟩
 .have h:=iX.out;have h':Z.ownsRow B 9 1 (.slice (some ⟨g,0,none⟩) (pre.length+1) cap) (pre++[s]).length ((pre++[s]).map λs=>Value.string (bs s)):=by
   rw[WG,Xb];exact h
  exact mu h' (λk J e=>by
   have:g=k:=by simpa[Xq] using J
   exact G.out Yi) _ _
 .show W.heap.size<=_;have:=Y.size;simp only[XD,Array.size_modify];have hg:=z.out.size;simp at hg;omega
 .refine lY ?_ h2;have X:(W.alloc (Yd #[bs s] 9)).heap[i]? =Ws (Yd C t f):=aq h1 (ae (af W) _);exact iY X z.out (Y6 O.out X h3)
def eq6 (m:aM) (v:MV) (w:Wu) (z:m.In w w v) (hl:(cG m).length<=1000000):
 WJ WH 146 #[Ye (m.cells v)] w λe w'=> ∃u,e=Xz u/\bG w' w' u (cG m)/\Below w w w':=by
 have y:=aa (λW (G:Below w w W) (iT:w.heap.size+1<W.heap.size) (X:N7 w.heap.size (w.heap.size+1) [] W)=>
  eq3 m v w (w.heap.size+1) 224 #[aj (w.heap.size+1)] (N7 w.heap.size (w.heap.size+1)) W (z.to G (ag _) (ag _)) G.size iT (WD func224 aC rfl)
   (λpre s kd n D Z hp=>eq5 _ _ (XR _) pre s kd n D Z Yi)
   (λpre D W3 ⟨u,g,j,Y⟩ I=>⟨u,aq g I,fS j I,Y⟩) X)
 obtain⟨⟨Sa,sc,hs,dh,bS⟩,⟨Fa,fc,cB,cr,cL⟩,⟨Ra,rc,hr,cM,cV⟩,⟨Ma,mc,hm,dd,cz⟩,⟨La,lc,eX,dt,di⟩,⟨Ia,ic,hi,ed,ez⟩,⟨Ua,uc,hu,dP,dq⟩⟩:=z.cells;refine at1 λHS=> ?_;refine ou λnV=> ?_;have J:=aa (λC s=>(sF w C #[Yb Wr 0 0] s 23).2);rw[HS.out] at y⊢
 unfold bm aj at y;clear z hl hs cB hr hm eX hi hu;go_enter func146,ntmps146;go_wp2_with(go_at_call 223;refine(y.out _ (ae (ae (af w) _) _) Yl ⟨_,J.out _ _,WX _ _ _ _,Wr,0,0,rfl⟩).m ?_;rintro e w2 ⟨rfl,⟨u,g,j,⟨A,n,c,rfl⟩⟩,F,V⟩;have d0:w2.cell? ⟨w.heap.size+1,0,Wr⟩=Ws (Yb A n c):=ah g rfl;have hz:=blk_lt g;have U:=aa j;have O:=aa F;clear g j F V)
 go_ret;refine⟨_,rfl,?_,(ae (ae (af w) _) _:Below w w _).trans O.out⟩;have h:=Sl.of_own U.out;unfold bG cD;rw[XB];exact h
def az5 {a b:Bool} (h:a=b):Xz (Value.bool a)=Xz (Yc b):=by rw[h]
def az6 (k:Nat) (w:Wu):aQ 126 #[k] w (WK Xr (bD k)):=by
 by_cases j:5<=k
 .have k1:(5:Int)<=(k:Int):=by omega
  by_cases y:k<=7
  .have z:(k:Int)<=7:=by omega
   have e:bD k=5:=by unfold bD;rw[if_pos ⟨j,y⟩]
   exact QC
  .have z: ¬(k:Int)<=7:=by omega
   by_cases c:10<=k
   .have g:(10:Int)<=(k:Int):=by omega
    have e:bD k=10:=by unfold bD;rw[if_neg Yi,if_pos c]
    exact QC
   .have g: ¬(10:Int)<=(k:Int):=by omega
    have e:bD k=k:=by unfold bD;rw[if_neg Yi,if_neg c]
    exact QC
 .have k1: ¬(5:Int)<=(k:Int):=by omega
  have g: ¬(10:Int)<=(k:Int):=Yi;have e:bD k=k:=by unfold bD;rw[if_neg Yi,if_neg Yi]
  exact QC
def az7 (k:Nat) (w:Wu):WJ WH 203 #[k] w λe w'=> ∃b,e=Xz (.func (.func 288) #[] #[aj b])/\w.heap.size<=b/\w'.heap[b]? =Ws (Yd #[k] 3 (0,0))/\Below w w w':=by
 refine ou λnV=> ?_;go_enter func203,ntmps203;go_wp2_with fail
 go_ret;exact⟨_,rfl,ag _,bQ w _,ae (af w) _⟩
def az8 (b k j:Nat) (w:Wu) (c:w.heap[b]? =Ws (Yd #[k] 3 (0,0))):aQ 288 #[j,aj b] w (Yc (Wt (j=k))):=by
 have g:w.cell? b=Ws (WK Xr k):=ah c rfl;simp only[aj];clear c;go_enter func288,ntmps288;go_wp2_with fail
 go_ret;refine⟨az5 ?_,af w⟩;rw[WU];simp;try omega
def az9 (k:Nat) (w:Wu):aQ 204 #[k] w (Yc (Wt (bD k=5))):=by
 have c:=aa (az6 k w);generalize bD k=s at c;go_enter func204,ntmps204;go_wp2_with(go_at_call 126;refine c.out.m ?_;rintro e j ⟨rfl,g⟩)
 go_ret;refine⟨az5 ?_,g⟩;rw[WU];simp;try omega
def QD (x:Nat×Nat):Value:=Ye #[x.1,x.2]
def ks (t:cO) (s:ak):Option Value:=(cY t s).map QD
def ba0 (t:cO) (s:ak): ∃k:Int,(ks t s).getD (Ye #[WK Xr 0,WK Xr 0])=Ye #[k,WK Xr (bC t s)]:=by
 unfold ks bC QD;cases cY t s with
 |none=>exact⟨0,rfl⟩
 |some x=>exact⟨x.1,rfl⟩
def Z0 (rb Mb:Nat) (t:cO) (v:Wv) (l:List ak) (w:Wu) (y:w.cell? rb=Ws (.map (Ws Mb))) (I:de lV w Mb (ks t)) (z:bG w w v l) (Y:l.length<=100000):
 WJ WH 48 #[aj rb,v] w λe w'=> ∃u,e=Xz u/\w'.ownsRow w.heap.size 3 1 u l.length ((l.map (bC t)).map λx=>WK .i64 x)/\Below w w w':=by
 have X:=bP _ _ y;obtain⟨A,n,c,rfl,hn,hc,iG⟩:=z.sk.form;refine L6 λi0 hi cJ ba bd=> ?_;have EF: ∀(a b:Wv) (w:Wu),(Instr.field 178 (Ye #[a,b]) 1).run WH w= .ok b w:=λ_ _ _=>by rfl
 have O:=aa y;have D:=aa I;have U:=aa z;have HN:=aa hn;simp only[aj];rw[hn];rw[hn] at Y;clear y I z hn;go_enter func48,ntmps48;go_wp2_with fail
 go_loopw [5,10] (λu i wr=> ∃k:Nat,k<=n/\i=WK Xr k/\wr.ownsRow w.heap.size 3 1 u k (((l.take k).map (bC t)).map λx=>WK .i64 x)/\Below w w wr) (λ_ i _=>n - (WS i).toNat)
 case atStart=>exact⟨0,bU _,rfl,WX _ _ _ _,af w⟩
 case round=>
  obtain⟨k,hk,rfl,bN,kR⟩:=hrel;by_cases ar:k<n
  .have dz:(0:Int)<=k:=by omega
   have bJ:(k:Int)<n:=Yi;obtain⟨s,hs⟩: ∃s,l[k]? =Ws s:=⟨_,Wy lU⟩;obtain⟨b,o,rfl,hb,bk⟩:=bG.cell (U.out.below kR (ag _)) hs;have wB:wr.cell? rb=Ws (.map (Ws Mb)):=(kR.cell (p:=rb) X).trans O.out;have jA:=aa (D.out.below kR (bq D.out.lt (ag _)));obtain⟨kq,Ln⟩:=ba0 t s;have g:=aa Ln;have J:=aa (show((l.take (k+1)).map (bC t)).map (λx=>WK .i64 x)=((l.take k).map (bC t)).map (λx=>WK .i64 x)++[WK Xr (bC t s)] from by rw[XJ,hs];simp)
   have j:=aa bN;have C:=aa kR;have Pl:=kR.size;generalize bC t s=q at g J;clear bN kR hs Ln;go_wp2_with first
    |(at_lookup;refine B3 rfl (.tmp 18) (.tmp 19) 108 false rfl 9 178 .string underlying108 underlying9 Do Mb (ks t) rfl jA.out s (.agg #[.int .i64 0,.int .i64 0]) rfl (zeroValue178 _) ?_
      rw[g.out];simp only[WW,if_false])
    |(at_builtin;refine wpList_append_own _ rfl (.tmp 14) (.tmp 22) _ rfl w.heap.size 3 i0 _ 1 8 underlying31 hi cJ ba bd rfl (by decide) _ k (((l.take k).map (bC t)).map λx=>Value.int .i64 x) rfl (j.out.alloc _) ⟨wr.heap.size,0,none⟩ 1 1 [.int .i64 q] rfl rfl (mw rfl) (by simp[Value.oneCell']) (by simp[maxLen];omega) (by omega) (by simp;omega) ?_
      intro v' w3 G F _;have Z:=aa G;have V:=aa (wS (j.out.alloc (Yd #[q] 3)) (ae C.out _) (ag _) F);clear G F)
   refine⟨⟨k+1,by omega,by go_num,?_,V.out⟩,by simp[WS];omega⟩;rw[J.out];exact Z.out
  .have qX:k=n:=by omega
   subst qX;have j:=aa bN;have C:=aa kR;clear bN kR;go_wp2_with fail
   go_ret;refine⟨_,rfl,?_,C.out⟩;have h:=j.out;rw[WY (by rw[HN.out];exact ag _)] at h;exact h
def addF (qb mb:Nat):Int->Option Value:=(aY (aY (aY (aY (aY (aY (aY (aY (aY (aY (λ_=>Wr) 0 (.func (.func 127) #[] #[aj mb])) 1 (.func (.func 128) #[] #[aj mb])) 2 (.func (.func 129) #[] #[aj mb])) 3 (.func (.func 130) #[] #[aj mb])) 4 (.func (.func 131) #[] #[aj mb])) 5 (.func (.func 132) #[] #[aj mb,aj qb])) 6 (.func (.func 134) #[] #[aj mb,aj qb])) 7 (.func (.func 135) #[] #[aj mb,aj qb])) 8 (.func (.func 136) #[] #[aj mb])) 9 (.func (.func 137) #[] #[aj mb]))
def ex9 (qb mb:Nat) {k:Int} (h: ¬(0<=k/\k<=9)):addF qb mb k=none:=by unfold addF aY;repeat rw[if_neg Yi]
def ey0 (rb:Nat) (w:Wu):
 WJ WH 46 #[aj rb] w λe w'=> ∃M qb mb,e=Xz (.map (Ws M))/\de iO w' M (addF qb mb)/\w.heap.size<=qb/\w.heap.size<=mb/\w.heap.size<=M/\
  w'.heap[qb]? =Ws (Yd #[aj rb] 107 (0,0))/\w'.heap[mb]? =Ws (Yd #[Yf (Ws (rb 1 Wr))] 182 (0,0))/\Below w w w':=by
 refine tP λlM=> ?_;refine ou λnV=> ?_;simp only[aj];go_enter func46,ntmps46;go_upto_region 2 with (fail)
 refine cP (λW=>Below w w W/\W.heap[w.heap.size]? =Ws (Yd #[Yf (Ws rb)] 107 (0,0))/\W.heap[w.heap.size+1]? =Ws (Yd #[Yf (Ws (rb 1 Wr))] 182 (0,0))) ⟨by first|exact ae (ae (af w) _) _|exact cF (ae (ae (af w) _) _) Yl _,(sF w _ _ _ _).1,(sF w _ _ _ _).2⟩ ?_;intro c ⟨J,g,C⟩;have qD:=aa (show Below c c (c.alloc (.map #[] 0)) from ae (af c) _);have I:=aa J;have y:=aa g;have Tw:=aa C;clear J g C;go_wp2_with first
  |(refine ev rfl (Yg 7) (Yh (WK Xr 0)) (Yg 8) 113 (.inr rfl) 3 116 (.int Xr) underlying113 WI co c.heap.size (λ_=>Wr) rfl (de.made iO c) 0 (.func (.func 127) #[] #[aj (w.heap.size+1)]) rfl rfl ?_;intro w1 X O;have bf:=aa (O.1 _ _ qD.out (ag _));clear O)
  |(refine ev rfl (Yg 7) (Yh (WK Xr 1)) (Yg 9) 113 (.inr rfl) 3 116 (.int Xr) underlying113 WI co c.heap.size _ rfl X 1 (.func (.func 128) #[] #[aj (w.heap.size+1)]) rfl rfl ?_;intro w2 Y U;have aR:=aa (U.1 _ _ bf.out (ag _));clear U X)
  |(refine ev rfl (Yg 7) (Yh (WK Xr 2)) (Yg 10) 113 (.inr rfl) 3 116 (.int Xr) underlying113 WI co c.heap.size _ rfl Y 2 (.func (.func 129) #[] #[aj (w.heap.size+1)]) rfl rfl ?_;intro w3 Z V;have bg:=aa (V.1 _ _ aR.out (ag _));clear V Y)
  |(refine ev rfl (Yg 7) (Yh (WK Xr 3)) (Yg 11) 113 (.inr rfl) 3 116 (.int Xr) underlying113 WI co c.heap.size _ rfl Z 3 (.func (.func 130) #[] #[aj (w.heap.size+1)]) rfl rfl ?_;intro w4 uB kD;have bE:=aa (kD.1 _ _ bg.out (ag _));clear kD Z)
  |(refine ev rfl (Yg 7) (Yh (WK Xr 4)) (Yg 12) 113 (.inr rfl) 3 116 (.int Xr) underlying113 WI co c.heap.size _ rfl uB 4 (.func (.func 131) #[] #[aj (w.heap.size+1)]) rfl rfl ?_;intro w5 pT jm;have bY:=aa (jm.1 _ _ bE.out (ag _));clear jm uB)
  |(refine ev rfl (Yg 7) (Yh (WK Xr 5)) (Yg 13) 113 (.inr rfl) 3 116 (.int Xr) underlying113 WI co c.heap.size _ rfl pT 5 (.func (.func 132) #[] #[aj (w.heap.size+1),aj w.heap.size]) rfl rfl ?_;intro w6 A xM;have cK:=aa (xM.1 _ _ bY.out (ag _));clear xM pT)
  |(refine ev rfl (Yg 7) (Yh (WK Xr 6)) (Yg 14) 113 (.inr rfl) 3 116 (.int Xr) underlying113 WI co c.heap.size _ rfl A 6 (.func (.func 134) #[] #[aj (w.heap.size+1),aj w.heap.size]) rfl rfl ?_;intro w7 pU kS;have iL:=aa (kS.1 _ _ cK.out (ag _));clear kS A)
  |(refine ev rfl (Yg 7) (Yh (WK Xr 7)) (Yg 15) 113 (.inr rfl) 3 116 (.int Xr) underlying113 WI co c.heap.size _ rfl pU 7 (.func (.func 135) #[] #[aj (w.heap.size+1),aj w.heap.size]) rfl rfl ?_;intro w8 F xN;have gW:=aa (xN.1 _ _ iL.out (ag _));clear xN pU)
  |(refine ev rfl (Yg 7) (Yh (WK Xr 8)) (Yg 16) 113 (.inr rfl) 3 116 (.int Xr) underlying113 WI co c.heap.size _ rfl F 8 (.func (.func 136) #[] #[aj (w.heap.size+1)]) rfl rfl ?_;intro w9 G oF;have lh:=aa (oF.1 _ _ gW.out (ag _));clear oF F)
  |(refine ev rfl (Yg 7) (Yh (WK Xr 9)) (Yg 17) 113 (.inr rfl) 3 116 (.int Xr) underlying113 WI co c.heap.size _ rfl G 9 (.func (.func 137) #[] #[aj (w.heap.size+1)]) rfl rfl ?_;intro AA D xL;have z:=aa (xL.1 _ _ lh.out (ag _));clear xL G;have j:=aa D;clear D)
 go_ret;exact⟨_,w.heap.size,w.heap.size+1,rfl,j.out,ag _,XR _,I.out.size,aq y.out z.out,aq Tw.out z.out,ai I.out z.out⟩
def yH {a b:Bool} (h:a=b):Xz (Value.bool a)=Xz (Yc b):=by rw[h]
def ez8 (n:Nat) (w:Wu):aQ 238 #[n] w (Yc (Wt (n=0))):=by go_enter func238,ntmps238;exact QH
def ew3 (n:Nat) (w:Wu):aQ 251 #[n] w (Yc (Wt (1<=n)&&Wt (n<=7))):=by
 by_cases g:1<=n
 .have c:decide ((1:Int)<=(n:Int))=true:=by simp;omega
  go_enter func251,ntmps251;exact QH
 .have c:decide ((1:Int)<=(n:Int))=false:=by simp;omega
  go_enter func251,ntmps251;exact QH
def Z6:Int->Option Value:=aY (aY (aY (λ_=>Wr) 2 (WM ⟨#[114,97,99,107]⟩)) 3 (WM ⟨#[102,101,101,100]⟩)) 4 (WM ⟨#[115,105,116,101]⟩)
def BM (n:Nat):ak:=if n=2 then[114,97,99,107] else if n=3 then[102,101,101,100] else if n=4 then[115,105,116,101] else[]
def ew4 (n:Nat):(Z6 n).getD (WM ⟨#[]⟩)=WM (bs (BM n)):=by
 unfold Z6 BM aY;by_cases c:n=2
 .subst c;rfl
 by_cases g:n=3
 .subst g;rfl
 by_cases j:n=4
 .subst j;rfl
 have y: ¬(n:Int)=2:=Yi;have z: ¬(n:Int)=3:=Yi;have A: ¬(n:Int)=4:=Yi;simp[c,g,j,y,z,A,bs]
def bb1 (n:Nat) (w:Wu):aQ 256 #[n] w (WM (bs (BM n))):=by
 refine tP λlM=> ?_;have c:=aa (ew4 n);generalize BM n=sd at c;go_enter func256,ntmps256;go_wp2_with first
  |(refine ev rfl (Yg 3) (Yh (WK Xr 2)) (Yh (WM ⟨#[114,97,99,107]⟩)) 292 (.inr rfl) 3 9 (.int Xr) underlying292 WI co w.heap.size (λ_=>Wr) rfl (de.made iO w) 2 (WM ⟨#[114,97,99,107]⟩) rfl rfl ?_;intro G z g)
  |(refine ev rfl (Yg 3) (Yh (WK Xr 3)) (Yh (WM ⟨#[102,101,101,100]⟩)) 292 (.inr rfl) 3 9 (.int Xr) underlying292 WI co w.heap.size _ rfl z 3 (WM ⟨#[102,101,101,100]⟩) rfl rfl ?_;intro I A j)
  |(refine ev rfl (Yg 3) (Yh (WK Xr 4)) (Yh (WM ⟨#[115,105,116,101]⟩)) 292 (.inr rfl) 3 9 (.int Xr) underlying292 WI co w.heap.size _ rfl A 4 (WM ⟨#[115,105,116,101]⟩) rfl rfl ?_;intro J C y;have D:=aa (y.1 _ _ (j.1 _ _ (g.1 _ _ (ae (af w) _) (ag _)) (ag _)) (ag _));have F:=aa C;clear z g A j C y)
  |(at_lookup;refine B3 rfl (.tmp 4) (.tmp 5) 292 false rfl 3 9 (.int .i64) underlying292 underlying3 co w.heap.size Z6 rfl F.out n (.string ⟨#[]⟩) rfl (zeroValue9 _) ?_
    rw[c.out];simp only[WW,if_false])
 go_ret;exact⟨rfl,D.out⟩
def ew5 (n:Nat) (w:Wu):aQ 255 #[n] w (Yc (Wt (2<=n)&&Wt (n<=4))):=by
 have c:=aa (bb1 n w)
 have g:=aa (show(!(bs (BM n)).toList.isEmpty)=(Wt (2<=n)&&Wt (n<=4)) from by
  rw[jr,gI];unfold BM;by_cases j:n=2
  .subst j;rfl
  by_cases y:n=3
  .subst y;rfl
  by_cases z:n=4
  .subst z;rfl
  rw[if_neg j,if_neg y,if_neg z];have:Wt (2<=n)=Ww\/Wt (n<=4)=false:=bI;rcases this with e|e<;>rw[e]<;>simp)
 generalize BM n=sd at c g;go_enter func255,ntmps255;go_wp2_with(go_at_call 256;refine c.out.m ?_;rintro e C ⟨rfl,A⟩)
 go_ret;exact⟨yH g.out,A⟩
def Z7 (n:Nat) (w:Wu):aQ 200 #[n] w (Yc (!Wt (n<=1048576))):=by have c:Wt ((n:Int)<0)=false:=Yl;go_enter func200,ntmps200;exact QH
def Z9 (s:ak) (w:Wu) (j:fD w):aQ 202 #[bs s] w (Yc (!br s)):=by
 have c:=aa (Y8 s w j);generalize br s=r at c;go_enter func202,ntmps202;go_wp2_with(go_at_call 147;refine c.out.m ?_;rintro e y ⟨rfl,g⟩)
 go_ret;exact⟨rfl,g⟩
end
end Go.Proofs.YtklfdkdebgfmiaaGreatDoor
