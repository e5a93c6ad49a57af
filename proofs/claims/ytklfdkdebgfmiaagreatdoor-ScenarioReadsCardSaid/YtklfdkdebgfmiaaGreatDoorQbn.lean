/- A part of the proof. -/
import Derived.Test.YtklfdkdebgfmiaaGreatDoorQbk
set_option linter.defProp false
set_option linter.unusedVariables false
set_option linter.unusedSimpArgs false
set_option maxRecDepth 100000
set_option maxHeartbeats 32000000
open Option renaming none->Wr,some->Ws
open Decidable renaming decide->Wt
open Go renaming World->Wu,Value->Wv,Calls->WJ,TypeId->WQ,maxLen->Xe,undef->XE,Oper->XH,execOp->XX,Addr->X8
open Bool renaming false->Ww,true->Wz
open Go.RowKit renaming Hid->WA
open Go.Lib renaming itoa->WB,decDigits->WV
open And renaming intro->WE
open Go.Proofs.Tryz renaming prog->WH
open Go.Value renaming int->WK,string->WM,slice->Yb,bool->Yc,agg->Ye,pointer->Yf
open Go.Instr renaming lookup->WT
open Go.IntKind renaming i64->Xr
open Go.Region renaming wanted->Xy
open Go.Ending renaming returned->Xz
open Go.Obj renaming cells->Yd
open Go.Operand renaming tmp->Yg
namespace Go.Proofs.YtklfdkdebgfmiaaGreatDoor
section
open Go Go.RowKit Go.MapKept Go.Proofs.Tryz
def ey1 (rb mb:Nat) (d:au) (z y A:Option X8) (rn I G F n c:Nat) (C:Array Wv) (T:WQ) (u:Wv) (w:Wu) (g:w.heap[rb]? =Ws (Yd C T (0,0))) (D:C[10]? =Ws u)
 (hm:w.heap[mb]? =Ws (Yd #[Yf (Ws (rb 1 Wr))] 182 (0,0))):
 WJ WH 137 #[Ye #[d.kind,bs d.name,Yb z rn I,Yb y G F,d.by_,Yc d.always],Yb A n c,aj mb] w λe w'=>(∃v,e=Xz v)/\w'.heap[rb]? =Ws (Yd (C.setIfInBounds 10 (WK Xr d.by_)) T (0,0))/\aF w.heap.size rb w w':=by
 have O:=blk_lt g;have j:=aZ g 10 (WK Xr d.by_);have U:w.cell? mb=Ws (Yf (Ws (rb 1 Wr))):=ah hm rfl;have V:w.cell? (rb 10 Wr)=Ws u:=ah g D;have X:=cd g 10;have nQ:=blk_lt hm;have Y: ¬rb=w.heap.size:=Yi;have Z: ¬mb=w.heap.size:=Yi;have J:=aa j;simp only[aj];clear g hm j;go_enter func137,ntmps137;go_wp2_with fail
 go_end0
 refine⟨⟨_,rfl⟩,aq J.out (ae (af _) _),?_⟩;exact aF.alloc (aF.set (aF.refl _ _ _) (.inl rfl) _) (ag _) _
def ey2 (rb mb ab y qb g:Nat) (d:au) (RA:Option X8) (rn rc F U n c:Nat) (k0 k1 G:Int) (C:Array Wv) (T:WQ) (u7 u8 u9:Wv) (w:Wu) (hr:w.heap[rb]? =Ws (Yd C T (0,0))) (h7:C[7]? =Ws u7) (h8:C[8]? =Ws u8) (h9:C[9]? =Ws u9)
 (hm:w.heap[mb]? =Ws (Yd #[Yf (Ws (rb 1 Wr))] 182 (0,0))) (gV: ¬mb=rb) (Vi: ¬ab=rb) (A: ¬qb=rb)
 (ha:w.cell? (ab y Wr)=Ws (WK Xr k0)) (uM:w.cell? (qb g Wr)=Ws (WK Xr k1)) (lP:w.cell? (qb (g+1) Wr)=Ws (WK Xr G)):
 WJ WH 136 #[Ye #[d.kind,bs d.name,Yb RA rn rc,Yb (Ws (qb g Wr)) (F+2) U,d.by_,Yc d.always],Yb (Ws (ab y Wr)) (n+1) c,aj mb] w λe w'=>(∃v,e=Xz v)/\w'.heap[rb]? =Ws (Yd (((C.setIfInBounds 7 (WK Xr k0)).setIfInBounds 8 (WK Xr k1)).setIfInBounds 9 (WK Xr G)) T (0,0))/\aF w.heap.size rb w w':=by
 have Lq:=blk_lt hr;have nQ:=blk_lt hm;have O6:=bP _ _ ha;have X:=bP _ _ uM;simp only[aj];go_enter func136,ntmps136;go_upto_region 1 with (fail)
 refine cP (λW=>Below w w W/\W.heap[w.heap.size]? =Ws (Yd #[d.kind,bs d.name,Yb RA rn rc,Yb (Ws (qb g Wr)) (F+2) U,d.by_,Yc d.always] 96 (0,0))) ⟨ae (af w) _,bQ w _⟩ ?_;intro W1 ⟨aU,cS⟩;have V:W1.cell? (w 3 Wr)=Ws (Yb (Ws (qb g Wr)) (F+2) U):=ah cS rfl;refine B7 λgE c0=> ?_;have I:W1.cell? (ab y Wr)=Ws (WK Xr k0):=(aU.cell (p:=ab y Wr) O6).trans ha;have J:W1.cell? (qb g Wr)=Ws (WK Xr k1):=(aU.cell (p:=qb g Wr) X).trans uM;have O:W1.cell? (qb (g+1) Wr)=Ws (WK Xr G):=(aU.cell (p:=qb (g+1) Wr) X).trans lP;have r7:W1.cell? (rb 7 Wr)=Ws u7:=ah gE h7;have r8:W1.cell? (rb 8 Wr)=Ws u8:=ah gE h8;have r9:W1.cell? (rb 9 Wr)=Ws u9:=ah gE h9;have z7:=cd gE 7;have z8:=cd gE 8;have z9:=cd gE 9;have tE:mb<W1.heap.size:=bq nQ aU.size;have Z:ab<W1.heap.size:=bq O6 aU.size;have D:qb<W1.heap.size:=bq X aU.size;have gF:=blk_lt cS;have Y: ¬w.heap.size=rb:=Yi;have uD:(0:Int)<(F:Int)+2:=Yi;have ap:(1:Int)<(F:Int)+2:=Yi;have aT:=aa aU;have pB:=aa gE;clear aU cS gE hr hm ha uM lP h7 h8 h9;go_wp2_with fail
 refine pE (S:=λw'=>w'.cell? mb=Ws (Yf (Ws (rb 1 Wr)))/\w'.cell? (w 3 Wr)=Ws (Yb (Ws (qb g Wr)) (F+2) U)/\w'.cell? (ab y Wr)=Ws (WK Xr k0)/\w'.cell? (qb g Wr)=Ws (WK Xr k1)/\w'.cell? (qb (g+1) Wr)=Ws (WK Xr G)) 23 (by exact⟨c0,V,I,J,O⟩) λhS=> ?_;iterate 16 refine mC 23 5 ?_
 refine dY 16 λK z=> ?_;go_simp;refine z.out _ _ (by refine(fun(j:aF W1.heap.size rb W1 _)=>⟨(j.cell 0 tE gV).trans c0,(j.cell 3 gF Y).trans V,(j.cell y Z Vi).trans I,(j.cell g D A).trans J,(j.cell (g+1) D A).trans O⟩) (aF.set (aF.refl _ _ W1).drew (.inl rfl) _)) (λhS=> ?_);clear z;refine aG ?_;iterate 2 refine mC 23 4 ?_
 refine dY 19 λK z=> ?_;go_simp;refine z.out _ _ (by refine(fun(j:aF W1.heap.size rb W1 _)=>⟨(j.cell 0 tE gV).trans c0,(j.cell 3 gF Y).trans V,(j.cell y Z Vi).trans I,(j.cell g D A).trans J,(j.cell (g+1) D A).trans O⟩) (aF.set (aF.set (aF.refl _ _ W1).drew (.inl rfl) _) (.inl rfl) _)) (λhS=> ?_);clear z;refine aG ?_;iterate 2 refine mC 23 3 ?_
 refine dY 22 λK z=> ?_;go_simp;refine z.out _ _ (by refine(fun(j:aF W1.heap.size rb W1 _)=>⟨(j.cell 0 tE gV).trans c0,(j.cell 3 gF Y).trans V,(j.cell y Z Vi).trans I,(j.cell g D A).trans J,(j.cell (g+1) D A).trans O⟩) (aF.set (aF.set (aF.set (aF.refl _ _ W1).drew (.inl rfl) _) (.inl rfl) _) (.inl rfl) _)) (λhS=> ?_);clear z;refine aG ?_;refine oQ ?_;go_wp2_with fail
 go_end0
 refine⟨⟨_,rfl⟩,aZ (aZ (aZ pB.out 7 _) 8 _) 9 _,?_⟩;exact(aF.of_below aT.out (ag _) aT.out.size).trans ((aF.set (aF.set (aF.set (aF.refl _ _ W1).drew (.inl rfl) _) (.inl rfl) _) (.inl rfl) _:aF W1.heap.size rb W1 _).mono aT.out.size)
def ew9 (d:au) (rv nv:Wv) (w:Wu) (hG:fD w) (fb ft L M N:Nat) (NM AL F:Bool) (wd:ByteArray) (eb:dp fb) (I:bG w w rv d.refs) (G:aW w w nv (d.nums.map λx:Nat=>(x:Int)))
 (hf: ∀pb,∃cap,yG pb d.kind=Ws (Ye #[wd,Yc NM,L,M,N,.func (.func fb) #[] #[],Yc AL,.func (.func ft) #[] cap])) (mf: ∀W,Below w w W->aQ fb #[d.by_] W (Yc F)) (U:d.always=Ww) (D:L<=d.refs.length) (am:d.refs.length<=M) (C:d.nums.length=N) (uE:F=Wz):
 aQ 125 #[Ye #[d.kind,bs d.name,rv,nv,d.by_,Yc d.always]] w (Yc ((Wt (L<=d.refs.length)&&(Wt (d.refs.length<=M)&&(Wt (d.nums.length=N)&&(F&&((AL|| !d.always)&&(if NM then br d.name else Wt (d.name=[])))))))
  &&d.refs.all br&&d.nums.all λn=>Wt (n<=1048576))):=by
 refine aa0 λmH HF sR nx=> ?_;have mN:=aa (λW (hW:Below w w W)=>Yy (R1 λs=>WM (bs s)) (R1.ab _) rv d.refs 202 #[] (jg d.refs λs=> !br s) W ((I.below hW (ag _)).more hW.size).sk (WD func202 aC rfl)
  (λj x cs A hx Z z _=>by rw[eW hx];unfold R1 at z;subst z;exact Z9 x A (hG.step (ai hW Z))))
 have sU:=aa (λW (hW:Below w w W)=>Z3 (R1 (WK .i64)) (R1.ab _) nv (d.nums.map λx:Nat=>(x:Int)) 200 #[] (jg (d.nums.map λx:Nat=>(x:Int)) λn=> !Wt (n<=1048576)) W ((G.below hW (ag _)).more hW.size).sk (WD func200 aC rfl)
  (λj x cs A hx Z z _=>by rw[eW hx];unfold R1 at z;subst z;obtain⟨y,hy,rfl⟩:=List.mem_map.1 (eD hx);have h:=Z7 y A;have e:Wt (y<=1048576)=Wt ((y:Int)<=1048576):=Ol;rw[e] at h;exact h))
 simp only[BF,bm] at mN sU;have X:(d.refs.any λs=> !br s)= !(d.refs.all br):=TL;have Y:((d.nums.map λx:Nat=>(x:Int)).any λn=> !Wt (n<=1048576))= !(d.nums.all λn=>Wt (n<=1048576)):=by exact aa1
 rw[X] at mN;rw[Y] at sU;have xr:=aa (show(bs d.name).toList.isEmpty=Wt (d.name=[]) from by rw[jr,gI];cases d.name<;>rfl);obtain⟨RA,rn,rc,rfl,eP,_,_⟩:=I.sk.form;obtain⟨NA,nn,nc,rfl,dQ,_,_⟩:=G.sk.form;rw[WF] at dQ;rw[eP,dQ];rw[eP] at D am;rw[dQ] at C;have k1: ¬(rn:Int)<(L:Int):=Yi;have k2: ¬(M:Int)<(rn:Int):=Yi;have k3:((nn:Int)!=(N:Int))=false:=bI;rw[decide_eq_true D,decide_eq_true am,decide_eq_true C,U];subst uE;clear D am C U;generalize br d.name=ni at nx;generalize Wt (d.name=[])=ne at xr;generalize d.refs.all br=ra at mN;generalize (d.nums.all λn=>Wt (n<=1048576))=na at sU;unfold dp at eb;clear I G hf mf X Y eP dQ hG;go_enter func125,ntmps125;go_upto_region 1 with (fail)
 refine cP (λW=>Below w w W/\W.heap[w.heap.size]? =Ws (Yd #[d.kind,bs d.name,Yb RA rn rc,Yb NA nn nc,d.by_,Yc Ww] 96 (0,0))) ⟨ae (af w) _,bQ w _⟩ ?_;intro W1 ⟨V,cS⟩;refine M4 λq0 ba cJ=> ?_;have aT:=aa V;have lq:=aa cS;clear V cS;go_cut [3,4] (λp q wx=>q=Yc Wz/\∃g,p=aj g/\W1.heap.size<=g/\Below W1 W1 wx/\∃cap,wx.heap[g]? =Ws (Yd #[wd,Yc NM,L,M,N,.func (.func fb) #[] #[],Yc AL,.func (.func ft) #[] cap] 212 (0,0)))
 case first=>exact bb3
 case rest=>
  obtain⟨rfl,g,rfl,jn,aV,cap,mD⟩:=hcut;have O:=aq lq.out aV;obtain⟨up,rT,uq,ur,ut,uu⟩:=jD O;obtain⟨zl,zm,GQ,GS,GT,GU,GV,GW⟩:=PR mD;have rH:=aa (ai aT.out aV);have Kd:=aa O;have Kc:=aa mD;clear O mD aV q0;simp only[aj]
  go_upto_region 4 with (first
   |(refine(sR.out _ rH.out).m ?_;rintro e w4 ⟨rfl,aS⟩;refine QK λdx jn oo mO mP=> ?_;have pF:w4.cell? (w 5 Wr)=Ws (Yc Ww):=ah dx rfl;have uv:w4.cell? ⟨g,1,Wr⟩=Ws (Yc NM):=ah jn rfl;have GX:w4.cell? ⟨g,6,Wr⟩=Ws (Yc AL):=ah jn rfl;have sQ:=aa (ai rH.out aS);have AU:=aa dx;clear aS dx jn up rT uq ur ut uu zl zm GQ GS GT GU GV GW))
  exact bb5
def bh7 (o:Option Nat) (k:Nat):Bool:=match o with|some j=>Wt (k=j)|none=>Wt (bD k=5)
def fT (k:Nat):List (Option Nat):=
 if k=2 then[Ws 0,Ws 1] else if k=3 then[Ws 2] else if k=4 then[Ws 0,Ws 0] else if k=8 then[Ws 0] else if k=10 then[Ws 5]
 else if k=11 then[Wr] else if k=12 then[Wr] else if k=16 then[Wr] else if k=13 then[Wr] else if k=14 then[Wr,Wr] else[]
def Rq (d:au):List (Option Nat):=fT d.kind++List.replicate (d.refs.length - (fT d.kind).length) (Ws 3)
def ZC (d:au):Rq d=fT d.kind++List.replicate (d.refs.length - (fT d.kind).length) (Ws 3):=rfl
def t_ (w:Wu) (u:Wv) (o:Option Nat):Prop:=match o with
 |some k=> ∃b,u= .func (.func 288) #[] #[aj b]/\w.heap[b]? =Ws (Yd #[k] 3 (0,0))
 |none=>u= .func (.func 204) #[] #[]
def ua (w w':Wu):Prop:= ∀(b:Nat) (C:Array Wv) (t:WQ) (z:Nat×Nat),w.heap[b]? =Ws (Yd C t z)->w'.heap[b]? =Ws (Yd C t z)
def ua.of_below {w w':Wu} (h:Below w w w'):ua w w':=λb C t z c=>aq c h
def ua.of_turns {enc:Int->Wv} {w w':Wu} {M:Nat} {f:Int->Option Wv} (y:de enc w M f) (h:jv w w' M):ua w w':=λb C t z g=>by
 have j: ¬b=M:=λe=>by subst e;obtain⟨l,hl,_⟩:=y;have c:w.heap[b]? =Ws (.map (bK 0 (da enc l)).toArray (da enc l).length):=hl;rw[g] at c;cases c
 rw[h.2.2 b j];exact g
def t_.keep {w w':Wu} {u:Wv} {o:Option Nat} (h:t_ w u o) (c:ua w w'):t_ w' u o:=by
 cases o with
 |none=>exact h
 |some k=>obtain⟨b,rfl,hb⟩:=h;exact⟨b,rfl,c _ _ _ _ hb⟩
def j_ (w:Wu) (B:Nat) (v:Wv) (fs:List (Option Nat)):Prop:=
 ∃us,w.ownsRow B 186 1 v fs.length us/\∀(i:Nat) u o,us[i]? =Ws u->fs[i]? =Ws o->t_ w u o
def fh9 {w w':Wu} {B:Nat} {e:WQ} {size:Nat} {v:Wv} {n:Nat} {xs:List Wv} (h:w.ownsRow B e size v n xs) (C:ua w w'):w'.ownsRow B e size v n xs:=by
 refine⟨h.1,?_⟩;rcases h.2 with D|⟨g,cap,c,j,y,z,A⟩
 .exact .inl D
 .exact .inr ⟨g,cap,c,j,y,C _ _ _ _ z,A⟩
def j_.keep {w w':Wu} {B:Nat} {v:Wv} {fs:List (Option Nat)} (h:j_ w B v fs) (c:ua w w'):j_ w' B v fs:=by obtain⟨us,h1,h2⟩:=h;exact⟨us,fh9 h1 c,λi u o g ho=>(h2 i u o g ho).keep c⟩
def j_.nil_ (w:Wu) (B:Nat):j_ w B (Yb Wr 0 0) []:=⟨[],WX _ _ _ _,λi u o h=>by simp at h⟩
def bh8: ∀(l g:List (Wv×Wv)) (i:Nat),bK i l=bK i g->l=g
 |[],[],_,_=>rfl
 |[],_::_,_,h=>by simp[bK] at h
 |_::_,[],_,h=>by simp[bK] at h
 |(a,b)::r,(c,d)::r',i,h=>by simp only[bK,List.cons.injEq] at h;obtain⟨h1,h2⟩:=h;injection h1 with j y;rw[bh8 r r' _ h2,j,y]
def de.uniq {w:Wu} {b:Nat} {f g:Int->Option Wv} (h:de iO w b f) (k:de iO w b g) (x:Int):f x=g x:=by
 obtain⟨l,h1,_,h3⟩:=h;obtain⟨l',k1,_,k3⟩:=k;have A:w.heap[b]? =Ws (.map (bK 0 (da iO l)).toArray (da iO l).length):=h1;have c:w.heap[b]? =Ws (.map (bK 0 (da iO l')).toArray (da iO l').length):=k1;rw[A] at c;injection c with e;injection e with e _;have j:=bh8 _ _ _ (List.toArray_inj e);have z:l=l':=by unfold da at j;refine List.map_inj_right (f:=λp:Int×Wv=>(iO p.1,p.2)) (λa b y=> ?_) |>.1 j;obtain⟨a1,a2⟩:=a;obtain⟨b1,b2⟩:=b;simp only[Prod.mk.injEq] at y;obtain⟨p,q⟩:=y;injection p with _ p;subst p q;rfl
 rw[h3,k3,z]
inductive FE where
 |mk|ex (s k:Nat)|sl (s:Nat) (fs:List (Option Nat))|ins (k s:Nat) (fs:List (Option Nat))|mv|fa|ld|lk|as_|no
def fi0:List FE:=
 .mk:: .ex 5 0:: .ex 6 1:: .sl 7 [Ws 0,Ws 1]:: .ins 2 7 [Ws 0,Ws 1]:: .ex 8 2:: .sl 9 [Ws 2]:: .ins 3 9 [Ws 2]::
 .ex 10 0:: .ex 11 0:: .sl 12 [Ws 0,Ws 0]:: .ins 4 12 [Ws 0,Ws 0]:: .ex 13 0:: .sl 14 [Ws 0]:: .ins 8 14 [Ws 0]::
 .ex 15 5:: .sl 16 [Ws 5]:: .ins 10 16 [Ws 5]:: .sl 17 [Wr]:: .ins 11 17 [Wr]:: .sl 18 [Wr]:: .ins 12 18 [Wr]:: .sl 19 [Wr]:: .ins 16 19 [Wr]::
 .sl 20 [Wr]:: .ins 13 20 [Wr]:: .sl 21 [Wr,Wr]:: .ins 14 21 [Wr,Wr]:: .mv:: .fa:: .ld:: .lk:: .as_::[]
def wd (i:Nat):FE:=fi0.getD i .no
def YD (B xb kd:Nat) (d:FE) (a:Act) (w:Wu):Prop:=match d with
 | .mk=> ∃M:Nat,a.tmps[4]? =Ws (.map (Ws M))
 | .ex s k=> ∃u,a.tmps[s]? =Ws u/\t_ w u (Ws k)
 | .sl s fs=> ∃v,a.tmps[s]? =Ws v/\j_ w B v fs
 | .ins k s fs=> ∃(M:Nat) (f:Int->Option Wv) (v:Wv),a.tmps[4]? =Ws (.map (Ws M))/\de iO w M f/\f (k:Int)=Ws v/\j_ w B v fs
 | .mv=> ∃(M:Nat) (f:Int->Option Wv),a.tmps[22]? =Ws (.map (Ws M))/\de iO w M f/\j_ w B ((f (kd:Int)).getD (Yb Wr 0 0)) (fT kd)
 | .fa=>a.tmps[23]? =Ws (Yf (Ws xb))
 | .ld=>a.tmps[24]? =Ws (WK Xr kd)
 | .lk=> ∃v,a.tmps[25]? =Ws v/\j_ w B v (fT kd)
 | .as_=> ∃v,a.tmps[3]? =Ws v/\j_ w B v (fT kd)
 | .no=>True
def Rr:FE->List Nat
 | .mk=>[4]| .ex s _=>[s]| .sl s _=>[s]| .ins _ _ _=>[4]| .mv=>[22]| .fa=>[23]| .ld=>[24]| .lk=>[25]| .as_=>[3]| .no=>[]
def Du {a:Act} {s t:Nat} (u:Wv) (h: ¬s=t):(a.put (Ws s) u).tmps[t]? =a.tmps[t]? :=by simp[Act.put,Array.getElem?_setIfInBounds_ne h]
def yI {a:Act} {s:Nat} (u:Wv) (h:s<a.tmps.size):(a.put (Ws s) u).tmps[s]? =Ws u:=by simp[Act.put,Array.getElem?_setIfInBounds_self_of_lt h]
def YD.other {B xb kd:Nat} {d:FE} {a:Act} {w w':Wu} (h:YD B xb kd d a w) (g:Below w w w') {s:Nat} (u:Wv) (j:(Rr d).contains s=Ww):YD B xb kd d (a.put (Ws s) u) w':=by
 have c:=ua.of_below g;have ne: ∀t,Rr d=[t]->(a.put (Ws s) u).tmps[t]? =a.tmps[t]? :=λt y=>Du u (λe=>by rw[y,e] at j;simp at j);cases d with
 |mk=>obtain⟨M,h1⟩:=h;exact⟨M,(ne 4 rfl).trans h1⟩
 |ex t k=>obtain⟨v,h1,h2⟩:=h;exact⟨v,(ne t rfl).trans h1,h2.keep c⟩
 |sl t fs=>obtain⟨v,h1,h2⟩:=h;exact⟨v,(ne t rfl).trans h1,h2.keep c⟩
 |ins k t fs=>obtain⟨M,f,v,h1,h2,h3,h4⟩:=h;exact⟨M,f,v,(ne 4 rfl).trans h1,h2.later g,h3,h4.keep c⟩
 |mv=>obtain⟨M,f,h1,h2,h3⟩:=h;exact⟨M,f,(ne 22 rfl).trans h1,h2.later g,h3.keep c⟩
 |fa=>exact(ne 23 rfl).trans h
 |ld=>exact(ne 24 rfl).trans h
 |lk=>obtain⟨v,h1,h2⟩:=h;exact⟨v,(ne 25 rfl).trans h1,h2.keep c⟩
 |as_=>obtain⟨v,h1,h2⟩:=h;exact⟨v,(ne 3 rfl).trans h1,h2.keep c⟩
 |no=>trivial
def Rs (k:Nat):FE->Bool
 | .ins j _ _=> !Wt (j=k)| .mv=>Ww|_=>Wz
def YD.stored {B xb kd:Nat} {d:FE} {a:Act} {w w':Wu} (h:YD B xb kd d a w) {M k:Nat} {f:Int->Option Wv} {v:Wv} (C:a.tmps[4]? =Ws (.map (Ws M))) (z:de iO w M f) (F:de iO w' M (aY f (k:Int) v)) (D:jv w w' M) (A:Rs k d=Wz):YD B xb kd d a w':=by
 have y:=ua.of_turns z D;cases d with
 |mk=>exact h
 |ex t j=>obtain⟨u,c,h2⟩:=h;exact⟨u,c,h2.keep y⟩
 |sl t fs=>obtain⟨u,c,h2⟩:=h;exact⟨u,c,h2.keep y⟩
 |ins j t fs=>
  obtain⟨M2,g,u,c,h2,h3,h4⟩:=h;rw[C] at c;injection c with c;injection c with c;injection c with c;subst c;have G: ¬j=k:=by simpa[Rs] using A
  refine⟨M,_,u,C,F,?_,h4.keep y⟩;rw[ao1 _ _ Yi,<-h2.uniq z];exact h3
 |mv=>cases A
 |fa=>exact h
 |ld=>exact h
 |lk=>obtain⟨u,c,h2⟩:=h;exact⟨u,c,h2.keep y⟩
 |as_=>obtain⟨u,c,h2⟩:=h;exact⟨u,c,h2.keep y⟩
 |no=>trivial
def FF:List Nat:=[2,3,4,8,10,11,12,16,13,14]
structure Dv (W0:Wu) (B xb kd:Nat) (t0 t1 t2:Wv) (ds:List Deferred) (a:Act) (w:Wu):Prop where
 size:a.tmps.size=37
 s0:a.tmps[0]? =Ws t0
 s1:a.tmps[1]? =Ws t1
 s2:a.tmps[2]? =Ws t2
 defers:a.defers=ds
 below:Below W0 W0 w
 big:B<=W0.heap.size
 map: ∀M:Nat,a.tmps[4]? =Ws (.map (Ws M))->W0.heap.size<=M/\∃f:Int->Option Wv,de iO w M f/\∀k:Nat,k∉FF->f (k:Int)=Wr
def Dv.put {W0:Wu} {B xb kd:Nat} {t0 t1 t2:Wv} {ds:List Deferred} {a:Act} {w w':Wu} (h:Dv W0 B xb kd t0 t1 t2 ds a w) (j:Below w w w') {s:Nat} (u:Wv) (c: ¬s=0/\¬s=1/\¬s=2/\¬s=4):Dv W0 B xb kd t0 t1 t2 ds (a.put (Ws s) u) w':=
 ⟨by simp[Act.put,h.size],(Du u c.1).trans h.s0,(Du u c.2.1).trans h.s1,(Du u c.2.2.1).trans h.s2,h.defers,ai h.below j,h.big,λM g=>by rw[Du u c.2.2.2] at g;obtain⟨h1,f,h2,h3⟩:=h.map M g;exact⟨h1,f,h2.later j,h3⟩⟩
def fe9 (d:au) (c:d.kind<17) (i k:Nat):bh7 ((fT d.kind).getD i (Ws 3)) k=fO d i k:=by obtain⟨kind,nm,rf,nu,b,al⟩:=d;dsimp only at c;have:kind=0\/kind=1\/kind=2\/kind=3\/kind=4\/kind=5\/kind=6\/kind=7\/kind=8\/kind=9\/kind=10\/kind=11\/kind=12\/kind=13\/kind=14\/kind=15\/kind=16:=Yi;rcases this with rfl|rfl|rfl|rfl|rfl|rfl|rfl|rfl|rfl|rfl|rfl|rfl|rfl|rfl|rfl|rfl|rfl<;>rcases i with _|_|i<;>rfl
def bi6 {d:au} {nm:Bool} {a b n:Nat} {x y:Bool} (h:iz d nm a b n x y=Wz):a<=d.refs.length/\d.refs.length<=b/\d.nums.length=n:=by unfold iz at h;simp only[WC,decide_eq_true_eq] at h;exact⟨h.1.1.1.1.1,h.1.1.1.1.2,h.1.1.1.2⟩
def oU {d:au} (h:bx d=Wz):d.kind<17/\(fT d.kind).length<=d.refs.length/\d.refs.length<=17/\d.nums.length<=4/\
 (d.kind=2->d.refs.length=2)/\(d.kind=3->d.refs.length=1/\d.nums.length=1)/\(d.kind=4->d.refs.length=2/\d.nums.length=1)/\(d.kind=5->d.nums.length=3)/\(d.kind=6->d.nums.length=4)/\(d.kind=7->d.nums.length=3)/\
 (d.kind=8->d.refs.length=1/\d.nums.length=2)/\(d.kind=13->2<=d.refs.length)/\(d.kind=14->d.refs.length=2)/\(10<=d.kind->d.nums.length<=1)/\(10<=d.kind->d.kind≠15->1<=d.refs.length):=by
 unfold bx at h;rw[WC,WC] at h;have h:=h.1.1;unfold je at h;obtain⟨kind,nm,rf,nu,b,al⟩:=d;dsimp only at h⊢
 split at h<;>first|(simp at h;done)|skip
 all_goals
  first
   |(rw[WC,WC] at h;obtain⟨h1,h2,h3⟩:=bi6 h.1.1)
   |obtain⟨h1,h2,h3⟩:=bi6 h
  dsimp only at h1 h2 h3;simp[fT];omega
def ff0 {d:au} (h:bx d=Wz) {i:Nat} (j:i<d.refs.length): ∃o,(Rq d)[i]? =Ws o/\∀k,bh7 o k=fO d i k:=by
 have g:=oU h;refine⟨(fT d.kind).getD i (Ws 3),?_,λk=>fe9 d g.1 i k⟩;rw[ZC];rcases Xk i (fT d.kind).length with c|c
 .rw[Xx c,WP,Wy c];rfl
 .rw[XZ c,WP,List.getElem?_eq_none c,List.getElem?_replicate,if_pos Yi];rfl
def ff1 {d:au} (h:bx d=Wz):(Rq d).length=d.refs.length:=by have c:=oU h;rw[ZC,WG,List.length_replicate];omega
def ff2 {t:cO} {d:au} {i:Nat} {s:ak} {r:List ak} (h:cY t s=Wr):kM t d i (s::r)=4:=by rw[kM,h]
def ff3 {t:cO} {d:au} {i:Nat} {s:ak} {r:List ak} {x:Nat×Nat} (h:cY t s=Ws x) (c:fO d i x.1=Ww):kM t d i (s::r)=7:=by rw[kM,h];simp[c]
def ff4 {t:cO} {d:au} {i:Nat} {s:ak} {r:List ak} {x:Nat×Nat} (h:cY t s=Ws x) (c:fO d i x.1=Wz):kM t d i (s::r)=kM t d (i+1) r:=by rw[kM,h];simp[c]
def bi7 {t:cO} {d:au} {e:Nat} (h:kM t d 0 d.refs=e) (c:e≠0):ea t d=e:=by unfold ea;simp[h,c]
def ff5 {t:cO} {d:au} (h:kM t d 0 d.refs=0) (c: ¬(jV d).Nodup):ea t d=5:=by unfold ea;simp[h,c]
def ff6 {t:cO} {d:au} (h:kM t d 0 d.refs=0) (g:(jV d).Nodup) (c:(d.kind=4\/d.kind=14)/\d.refs[0]? =d.refs[1]?):ea t d=2:=by unfold ea;simp[h,g,c]
def ff7 {t:cO} {d:au} (h:kM t d 0 d.refs=0) (g:(jV d).Nodup) (c: ¬((d.kind=4\/d.kind=14)/\d.refs[0]? =d.refs[1]?)):ea t d=0:=by unfold ea;simp only[h,g];simp[c]
section
variable {κ:Type} [DecidableEq κ] {enc:κ->Wv} {P:Program} {ops:Array XH} {o:XH} {a:Act} {w:Wu} {K:Act->Wu->Prop} {Q:Exit->Act->Wu->Prop} {E:Prop}
def oV (z:o.guard=Wr) (m x v:Operand) (t:WQ) (dg:o.op=Op.mapUpdate t m x v\/o.op=Op.insert t m x v)
 (g e:WQ) (d:TypeDesc) (C:P.underlying t=Ws (.map g e)) (A:P.underlying g=Ws d) (j:Dn d enc) (b:Nat) (f:κ->Option Wv) (hm:a.eval m= .map (Ws b)) (y:de enc w b f)
 (k:κ) (val:Wv) (hx:a.eval x=enc k) (hv:a.eval v=val)
 (c: ∀w',de enc w' b (aY f k val)->jv w w' b->K (a.put o.dst XE) w'):
 if Xy o (yielded ops a.tmps)=Wz then Oper.wp P o a w K Q else E:=by
 have D:Xy o (yielded ops a.tmps)=true:=by simp[Xy,z]
 rw[if_pos D];obtain⟨ob,eG,hM⟩:=P2 C A j y k val;unfold Oper.wp;have h4:=c _ hM (IW _ _ _);clear hM c;generalize ChangeMaps.setBlock w b ob=W at eG h4;exact Wj
def IN (D:o.guard=Wr) (m x:Operand) (t:WQ) (c:Bool) (y:o.op=Op.lookup t m x c)
 (h e:WQ) (d:TypeDesc) (G:P.underlying t=Ws (.map h e)) (F:P.underlying h=Ws d) (j:Dn d enc) (b:Nat) (f:κ->Option Wv) (hm:a.eval m= .map (Ws b)) (C:de enc w b f)
 (k:κ) (z:Wv) (hx:a.eval x=enc k) (O:(zeroValue e).run P w= .ok z w) (u:Wv) (I:(if c then .tuple #[(f k).getD z,Yc (f k).isSome] else(f k).getD z)=u)
 (A:K (a.put o.dst u) w):if Xy o (yielded ops a.tmps)=Wz then Oper.wp P o a w K Q else E:=by
 have J:Xy o (yielded ops a.tmps)=true:=by simp[Xy,D]
 rw[if_pos J];have g:=qm G F j C k c O;rw[I] at g;unfold Oper.wp;simp[XX,y,hm,hx,g,Result.andThen];exact A
def bi8 (j:o.guard=Wr) (t:WQ) (dg:o.op=Op.makeMap t Wr) (g: ∀w',de enc w' w (λ_=>Wr)->Below w w w'->K (a.put o.dst (.map (Ws w.heap.size))) w'):
 if Xy o (yielded ops a.tmps)=Wz then Oper.wp P o a w K Q else E:=by
 have y:Xy o (yielded ops a.tmps)=true:=by simp[Xy,j]
 rw[if_pos y];unfold Oper.wp;have c:(XX a.eval o).run P w= .ok (.value (.map (Ws w.heap.size))) (w.alloc (.map #[] 0)):=bz5;rw[c];exact g _ (de.made enc w) (ae (af w) _)
end
def vY (r q:Wv):Int->Option Value:=λk=>if k=5 then Ws r else if k=6 then Ws r else if k=13 then Ws q else Wr
def BN (r q:Wv) (k:Nat):Value:=if k=5\/k=6 then r else if k=13 then q else .slice Wr 0 0
def IP (r q:Wv) (k:Nat):(if(Ww:Bool)=Wz then Value.tuple #[(vY r q (k:Int)).getD (Yb Wr 0 0),Yc (vY r q (k:Int)).isSome] else(vY r q (k:Int)).getD (Yb Wr 0 0))=BN r q k:=by
 simp only[WW,if_false,vY,BN];by_cases g:k=5
 .subst g;simp
 .by_cases j:k=6
  .subst j;simp
  .by_cases c:k=13
   .subst c;simp
   .rw[if_neg Yi,if_neg Yi,if_neg Yi,if_neg Yi,if_neg c];rfl
def fc5 (r q:Wv) (k:Int):vY r q k=aY (aY (aY (λ_=>Wr) 5 r) 6 r) 13 q k:=by exact M7
def fc6 (r q:Wv) (k:Int):vY r q k=aY (aY (aY (λ_=>Wr) 5 r) 13 q) 6 r k:=by exact M7
def fc7 (r q:Wv) (k:Int):vY r q k=aY (aY (aY (λ_=>Wr) 6 r) 5 r) 13 q k:=by exact M7
def fc8 (r q:Wv) (k:Int):vY r q k=aY (aY (aY (λ_=>Wr) 6 r) 13 q) 5 r k:=by exact M7
def fc9 (r q:Wv) (k:Int):vY r q k=aY (aY (aY (λ_=>Wr) 13 q) 5 r) 6 r k:=by exact M7
def fd0 (r q:Wv) (k:Int):vY r q k=aY (aY (aY (λ_=>Wr) 13 q) 6 r) 5 r k:=by simp only[zV,vY]
def bi9 {w W:Wu} {d:au} {r q:Wv} (j: ¬d.kind=13) (h:bG w w r d.refs) (g:Below w w W):bG W W (BN r q d.kind) (jV d):=by
 unfold BN jV;by_cases c:d.kind=5\/d.kind=6
 .rw[if_pos c,if_pos c];exact(h.below g (ag _)).more g.size
 .rw[if_neg c,if_neg c,if_neg j,if_neg j];exact bG.nil_ _ _
def bj0 {w:Wu} {B sb g n c:Nat} {l:List ak} (U:0<n) (J:l.length=n) (h:bG w B (Yb (Ws (sb g Wr)) n c) l):bG w B (Yb (Ws (sb (g+1) Wr)) (n - 1) (c - 1)) (l.drop 1):=by
 obtain⟨A,c',he,h1,h2,h3⟩:=h;injection he with C D F;subst C F;simp only[WF] at D h1;refine⟨Ws (sb (g+1) Wr),c - 1,?_,?_,bo (Nat.sub_le _ _) h2,λz=> ?_⟩
 .simp only[WF,Xc];rw[J]
 .simp only[WF,Xc];omega
 .obtain⟨b,o,y,hb,hc⟩:=h3 (λe=>z (by
   rw[List.map_eq_nil_iff,List.map_eq_nil_iff] at e;rw[e];rfl))
  injection y with y;injection y with G I _;subst G I;refine⟨sb,g+1,rfl,hb,λj u O=> ?_⟩;rw[show g+1+j=g+(1+j) by omega];refine hc (1+j) u ?_;rw[<-O];simp only[WN,List.getElem?_drop]
def fd1 {w W:Wu} {d:au} {sb y rn j:Nat} (C:0<rn) (D:d.refs.length=rn) (h:bG w w (Yb (Ws (sb y Wr)) rn j) d.refs) (z:Below w w W):
 bG W W (BN (Yb (Ws (sb y Wr)) rn j) (Yb (Ws (sb (y+1) Wr)) (rn - 1) (j - 1)) d.kind) (jV d):=by
 have A:=(h.below z (ag _)).more z.size;unfold BN jV;by_cases c:d.kind=5\/d.kind=6
 .rw[if_pos c,if_pos c];exact A
 .rw[if_neg c,if_neg c];by_cases g:d.kind=13
  .rw[if_pos g,if_pos g];exact bj0 C D A
  .rw[if_neg g,if_neg g];exact bG.nil_ _ _
def fd2 (l:List ak):((l.map bs).map λx=>x.data.toList)=l:=by
 rw[XB]
 conv=>rhs;rw[<-List.map_id l]
 refine List.map_congr_left λx _=> ?_;show(bs x).data.toList=x;exact gI x
def fl1 (d:au):(jV d).length<=d.refs.length:=by
 unfold jV;split
 .exact ag _
 .split
  .rw[Xc];omega
  .simp
def fl2 (B:Nat) (v:Wv) (j:List (List UInt8)) (w:Wu) (h:w.ownsRow B 9 1 v j.length (j.map Go.Proofs.encStr)) (I:j.length<=1000000):
 WJ WH 141 #[v] w λe w'=> ∃A c,e=Xz (Yb A (Lib.compact j).length c)/\Below B w w':=by
 by_cases D:j.length=0
 .have F:j=[]:=List.eq_nil_of_length_eq_zero D;subst F;obtain⟨p,c,rfl⟩: ∃p c,v= .slice p 0 c:=by
   rcases h.2 with ⟨y,_⟩|⟨g,cap,z,y,_⟩
   .exact⟨Wr,0,y⟩
   .exact⟨_,_,y⟩
  refine(slices_Compact_string_empty p c w).m ?_;rintro e w' ⟨rfl,rfl⟩;exact⟨p,c,by simp[Lib.compact,Lib.compactUpTo],XA _ _⟩
 .obtain⟨g,cap,rfl,gL,oH,gT,ck1,ck2,hH⟩:=Go.Lib.holds_of_ownsRow h (by
   intro e;have:=h.2;rw[e] at this;rcases this with ⟨_,G⟩|⟨g,cap,z,y,_⟩
   .exact D G
   .cases y)
  have C:=(WL h g rfl).1;refine(slices_Compact_string g 0 cap j w hH Yi vZ).m ?_;rintro e w' ⟨rfl,q,rfl⟩;refine⟨_,_,rfl,?_⟩;exact Go.Lib.below_putRow (XA B w) C
end
section
open Go Go.RowKit Go.MapKept Go.ChangeMaps Go.Proofs.Tryz
def Pm {u:Nat} (h:u<10):WV u=[UInt8.ofNat (48+u)]:=Lib.decDigits_one h
def bg2 {u:Nat} (h: ¬u<10):WV u=WV (u / 10)++[UInt8.ofNat (48+u%10)]:=by
 conv=>lhs;rw[WV]
 rw[dif_neg h]
def fj3:WB 0=[48]:=Ob
def fj4:WB 1=[49]:=Ob
def ZL:WB 2=[50]:=Ob
def fj5:WB 5=[53]:=Ob
def fj6:WB (-1)=[45,49]:=by rw[WB,if_pos az];exact congrArg (45:: ·) (Pm az)
def fj7:WB 128=[49,50,56]:=by rw[WB,if_neg az];show WV 128=_;rw[bg2 az,show 128 / 10=12 from rfl,bg2 (u:=12) az,show 12 / 10=1 from rfl,Pm az];rfl
def Ip:aP:={cj 5 with a:=2,ss:=[128,0]}
def vk:aP:={cj 10 with a:=1,b:=2,ok:=2,key:=bs [107],val:=5,old:= -1}
def bg3:List UInt8:=[99,114,97,115,104,32,50,32,49,50,56,32,48]
def bg4:List UInt8:=[114,101,113,117,101,115,116,32,49,32,50,32,99,97,115,32,107,32,45,49,32,53]
def bg5:List UInt8:=[116,105,99,107,32,48,50]
def fj8:fE Ip=true:=az
def fj9:fE vk=true:=az
def fk0:eS Ip=bg3:=by have c:eO Ip=[WB 2,WB 128,WB 0]:=rfl;rw[eS,c,ZL,fj7,fj3];rfl
def fk1:eS vk=bg4:=by have c:eO vk=[WB 1,WB 2,[99,97,115],[107],WB (-1),WB 5]:=rfl;rw[eS,c,fj4,ZL,fj5,fj6];rfl
def fk2:vk.Num:=⟨⟨by decide,by decide⟩,⟨by decide,by decide⟩,aK.zero,⟨by decide,by decide⟩,⟨by decide,by decide⟩,by simp[vk,cj],by simp[vk,cj]⟩
def fk3:km (cW (bs bg4))=Ws vk:=by rw[<-fk1];exact aj0 vk fk2 fj9
def fk4:km (cW (bs bg5))=none:=by
 have j:cW (bs bg5)=[dV 3,[48,50]].map bs:=by
  have:=ai2 (dV 3) [[48,50]] (by
   intro x hx;simp only[Xj,Xi,or_false] at hx;rcases hx with rfl|rfl
   .exact ai8 3 az
   .intro c g;simp only[Xj,Xi,or_false] at g;rcases g with rfl|rfl<;>decide)
  exact this
 rw[j];have y:bL (bs [48,50])=none:=by have e:Lib.atoiAll (bs [48,50]).data.toList= .ok 2:=az;unfold bL;rw[e];simp only;rw[ZL,if_neg az]
 have z:iB 3 [bs [48,50]]=none:=by
  unfold iB;repeat rw[if_neg az]
  unfold mz gQ;rw[if_pos Yl];simp[dU,y]
 simp only[WO,XS,km,Qs 3 az,Option.bind_some,z];rfl
def bg6 {s:ByteArray} {y:aP} (h:km (cW s)=Ws y) (G:s.size<=100000) (w:Wu) (D:cH w):
 WJ WH 10 #[s] w λe w'=> ∃c nm j g A z,e=Xz (.tuple #[Ye (y.cells (Yb c nm j) (Yb g A z)),WK Xr 0])/\y.In w' w' (Yb c nm j) (Yb g A z)/\Below w w w'/\j8 w.heap.size (Yb c nm j)/\j8 w.heap.size (Yb g A z):=
 (aw4 s w D G).mono λe w' ⟨F,C⟩=>by rw[h] at C;obtain⟨m,t,he,hI,cr,cL⟩:=C;obtain⟨c,nm,j,rfl,_,_,_⟩:=hI.ms.form;obtain⟨g,A,z,rfl,_,_,_⟩:=hI.ss.form;exact⟨_,_,_,_,_,_,he,hI,F,cr,cL⟩
def fk5 {s:ByteArray} {y:aP} (h:km (cW s)=Ws y) (I:s.size<=100000) (w:Wu) (C:cH w):
 WJ WH 10 #[s] w λe w'=> ∃c nm j g A z,e=Xz (.tuple #[Ye (y.cells (Yb c nm j) (Yb g A z)),WK Xr 0])/\y.In w' w' (Yb c nm j) (Yb g A z)/\Below w w w':=
 (bg6 h I w C).mono λe w' ⟨c,nm,j,g,A,z,G,D,F,_⟩=>⟨c,nm,j,g,A,z,G,D,F⟩
def bg7 {s:ByteArray} (h:km (cW s)=Wr) (y:s.size<=100000) (w:Wu) (g:cH w):
 aQ 10 #[s] w (.tuple #[Ye #[WK Xr 0,WK Xr 0,WK Xr 0,WK Xr 0,WK Xr 0,WM ⟨#[]⟩,WK Xr 0,WK Xr 0,Yb Wr 0 0,Yb Wr 0 0],WK Xr 3]):=
 (aw4 s w g y).mono λe w' ⟨j,c⟩=>by rw[h] at c;exact⟨c,j⟩
def fk6 {W:Wu} {h:Nat} (c:W.cell? h=Ws (WK Xr 128)) (g:W.cell? (h 1 Wr)=Ws (WK Xr 0)) (j:h<W.heap.size):Ip.In W W (Yb Wr 0 0) (Yb (Ws (h 0 Wr)) 2 2):=
 ⟨⟨by decide,by decide⟩,⟨by decide,by decide⟩,aK.zero,aK.zero,aK.zero,bU _,aK.zero,aK.zero,aW.nil_ _ _,aW.of2 c g j ⟨by decide,by decide⟩ aK.zero⟩
def fk7 (W:Wu):vk.In W W (Yb Wr 0 0) (Yb Wr 0 0):=
 ⟨⟨by decide,by decide⟩,⟨by decide,by decide⟩,⟨by decide,by decide⟩,aK.zero,⟨by decide,by decide⟩,by decide,⟨by decide,by decide⟩,⟨by decide,by decide⟩,aW.nil_ _ _,aW.nil_ _ _⟩
def fk8 (h:Nat) (W:Wu) (y:cH W) (g:W.cell? h=Ws (WK Xr 128)) (j:W.cell? (h 1 Wr)=Ws (WK Xr 0)) (z:h<W.heap.size):
 aQ 11 #[Ye #[WK Xr 5,WK Xr 2,WK Xr 0,WK Xr 0,WK Xr 0,WM ⟨#[]⟩,WK Xr 0,WK Xr 0,Yb Wr 0 0,Yb (Ws (h 0 Wr)) 2 2]] W (WM ⟨#[99,114,97,115,104,32,50,32,49,50,56,32,48]⟩):=by
 have c:=an0 Ip (Yb Wr 0 0) (Yb (Ws (h 0 Wr)) 2 2) W y (fk6 g j z) az az;have e:IS Ip=bg3:=by unfold IS;rw[if_pos fj8,fk0]
 rw[e] at c;exact c
def fk9 (g h:Option X8) (nm j z y:Nat) (W:Wu) (A:vk.In W W (Yb g nm j) (Yb h z y)):
 aQ 12 #[Ye #[WK Xr 10,WK Xr 1,WK Xr 2,WK Xr 0,WK Xr 2,WM ⟨#[107]⟩,WK Xr 5,WK Xr (-1),Yb g nm j,Yb h z y],Ye #[WK Xr 10,WK Xr 1,WK Xr 2,WK Xr 0,WK Xr 2,WM ⟨#[107]⟩,WK Xr 5,WK Xr (-1),Yb Wr 0 0,Yb Wr 0 0]] W (Yc Wz):=by
 have c:=YJ vk vk (Yb g nm j) (Yb h z y) (Yb Wr 0 0) (Yb Wr 0 0) W A (fk7 W);rw[ai4] at c;exact c
def ZM (w:Wu) (Y:cH w):aQ 4 #[] w (Yc Wz):=by
 have I:=aa Y;have J:Hid (∀W,cH W->WJ WH 10 #[WM ⟨#[114,101,113,117,101,115,116,32,49,32,50,32,99,97,115,32,107,32,45,49,32,53]⟩] W λe w'=> ∃z nm D A G F,e=Xz (.tuple #[Ye #[WK Xr 10,WK Xr 1,WK Xr 2,WK Xr 0,WK Xr 2,WM ⟨#[107]⟩,WK Xr 5,WK Xr (-1),Yb z nm D,Yb A G F],WK Xr 0])/\vk.In w' w' (Yb z nm D) (Yb A G F)/\Below W.heap.size W w'):=λW h=>fk5 fk3 az W h;have O:=aa (λW (h:cH W)=>bg7 fk4 az W h);clear Y;go_enter func4,ntmps4;go_wp2_with fail
 refine(J.out _ (I.out.step (ae (ae (af w) _) _))).m ?_;rintro e j ⟨z,nm,D,A,G,F,rfl,X,C⟩;have V:=aa (ai (ae (ae (af w) _) _) C);have ba:w.heap.size+1<j.heap.size:=by have h:=C.size;simp at h;omega
 have cJ:w.heap.size<j.heap.size:=Yi;have iv:=aa X;obtain⟨bt,cr⟩:=gw C;clear X C;go_wp2_with fail
 refine(O.out _ (I.out.step (ae V.out _))).m ?_;rintro e y ⟨rfl,g⟩;have U:=aa (ai (ae V.out _) g);have wJ:j.heap.size<y.heap.size:=by have h:=g.size;simp at h;omega
 have bd:w.heap.size+1<y.heap.size:=Yi;have jU:w.heap.size<y.heap.size:=Yi;have Gp:=aa ((iv.out.below (ai (ae (af j) _) g) (ag _)).more (ai (ae (af j) _) g).size);obtain⟨cR,cL⟩:=gw g;clear g;go_wp2_with fail
 refine(fk8 _ _ (I.out.step (ae U.out _)) jJ jJ bI).m ?_;rintro e Z ⟨rfl,c⟩;have bg:=aa (ai (ae U.out _) c);have rg:j.heap.size<Z.heap.size:=by have h:=c.size;simp at h;omega
 have SW:=aa ((Gp.out.below (ai (ae (af y) _) c) (ag _)).more (ai (ae (af y) _) c).size);obtain⟨xT,cj9⟩:=gw c;clear c;go_wp2_with fail
 refine(fk9 z A nm D G F Z SW.out).m ?_;rintro e w4 ⟨rfl,aS⟩;go_wp2_with fail
 go_ret;exact⟨rfl,ai bg.out aS⟩
end
section
open Go Go.RowKit Go.MapKept Go.Proofs.Tryz
def R9 (c:ak): ∀l:List ak,Lib.join l c=dr c l
 |[]=>rfl
 |[a]=>Lib.join_one a c
 |a::b::l=>by rw[Lib.join_cons];show a++Lib.joinTail c (b::l)=a++c++dr c (b::l);rw[<-R9 c (b::l),Lib.join_cons];simp[Lib.joinTail]
def Iq (c:ak) (n:Nat): ∀(l:List ak),(∀x∈l,x.length<=n)->(dr c l).length<=(n+c.length)*l.length
 |[],_=>by simp[dr]
 |[a],h=>by have:=h a Yl;simp[dr];omega
 |a::b::l,h=>by
  have g:=h a Yl;have j:=Iq c n (b::l) λx hx=>h x (by simp at hx⊢;exact .inr hx);have e:(n+c.length)*(a::b::l).length=(n+c.length)*(b::l).length+(n+c.length):=by rw[Xg,Nat.mul_add,Nat.mul_one]
  show(a++c++dr c (b::l)).length<=_;rw[e,WG,WG];omega
def R_ (g:ak) (v:Wv) (l:List ak) (w:Wu) (h:bG w w v l) (U:l.length<=1000000) (J:(dr g l).length<=1000000):
 aQ 27 #[v,bs g] w (WM (bs (dr g l))):=by
 rcases Sl.cases_ h with ⟨z,A,c,rfl,_⟩|⟨V,b,o,c,rfl,y,O,C,D⟩
 .have:l=[]:=by simpa using z
  subst this;exact(strings_Join_none A c _ w).mono λe w' ⟨F,I⟩=>⟨F,I▸XA _ _⟩
 .have e:((l.map bs).map (·.data.toList))=l:=by simp[bs,Function.comp_def]
  have h:=strings_Join b o c (l.map bs) (bs g) w (λj x G=>D j _ (by rw[WN,G];rfl)) C (by rw[WF];omega) (by rw[WF] at y;exact y) (by rw[e,R9];show(dr g l).length<=_;omega);rw[e,R9,WF] at h;rw[WF,WF];exact h
def bj4 (v:Wv) (l:List ak) (w:Wu) (h:bG w w v l) (y:l.length<=1000000) (j:(fZ l).length<=1000000):
 aQ 246 #[v] w (WM (bs (fZ l))):=by
 obtain⟨A,n,c,rfl,_⟩:=h.sk.form;have g:=aa (R_ [44,32] _ l w h y j);clear h;go_enter func246,ntmps246;go_wp2_with(go_at_call 27;refine g.out.m ?_;rintro e z ⟨rfl,ap⟩)
 exact yp
def bX.lits (w:Wu) {base:Nat} {l:List ByteArray} (c:base<=w.heap.size) (g:0<l.length) (j:l.length<=1000):bX (w.alloc (Yd (l.map WM).toArray 9)) base (Yb (Ws (w 0 Wr)) l.length l.length) l:=
 ⟨by simp,.inr ⟨w.heap.size,l.length,_,rfl,c,bQ w _,by simp,by simp[Xe];omega,by simp,by rw[WY Yl]⟩⟩
section
variable {d:au} {rv nv:Wv} {w:Wu}
def bj5 (i n:Nat) (y:cH w) (g:aW w w nv (d.nums.map λx:Nat=>(x:Int))) (c:d.nums[i]? =Ws n) (D:n<=1048576):
 aQ 242 #[Ye #[d.kind,bs d.name,rv,nv,d.by_,Yc d.always],i] w (WM (bs (WB (n:Nat)))):=by
 obtain⟨NA,nn,nc,rfl,dQ,_,_⟩:=g.sk.form;obtain⟨nb,no,rfl,ww,hc⟩:=aW.cell g (j:=i) (x:=n) (by rw[WN,c];rfl);have A:=(List.getElem?_eq_some_iff.1 c).1;rw[WF] at dQ;have F:(0:Int)<=i:=Yi;have G:(i:Int)<nn:=Yi;have z:=aa (λW (C:Below w w W)=>LO (n:Nat) ⟨by omega,by omega⟩ W (y.step C));clear y g c D A dQ;go_enter func242,ntmps242;go_wp2_with(go_at_call 29;refine(z.out _ (ae (af w) _)).m ?_;rintro e I ⟨rfl,ap⟩)
 exact Mn
def fq0 (i g y z:Nat) (U:cH w) (D:aW w w nv (d.nums.map λx:Nat=>(x:Int))) (G:d.nums[i]? =Ws g) (I:d.nums[i+1]? =Ws y) (J:d.nums[i+2]? =Ws z) (V:g<=1048576/\y<=1048576/\z<=1048576) (hi:i<=1000):
 WJ WH 247 #[Ye #[d.kind,bs d.name,rv,nv,d.by_,Yc d.always],i] w (fw w ([ka,WB (g:Nat),jY,WB (y:Nat),jX,WB (z:Nat)].map bs)):=by
 have F:=aa (λj n W (C:Below w w W) (hj:d.nums[j]? =Ws n) (iI:n<=1048576)=>bj5 (rv:=rv) j n (U.step C) ((D.below C (ag _)).more C.size) hj iI);have Y:=aa G;have Z:=aa I;have H2:=aa J;have A:=aa V;obtain⟨NA,nn,nc,rfl,_⟩:=D.sk.form;clear U D G I J V;have w1:IntKind.i64.wrap ((i:Int)+1)=((i+1:Nat):Int):=Xf _ Yi;have w2:IntKind.i64.wrap ((i:Int)+2)=((i+2:Nat):Int):=Xf _ Yi;go_enter func247,ntmps247;go_upto_region 1 with (fail)
 refine bw3 ?_;intro W1 ⟨O,hx⟩;have c:=aa O;have HX:=aa hx;refine FJ λdu=> ?_;clear O hx;refine pE (S:=λw'=>Below W1 W1 w') 13 Cp λhS=> ?_;iterate 2 refine mC 13 5 ?_
 refine cb 3 8 ?_;refine cb 4 9 ?_;refine cb 5 10 ?_;refine cb 7 12 ?_;refine cb 8 13 ?_;refine cb 9 14 ?_;refine dY 2 λK hK=> ?_;go_simp;refine(F.out i g _ (ai c.out hS) Y.out A.out.1).m ?_;rintro e w2 ⟨rfl,am⟩;try go_simp
 refine rD λhS=> ?_;clear hK;refine aG ?_;refine dY 6 λK hK=> ?_;go_simp;refine(F.out (i+1) y _ (ai c.out hS) Z.out A.out.2.1).m ?_;rintro e w3 ⟨rfl,aL⟩;try go_simp
 refine hK.out _ _ (ai hS aL) λhS=> ?_;clear hK;refine aG ?_;refine dY 10 λK hK=> ?_;go_simp;refine(F.out (i+2) z _ (ai c.out hS) H2.out A.out.2.2).m ?_;rintro e w4 ⟨rfl,aS⟩;try go_simp
 refine BQ λhS=> ?_;clear hK;refine aG ?_;have X:=aa (ai c.out hS);refine dY 11 λK hK=> ?_;go_simp;refine sM λhS=> ?_;clear hK;refine aG ?_;refine cb 12 4 ?_;refine oQ ?_;go_upto_region 9 with (fail)
 go_ret;exact⟨_,rfl,bX.lits _ (l:=[_,_,_,_,_,_]) X.out.size Yl Yl,ae X.out _⟩
end
structure j' (d:au) (rv nv:Wv) (w:Wu):Prop where
 g:cH w
 r:bG w w rv d.refs
 n:aW w w nv (d.nums.map λx:Nat=>(x:Int))
 ok: ∀x∈d.nums,x<=1048576
 rl:d.refs.length<=17
 nl:d.nums.length<=4
 len: ∀x∈d.refs,x.length<=31
section
variable {d:au} {rv nv:Wv} {w:Wu}
def j'.later {W:Wu} (h:j' d rv nv w) (c:Below w w W):j' d rv nv W:=
 ⟨h.g.step c,(h.r.below c (ag _)).more c.size,(h.n.below c (ag _)).more c.size,h.ok,h.rl,h.nl,h.len⟩
def j'.num (h:j' d rv nv w) {j n:Nat} (c:d.nums[j]? =Ws n):
 aQ 242 #[Ye #[d.kind,bs d.name,rv,nv,d.by_,Yc d.always],j] w (WM (bs (WB (n:Nat)))):=bj5 (rv:=rv) j n h.g h.n c (h.ok n (eD c))
def j'.load (h:j' d rv nv w) {i g j y:Nat} (c:d.nums[i]? =Ws g) (z:d.nums[i+1]? =Ws j) (A:d.nums[i+2]? =Ws y):
 WJ WH 247 #[Ye #[d.kind,bs d.name,rv,nv,d.by_,Yc d.always],i] w (fw w ([ka,WB (g:Nat),jY,WB (j:Nat),jX,WB (y:Nat)].map bs)):=
 fq0 (rv:=rv) i g j y h.g h.n c z A ⟨h.ok _ (eD c),h.ok _ (eD z),h.ok _ (eD A)⟩ (by have:=(List.getElem?_eq_some_iff.1 c).1;have:=h.nl;omega)
def j'.list (h:j' d rv nv w) (l:List ak) (v:Wv) (j:bG w w v l) (c:l.length<=17) (g: ∀x∈l,x∈d.refs):
 aQ 246 #[v] w (WM (bs (fZ l))):=
 bj4 v l w j Yi (by have y:(fZ l).length<=(31+2)*l.length:=Iq [44,32] 31 l λx hx=>h.len x (g x hx);have:(31+2)*l.length<=(31+2)*17:=Nat.mul_le_mul_left _ c;omega)
def bG.two {A:Option X8} {n c b o B:Nat} {l:List ak} {j:Nat} {x:ak} (h:bG w B (Yb A n c) l) (z:A=Ws (b o Wr)) (C:l[j]? =Ws x):w.cell? ⟨b,o+j,Wr⟩=Ws (WM (bs x)):=by obtain⟨b',o',e,_,hc⟩:=h.cell C;rw[z] at e;injection e with e;injection e with g y;subst g y;exact hc
def bw4 (h:j' d rv nv w):
 WJ WH 239 #[Ye #[d.kind,bs d.name,rv,nv,d.by_,Yc d.always]] w (fw w ([d.name].map bs)):=by
 have j:=aa h;clear h;go_enter func239,ntmps239;go_upto_region 1 with (fail)
 refine Q_ ?_;intro W1 ⟨g,hx⟩;have c:=aa g;have HX:=aa hx;refine FJ λdu=> ?_;clear g hx;obtain⟨x0,x1,x2,x3,x4,x5⟩:=jD HX.out;go_wp2_with fail
 go_ret;exact⟨_,rfl,bX.lits _ (l:=[_]) c.out.size Yl Yl,ae c.out _⟩
def fq1 (h:j' d rv nv w) (a b:ak) (ha:d.refs[0]? =Ws a) (j:d.refs[1]? =Ws b):
 WJ WH 243 #[Ye #[d.kind,bs d.name,rv,nv,d.by_,Yc d.always]] w (fw w ([d.name,nD,a,el,b].map bs)):=by
 obtain⟨RA,rn,rc,rfl,eP,_⟩:=h.r.sk.form;obtain⟨rb,ro,rfl,bc,c0⟩:=h.r.cell ha;have y:=bG.two h.r rfl j;have J:0<rn:=Eg;have O:(1:Int)<rn:=by have:=(List.getElem?_eq_some_iff.1 j).1;omega
 rw[WR] at c0;have z:=aa c0;have A:=aa y;have I:=aa h;clear h ha j c0 y eP;go_enter func243,ntmps243;go_upto_region 1 with (fail)
 refine FK ?_;intro c ⟨g,hx⟩;have D:=aa g;have C:=aa hx;have F:=kc g z.out;have G:=kc g A.out;have du:=aa (λW (h:Below c c W)=>WE (jD (aq C.out h)) (WE (kc h F) (kc h G)));clear g hx;refine pE (S:=λw'=>Below c c w') 12 Cp λhS=> ?_;refine cb 0 3 ?_;refine cb 1 4 ?_;refine cb 2 5 ?_;refine cb 3 6 ?_;refine cb 4 7 ?_;refine cb 5 8 ?_;refine cb 6 9 ?_;refine cb 7 10 ?_;refine cb 8 11 ?_;refine cb 9 12 ?_;have iV:=aa (ai D.out hS);refine dY 10 λK hK=> ?_;go_simp;refine sM λhS=> ?_;clear hK;refine aG ?_;refine cb 11 2 ?_;exact bw5
def fq2 (h:j' d rv nv w) (a:ak) (ha:d.refs[0]? =Ws a) (g:Nat) (c:d.nums[0]? =Ws g):
 WJ WH 244 #[Ye #[d.kind,bs d.name,rv,nv,d.by_,Yc d.always]] w (fw w ([d.name,nD,a,yN,WB (g:Nat)].map bs)):=by
 obtain⟨RA,rn,rc,rfl,eP,_⟩:=h.r.sk.form;obtain⟨rb,ro,rfl,bc,c0⟩:=h.r.cell ha;have z:0<rn:=Eg;rw[WR] at c0;have C0:=aa c0;have y:=aa h;have j:=aa c;clear h ha c0 eP c;go_enter func244,ntmps244;go_upto_region 1 with (fail)
 refine FK ?_;intro W1 ⟨hB,hx⟩;have aT:=aa hB;have HX:=aa hx;refine Nd λq0 du=> ?_;clear hB hx;refine Nf λhS=> ?_;refine cb 0 3 ?_;refine cb 1 4 ?_;refine cb 2 5 ?_;refine cb 3 6 ?_;refine cb 4 7 ?_;refine cb 5 8 ?_;refine cb 6 9 ?_;refine dY 7 λK hK=> ?_;go_simp;refine((y.out.later (ai aT.out hS)).num j.out).mono ?_;exact bw6
def fq3 (h:j' d rv nv w) (a:ak) (ha:d.refs[0]? =Ws a) (y z:Nat) (g:d.nums[0]? =Ws y) (j:d.nums[1]? =Ws z):
 WJ WH 250 #[Ye #[d.kind,bs d.name,rv,nv,d.by_,Yc d.always]] w (fw w ([a,yn,WB (y:Nat),ym,WB (z:Nat)].map bs)):=by
 obtain⟨RA,rn,rc,rfl,eP,_⟩:=h.r.sk.form;obtain⟨rb,ro,rfl,bc,c0⟩:=h.r.cell ha;have D:0<rn:=Eg;rw[WR] at c0;have C0:=aa c0;have c:=aa h;have A:=aa g;have C:=aa j;clear h ha c0 eP g j;go_enter func250,ntmps250;go_upto_region 1 with (fail)
 refine FK ?_;intro W1 ⟨hB,hx⟩;have aT:=aa hB;have HX:=aa hx;refine Nd λq0 du=> ?_;clear hB hx;refine Nf λhS=> ?_;refine cb 0 3 ?_;refine cb 1 4 ?_;refine cb 2 5 ?_;refine cb 3 6 ?_;refine cb 4 7 ?_;refine cb 6 9 ?_;refine dY 5 λK hK=> ?_;go_simp;refine((c.out.later (ai aT.out hS)).num A.out).m ?_;rintro e w2 ⟨rfl,am⟩;try go_simp
 refine rD λhS=> ?_;clear hK;refine aG ?_;refine dY 7 λK hK=> ?_;go_simp;refine((c.out.later (ai aT.out hS)).num C.out).mono ?_;exact bw6
def fq4 (h:j' d rv nv w) (a b:ak) (ha:d.refs[0]? =Ws a) (g:d.refs[1]? =Ws b):
 WJ WH 259 #[Ye #[d.kind,bs d.name,rv,nv,d.by_,Yc d.always]] w (fw w ([a,yL,b].map bs)):=by
 obtain⟨RA,rn,rc,rfl,eP,_⟩:=h.r.sk.form;obtain⟨rb,ro,rfl,bc,c0⟩:=h.r.cell ha;have j:=bG.two h.r rfl g;have G:0<rn:=Eg;have I:(1:Int)<rn:=by have:=(List.getElem?_eq_some_iff.1 g).1;omega
 rw[WR] at c0;have y:=aa c0;have z:=aa j;have F:=aa h;clear h ha g c0 j eP;go_enter func259,ntmps259;go_upto_region 1 with (fail)
 refine FK ?_;intro W1 ⟨c,hx⟩;have aT:=aa c;have A:=aa hx;have C:=kc c y.out;have D:=kc c z.out;have du:=aa (λW (h:Below W1 W1 W)=>WE (jD (aq A.out h)) (WE (kc h C) (kc h D)));clear c hx;refine Nf λhS=> ?_;refine cb 0 3 ?_;refine cb 1 4 ?_;refine cb 2 5 ?_;refine cb 3 6 ?_;refine cb 4 7 ?_;refine cb 5 8 ?_;refine cb 6 9 ?_;refine cb 7 10 ?_;exact bw7
def fn2 (h:j' d rv nv w) (a:ak) (ha:d.refs[0]? =Ws a) (y:Nat) (g:d.nums[0]? =Ws y):
 WJ WH 257 #[Ye #[d.kind,bs d.name,rv,nv,d.by_,Yc d.always]] w (fw w ([a,yM,BM d.by_,WB (y:Nat)].map bs)):=by
 obtain⟨RA,rn,rc,rfl,eP,_⟩:=h.r.sk.form;obtain⟨rb,ro,rfl,bc,c0⟩:=h.r.cell ha;have D:0<rn:=Eg;rw[WR] at c0;have C0:=aa c0;have A:=aa h;have z:=aa g;clear h ha c0 eP g;go_enter func257,ntmps257;go_upto_region 1 with (fail)
 refine FK ?_;intro W1 ⟨hB,hx⟩;have c:=aa hB;have HX:=aa hx;refine Nd λq0 du=> ?_;clear hB hx;refine pE (S:=λw'=>Below W1 W1 w') 11 Cp λhS=> ?_;refine cb 0 3 ?_;refine cb 1 4 ?_;refine cb 2 5 ?_;refine cb 3 6 ?_;refine cb 4 7 ?_;refine cb 5 8 ?_;refine cb 7 10 ?_;refine dY 6 λK hK=> ?_;go_simp;refine(bb1 d.by_ _).m ?_;rintro e C ⟨rfl,am⟩;try go_simp
 refine rD λhS=> ?_;clear hK;refine aG ?_;refine dY 8 λK hK=> ?_;go_simp;refine((A.out.later (ai c.out hS)).num z.out).m ?_;rintro e C ⟨rfl,am⟩;try go_simp
 refine rD λhS=> ?_;clear hK;refine aG ?_;have j:=aa (ai c.out hS);refine dY 9 λK hK=> ?_;go_simp;refine sM λhS=> ?_;clear hK;refine aG ?_;refine cb 10 2 ?_;refine oQ ?_;go_upto_region 9 with (fail)
 go_ret;exact⟨_,rfl,bX.lits _ (l:=[_,_,_,_]) j.out.size Yl Yl,ae j.out _⟩
def fn3 (h:j' d rv nv w) (a:ak) (ha:d.refs[0]? =Ws a) (n0 n1 n2:Nat) (g:d.nums[0]? =Ws n0) (j:d.nums[1]? =Ws n1) (y:d.nums[2]? =Ws n2):
 WJ WH 249 #[Ye #[d.kind,bs d.name,rv,nv,d.by_,Yc d.always]] w (fw w (([d.name,el,a]++[ka,WB (n0:Nat),jY,WB (n1:Nat),jX,WB (n2:Nat)]).map bs)):=by
 obtain⟨RA,rn,rc,rfl,eP,_⟩:=h.r.sk.form;obtain⟨rb,ro,rfl,bc,c0⟩:=h.r.cell ha;have A:0<rn:=Eg;rw[WR] at c0;have C0:=aa c0;have HD:=aa h;have H0:=aa g;have H1:=aa j;have H2:=aa y;clear h ha c0 eP g j y;go_enter func249,ntmps249;go_upto_region 1 with (fail)
 refine FK ?_;intro W1 ⟨hB,hx⟩;have aT:=aa hB;have HX:=aa hx;refine Nd λq0 du=> ?_;clear hB hx;refine pE (S:=λw'=>Below W1 W1 w') 11 Cp λhS=> ?_;refine cb 0 3 ?_;refine cb 1 4 ?_;refine cb 2 5 ?_;refine cb 3 6 ?_;refine cb 4 7 ?_;refine cb 5 8 ?_;refine cb 7 10 ?_;refine wpAnyH_ready (rs:=[6,8]) aC Yl (AllReadyH.cons rfl (λK hK=> ?_) (AllReadyH.cons rfl (λK hK=> ?_) AllReadyH.nil))
 .go_simp;have c:=aa hS;refine sM λhS=> ?_;clear hK;refine aG ?_;refine dY 8 λK hK=> ?_;go_simp;refine Ir ?_;rintro e z ⟨u,rfl,hu,am⟩;try go_simp
  have hv:=bX.below (bX.lits _ (l:=[bs d.name,bs el,bs a]) c.out.size Yl Yl) am;refine rD λhS=> ?_;clear hK;refine aG ?_;exact bw8
 .go_simp;refine Ir ?_;rintro e z ⟨u,rfl,hu,am⟩;try go_simp
  refine rD λhS=> ?_;clear hK;refine aG ?_;have c:=aa hS;refine dY 6 λK hK=> ?_;go_simp;have hv:=bX.lits _ (l:=[bs d.name,bs el,bs a]) c.out.size Yl Yl;refine sM λhS=> ?_;clear hK;refine aG ?_;have hu:=hu.below (ae (af _) (Yd ([bs d.name,bs el,bs a].map WM).toArray 9));exact bw8
def fn4 (h:j' d rv nv w) (n0 n1 n2:Nat) (g:d.nums[0]? =Ws n0) (j:d.nums[1]? =Ws n1) (y:d.nums[2]? =Ws n2):
 WJ WH 245 #[Ye #[d.kind,bs d.name,rv,nv,d.by_,Yc d.always]] w (fw w (([d.name,el,fZ d.refs]++[ka,WB (n0:Nat),jY,WB (n1:Nat),jX,WB (n2:Nat)]).map bs)):=by
 have HD:=aa h;have H0:=aa g;have H1:=aa j;have H2:=aa y;clear h g j y;go_enter func245,ntmps245;go_upto_region 1 with (fail)
 refine Q_ ?_;intro W1 ⟨z,hx⟩;have aT:=aa z;have HX:=aa hx;refine FJ λdu=> ?_;clear z hx;refine Nf λhS=> ?_;refine cb 0 3 ?_;refine cb 1 4 ?_;refine cb 2 5 ?_;refine cb 3 6 ?_;refine cb 6 9 ?_;refine dY 4 λK hK=> ?_;go_simp;refine((HD.out.later (ai aT.out hS)).list d.refs rv (HD.out.later (ai aT.out hS)).r HD.out.rl λ_ h=>h).m ?_;rintro e A ⟨rfl,am⟩;try go_simp
 refine rD λhS=> ?_;clear hK;refine aG ?_;refine wpAnyH_ready (rs:=[5,7]) aC Yl (AllReadyH.cons rfl (λK hK=> ?_) (AllReadyH.cons rfl (λK hK=> ?_) AllReadyH.nil))
 .go_simp;have c:=aa hS;refine sM λhS=> ?_;clear hK;refine aG ?_;refine dY 7 λK hK=> ?_;go_simp;refine Ir ?_;rintro e A ⟨u,rfl,hu,am⟩;try go_simp
  have hv:=bX.below (bX.lits _ (l:=[bs d.name,bs el,bs (fZ d.refs)]) c.out.size Yl Yl) am;refine rD λhS=> ?_;clear hK;refine aG ?_;exact bw9
 .go_simp;refine Ir ?_;rintro e A ⟨u,rfl,hu,am⟩;try go_simp
  refine rD λhS=> ?_;clear hK;refine aG ?_;have c:=aa hS;refine dY 5 λK hK=> ?_;go_simp;have hv:=bX.lits _ (l:=[bs d.name,bs el,bs (fZ d.refs)]) c.out.size Yl Yl;refine sM λhS=> ?_;clear hK;refine aG ?_;have hu:=hu.below (ae (af _) (Yd ([bs d.name,bs el,bs (fZ d.refs)].map WM).toArray 9));exact bw9
def fn5 (h:j' d rv nv w) (k:Nat) (C:d.nums[0]? =Ws k) (n0 n1 n2:Nat) (j:d.nums[1]? =Ws n0) (y:d.nums[2]? =Ws n1) (z:d.nums[3]? =Ws n2):
 WJ WH 248 #[Ye #[d.kind,bs d.name,rv,nv,d.by_,Yc d.always]] w (fw w (([d.name,WB (k:Nat),el,fZ d.refs]++[ka,WB (n0:Nat),jY,WB (n1:Nat),jX,WB (n2:Nat)]).map bs)):=by
 have HD:=aa h;have D:=aa C;have H0:=aa j;have H1:=aa y;have H2:=aa z;clear h C j y z;go_enter func248,ntmps248;go_upto_region 1 with (fail)
 refine Q_ ?_;intro W1 ⟨A,hx⟩;have aT:=aa A;have HX:=aa hx;refine FJ λdu=> ?_;clear A hx;refine pE (S:=λw'=>Below W1 W1 w') 12 Cp λhS=> ?_;refine cb 0 3 ?_;refine cb 1 4 ?_;refine cb 2 5 ?_;refine cb 4 7 ?_;refine cb 5 8 ?_;refine cb 8 11 ?_;refine dY 3 λK hK=> ?_;go_simp;refine((HD.out.later (ai aT.out hS)).num D.out).m ?_;rintro e g ⟨rfl,am⟩;try go_simp
 refine rD λhS=> ?_;clear hK;refine aG ?_;refine dY 6 λK hK=> ?_;go_simp;refine((HD.out.later (ai aT.out hS)).list d.refs rv (HD.out.later (ai aT.out hS)).r HD.out.rl λ_ h=>h).m ?_;rintro e g ⟨rfl,am⟩;try go_simp
 refine rD λhS=> ?_;clear hK;refine aG ?_;refine wpAnyH_ready (rs:=[7,9]) aC Yl (AllReadyH.cons rfl (λK hK=> ?_) (AllReadyH.cons rfl (λK hK=> ?_) AllReadyH.nil))
 .go_simp;have c:=aa hS;refine sM λhS=> ?_;clear hK;refine aG ?_;refine dY 9 λK hK=> ?_;go_simp;refine Ir ?_;rintro e g ⟨u,rfl,hu,am⟩;try go_simp
  have hv:=bX.below (bX.lits _ (l:=[bs d.name,bs (WB (k:Nat)),bs el,bs (fZ d.refs)]) c.out.size Yl Yl) am;refine rD λhS=> ?_;clear hK;refine aG ?_;exact bx0
 .go_simp;refine Ir ?_;rintro e g ⟨u,rfl,hu,am⟩;try go_simp
  refine rD λhS=> ?_;clear hK;refine aG ?_;have c:=aa hS;refine dY 7 λK hK=> ?_;go_simp;have hv:=bX.lits _ (l:=[bs d.name,bs (WB (k:Nat)),bs el,bs (fZ d.refs)]) c.out.size Yl Yl;refine sM λhS=> ?_;clear hK;refine aG ?_;have hu:=hu.below (ae (af _) (Yd ([bs d.name,bs (WB (k:Nat)),bs el,bs (fZ d.refs)].map WM).toArray 9));exact bx0
end
end
end Go.Proofs.YtklfdkdebgfmiaaGreatDoor
