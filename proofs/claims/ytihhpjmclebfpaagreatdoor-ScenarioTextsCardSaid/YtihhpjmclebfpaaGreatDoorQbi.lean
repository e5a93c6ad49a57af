/- A part of the proof. -/
import Derived.Test.YtihhpjmclebfpaaGreatDoorQbg
import Derived.Test.YtihhpjmclebfpaaGreatDoorQbh
set_option linter.defProp false
set_option linter.unusedVariables false
set_option linter.unusedSimpArgs false
set_option maxRecDepth 100000
set_option maxHeartbeats 32000000
open Option renaming some->XL,none->XM
open Decidable renaming decide->XN
open Go renaming World->XO,Value->XP,Calls->X4,TypeId->Ya,maxLen->Yd,Ending->Zb,Addr->Zf
open Bool renaming false->XQ,true->XR
open Go.Lib renaming itoa->XS,joinTail->YJ,countB->Y3
open And renaming intro->XU
open Go.RowKit renaming Hid->XV
open Go.Proofs renaming intOf->X8
open Go.Proofs.Tryz renaming prog->X3
open Go.Value renaming int->X1,string->X2,ownBlock->YC,slice->Zk,bool->Zp,agg->Zr,pointer->Zs
open Go.World renaming setCell->YS
open Go.IntKind renaming i64->Yo
open Go.Instr renaming lookup->Yu
open Go.Ending renaming returned->YT
open Go.Obj renaming cells->Zq
open Go.Operand renaming tmp->Zt,const->Zu
namespace Go.Proofs.YtihhpjmclebfpaaGreatDoor
section
open Go Go.RowKit Go.Proofs.Tryz
def eo4{t:gU}{i:Nat}(h:tZ t=XL i):i<17:=by
 unfold tZ at h;split at h
 .exact(List.findIdx?_eq_some_iff_findIdx_eq.1 h).1
 .cases h
def as8{p:PS}{x:mt}{l:List mt}:p.parts (x::l)=(if p.e=0 then p.part x else p).parts l:=rfl
def M9{α:Type}{l:List α}{k:Nat}{x:α}(h:l[k]?=XL x):l.drop k=x::l.drop (k+1):=by have c:=(List.getElem?_eq_some_iff.1 h);rw[List.drop_eq_getElem_cons c.1,c.2]
def PS.fail_d(p:PS)(e:Nat):(p.fail e).d=p.d:=by unfold PS.fail;split<;>rfl
def PS.take_d(p:PS)(k:Nat)(l:List ay):(p.take k l).1.d=p.d:=by
 unfold PS.take;split
 .exact PS.fail_d p 3
 .rfl
def PS.comma_d(p:PS):p.comma.1.d=p.d:=by
 unfold PS.comma;split
 .rfl
 .exact PS.take_d _ _ _
def PS.ref_kind(p:PS):p.ref.d.kind=p.d.kind:=by show(p.take 1 []).1.d.kind=_;rw[PS.take_d]
def PS.listGo_kind(n:Nat)(p:PS):(PS.listGo n p).d.kind=p.d.kind:=by
 fun_induction PS.listGo n p with
 |case1 n p h c=>
  refine c.t ((PS.ref_kind _).t ?_);split
  .rw[PS.fail_d,PS.comma_d]
  .rw[PS.comma_d]
 |case2 n p h=>rw[PS.comma_d]
def PS.classGo_kind(l:List ay)(p:PS):(PS.classGo l p).d.kind=p.d.kind:=by
 rw[PS.classGo];split
 .rw[PS.fail_d]
 .have z:=PS.take_le p 2 l;have j:(p.take 2 l).1.d.kind=p.d.kind:=congrArg aG.kind (PS.take_d p 2 l);dsimp only;split
  .rename_i h;have y:=PS.comma_lt _ h;rw[PS.classGo_kind,PS.comma_d];exact j
  .rw[PS.comma_d];exact j
termination_by p.ts.length
decreasing_by exact bJ y z
def PS.part_kind(p:PS)(x:mt):(p.part x).d.kind=p.d.kind:=by
 cases x with
 |name=>(have h:=congrArg aG.kind (PS.take_d p 1 []);exact h)
 |ref=>exact PS.ref_kind p
 |number=>(have h:=congrArg aG.kind (PS.take_d p 3 []);exact h)
 |list=>exact(PS.listGo_kind 1 p.ref).t (PS.ref_kind p)
 |classes=>exact PS.classGo_kind _ p
 |domain=>(have h:=congrArg aG.kind (PS.take_d p 2 [fN,ga,kr]);exact h)
 |alw=>
  show p.alw.d.kind=_;unfold PS.alw;split
  ·(have h:=congrArg aG.kind (PS.take_d p 2 []);exact h)
  .rfl
 |word s=>(have h:=congrArg aG.kind (PS.take_d p 2 [s]);exact h)
def PS.parts_kind:∀(l:List mt)(p:PS),(p.parts l).d.kind=p.d.kind
 |[],p=>rfl
 |x::l,p=>by
  rw[PS.parts,PS.parts_kind l];split
  .exact PS.part_kind p x
  .rfl
def eo5(pb B M:Nat)(p:PS)(w:XO)(hM:M<=100000)(h:cK w pb B M p)(i:Nat)(G:tZ p.head=XL i):
 X4 X3 85 #[az pb] w (Z4 w pb B M p.decl):=by
 have O:=aj (as7 G);have gz0:=eo4 G;have HP:=aj h;have HN:=aj λW(z:cK W pb B M p)=>I' pb B M p W z;have HT:=aj λW(z:cK W pb B M p)=>AS pb B M p W 2 2 [] (Zk XM 0 0) rfl z aD (bg.nil_ _ _);have dl6:=aj (fun(p:PS)(M:Nat)(hM:p.Ok M)=>Xx (l:=[[59]]) hM (show(4:Nat)≠0 by decide));have G_:=aj λW B' q v(z:cK W pb B' (M+1) q)(I:bg W W v [[59]])=>AS pb B' (M+1) q W 4 4 [[59]] v rfl z aD I;have mg:=h.cells.1;have bm:=h.size;have HR:=aj λW(z:pb<W.heap.size)=>en5 pb W z;generalize p.head=t at HN G;have HC:=aj (fun(W:XO)v b(hb:b<W.heap.size)(D:ae W b (ah t.kind))(h1:aa W b 1 (X2 (bs t.text)))(hs:ci 3 FN W W v rules)=>
  el1 FN FN.ab v rules 191 #[az b] (kg rules (M8 t)) W hs (XX func191 aI rfl)
   (λj x cs W2 hx z G _=>by rw[fW hx];exact en7 x cs t b _ W2 G ((z.cell (p:=b) hb).t D) ((z.cell (p:=b 1 XM) hb).t h1) (bJ hb z.size)))
 rw[aw3,eo3,G]at HC;refine rF λqa=>?_;have eC:(0:Int)<=(i:Int):=Zv;have bh:(i:Int)<17:=Zv;obtain⟨rl,Dk⟩:∃r,rules[i]?=XL r:=⟨_,XT (by exact gz0)⟩;have dk3:=aj Dk;have su:rules.getD i ([],[])=rl:=by rw[X9,Dk];rfl
 rw[su]at O;generalize p.decl=pd at O;generalize p.take 2 []=pt at O HT;obtain⟨p1,t1⟩:=pt;dsimp only at O;unfold az at HN HR HC HT G_;unfold bH at HC;rw[ue]at HN;simp only[az];go_enter func85,ntmps85;go_wp2_with first
  |(go_at_call 82;refine(HN _ (HP.later (ak (am w) _))).r λw1 aC=>?_;have UO:=aq (ak (am w) _) aC;have bZ:=UO.size;have cd:=ai (cR w _) aC)
  |(go_at_call 188;refine(HR _ bN).q λw2 v I au=>?_;have aM:=ak UO (Zq #[t.kind,bs t.text,t.n,t.pos] 135);have ht:=ai (cR w1 (Zq #[t.kind,bs t.text,t.n,t.pos] 135)) au;have aV:=aq aM au;have cZ:=ai (ai cd (ak (am w1) _)) au)
  |(go_at_call 190;refine(HC _ _ _ (blk_lt ht) (ag ht rfl) (ag ht rfl) I.sl).r λw3 U=>?_;have cT:=aj (aq aV U);have qA:=aj (ai cZ U);have dm8:=aj (I.keep (aL.of_below (pb:=pb) U (ar _) U.size) U.size))
  |(go_at_call 192;refine(HT _ (HP.later cT)).mono ?_;unfold sS;rintro e y ⟨rfl,F,lw,wT⟩;have sE:=lw.blk qA (blk_lt qA) (by omega);have he5:=lw.size;have bu4:=aj (dm8.keep lw he5);obtain⟨rb,rfl,fS,k_,B4⟩:=bu4.o;obtain⟨pv,g0,g1,g2,g3⟩:=B4 i rl dk3.o;obtain⟨Fq,o9,_⟩:=F.cells;have f2:=o9 2;have f3:=o9 3;have f4:=o9 4;have f5:=o9 5;have f6:=o9 6;have f7:=o9 7;have d2:=(F.cells).2.2.2.1;have d3:=(F.cells).2.2.2.2.1;have d6:=(F.cells).2.2.2.2.2.1;have d7:=(F.cells).2.2.2.2.2.2;obtain⟨tv,rv,nv,UP,_⟩:=id F;have d4:y.cell? ⟨pb,4,none⟩=some rv:=ag UP rfl;have d5:y.cell? ⟨pb,5,none⟩=some nv:=ag UP rfl;have An:rb<y:=by omega
    have hu7:¬rb=pb:=Zv;have rX:=aj F;have il:=aj lw;have wD:=aj sE;have SQ:=aj g3;obtain⟨b2,c2,rfl,dh,co,ht9,gw5,cr1⟩:=g3;have de7:=aj cr1)
 have Ly:=rX.reset (k:=i) (B':=y) Zv (ar _);have cs6:aL y pb y ((((((y.setCell (pb 2 XM) (ah i)).setCell (pb 3 XM) (X2 ⟨#[]⟩)).setCell (pb 4 XM) (Zk XM 0 0)).setCell (pb 5 XM) (Zk XM 0 0)).setCell (pb 6 XM) (ah 0)).setCell (pb 7 XM) (Zp XQ)):=
  ((((((aL.refl _ _ _).set (.inl rfl) _).set (.inl rfl) _).set (.inl rfl) _).set (.inl rfl) _).set (.inl rfl) _).set (.inl rfl) _
 refine ez (λW=>cK W pb y M {p1 with d:={kind:=i}}/\aL y pb y W) ⟨Ly,cs6⟩ ?_;intro W5 ⟨sj,tD⟩;have np:=aj sj;have gK:=aj tD;have he6:=tD.size;have Ws:=blk_lt wD.o;have X:Hid (pd=((((PS.parts {p1 with d:={kind:=i}} rl.2).take 4 [[59]]).1),(((PS.parts {p1 with d:={kind:=i}} rl.2).take 4 [[59]]).1).d)):=O.o;have up:=aj (show({p1 with d:={kind:=i}}:PS).d.kind=i from rfl);generalize ({p1 with d:={kind:=i}}:PS)=q0 at np X up;obtain⟨n,hn⟩:∃n,rl.2.length=n:=⟨_,rfl⟩;have pp:=aj hn;simp only[hn];have ph:n<=c2:=Zv;have fG:c2<=9223372036854775807:=by simpa[Yd]using co
 go_loopw [37] (λi wr=>∃(k:Nat)(q:PS),i=ah k/\k<=n/\cK wr pb y (M+1) q/\(q.e=0->q.Ok M)/\aL y pb y wr/\q0.parts rl.2=q.parts (rl.2.drop k)) (λi _=>n - (X8 i).toNat)
 case atStart=>exact⟨0,q0,rfl,bU _,np.more (Y5 M),λ_=>np.ok,gK,by rw[List.drop_zero]⟩
 case round=>
  obtain⟨k,q,rfl,hk,kD,yh,qW,xd⟩:=hrel;have tk:=aj qW;have Eo:=aj xd;by_cases ap:k<n
  .obtain⟨OE,Hz⟩:=dt ap;obtain⟨x,hx⟩:=iT pp ap;obtain⟨u,hu,g,bnd,caps,rfl,eg,BM⟩:=de7 k x hx;have hp5:=(qW.cell k gw5 (by omega)).t hu;have HX:=aj hx;unfold d_ at eg;by_cases V:q.e=0
   .have cm8:=kD.okM (yh V);have GK:=aj (BM wr y M q (by omega) qW (ar _) cm8);have pT:=aj (show q.parts (rl.2.drop k)=(q.part x).parts (rl.2.drop (k+1))from by rw[M9 hx,as8,if_pos V]);have a1:=kD.cells.2.2.1;have hz:=kD.cells.1;have K_:((q.e:Int)==0)=true:=by simp;omega
    have hv1:=qW.size;go_wp2_with fail
    refine GK.mono ?_;unfold uf;rintro e w6 ⟨rfl,H',gw0,EW⟩;go_wp2_with fail
    exact⟨⟨k+1,q.part x,by go_num,by omega,H',gw0,tk.t EW,by rw[Eo.o,pT.o]⟩,by simp[X8];omega⟩
   .have pT:=aj (show q.parts (rl.2.drop k)=q.parts (rl.2.drop (k+1))from by rw[M9 hx,as8,if_neg V]);have a1:=kD.cells.2.2.1;have hz:=kD.cells.1;have K_:((q.e:Int)==0)=false:=by simp;omega
    have Td:=aj kD;have rW:=aj yh;go_wp2_with fail
    exact⟨⟨k+1,q,by go_num,by omega,Td,rW,tk,by rw[Eo.o,pT.o]⟩,by simp[X8];omega⟩
  .have pf:k=n:=by omega
   have Y:=aj (show q0.parts rl.2=q from by rw[xd,pf,<-pp.o,List.drop_length];rfl);rw[Y.o]at X;have bt0:=aj kD;have di3:=aj yh;have eh:=bJ Ws qW.size;have pI:=qW.blk wD Ws Zv;have oK:=aj pI;have Z:=aj λv(I:bg (wr.alloc (Zq #[X2 ⟨#[59]⟩] 9)) (wr.alloc (Zq #[X2 ⟨#[59]⟩] 9)).heap.size v [[59]])=>G_ _ _ q v (kD.later (ak (am wr) _)) I;have Bl:=aj (bg.of_new (w:=wr) [[59]] (t:=9) (C:= #[X2 ⟨#[59]⟩]) (n:=1) (c:=1) rfl rfl rfl rfl Zy);have gi:=aj λD=>dl6 q M D;have G':=aj (show((q.take 4 [[59]]).1.e=0->q.e=0)from λD=>by apply Classical.byContradiction;intro aT;rw[PS.take_err aT]at D;exact aT D);have mM:=aj (show(q.take 4 [[59]]).1.d.kind=i from by rw[PS.take_d,<-Y.o,PS.parts_kind];exact up);generalize q.take 4 [[59]]=qt at Z X gi G' mM;obtain⟨r,rt⟩:=qt;dsimp only at X gi G' mM;go_wp2_with fail
   refine(Z _ Bl).mono ?_;unfold sS;rintro e J ⟨rfl,Ib,wU,Oz⟩;obtain⟨tv,rv,nv,c1,vK,c3,c4,c5,c6,c7⟩:=id Ib;obtain⟨rA,rn,rc,rfl⟩:=eW c3;obtain⟨nA,nn,nc,rfl⟩:=eW c4;have d2:aa J pb 2 (ah r.d.kind):=ag c1 rfl;have d3:aa J pb 3 (X2 (bs r.d.name)):=ag c1 rfl;have d4:aa J pb 4 (Zk rA rn rc):=ag c1 rfl;have d5:aa J pb 5 (Zk nA nn nc):=ag c1 rfl;have d6:aa J pb 6 (ah r.d.by_):=ag c1 rfl;have d7:aa J pb 7 (Zp r.d.always):=ag c1 rfl;have Dt:=blk_lt c1;have A:=wU.blk (ai oK (ak (am wr) _)) bN Zv;obtain⟨Jj,q1,q2,q3,q4,q5⟩:=Cf A;have r0:=ag (o:=0) A rfl;have r1:=ag (o:=1) A rfl;have r2:=ag (o:=2) A rfl;have r3:=ag (o:=3) A rfl;have r4:=ag (o:=4) A rfl;have r5:=ag (o:=5) A rfl;have IJ:=blk_lt A;have C3:=aj c3;have C4:=aj c4;have C7:=aj c7;have J7:=aj Ib;have j':=aj wU;have bt4:=aj A;go_wp2_with fail
   refine bodyPost_ret (v:=Zr #[ah r.d.kind,bs r.d.name,Zk rA rn rc,Zk nA nn nc,ah r.d.by_,Zp r.d.always]) (by simp[results,results85,go_sem,r0,r1,r2,r3,r4,r5,IJ]) rfl ?_;rw[X.o];have fL:w.heap.size<y:=Ws;have mZ:=C7.by_;have fk:r.d.kind<=1000000:=by rw[mM.o];omega
   refine⟨_,y.heap.size,rfl,⟨_,_,rfl,as5 C3 fL,as5 C4 fL,fk,by show r.d.by_<=1000000;omega⟩,J7.set6 bt4 aD mg,λD=>(gi (di3 (G' D))).1,?_⟩;have iw:aL w pb w J:=(((aL.of_below cT (ar _) cT.size).t (il.mono cT.size)).t (tk.mono (fK fL))).t ((aL.of_below (ak (am wr) _) (by have:=tk.size;omega) Zy).t (j'.mono (by have:=tk.size;simp;omega)));exact(((((iw.set (.inr (ar _)) _).set (.inr (ar _)) _).set (.inr (ar _)) _).set (.inr (ar _)) _).set (.inr (ar _)) _).set (.inr (ar _)) _
def el3(pb B M:Nat)(p:PS)(w:XO)(c:M<=100000)(h:cK w pb B M p)(j:p.decl.1.e=0):X4 X3 85 #[az pb] w (Z4 w pb B M p.decl):=by
 cases hr:tZ p.head with
 |none=>exact absurd j (by rw[as6 hr];exact p.fail_e aD)
 |some i=>exact eo5 pb B M p w c h i hr
def as9(w:XO)(r:Except (Nat×Nat) (List aG))(e:Zb)(w':XO):Prop:=
 Below w w w'/\match r with
  | .error x=>e=YT (.tuple #[Zk XM 0 0,x.1,x.2])
  | .ok l=>∃v,e=YT (.tuple #[v,ah 0,ah 0])/\ci 6 mS w' w' v l
def el4:(Tryz.prog.info? 100).map (λi=>(i.zero,i.size,i.bytes))=XL (XL (Zr #[ah 0,X2 ⟨#[]⟩,Zk XM 0 0,Zk XM 0 0,ah 0,Zp XQ]),6,88):=aI
def tQ(d:aG)(r n:XP):List Value:=[ah d.kind,X2 (bs d.name),r,n,ah d.by_,Zp d.always]
def rH(w:XO)(pb:Nat)(rows:List (List XP))(l:List aG):Prop:=
 rows.length=l.length/\∀(j:Nat)d,l[j]?=XL d->∃r n B,rows[j]?=XL (tQ d r n)/\pb<B/\w.ownsRow B 9 1 r d.refs.length (d.refs.map λs=>X2 (bs s))/\w.ownsRow B 3 1 n d.nums.length (d.nums.map fun(k:Nat)=>X1 .i64 k)/\d.kind<=1000000/\d.by_<=1000000/\∀k∈d.nums,k<=2000000
def rH.kp{w w':XO}{pb:Nat}{rows:List (List XP)}{l:List aG}(h:rH w pb rows l)(c:aL w pb w w'):rH w' pb rows l:=
 ⟨h.1,λj d y=>by obtain⟨r,n,B,h1,h2,h3,h4,h5⟩:=h.2 j d y;exact⟨r,n,B,h1,h2,qu h3 c (ar _) h2,qu h4 c (ar _) h2,h5⟩⟩
def rH.grown{w w':XO}{pb:Nat}{rows:List (List XP)}{l:List aG}(h:rH w pb rows l){base:Nat}{v:XP}{n:Nat}{xs:List XP}(ho:w.ownsRow base 100 6 v n xs)(U:w.grownBy w' v.ownBlock):rH w' pb rows l:=by
 have far {B e:Nat} {u:XP} {m:Nat} {ys:List XP} (F:w.ownsRow B e 1 u m ys) (O:¬e=100):w'.ownsRow B e 1 u m ys:=by
  refine⟨F.1,?_⟩;rcases F.2 with V|⟨g,cap,y,z,A,c,C⟩
  .exact .inl V
  .refine .inr ⟨g,cap,y,z,A,jD c U (λk D G=>?_),C⟩;subst G;rcases ho.2 with⟨rfl,_⟩|⟨I,cap2,cur2,rfl,_,X,_⟩
   .simp[YC]at D
   .have:I=g:=by simpa[Value.ownBlock]using D
    subst this;rw[X]at c;injection c with c;injection c with _ c _;exact O c.symm
 refine⟨h.1,λj d J=>?_⟩;obtain⟨r,n,B,z,A,c,C,h5⟩:=h.2 j d J;exact⟨r,n,B,z,A,far c aD,far C aD,h5⟩
def rH.snoc{w:XO}{pb B:Nat}{rows:List (List XP)}{l:List aG}{d:aG}{r n:XP}(h:rH w pb rows l)(C:pb<B)(y:w.ownsRow B 9 1 r d.refs.length (d.refs.map λs=>X2 (bs s)))
 (z:w.ownsRow B 3 1 n d.nums.length (d.nums.map fun(k:Nat)=>X1 .i64 k))(A:d.kind<=1000000/\d.by_<=1000000/\∀k∈d.nums,k<=2000000):rH w pb (rows++[tQ d r n]) (l++[d]):=by
 refine⟨by simp[h.1],λj x hx=>?_⟩;rcases Yt j l.length with hj|hj
 .rw[YN hj]at hx;obtain⟨r',n',B',g1,g⟩:=h.2 j x hx;exact⟨r',n',B',by rw[YN Hl];exact g1,g⟩
 .rw[List.getElem?_append_right hj]at hx;have c:j - l.length=0:=by
   have:=(List.getElem?_eq_some_iff.1 hx).1;simp at this;omega
  rw[c]at hx;simp at hx;subst hx;refine⟨r,n,B,?_,C,y,z,A⟩;rw[Za Hl,h.1,c];rfl
def rH.sl{w:XO}{pb base:Nat}{rows:List (List XP)}{l:List aG}{v:XP}(h:rH w pb rows l)(ho:w.ownsRow base 100 6 v l.length rows.flatten):ci 6 mS w w v l:=by
 refine ci.of_own rows (λr z=>?_) h.1 ho (λj r x z hx=>?_)
 .obtain⟨j,hj⟩:=List.mem_iff_getElem?.1 z;have C:=(List.getElem?_eq_some_iff.1 hj).1;obtain⟨d,hd⟩:∃d,l[j]?=XL d:=⟨_,XT (by rw[<-h.1];exact C)⟩;obtain⟨r',n',B',c,_⟩:=h.2 j d hd;rw[hj]at c;injection c with c;subst c;rfl
 .obtain⟨r',n',B',c,g2,g3,g4,g5,g6,g7⟩:=h.2 j x hx;rw[z]at c;injection c with c;subst c;refine⟨r',n',rfl,?_,?_,g5,g6⟩
  .have A:=Sl.of_own g3;unfold bg cP;rw[YM];exact A
  .have A:=Sl.of_own g4;refine⟨by rw[YM];exact A,λy D=>?_⟩;obtain⟨k,hk,rfl⟩:=List.mem_map.1 D;have:=g7 k hk;constructor<;>omega
end
section
open Go Go.RowKit Go.MapKept Go.ChangeMaps Go.Proofs.Tryz
def ab0(w:XO)(l:List ByteArray)(e:Zb)(w':XO):Prop:=
 Below w w w'/\match qq l with
  |some y=>∃m s,e=YT (.tuple #[Zr (y.cells m s),ah 0])/\y.In w' w' m s/\kO w m/\kO w s
  |none=>e=YT (.tuple #[Zr ((cG 0).cells aP aP),ah 3])
def ZC(b:Nat->Nat):List (XP×XP):=(items b).map lN.kv
def az3(b:Nat->Nat):∀p∈ZC b,IsKey .string p.1:=by intro p c;obtain⟨x,_,rfl⟩:=List.mem_map.1 c;exact zd
def az4(b:Nat->Nat){j:Nat}{x:lN}(h:(items b)[j]?=XL x):∃k,yN[j]?=XL k/\x.word=cb k:=by
 have c:((items b).map (·.word))[j]?=XL x.word:=by rw[X5,h];rfl
 rw[bc8,X5]at c;obtain⟨k,hk,e⟩:=Option.map_eq_some_iff.1 c;exact⟨k,hk,e.symm⟩
def fc6:∀k∈yN,k<18:=aD
def ex7(b:Nat->Nat){s:ByteArray}{k:Nat}(h:sN s=XL k):
 ∃(j:Nat)(x:lN),(items b)[j]?=XL x/\yN[j]?=XL k/\(∀p∈ZC b,p.1=X2 s->p.2=x.val)/\∃p∈ZC b,p.1=X2 s:=by
 obtain⟨gt9,hs⟩:=ar4 h;obtain⟨j,hj⟩:=List.mem_iff_getElem?.1 (bd6 k gt9);have D:j<18:=(List.getElem?_eq_some_iff.1 hj).1;obtain⟨x,hx⟩:∃x,(items b)[j]?=XL x:=⟨_,XT (by rw[Qn];exact D)⟩;obtain⟨k',z,hw⟩:=az4 b hx;rw[hj]at z;injection z with z;subst z;refine⟨j,x,hx,hj,λp F e=>?_,⟨x.kv,List.mem_map.2 ⟨x,eE hx,rfl⟩,by show X2 (bs x.word)=_;rw[hw,hs]⟩⟩;obtain⟨y,hy,rfl⟩:=List.mem_map.1 F;obtain⟨i,c⟩:=List.mem_iff_getElem?.1 hy;obtain⟨k2,gD,uV⟩:=az4 b c;have C:bs y.word=s:=by injection e
 rw[uV]at C;have:=XK k2 (fc6 k2 (eE gD));rw[C,h]at this;injection this with this;subst this;have A:j=i:=(List.getElem?_inj (List.getElem?_eq_some_iff.1 hj).1 (by decide:yN.Nodup)).1 (hj.t gD.symm);subst A;rw[hx]at c;injection c with c;subst c;rfl
def ZD(s:ByteArray)(F:s.size<=100000):(eP s).length<=100001/\∀x∈eP s,x.size<=100000:=by
 refine⟨?_,λx hx=>?_⟩
 .unfold eP;have j:=Lib.splitB_length_le (bs [32]) 0 (Y3 s (bs [32])) s;have z:=Lib.countB_le (bs [32]) aD s.size s (ar _);omega
 .obtain⟨w,r,j,z⟩:=Qt s;rw[j]at hx;have A:s.size=(Lib.join ((w::r).map (·.data.toList)) [32]).length:=by rw[<-eM,z]
  rw[Yg,Lib.join_length]at A;have C:x.data.toList.length<=Lib.lens (w.data.toList::r.map (·.data.toList)):=by
   have:∀l:List (List UInt8),∀y∈l,y.length<=Lib.lens l:=by
    intro l;induction l with
    |nil=>intro y c;cases c
    |cons a t ih=>
     intro y c;have e:Lib.lens (a::t)=a.length+Lib.lens t:=by simp[Lib.lens]
     rcases List.mem_cons.1 c with rfl|c
     .omega
     .have:=ih y c;omega
   exact this _ _ (by
    rcases List.mem_cons.1 hx with rfl|hx
    .simp
    .exact List.mem_cons_of_mem _ (List.mem_map.2 ⟨x,hx,rfl⟩))
  have D:x.data.toList.length=x.size:=Oh;omega
def az5{w:XO}{r:Nat}{c j y z A C D F G I:XP}{t:Ya}(h:af w r #[c,j,y,z,A,C,D,F,G,I] t):
 (ae w r c/\aa w r 1 j/\aa w r 2 y/\aa w r 3 z/\aa w r 4 A/\aa w r 5 C/\aa w r 6 D/\aa w r 7 F/\aa w r 8 G/\aa w r 9 I)/\
 ∀o,w.frozen? (r o XM)=false:=by
 refine⟨⟨?_,?_,?_,?_,?_,?_,?_,?_,?_,?_⟩,λo=>py h o⟩<;>exact lR h uD
def ex8{s:ByteArray}(h:sN (aK (eP s) 0)=XM):qq (eP s)=none:=by
 obtain⟨w,r,h1,_⟩:=Qt s;rw[h1]at h⊢
 have c:sN w=none:=h;simp[qq,c]
def Nf{s:ByteArray}{k:Nat}(h:sN (aK (eP s) 0)=XL k):qq (eP s)=(iR k ((eP s).drop 1)).bind λy=>if ea y then XL y else none:=by
 obtain⟨w,r,h1,_⟩:=Qt s;rw[h1]at h⊢
 have c:sN w=XL k:=h;simp[qq,c]
def az6{k:Nat}{l:List ByteArray}{y:aQ}(h:iR k l=XL y):y.ms.length<=l.length/\y.ss.length<=l.length:=by
 have c:∀(k:Int)(j:Nat),nF k j l=XL y->y.ms.length<=l.length/\y.ss.length<=l.length:=λk j h=>by obtain⟨vs,_,rfl⟩:=Option.map_eq_some_iff.1 h;simp[cG]
 unfold iR at h;split at h
 .unfold Dw at h;split at h
  .injection h with h;subst h;simp[cG]
  .cases h
 split at h
 .unfold sK at h;split at h
  .cases h
  .obtain⟨vs,hv,h⟩:=Option.bind_eq_some_iff.1 h;obtain⟨a,ha,rfl⟩:=Option.map_eq_some_iff.1 h;have:=DT hv;rw[Ym]at this;exact⟨by simp[cG],by show vs.length<=_;omega⟩
 split at h
 .exact c _ _ h
 split at h
 .unfold sL at h;split at h
  .cases h
  .obtain⟨q,hq,h⟩:=Option.bind_eq_some_iff.1 h;obtain⟨vs,hv,rfl⟩:=Option.map_eq_some_iff.1 h;simp[cG]
 split at h
 .unfold vh at h;split at h
  .obtain⟨vs,hv,h⟩:=Option.bind_eq_some_iff.1 h;obtain⟨u,hu,rfl⟩:=Option.map_eq_some_iff.1 h;simp[cG]
  .cases h
 split at h
 .exact c _ _ h
 split at h
 .obtain⟨vs,hv,rfl⟩:=Option.map_eq_some_iff.1 h;have:=DT hv;exact⟨by show vs.length<=_;omega,by simp[cG]⟩
 .exact c _ _ h
def ex9{k:Nat}{l:List ByteArray}{y:aQ}(h:iR k l=XL y)(A:k<18)(j:∀x∈l,x.size<=100000){w:XO}{B:Nat}{m s:XP}(hm:aS w B m y.ms)(z:aS w B s y.ss):y.In w B m s:=by
 obtain⟨h1,_,hN,bA,c⟩:=eb8 h;refine⟨?_,hN.a,hN.b,hN.c,bA,?_,hN.val,hN.old,hm,z⟩
 .rw[h1];exact⟨by omega,by omega⟩
 .rcases c with c|c
  .rw[c];exact bU _
  .have:=j _ c;omega
def ey0(wc:XO)(k:Nat)(c:Int)(h:c=k):fX (wc.alloc (Zq #[c,ah 0,ah 0,ah 0,ah 0,X2 ⟨#[]⟩,ah 0,ah 0,Zk XM 0 0,Zk XM 0 0] 45)) wc (cG k) aP aP:=by unfold fX;rw[qm,<-h];exact Yy wc _
def Sl.set{w:XO}{B r:Nat}{v:XP}{xs:List XP}(h:Sl w B v xs)(y:∀a n c,v=Zk (XL a) n c->¬a.block=r)(o:Nat)(u:XP):Sl (w.setCell (r o XM) u) B v xs:=by obtain⟨A,c,rfl,h1,h2,h3⟩:=h;refine⟨A,c,rfl,h1,h2,λz=>?_⟩;obtain⟨b,o',rfl,hb,hc⟩:=h3 z;exact⟨b,o',rfl,hb,λj D C=>(XH (y _ _ _ rfl)).t (hc j D C)⟩
def In.set{y:aQ}{w:XO}{r:Nat}{m s:XP}(h:y.In w w m s)(hm:∀a n c,m=Zk (XL a) n c->¬a.block=r)(j:∀a n c,s=Zk (XL a) n c->¬a.block=r)(o:Nat)(u:XP):y.In (w.setCell (r o XM) u) (w.setCell (r o XM) u).heap.size m s:=by
 have e:(w.setCell (r o XM) u).heap.size=w.heap.size:=by simp[YS]
 rw[e];exact⟨h.kind,h.a,h.b,h.c,h.ok,h.key,h.val,h.old,⟨Sl.set h.ms.1 hm o u,h.ms.2⟩,⟨Sl.set h.ss.1 j o u,h.ss.2⟩⟩
def ey1{s:ByteArray}{k:Nat}(h:sN s=XL k):k<18:=(ar4 h).1
def az7(w1:XO)(k:Nat)(p:XP)(wx:XO):Prop:=
 ∃(pb:Nat)(x:lN),p=az pb/\w1.heap.size<=pb/\kR wx k x/\Below w1 w1 wx/\af wx pb #[bs x.word,x.kind,bH x.gu #[],bH x.gf x.caps,bH x.gr #[],bH x.gt #[]] 93
def ey2(s:ByteArray)(w:XO)(I:dd w)(hs:s.size<=100000)(k:Nat)(O:sN (aK (eP s) 0)=XL k)(U:iR k ((eP s).drop 1)=XM):
 X4 X3 13 #[s] w (ab0 w (eP s)):=by
 have z:=λW(h:dd W)=>ak8 s W h Zv;simp only[show Lib.splitB (bs [32]) 0 (Y3 s (bs [32])) s=eP s from rfl]at z;have Y:=aj z;have HP:=aj (λW=>aa2 W);have HG:=aj I;have D:=aj (ZD s hs);have HK:=aj O;have Es:=aj U;clear U;clear O;clear z I;go_enter func13,ntmps13;go_upto_region 2 with(go_at_call 34;refine(Y _ (HG.step (ak (am w) _))).m ?_;rintro e w1 ⟨v,rfl,hv,Z,aC⟩)
 obtain⟨A,n,c,rfl,hn,ph,fQ⟩:=hv.form;have V:1<=n:=Zv;obtain⟨bl,ol,rfl,jG,bo⟩:=hv.at_ 0 V;have pi:=bo 0 V;rw[X7]at pi;refine az8 λi0 n0 i1 i2 i3 n2 HV HN HR a_ bp=>?_;clear hv hn bo aC Z;go_cut [5,6] (λp q wx=>q=Zp XR/\az7 w1 k p wx)
 case first=>exact az9
 case rest=>
  obtain⟨rfl,pb,⟨word,kind,gu,gf,caps,gr,gt⟩,rfl,mf,hF,aZ,C8⟩:=hcut;have iA:=aj C8;obtain⟨⟨p0,p1,p2,p3,p4,p5⟩,_⟩:=Qo C8;have BR:kind=k:=hF.kind;have er:=hF.er;unfold d_ at er;simp only at er;refine ba0 λmg wB mM bd aX zC=>?_;simp only[bH]at p4;clear hF aZ C8 BR p0 p2 p3 p5;simp only[az];go_wp2_with fail
  refine ba1 ?_;intro W ⟨bc,jm,q4,Ir⟩;refine ba2 λba j_ JX h8 sJ Kg Er=>?_;clear bc jm p1 p4;have F:∀C∈(eP s).drop 1,C.size<=1000000:=λC h=>by have:=D.2 C (Y6 h);omega
  have X:((eP s).drop 1).length<=100000:=by have:=D.1;rw[Ym];omega
  have GM:=aj F;have xQ:=aj X;clear F X;by_cases G:¬c=1
  .have y:cP W.drew wc (.slice (some ⟨bl,ol+1,none⟩) (n - 1) (c - 1)) ((eP s).drop 1):=
    cP.below (((HV.drop 1 Zv).below aX (ar _)).more aX.size) (aW ba) (ar _)
   have J':=aj y;clear y;refine ty 11 ?_;refine nX 0 24 ?_;iterate 2 refine kB 12 24 ?_
   refine h_ 1 λK hK=>?_;go_simp;refine hK _ _ ?_;clear hK K;refine aH ?_;refine h_ 4 λK hK=>?_;go_simp;refine ba3 ?_;exact ba4
  .obtain rfl:c=1:=Classical.not_not.1 G;obtain rfl:n=1:=by omega
   have hd:(eP s).drop 1=[]:=by rw[List.drop_eq_nil_iff,HN.o];omega
   have y:cP W.drew wc (Zk (XL (bl ol XM)) 0 0) ((eP s).drop 1):=Ot;have J':=aj y;clear y G hd;refine ty 11 ?_;refine nX 0 24 ?_;iterate 2 refine kB 12 24 ?_
   refine h_ 1 λK hK=>?_;go_simp;refine hK _ _ ?_;clear hK K;refine aH ?_;refine h_ 4 λK hK=>?_;go_simp;refine ba5 ?_;exact ba4
def ey3(s:ByteArray)(w:XO)(I:dd w)(hs:s.size<=100000)(k:Nat)(O:sN (aK (eP s) 0)=XL k)(y:aQ)(U:iR k ((eP s).drop 1)=XL y)(hv:ea y=XR):
 X4 X3 13 #[s] w (ab0 w (eP s)):=by
 have C:=λW(h:dd W)=>ak8 s W h Zv;simp only[show Lib.splitB (bs [32]) 0 (Y3 s (bs [32])) s=eP s from rfl]at C;have Y:=aj C;have HP:=aj (λW=>aa2 W);have HG:=aj I;have GY:=aj (ZD s hs);have HK:=aj O;have Es:=aj U;have bu6:=aj hv;clear U hv;clear O;clear C I;go_enter func13,ntmps13;go_upto_region 2 with(go_at_call 34;refine(Y _ (HG.step (ak (am w) _))).m ?_;rintro e w1 ⟨v,rfl,hv,Z,aC⟩)
 obtain⟨A,n,c,rfl,hn,ph,fQ⟩:=hv.form;have V:1<=n:=Zv;obtain⟨bl,ol,rfl,jG,bo⟩:=hv.at_ 0 V;have pi:=bo 0 V;rw[X7]at pi;refine az8 λi0 n0 i1 i2 i3 n2 HV HN HR a_ bp=>?_;clear hv hn bo aC Z;go_cut [5,6] (λp q wx=>q=Zp XR/\az7 w1 k p wx)
 case first=>exact az9
 case rest=>
  obtain⟨rfl,pb,⟨word,kind,gu,gf,caps,gr,gt⟩,rfl,mf,hF,aZ,C8⟩:=hcut;have iA:=aj C8;obtain⟨⟨p0,p1,p2,p3,p4,p5⟩,_⟩:=Qo C8;have BR:kind=k:=hF.kind;have er:=hF.er;unfold d_ at er;simp only at er;refine ba0 λmg wB mM bd aX zC=>?_;simp only[bH]at p4;clear hF aZ C8 BR p0 p2 p3 p5;simp only[az];go_wp2_with fail
  refine ba1 ?_;intro W ⟨bc,jm,q4,Ir⟩;refine ba2 λba j_ JX h8 sJ Kg Er=>?_;clear bc jm p1 p4;have F:∀D∈(eP s).drop 1,D.size<=1000000:=λD h=>by have:=GY.2 D (Y6 h);omega
  have X:((eP s).drop 1).length<=100000:=by have:=GY.1;rw[Ym];omega
  have GM:=aj F;have xQ:=aj X;clear F X;by_cases G:¬c=1
  .have z:cP W.drew wc (.slice (some ⟨bl,ol+1,none⟩) (n - 1) (c - 1)) ((eP s).drop 1):=
    cP.below (((HV.drop 1 Zv).below aX (ar _)).more aX.size) (aW ba) (ar _)
   have J':=aj z;clear z;refine ty 11 ?_;refine nX 0 24 ?_;iterate 2 refine kB 12 24 ?_
   refine h_ 1 λK hK=>?_;go_simp;refine hK _ _ ?_;clear hK K;refine aH ?_;refine h_ 4 λK hK=>?_;go_simp;refine ba3 ?_;exact ba6
  .obtain rfl:c=1:=Classical.not_not.1 G;obtain rfl:n=1:=by omega
   have hd:(eP s).drop 1=[]:=by rw[List.drop_eq_nil_iff,HN.o];omega
   have z:cP W.drew wc (Zk (XL (bl ol XM)) 0 0) ((eP s).drop 1):=Ot;have J':=aj z;clear z G hd;refine ty 11 ?_;refine nX 0 24 ?_;iterate 2 refine kB 12 24 ?_
   refine h_ 1 λK hK=>?_;go_simp;refine hK _ _ ?_;clear hK K;refine aH ?_;refine h_ 4 λK hK=>?_;go_simp;refine ba5 ?_;exact ba6
end
section
open Go Go.RowKit Go.MapKept Go.Proofs.Tryz
def ay3{a b:Bool}(h:a=b):YT (Value.bool a)=YT (Zp b):=by rw[h]
def ay4(k:Nat)(w:XO):aR 196 #[k] w (ah (cB k)):=by
 by_cases y:5<=k
 .have k1:(5:Int)<=(k:Int):=by omega
  by_cases z:k<=7
  .have A:(k:Int)<=7:=by omega
   have e:cB k=5:=by unfold cB;rw[if_pos ⟨y,z⟩]
   exact Q'
  .have A:¬(k:Int)<=7:=by omega
   by_cases c:10<=k
   .have j:(10:Int)<=(k:Int):=by omega
    have e:cB k=10:=by unfold cB;rw[if_neg Zv,if_pos c]
    exact Q'
   .have j:¬(10:Int)<=(k:Int):=by omega
    have e:cB k=k:=by unfold cB;rw[if_neg Zv,if_neg c]
    exact Q'
 .have k1:¬(5:Int)<=(k:Int):=by omega
  have j:¬(10:Int)<=(k:Int):=Zv;have e:cB k=k:=by unfold cB;rw[if_neg Zv,if_neg Zv]
  exact Q'
def ay5(k:Nat)(w:XO):X4 X3 320 #[k] w λe w'=>∃b,e=YT (.func (.func 352) #[] #[az b])/\w.heap.size<=b/\af w' b #[k] 3/\Below w w w':=by
 refine rF λqa=>?_;go_enter func320,ntmps320;go_wp2_with fail
 go_ret;exact⟨_,rfl,ar _,cR w _,ak (am w) _⟩
def fh6(b k j:Nat)(w:XO)(c:af w b #[k] 3):aR 352 #[j,az b] w (Zp (XN (j=k))):=by
 have h:=ag (o:=0) c rfl;simp only[az];go_enter func352,ntmps352;go_wp2_with fail
 go_ret;refine⟨ay3 ?_,am w⟩;rw[Yf];simp;try omega
def fh7(k:Nat)(w:XO):aR 321 #[k] w (Zp (XN (cB k=5))):=by
 have c:=aj (ay4 k w);generalize cB k=s at c;go_enter func321,ntmps321;go_wp2_with(go_at_call 196;refine c.r λy j=>?_)
 go_ret;refine⟨ay3 ?_,j⟩;rw[Yf];simp;try omega
def Rb(x:Nat×Nat):Value:=Zr #[x.1,x.2]
def mz(t:dK)(s:ay):Option Value:=(el t s).map Rb
def ay6(t:dK)(s:ay):∃k:Int,(mz t s).getD (Zr #[ah 0,ah 0])=Zr #[k,ah (bT t s)]:=by
 unfold mz bT Rb;cases el t s with
 |none=>exact⟨0,rfl⟩
 |some x=>exact⟨x.1,rfl⟩
def ZJ(rb Mb:Nat)(t:dK)(v:XP)(l:List ay)(w:XO)(z:ae w rb (.map (XL Mb)))(U:dN mW w Mb (mz t))(C:bg w w v l)(hl:l.length<=100000):
 X4 X3 91 #[az rb,v] w λe w'=>∃u,e=YT u/\w'.ownsRow w 3 1 u l.length ((l.map (bT t)).map λx=>X1 .i64 x)/\Below w w w':=by
 have eh:=bY _ _ z;obtain⟨A,n,c,rfl,hn,hc,fQ⟩:=C.sk.form;refine L5 λi0 hi cA a_ bd=>?_;have Fb:∀(a b:XP)(w:XO),(Instr.field 227 (Zr #[a,b]) 1).run X3 w= .ok b w:=λ_ _ _=>by rfl
 have X:=aj z;have F:=aj U;have Y:=aj C;have G:=aj hn;simp only[az];rw[hn];rw[hn]at hl;go_enter func91,ntmps91;go_wp2_with fail
 go_loopw [5,10] (λu i wr=>∃k:Nat,k<=n/\i=ah k/\wr.ownsRow w 3 1 u k (((l.take k).map (bT t)).map λx=>X1 .i64 x)/\Below w w wr) (λ_ i _=>n - (X8 i).toNat)
 case atStart=>exact⟨0,bU _,rfl,Yc _ _ _ _,am w⟩
 case round=>
  obtain⟨k,hk,rfl,bA,lU⟩:=hrel;by_cases J:k<n
  .obtain⟨eC,bh⟩:=dt J;obtain⟨s,hs⟩:=iT G J;obtain⟨b,o,rfl,hb,bo⟩:=bg.cell (Y.below lU (ar _)) hs;have rj:wr.cell? ⟨rb,0,none⟩=some (.map (some Mb)):=(lU.cell (p:=⟨rb,0,none⟩) eh).t X.o;have fT:=aj (F.below lU (bJ F.lt (ar _)));obtain⟨kq,Lk⟩:=ay6 t s;have j:=aj Lk;have I:=aj (show((l.take (k+1)).map (bT t)).map (λx=>Value.int .i64 x)=((l.take k).map (bT t)).map (λx=>Value.int .i64 x)++[.int .i64 (bT t s)]from by rw[List.take_add_one,hs];simp)
   have y:=aj bA;have D:=aj lU;have Wu:=lU.size;generalize bT t s=q at j I;go_wp2_with first
    |(at_lookup;refine Cn rfl (.tmp 18) (.tmp 19) 143 false rfl 9 227 .string underlying143 underlying9 FT Mb (mz t) rfl fT s (.agg #[.int .i64 0,.int .i64 0]) rfl (zeroValue227 _) ?_
      rw[j.o];simp only[Yh,if_false])
    |(at_builtin;refine wpList_append_own _ rfl (.tmp 14) (.tmp 22) _ rfl w.heap.size 3 i0 _ 1 8 underlying30 hi cA a_ bd rfl (by decide) _ k (((l.take k).map (bT t)).map λx=>Value.int .i64 x) rfl (y.alloc _) ⟨wr,0,none⟩ 1 1 [.int .i64 q] rfl rfl (pA rfl) (by simp[Value.oneCell']) (by simp[maxLen];omega) (by omega) (by simp;omega) ?_
      intro v' w3 V O _;have ko:=aj V;have Z:=aj (AI (y.alloc (Zq #[q] 3)) (ak D _) (ar _) O))
   refine⟨⟨k+1,by omega,by go_num,?_,Z⟩,by simp[X8];omega⟩;rw[I.o];exact ko
  .have pf:k=n:=by omega
   subst pf;have y:=aj bA;have D:=aj lU;go_wp2_with fail
   go_ret;refine⟨_,rfl,?_,D⟩;have h:=y.o;rw[Ye (by rw[G.o];exact ar _)]at h;exact h
def ay7(o:Option Nat)(k:Nat):Bool:=match o with|some j=>XN (k=j)|none=>XN (cB k=5)
def gE(k:Nat):List (Option Nat):=
 if k=2 then[XL 0,XL 1]else if k=3 then[XL 2]else if k=4 then[XL 0,XL 0]else if k=8 then[XL 0]else if k=10 then[XL 5]
 else if k=11 then[XM]else if k=12 then[XM]else if k=16 then[XM]else if k=13 then[XM]else if k=14 then[XM,XM]else[]
def Rc(d:aG):List (Option Nat):=gE d.kind++List.replicate (d.refs.length - (gE d.kind).length) (XL 3)
def ZK(d:aG):Rc d=gE d.kind++List.replicate (d.refs.length - (gE d.kind).length) (XL 3):=rfl
def vv(w:XO)(u:XP)(o:Option Nat):Prop:=match o with
 |some k=>∃b,u= .func (.func 352) #[] #[az b]/\af w b #[k] 3
 |none=>u= .func (.func 321) #[] #[]
def vw(w w':XO):Prop:=∀(b:Nat)(C:Array XP)(t:Ya)(z:Nat×Nat),w.heap[b]?=XL (Zq C t z)->w'.heap[b]?=XL (Zq C t z)
def vw.of_below{w w':XO}(h:Below w w w'):vw w w':=λb C t z c=>ai c h
def vw.of_turns{enc:Int->XP}{w w':XO}{M:Nat}{f:Int->Option XP}(A:dN enc w M f)(h:j5 w w' M):vw w w':=λb C t z j=>by
 have y:¬b=M:=λe=>by subst e;obtain⟨l,hl,_⟩:=A;have c:w.heap[b]?=XL (.map (bV 0 (dq enc l)).toArray (dq enc l).length):=hl;rw[j]at c;cases c
 rw[h.2.2 b y];exact j
def vv.keep{w w':XO}{u:XP}{o:Option Nat}(h:vv w u o)(c:vw w w'):vv w' u o:=by
 cases o with
 |none=>exact h
 |some k=>obtain⟨b,rfl,hb⟩:=h;exact⟨b,rfl,c _ _ _ _ hb⟩
def kS(w:XO)(B:Nat)(v:XP)(fs:List (Option Nat)):Prop:=
 ∃us,w.ownsRow B 234 1 v fs.length us/\∀(i:Nat)u o,us[i]?=XL u->fs[i]?=XL o->vv w u o
def fh8{w w':XO}{B:Nat}{e:Ya}{size:Nat}{v:XP}{n:Nat}{xs:List XP}(h:w.ownsRow B e size v n xs)(C:vw w w'):w'.ownsRow B e size v n xs:=by
 refine⟨h.1,?_⟩;rcases h.2 with D|⟨g,cap,c,j,y,z,A⟩
 .exact .inl D
 .exact .inr ⟨g,cap,c,j,y,C _ _ _ _ z,A⟩
def kS.keep{w w':XO}{B:Nat}{v:XP}{fs:List (Option Nat)}(h:kS w B v fs)(c:vw w w'):kS w' B v fs:=by obtain⟨us,h1,h2⟩:=h;exact⟨us,fh8 h1 c,λi u o j ho=>(h2 i u o j ho).keep c⟩
def kS.nil_(w:XO)(B:Nat):kS w B (Zk XM 0 0) []:=⟨[],Yc _ _ _ _,λi u o h=>by simp at h⟩
def ay8:∀(l j:List (XP×XP))(i:Nat),bV i l=bV i j->l=j
 |[],[],_,_=>rfl
 |[],_::_,_,h=>by simp[bV]at h
 |_::_,[],_,h=>by simp[bV]at h
 |(a,b)::r,(c,d)::r',i,h=>by simp only[bV,List.cons.injEq]at h;obtain⟨h1,h2⟩:=h;injection h1 with y z;rw[ay8 r r' _ h2,y,z]
def dN.uniq{w:XO}{b:Nat}{f g:Int->Option XP}(h:dN ju w b f)(k:dN ju w b g)(x:Int):f x=g x:=by
 obtain⟨l,h1,_,h3⟩:=h;obtain⟨l',k1,_,k3⟩:=k;have A:w.heap[b]?=XL (.map (bV 0 (dq ju l)).toArray (dq ju l).length):=h1;have c:w.heap[b]?=XL (.map (bV 0 (dq ju l')).toArray (dq ju l').length):=k1;rw[A]at c;injection c with e;injection e with e _;have j:=ay8 _ _ _ (List.toArray_inj e);have z:l=l':=by unfold dq at j;refine List.map_inj_right (f:=λp:Int×XP=>(ju p.1,p.2)) (λa b y=>?_) |>.1 j;obtain⟨a1,a2⟩:=a;obtain⟨b1,b2⟩:=b;simp only[Prod.mk.injEq]at y;obtain⟨p,q⟩:=y;injection p with _ p;subst p q;rfl
 rw[h3,k3,z]
inductive FY where
 |mk|ex (s k:Nat)|sl (s:Nat) (fs:List (Option Nat))|ins (k s:Nat) (fs:List (Option Nat))|mv|fa|ld|lk|as_|no
def fh9:List FY:=
 .mk:: .ex 5 0:: .ex 6 1:: .sl 7 [XL 0,XL 1]:: .ins 2 7 [XL 0,XL 1]:: .ex 8 2:: .sl 9 [XL 2]:: .ins 3 9 [XL 2]::
 .ex 10 0:: .ex 11 0:: .sl 12 [XL 0,XL 0]:: .ins 4 12 [XL 0,XL 0]:: .ex 13 0:: .sl 14 [XL 0]:: .ins 8 14 [XL 0]::
 .ex 15 5:: .sl 16 [XL 5]:: .ins 10 16 [XL 5]:: .sl 17 [XM]:: .ins 11 17 [XM]:: .sl 18 [XM]:: .ins 12 18 [XM]:: .sl 19 [XM]:: .ins 16 19 [XM]::
 .sl 20 [XM]:: .ins 13 20 [XM]:: .sl 21 [XM,XM]:: .ins 14 21 [XM,XM]:: .mv:: .fa:: .ld:: .lk:: .as_::[]
def wd(i:Nat):FY:=fh9.getD i .no
def YD(B xb kd:Nat)(d:FY)(a:Act)(w:XO):Prop:=match d with
 | .mk=>∃M:Nat,a.tmps[4]?=XL (.map (XL M))
 | .ex s k=>∃u,a.tmps[s]?=XL u/\vv w u (XL k)
 | .sl s fs=>∃v,a.tmps[s]?=XL v/\kS w B v fs
 | .ins k s fs=>∃(M:Nat)(f:Int->Option XP)(v:XP),a.tmps[4]?=XL (.map (XL M))/\dN ju w M f/\f (k:Int)=XL v/\kS w B v fs
 | .mv=>∃(M:Nat)(f:Int->Option XP),a.tmps[22]?=XL (.map (XL M))/\dN ju w M f/\kS w B ((f (kd:Int)).getD (Zk XM 0 0)) (gE kd)
 | .fa=>a.tmps[23]?=XL (Zs (XL xb))
 | .ld=>a.tmps[24]?=XL (ah kd)
 | .lk=>∃v,a.tmps[25]?=XL v/\kS w B v (gE kd)
 | .as_=>∃v,a.tmps[3]?=XL v/\kS w B v (gE kd)
 | .no=>True
def Rd:FY->List Nat
 | .mk=>[4]| .ex s _=>[s]| .sl s _=>[s]| .ins _ _ _=>[4]| .mv=>[22]| .fa=>[23]| .ld=>[24]| .lk=>[25]| .as_=>[3]| .no=>[]
def DI{a:Act}{s t:Nat}(u:XP)(h:¬s=t):(a.put (XL s) u).tmps[t]?=a.tmps[t]? :=by simp[Act.put,Array.getElem?_setIfInBounds_ne h]
def yO{a:Act}{s:Nat}(u:XP)(h:s<a.tmps.size):(a.put (XL s) u).tmps[s]?=XL u:=by simp[Act.put,Array.getElem?_setIfInBounds_self_of_lt h]
def YD.other{B xb kd:Nat}{d:FY}{a:Act}{w w':XO}(h:YD B xb kd d a w)(j:Below w w w'){s:Nat}(u:XP)(y:(Rd d).contains s=XQ):YD B xb kd d (a.put (XL s) u) w':=by
 have c:=vw.of_below j;have ne:∀t,Rd d=[t]->(a.put (XL s) u).tmps[t]?=a.tmps[t]? :=λt z=>DI u (λe=>by rw[z,e]at y;simp at y);cases d with
 |mk=>obtain⟨M,h1⟩:=h;exact⟨M,(ne 4 rfl).t h1⟩
 |ex t k=>obtain⟨v,h1,h2⟩:=h;exact⟨v,(ne t rfl).t h1,h2.keep c⟩
 |sl t fs=>obtain⟨v,h1,h2⟩:=h;exact⟨v,(ne t rfl).t h1,h2.keep c⟩
 |ins k t fs=>obtain⟨M,f,v,h1,h2,h3,h4⟩:=h;exact⟨M,f,v,(ne 4 rfl).t h1,h2.later j,h3,h4.keep c⟩
 |mv=>obtain⟨M,f,h1,h2,h3⟩:=h;exact⟨M,f,(ne 22 rfl).t h1,h2.later j,h3.keep c⟩
 |fa=>exact(ne 23 rfl).t h
 |ld=>exact(ne 24 rfl).t h
 |lk=>obtain⟨v,h1,h2⟩:=h;exact⟨v,(ne 25 rfl).t h1,h2.keep c⟩
 |as_=>obtain⟨v,h1,h2⟩:=h;exact⟨v,(ne 3 rfl).t h1,h2.keep c⟩
 |no=>trivial
def Re(k:Nat):FY->Bool
 | .ins j _ _=> !XN (j=k)| .mv=>XQ|_=>XR
def YD.stored{B xb kd:Nat}{d:FY}{a:Act}{w w':XO}(h:YD B xb kd d a w){M k:Nat}{f:Int->Option XP}{v:XP}(C:a.tmps[4]?=XL (.map (XL M)))(z:dN ju w M f)(F:dN ju w' M (aY f (k:Int) v))(D:j5 w w' M)(A:Re k d=XR):YD B xb kd d a w':=by
 have y:=vw.of_turns z D;cases d with
 |mk=>exact h
 |ex t j=>obtain⟨u,c,h2⟩:=h;exact⟨u,c,h2.keep y⟩
 |sl t fs=>obtain⟨u,c,h2⟩:=h;exact⟨u,c,h2.keep y⟩
 |ins j t fs=>
  obtain⟨M2,g,u,c,h2,h3,h4⟩:=h;rw[C]at c;injection c with c;injection c with c;injection c with c;subst c;have G:¬j=k:=by simpa[Re]using A
  refine⟨M,_,u,C,F,?_,h4.keep y⟩;rw[bc3 _ _ Zv,<-h2.uniq z];exact h3
 |mv=>cases A
 |fa=>exact h
 |ld=>exact h
 |lk=>obtain⟨u,c,h2⟩:=h;exact⟨u,c,h2.keep y⟩
 |as_=>obtain⟨u,c,h2⟩:=h;exact⟨u,c,h2.keep y⟩
 |no=>trivial
def FZ:List Nat:=[2,3,4,8,10,11,12,16,13,14]
structure DJ(W0:XO)(B xb kd:Nat)(t0 t1 t2:XP)(ds:List Deferred)(a:Act)(w:XO):Prop where
 size:a.tmps.size=37
 s0:a.tmps[0]?=XL t0
 s1:a.tmps[1]?=XL t1
 s2:a.tmps[2]?=XL t2
 defers:a.defers=ds
 below:Below W0 W0 w
 big:B<=W0
 map:∀M:Nat,a.tmps[4]?=XL (.map (XL M))->W0.heap.size<=M/\∃f:Int->Option XP,dN ju w M f/\∀k:Nat,k∉FZ->f (k:Int)=XM
def DJ.put{W0:XO}{B xb kd:Nat}{t0 t1 t2:XP}{ds:List Deferred}{a:Act}{w w':XO}(h:DJ W0 B xb kd t0 t1 t2 ds a w)(y:Below w w w'){s:Nat}(u:XP)(c:¬s=0/\¬s=1/\¬s=2/\¬s=4):DJ W0 B xb kd t0 t1 t2 ds (a.put (XL s) u) w':=
 ⟨by simp[Act.put,h.size],(DI u c.1).t h.s0,(DI u c.2.1).t h.s1,(DI u c.2.2.1).t h.s2,h.defers,aq h.below y,h.big,λM j=>by rw[DI u c.2.2.2]at j;obtain⟨h1,f,h2,h3⟩:=h.map M j;exact⟨h1,f,h2.later y,h3⟩⟩
def addF(qb mb:Nat):Int->Option Value:=(aY (aY (aY (aY (aY (aY (aY (aY (aY (aY (λ_=>XM) 0 (.func (.func 197) #[] #[az mb])) 1 (.func (.func 198) #[] #[az mb])) 2 (.func (.func 199) #[] #[az mb])) 3 (.func (.func 200) #[] #[az mb])) 4 (.func (.func 201) #[] #[az mb])) 5 (.func (.func 202) #[] #[az mb,az qb])) 6 (.func (.func 204) #[] #[az mb,az qb])) 7 (.func (.func 205) #[] #[az mb,az qb])) 8 (.func (.func 206) #[] #[az mb])) 9 (.func (.func 207) #[] #[az mb]))
def fk7(qb mb:Nat){k:Int}(h:¬(0<=k/\k<=9)):addF qb mb k=none:=by unfold addF aY;repeat rw[if_neg Zv]
def fk8(rb:Nat)(w:XO):
 X4 X3 89 #[az rb] w λe w'=>∃M qb mb,e=YT (.map (XL M))/\dN ju w' M (addF qb mb)/\w.heap.size<=qb/\w.heap.size<=mb/\w.heap.size<=M/\
  w'.heap[qb]?=XL (Zq #[az rb] 142 (0,0))/\af w' mb #[Zs (XL (rb 1 XM))] 230/\Below w w w':=by
 refine vg λmG=>?_;refine rF λqa=>?_;simp only[az];go_enter func89,ntmps89;go_upto_region 2 with(fail)
 refine ez (λW=>Below w w W/\af W w.heap.size #[Zs (XL rb)] 142/\af W (w.heap.size+1) #[Zs (XL (rb 1 XM))] 230) ⟨by first|exact ak (ak (am w) _) _|exact cV (ak (ak (am w) _) _) Zy _,(tR w _ _ _ _).1,(tR w _ _ _ _).2⟩ ?_;intro c ⟨O,j,D⟩;have uj:=aj (show Below c c (c.alloc (.map #[] 0))from ak (am c) _);have J:=aj O;have z:=aj j;have Tw:=aj D;go_wp2_with first
  |(refine fh rfl (Zt 7) (Zu (ah 0)) (Zt 8) 148 (.inr rfl) 3 151 (.int Yo) underlying148 XZ cJ c (λ_=>XM) rfl (dN.made ju c) 0 (.func (.func 197) #[] #[az (w+1)]) rfl rfl ?_;intro w1 Y U;have bp:=aj (U.1 _ _ uj (ar _)))
  |(refine fh rfl (Zt 7) (Zu (ah 1)) (Zt 9) 148 (.inr rfl) 3 151 (.int Yo) underlying148 XZ cJ c _ rfl Y 1 (.func (.func 198) #[] #[az (w+1)]) rfl rfl ?_;intro w2 Z V;have aX:=aj (V.1 _ _ bp (ar _)))
  |(refine fh rfl (Zt 7) (Zu (ah 2)) (Zt 10) 148 (.inr rfl) 3 151 (.int Yo) underlying148 XZ cJ c _ rfl Z 2 (.func (.func 199) #[] #[az (w+1)]) rfl rfl ?_;intro w3 jT X;have bE:=aj (X.1 _ _ aX (ar _)))
  |(refine fh rfl (Zt 7) (Zu (ah 3)) (Zt 11) 148 (.inr rfl) 3 151 (.int Yo) underlying148 XZ cJ c _ rfl jT 3 (.func (.func 200) #[] #[az (w+1)]) rfl rfl ?_;intro w4 vN ly;have bW:=aj (ly.1 _ _ bE (ar _)))
  |(refine fh rfl (Zt 7) (Zu (ah 4)) (Zt 12) 148 (.inr rfl) 3 151 (.int Yo) underlying148 XZ cJ c _ rfl vN 4 (.func (.func 201) #[] #[az (w+1)]) rfl rfl ?_;intro w5 qX jU;have cT:=aj (jU.1 _ _ bW (ar _)))
  |(refine fh rfl (Zt 7) (Zu (ah 5)) (Zt 13) 148 (.inr rfl) 3 151 (.int Yo) underlying148 XZ cJ c _ rfl qX 5 (.func (.func 202) #[] #[az (w+1),az w]) rfl rfl ?_;intro w6 C ym;have dP:=aj (ym.1 _ _ cT (ar _)))
  |(refine fh rfl (Zt 7) (Zu (ah 6)) (Zt 14) 148 (.inr rfl) 3 151 (.int Yo) underlying148 XZ cJ c _ rfl C 6 (.func (.func 204) #[] #[az (w+1),az w]) rfl rfl ?_;intro w7 qY lW;have iG:=aj (lW.1 _ _ dP (ar _)))
  |(refine fh rfl (Zt 7) (Zu (ah 7)) (Zt 15) 148 (.inr rfl) 3 151 (.int Yo) underlying148 XZ cJ c _ rfl qY 7 (.func (.func 205) #[] #[az (w+1),az w]) rfl rfl ?_;intro w8 G yn;have iu:=aj (yn.1 _ _ iG (ar _)))
  |(refine fh rfl (Zt 7) (Zu (ah 8)) (Zt 16) 148 (.inr rfl) 3 151 (.int Yo) underlying148 XZ cJ c _ rfl G 8 (.func (.func 206) #[] #[az (w+1)]) rfl rfl ?_;intro w9 I pC;have pP:=aj (pC.1 _ _ iu (ar _)))
  |(refine fh rfl (Zt 7) (Zu (ah 9)) (Zt 17) 148 (.inr rfl) 3 151 (.int Yo) underlying148 XZ cJ c _ rfl I 9 (.func (.func 207) #[] #[az (w+1)]) rfl rfl ?_;intro Cw F yl;have A:=aj (yl.1 _ _ pP (ar _));have y:=aj F)
 go_ret;exact⟨_,w.heap.size,w.heap.size+1,rfl,y,ar _,Y5 _,J.size,ai z A,ai Tw A,aq J A⟩
end
section
open Go Go.RowKit Go.Proofs.Tryz
def fu7(len:Nat):∀(N:Nat)(s:ay)(ts:List gU),s.length<=N->jP len s= .ok ts->(∃l e,ts=l++[e]/\e.kind=0)/\(∀t∈ts,t.n<=2000000)/\ts.length<=s.length+1:=by
 intro N;induction N with
 |zero=>
  intro s ts j h;cases s with
  |nil=>rw[jP]at h;injection h with h;subst h;exact⟨⟨[],_,rfl,rfl⟩,by simp,by simp⟩
  |cons c r=>simp at j
 |succ N ih=>
  intro s ts j h;cases s with
  |nil=>rw[jP]at h;injection h with h;subst h;exact⟨⟨[],_,rfl,rfl⟩,by simp,by simp⟩
  |cons c r=>
   rw[jP]at h;cases ht:tok (c::r)with
   |error e=>rw[ht]at h;cases h
   |ok y=>
    obtain⟨k,t,n⟩:=y;rw[ht]at h;simp only at h;obtain⟨h1,h2,h3,h4⟩:=at7 ht;have z:=LT (r.drop (t.length - 1));rw[Ym]at z;cases hq:jP len (cE (r.drop (t.length - 1)))with
    |error e=>rw[hq]at h;cases h
    |ok l=>
     rw[hq]at h;simp only[Except.map]at h;injection h with h;subst h;obtain⟨⟨l',e,e1,e2⟩,h5,h6⟩:=ih _ l (by simp at j;omega) hq;refine⟨⟨_::l',e,by rw[e1];rfl,e2⟩,λx hx=>?_,by simp;omega⟩;rcases List.mem_cons.1 hx with rfl|hx
     .show n<=2000000;omega
     .exact h5 x hx
def fu8{s:ay}{ts:List gU}(h:tY s= .ok ts):(∃l e,ts=l++[e]/\e.kind=0)/\(∀t∈ts,t.n<=2000000)/\ts.length<=16385:=by
 unfold tY at h;split at h
 .cases h
 .rename_i c;obtain⟨h1,h2,h3⟩:=fu7 _ _ _ _ (ar _) h;have:=LT s;exact⟨h1,h2,by omega⟩
def fu9(p:PS):p.decl.2=p.decl.1.d\/p.decl.2={}:=by
 cases hr:tZ p.head with
 |none=>rw[as6 hr];exact .inr rfl
 |some i=>rw[as7 hr];exact .inl rfl
def tokM(pb:Nat)(w:XO):Nat:=match w.cell? pb with|some (Zk _ n _)=>n|_=>0
def cK.tokM{w:XO}{pb B M:Nat}{p:PS}(h:cK w pb B M p):tokM pb w=p.ts.length:=by obtain⟨t,r,n,h1,h2,h3⟩:=h;obtain⟨A,k,c,rfl,hk,_⟩:=h2.form;have j:ae w pb (Zk A k c):=ag h1 rfl;unfold Go.Proofs.YtihhpjmclebfpaaGreatDoor.tokM;rw[j,<-hk]
def cK.other{w w':XO}{pb B M:Nat}{p:PS}{base:Nat}{v:XP}{n:Nat}{xs:List XP}(h:cK w pb B M p)(ho:w.ownsRow base 100 6 v n xs)(X:pb<base)(z:w.grownBy w' v.ownBlock):cK w' pb B M p:=by
 obtain⟨t,r,nn,h1,h2,h3,h4,h5,h6,h7⟩:=h;have far {e:Nat} {u:XP} {m:Nat} {ys:List XP} (C:w.ownsRow B e 1 u m ys) (I:¬e=100):w'.ownsRow B e 1 u m ys:=by
  refine⟨C.1,?_⟩;rcases C.2 with J|⟨g,cap,A,k1,O,j,U⟩
  .exact .inl J
  .refine .inr ⟨g,cap,A,k1,O,jD j z (λk y D=>?_),U⟩;subst D;rcases ho.2 with⟨rfl,_⟩|⟨F,cap2,cur2,rfl,_,V,_⟩
   .simp[YC]at y
   .have:F=g:=by simpa[Value.ownBlock]using y
    subst this;rw[V]at j;injection j with j;injection j with _ j _;exact I j.symm
 have G:Below pb w w':=(YI pb w).grown z (fK (blk_lt h1)) (λk y=>by have:=(X6 ho k y).1;omega);exact⟨t,r,nn,jD h1 z (λk y=>by have:=(X6 ho k y).1;omega),h2.to oe.ab G (ar _) (ar _),far h3 aD,far h4 aD,h5,bC h6 z.size,h7⟩
def fv0(s:ByteArray)(w:XO)(hG:iC w)(ts:List gU)(hs:tY s.data.toList= .ok ts)(ds:List aG)(jx:pD s.data.toList= .ok ds):X4 X3 38 #[s] w (as9 w (.ok ds)):=by
 have HR:Hid (pD s.data.toList=nG ⟨ts,0,{}⟩ []):=by show _=_;unfold pD;rw[hs]
 have mP:=aj jx;obtain⟨cW,dh,BS⟩:=fu8 hs;have HS:=ep1 s w hG;rw[hs]at HS;have Kb:=aj HS;obtain⟨M,hM⟩:∃M,ts.length=M:=⟨_,rfl⟩;have gi:Hid (PS.Ok ⟨ts,0,{}⟩ M):=⟨cW,by simp;omega,by simp;omega,by simp,by simp;omega,dh,by simp⟩;rw[hM]at BS;have gv7:M<=100000:=Zv;have hq1:=λa b c d w=>au7 a b c d w;have hq2:∀(a b c d:XP)(w:XO),Sem.run X3 (Instr.field 135 (Zr #[a,b,c,d]) 3) w= .ok d w:=λa b c d w=>by kernel_rfl
 obtain⟨i0,hi,cA,a_,bd⟩:=Y0 el4;go_enter func38,ntmps38;go_wp2_with(go_at_call 81;refine Kb.mono ?_;unfold at9;rintro e y ⟨aC,v,rfl,z⟩;have HV:=aj z;obtain⟨A,n,c,rfl,hn,hc,fQ⟩:=z.form;have bp:=aj aC)
 refine ez (λW=>cK W y (y+1) M ⟨ts,0,{}⟩/\Below y y W/\W.heap.size=y.heap.size+1) ⟨⟨_,_,_,cR y _,HV.to oe.ab (ak (am y) _) (ar _) (ar _),Yc _ _ _ _,Yc _ _ _ _,YU _,by simp,gi⟩,ak (am y) _,by simp⟩ ?_;intro W0 ⟨UF,jE,Ds⟩;obtain⟨pb,mf⟩:∃pb,y.heap.size=pb:=⟨_,rfl⟩;rw[mf]at UF Ds;have U:=aj Ds;simp only[mf];have uj:=aj (aq bp jE);have Tf:=aj (show w.heap.size<=pb from by rw[<-mf];exact bp.size);have di5:=aj UF;go_loopw [9] (λv wr=>∃(q:PS)(out:List aG)(rows:List (List XP))(B':Nat),cK wr pb B' M q/\q.e=0/\pD s.data.toList=nG q out/\rH wr pb rows out/\wr.ownsRow (pb+1) 100 6 v out.length rows.flatten/\out.length<=1024/\aL (pb+1) pb W0 wr) (λ_ wr=>tokM pb wr)
 case atStart=>exact⟨_,[],[],_,di5,rfl,HR,⟨rfl,by simp⟩,Yc _ _ _ _,by simp,aL.refl _ _ _⟩
 case round=>
  obtain⟨q,out,rows,B',kD,Ak,xd,pB,J,Ai,qW⟩:=hrel;have bt0:=aj kD;have Z:=aj xd;have uv:=aj pB;have xW:=aj J;have tk:=aj qW;have hj3:=aj Ak;have mg:=kD.cells.1;have dm3:=aj kD.tokM;have C:=aj (I' pb B' M q wr kD);have ET:Below w w wr:=uj.t ((qW.below (Y5 _)).mono Tf);have D9:=aj ET;obtain⟨vA,vn,vc,rfl⟩:=eW J;have evn:vn=out.length:=by
   rcases J.2 with⟨z,h0⟩|⟨g,cap,cur,z,_⟩
   .injection z with _ h2 _;omega
   .injection z with _ h2 _
  subst evn;by_cases D:q.head.kind=0
  .have hk:((q.head.kind:Int)!=0)=false:=by simp;omega
   have zD:=aj (eo1 (out:=out) D);unfold az at C;rw[ue]at C;go_wp2_with(go_at_call 82;refine C.r λw3 I=>?_;have j:=aj I)
   go_ret3
   obtain rfl:out=ds:=Except.ok.inj ((Z.t zD).symm.t mP);refine⟨aq D9 j,_,rfl,?_⟩;exact rH.sl (uv.kp (aL.of_below j (ar _) j.size)) (eI xW j)
  .have hk:((q.head.kind:Int)!=0)=true:=by simp;omega
   by_cases ho:out.length=1024
   .exact nomatch mP.symm.t (Z.t (eo0 D ho Ak))
   .have Dm:((out.length:Int)==1024)=false:=by simp;omega
    have SG:=aj fun(h:q.decl.1.e=0)W(hW:cK W pb B' M q)=>el3 pb B' M q W gv7 hW h;have wA:=aj (fu9 q);have fp:=aj λh=>PS.decl_lt (p:=q) h;have rV:=aj λh=>en8 (p:=q) D ho h;have ST:=aj λh=>en9 (p:=q) D ho h;generalize q.decl=qd at SG wA fp rV ST;obtain⟨q2,d⟩:=qd;dsimp only at wA fp rV ST;unfold az at C SG;rw[ue]at C;by_cases he:q2.e=0
    .have hq0:((q2.e:Int)!=0)=false:=by simp;omega
     have G:=aj he;go_wp2_with first
      |(go_at_call 82;refine C.r λw3 I=>?_;have j:=aj I)
      |(go_at_call 85;refine(SG G _ (bt0.later j)).mono ?_;unfold Z4;rintro e F ⟨dv,B2,rfl,⟨r,nn,rfl,cd,cZ,KW,uP⟩,kX,V,lw⟩;obtain⟨rA,rn,rc,rfl⟩:=eW cd;obtain⟨nA,n2,nc,rfl⟩:=eW cZ;have Fq:=kX.size;have il:=aj ((aL.of_below j (ar _) j.size:aL wr pb wr w3).t (lw.mono j.size));have pR:=aj V;have rX:=aj kX;have zB:=aj cd;have CO:=aj cZ;have O:=aj (XU KW uP);have NY:=aj ((qu xW il (ar _) (YU _)).alloc (Zq #[d.kind,bs d.name,Zk rA rn rc,Zk nA n2 nc,d.by_,Zp d.always] 100));have vX:=il.size)
      |(at_builtin;refine wpList_append_own _ rfl (.tmp 34) (.tmp 37) _ rfl (pb+1) 100 i0 _ 6 88 underlying59 hi cA a_ bd rfl (by decide) _ out.length rows.flatten rfl NY ⟨F,0,none⟩ 1 1 [.int .i64 d.kind,.string (bs d.name),.slice rA rn rc,.slice nA n2 nc,.int .i64 d.by_,.bool d.always] rfl rfl (pA rfl) (by simp[Value.oneCell']) (by simp[maxLen];omega) (by omega) (by simp;omega) ?_
        intro v' w5 ii bF _;have Ic:=((uv.kp il).kp (aL.of_below (pb:=pb) (ak (am F) (Zq #[d.kind,bs d.name,Zk rA rn rc,Zk nA n2 nc,d.by_,Zp d.always] 100)) (ar _) Zy));have X:=Ic.snoc (d:=d) Fq.1 (eI zB (ak (am F) _)) (eI CO (ak (am F) _)) ⟨O.1,O.2,by
         rcases wA.o with e|e
         .rw[e];exact rX.ok.n.2
         .rw[e];simp⟩
        have G7:=aj (X.grown NY bF);have np:Hid (cK w5 pb B2 (M+1) q2):=cK.other (rX.later (ak (am F) _)) NY (YU _) bF;have di4:=aj ii;have Y:pb+1<=wr:=by have:=tk.size;have:=U.o;omega
        have gK:Hid (aL (pb+1) pb W0 w5):=aL.grown ((tk.t (il.mono Y)).t (aL.of_below (ak (am F) (Zq #[d.kind,bs d.name,Zk rA rn rc,Zk nA n2 nc,d.by_,Zp d.always] 100)) (bC Y vX) Zy)) NY bF (by have:=U.o;omega);have hu1:=np.cells.1;have hm3:=np.cells.2.2.1)
     refine⟨⟨q2,out++[d],rows++[tQ d (Zk rA rn rc) (Zk nA n2 nc)],B2,np.okM (pR G),G,by rw[Z.o,rV G.o],G7,?_,by simp;omega,gK⟩,?_⟩
     .have h:=di4.o;rw[X0,List.flatten_append];exact h
     .rw[np.tokM,dm3.o];exact fp G.o
    .exact nomatch mP.symm.t (Z.t (ST he))
def fv1(s:ByteArray)(w:XO)(h:iC w)(ds:List aG)(c:pD s.data.toList= .ok ds):X4 X3 38 #[s] w (as9 w (.ok ds)):=by
 cases hs:tY s.data.toList with
 |error x=>exact nomatch c.symm.t (show pD s.data.toList= .error x by unfold pD;rw[hs])
 |ok ts=>exact fv0 s w h ts hs ds c
end
section
open Go Go.RowKit Go.MapKept Go.Proofs.Tryz
def ad0(c:ay):∀l:List ay,Lib.join l c=c_ c l
 |[]=>rfl
 |[a]=>Lib.join_one a c
 |a::b::l=>by rw[Lib.join_cons];show a++YJ c (b::l)=a++c++c_ c (b::l);rw[<-ad0 c (b::l),Lib.join_cons];simp[YJ]
def JD(c:ay)(n:Nat):∀(l:List ay),(∀x∈l,x.length<=n)->(c_ c l).length<=(n+c.length)*l.length
 |[],_=>by simp[c_]
 |[a],h=>by have:=h a Zy;simp[c_];omega
 |a::b::l,h=>by
  have j:=h a Zy;have y:=JD c n (b::l) λx hx=>h x (by simp at hx⊢;exact .inr hx);have e:(n+c.length)*(a::b::l).length=(n+c.length)*(b::l).length+(n+c.length):=by rw[YF,Nat.mul_add,Nat.mul_one]
  show(a++c++c_ c (b::l)).length<=_;rw[e,X0,X0];omega
def ad1(y:ay)(v:XP)(l:List ay)(w:XO)(h:bg w w v l)(V:l.length<=1000000)(O:(c_ y l).length<=1000000):
 aR 19 #[v,bs y] w (X2 (bs (c_ y l))):=by
 rcases Sl.cases_ h with⟨C,A,c,rfl,_⟩|⟨X,b,o,c,rfl,z,U,D,F⟩
 .have:l=[]:=by simpa using C
  subst this;exact(strings_Join_none A c _ w).mono λe w'⟨G,J⟩=>⟨G,J▸YI _ _⟩
 .have e:((l.map bs).map (·.data.toList))=l:=by simp[bs,Function.comp_def]
  have h:=strings_Join b o c (l.map bs) (bs y) w (λj x I=>F j _ (by rw[X5,I];rfl)) D (by rw[XY];omega) (by rw[XY]at z;exact z) (by rw[e,ad0];show(c_ y l).length<=_;omega);rw[e,ad0,XY]at h;rw[XY,XY];exact h
def bj8(v:XP)(l:List ay)(w:XO)(h:bg w w v l)(z:l.length<=1000000)(y:(eQ l).length<=1000000):
 aR 239 #[v] w (X2 (bs (eQ l))):=by
 obtain⟨A,n,c,rfl,_⟩:=h.sk.form;have j:=aj (ad1 [44,32] _ l w h z y);go_enter func239,ntmps239;go_wp2_with(go_at_call 19;refine j.r λC aC=>?_)
 exact zc
def bR.lits(w:XO){base:Nat}{l:List ByteArray}(c:base<=w)(j:0<l.length)(y:l.length<=1000):bR (w.alloc (Zq (l.map X2).toArray 9)) base (Zk (XL (w 0 XM)) l.length l.length) l:=
 ⟨by simp,.inr ⟨w.heap.size,l.length,_,rfl,c,cR w _,by simp,by simp[Yd];omega,by simp,by rw[Ye Zy]⟩⟩
section
variable {d:aG} {rv nv:XP} {w:XO}
def bj9(i n:Nat)(z:dd w)(y:aS w w nv (d.nums.map λx:Nat=>(x:Int)))(c:d.nums[i]?=XL n)(F:n<=1048576):
 aR 235 #[Zr #[d.kind,bs d.name,rv,nv,d.by_,Zp d.always],i] w (X2 (bs (XS (n:Nat)))):=by
 obtain⟨NA,nn,nc,rfl,cS,_,_⟩:=y.sk.form;obtain⟨nb,no,rfl,mH,hc⟩:=aS.cell y (j:=i) (x:=n) (by rw[X5,c];rfl);have C:=(List.getElem?_eq_some_iff.1 c).1;rw[XY]at cS;have G:(0:Int)<=i:=Zv;have I:(i:Int)<nn:=Zv;have A:=aj (λW(D:Below w w W)=>LV (n:Nat) ⟨by omega,by omega⟩ W (z.step D));go_enter func235,ntmps235;go_wp2_with(go_at_call 21;refine(A _ (ak (am w) _)).r λJ aC=>?_)
 exact Mk
def fv7(i y z A:Nat)(V:dd w)(F:aS w w nv (d.nums.map λx:Nat=>(x:Int)))(I:d.nums[i]?=XL y)(J:d.nums[i+1]?=XL z)(O:d.nums[i+2]?=XL A)(X:y<=1048576/\z<=1048576/\A<=1048576)(hi:i<=1000):
 X4 X3 240 #[Zr #[d.kind,bs d.name,rv,nv,d.by_,Zp d.always],i] w (fY w ([iJ,XS (y:Nat),iL,XS (z:Nat),iK,XS (A:Nat)].map bs)):=by
 have G:=aj λj n W(D:Below w w W)(hj:d.nums[j]?=XL n)(iE:n<=1048576)=>bj9 (rv:=rv) j n (V.step D) ((F.below D (ar _)).more D.size) hj iE;have Z:=aj I;have H1:=aj J;have H2:=aj O;have C:=aj X;obtain⟨NA,nn,nc,rfl,_⟩:=F.sk.form;have w1:IntKind.i64.wrap ((i:Int)+1)=((i+1:Nat):Int):=Yr _ Zv;have w2:IntKind.i64.wrap ((i:Int)+2)=((i+2:Nat):Int):=Yr _ Zv;go_enter func240,ntmps240;go_upto_region 1 with(fail)
 refine df ?_;intro W1 ⟨U,hx⟩;have c:=aj U;have HX:=aj hx;refine FI λcU=>?_;refine tz (S:=λw'=>Below W1 W1 w') 13 CX λhS=>?_;iterate 2 refine oO 13 5 ?_
 refine cQ 3 8 ?_;refine cQ 4 9 ?_;refine cQ 5 10 ?_;refine cQ 7 12 ?_;refine cQ 8 13 ?_;refine cQ 9 14 ?_;refine fg 2 λK hK=>?_;go_simp;refine(G i y _ (aq c hS) Z C.1).r λw2 au=>?_;try go_simp
 refine sY λhS=>?_;refine aH ?_;refine fg 6 λK hK=>?_;go_simp;refine(G (i+1) z _ (aq c hS) H1 C.2.1).r λw3 aM=>?_;try go_simp
 refine hK _ _ (aq hS aM) λhS=>?_;refine aH ?_;refine fg 10 λK hK=>?_;go_simp;refine(G (i+2) A _ (aq c hS) H2 C.2.2).r λw4 aV=>?_;try go_simp
 refine Ct λhS=>?_;refine aH ?_;have Y:=aj (aq c hS);refine fg 11 λK hK=>?_;go_simp;refine tV λhS=>?_;refine aH ?_;refine cQ 12 4 ?_;refine rY ?_;go_upto_region 9 with(fail)
 go_ret;exact⟨_,rfl,bR.lits _ (l:=[_,_,_,_,_,_]) Y.size Zy Zy,ak Y _⟩
end
end
end Go.Proofs.YtihhpjmclebfpaaGreatDoor
