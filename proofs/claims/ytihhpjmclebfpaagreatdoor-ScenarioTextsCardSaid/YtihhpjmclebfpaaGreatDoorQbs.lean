/- A part of the proof. -/
import Derived.Test.YtihhpjmclebfpaaGreatDoorQbn
import Derived.Test.YtihhpjmclebfpaaGreatDoorQbo
import Derived.Test.YtihhpjmclebfpaaGreatDoorQbp
set_option linter.defProp false
set_option linter.unusedVariables false
set_option linter.unusedSimpArgs false
set_option maxRecDepth 100000
set_option maxHeartbeats 32000000
open Option renaming some->XL,none->XM
open Decidable renaming decide->XN
open Go renaming World->XO,Value->XP,Calls->X4,TypeId->Ya,maxLen->Yd,undef->YQ,Ending->Zb,Addr->Zf
open Bool renaming false->XQ,true->XR
open Go.Lib renaming split->Yv
open Go.RowKit renaming Hid->XV
open Go.Proofs renaming intOf->X8
open Go.Proofs.Tryz renaming prog->X3
open Go.Value renaming int->X1,string->X2,ownBlock->YC,oneCell'->YH,slice->Zk,bool->Zp,agg->Zr,pointer->Zs
open Go.Instr renaming lookup->Yu
open Go.Ending renaming returned->YT
open Go.Obj renaming cells->Zq
namespace Go.Proofs.YtihhpjmclebfpaaGreatDoor
open Go Go.RowKit Go.Proofs.Tryz
section
open Go.MapKept
def fq3(f:Fn)(a b:Array XP)(w:XO):(Go.binOp .neq 151 (.func f a b) .nilFunc).run X3 w= .ok (Zp XR) w:=aI
def fq4(w:XO):(Go.binOp .neq 151 .nilFunc .nilFunc).run X3 w= .ok (Zp XQ) w:=aI
def Q3:Array Value:= #[Zk XM 0 0,Zk XM 0 0,Zk XM 0 0,Zk XM 0 0,Zk XM 0 0,Zk XM 0 0,ah 0,ah 0,ah 0,ah 0,Zk XM 0 0]
def fq5(w:XO)(r:Except (Nat×Nat) aU)(e:Zb)(w':XO):Prop:=
 Below w w w'/\match r with
  | .error x=>e=YT (.tuple #[Zr Q3,x.1,x.2])
  | .ok m=>∃v,e=YT (.tuple #[Zr (m.cells v),ah 0,ah 0])/\m.In w' w' v/\∃B M,w.heap.size<=B/\gz w' B M m v
def fq6{W:XO}{rt:Nat}{T:Ya}{u0 u1 u2 u3 u4 u5 u6 u7 u8 u9 u10:XP}(O:af W rt #[u0,u1,u2,u3,u4,u5,u6,u7,u8,u9,u10] T)(j y z A C D F G I J c:XP):
 (((((((((((W.setCell rt j).setCell (rt 1 XM) y).setCell (rt 2 XM) z).setCell (rt 3 XM) A).setCell (rt 4 XM) C).setCell (rt 5 XM) D).setCell (rt 6 XM) F).setCell (rt 7 XM) G).setCell (rt 8 XM) I).setCell (rt 9 XM) J).setCell (rt 10 XM) c).heap[rt]?=XL (Zq #[j,y,z,A,C,D,F,G,I,J,c] T (0,0))/\aL W rt W (((((((((((W.setCell rt j).setCell (rt 1 XM) y).setCell (rt 2 XM) z).setCell (rt 3 XM) A).setCell (rt 4 XM) C).setCell (rt 5 XM) D).setCell (rt 6 XM) F).setCell (rt 7 XM) G).setCell (rt 8 XM) I).setCell (rt 9 XM) J).setCell (rt 10 XM) c):=
 ⟨(bf (bf (bf (bf (bf (bf (bf (bf (bf (bf (bf O 0 j) 1 y) 2 z) 3 A) 4 C) 5 D) 6 F) 7 G) 8 I) 9 J) 10 c).t aI,(aL.set (aL.set (aL.set (aL.set (aL.set (aL.set (aL.set (aL.set (aL.set (aL.set (aL.set (aL.refl _ _ _) (.inl rfl) _) (.inl rfl) _) (.inl rfl) _) (.inl rfl) _) (.inl rfl) _) (.inl rfl) _) (.inl rfl) _) (.inl rfl) _) (.inl rfl) _) (.inl rfl) _) (.inl rfl) _)⟩
def fq7{a:Act}{W:XO}{rt:Nat}{T:Ya}{R:Zb->XO->Prop}{u0 u1 u2 u3 u4 u5 u6 u7 u8 u9 u10 j y z A C D F G I J c i e:XP}(X:a.tmps.getD 2 YQ=Zs (XL rt))(Y:a.tmps.getD 3 YQ=i)(h4:a.tmps.getD 4 YQ=e)(hd:a.defers=[])
 (hT:af W rt #[u0,u1,u2,u3,u4,u5,u6,u7,u8,u9,u10] T)
 (Z:∀O,aL W rt W O->R (YT (.tuple #[Zr #[j,y,z,A,C,D,F,G,I,J,c],i,e])) O):
 bodyPost X3 Tryz.f40 R .ret a (((((((((((W.setCell rt j).setCell (rt 1 XM) y).setCell (rt 2 XM) z).setCell (rt 3 XM) A).setCell (rt 4 XM) C).setCell (rt 5 XM) D).setCell (rt 6 XM) F).setCell (rt 7 XM) G).setCell (rt 8 XM) I).setCell (rt 9 XM) J).setCell (rt 10 XM) c):=by
 obtain⟨g7,hK⟩:=fq6 hT j y z A C D F G I J c;generalize ((((((((((W.setCell rt j).setCell (rt 1 XM) y).setCell (rt 2 XM) z).setCell (rt 3 XM) A).setCell (rt 4 XM) C).setCell (rt 5 XM) D).setCell (rt 6 XM) F).setCell (rt 7 XM) G).setCell (rt 8 XM) I).setCell (rt 9 XM) J).setCell (rt 10 XM) c=O at g7 hK⊢
 obtain⟨f0,f1,f2,f3,f4,f5,f6,f7,f8,f9,f10⟩:=bQ g7;refine bodyPost_ret (v:= .tuple #[Zr #[j,y,z,A,C,D,F,G,I,J,c],i,e]) ?_ hd (Z O hK);have zZ:a.tmps[2]?.getD YQ=Zs (XL rt):=by simpa using X
 have U:a.tmps[3]?.getD YQ=i:=by simpa using Y
 have V:a.tmps[4]?.getD YQ=e:=oL;simp[results,Tryz.f40,go_sem,zZ,U,V,f0,f1,f2,f3,f4,f5,f6,f7,f8,f9,f10]
def fq8(qb mb:Nat)(d:aG)(j:d.kind<10):∃f cap,addF qb mb (d.kind:Int)=XL (.func (.func f) #[] cap)/\d_ f/\∀(w:XO)(rb B M Mb Bu:Nat)(t:dK)(m:aU)(rv nv u:XP),pM w rb B M Mb qb mb Bu t d m rv nv u->B<=Bu->
 X4 X3 f (#[Zr #[d.kind,bs d.name,rv,nv,d.by_,Zp d.always],u]++cap) w (yV w rb B M Mb (fv t m d)):=by
 have h:d.kind=0\/d.kind=1\/d.kind=2\/d.kind=3\/d.kind=4\/d.kind=5\/d.kind=6\/d.kind=7\/d.kind=8\/d.kind=9:=Zv;rcases h with h|h|h|h|h|h|h|h|h|h<;>refine⟨_,_,by rw[h];rfl,?_,λw rb B M Mb Bu t m rv nv u H c=>?_⟩
 .exact XX func197 aI rfl
 .exact fs4 H h
 .exact XX func198 aI rfl
 .exact fs5 H h
 .exact XX func199 aI rfl
 .exact fs6 H h
 .exact XX func200 aI rfl
 .exact fs7 H h
 .exact XX func201 aI rfl
 .exact fs9 H h
 .exact XX func202 aI rfl
 .exact ft1 H h
 .exact XX func204 aI rfl
 .exact ft2 H h
 .exact XX func205 aI rfl
 .exact ft3 H h
 .exact XX func206 aI rfl
 .exact ft4 H h c
 .exact XX func207 aI rfl
 .exact ft5 H h
def fq9(v:XP)(l:List aG)(w:XO)(hG:iC w)(hv:ci 6 mS w w.heap.size v l)(hl:l.length<=100000)(m0:aU)(jx:ru l= .ok m0):X4 X3 40 #[v] w (fq5 w (.ok m0)):=by
 obtain⟨A,n,c,rfl,hn,hc,fQ⟩:=hv.form;have BU:=λf a b w=>fq3 f a b w;have ht6:=λw=>fq4 w;refine vg λmG=>?_;have HG:=aj hG;have HV:=aj hv;have HN:=aj hn;have mP:=aj jx;have sq:=hG.g.size;clear hG hv hn jx;go_enter func40,ntmps40;go_upto_region 2 with(fail)
 refine ez (λW=>Below w.heap.size w W/\af W w.heap.size Q3 29/\dN mW W (w.heap.size+1) (λ_=>XM)/\af W (w.heap.size+2) (nV (w.heap.size+1) {} ⟨Zk XM 0 0,Zk XM 0 0,Zk XM 0 0,Zk XM 0 0,Zk XM 0 0,Zk XM 0 0,Zk XM 0 0⟩) 145) ?_ ?_
 .refine⟨ak (ak (ak (am w) _) _) _,ai (ai (cR w _) (ak (am _) _)) (ak (am _) _),?_,?_⟩
  .have h:=dN.made mW (w.alloc (Zq Q3 29 (0,0)));rw[YY]at h;exact h.later (ak (am _) _)
  .have h:=cR ((w.alloc (Zq Q3 29 (0,0))).alloc (.map #[] 0)) (Zq (nV (w.heap.size+1) {} ⟨Zk XM 0 0,Zk XM 0 0,Zk XM 0 0,Zk XM 0 0,Zk XM 0 0,Zk XM 0 0,Zk XM 0 0⟩) 145 (0,0));rw[YY,YY]at h;exact h
 intro W1 ⟨bc,UJ,UC,KS⟩;obtain⟨rt,Z⟩:∃b,b=w.heap.size:=⟨_,rfl⟩;obtain⟨Mb,U⟩:∃b,b=w.heap.size+1:=⟨_,rfl⟩;obtain⟨rb,bk⟩:∃b,b=w.heap.size+2:=⟨_,rfl⟩;rw[<-Z]at UJ;rw[<-U]at UC;rw[<-U,<-bk]at KS;rw[<-bk,<-U,<-Z];have Wu:=bc.size;have cz2:=blk_lt KS;have cw1:ae W1 rb (.map (XL Mb)):=ag KS rfl;have SB:=λt h=>fr7 rb Mb (Zk A n c) l W1 (HG.step bc) Zv cw1 (UC.of_eq λk=>rfl) (HV.to mS.ab bc (ar _) bc.size) hl t h;have ba:=aj bc;have bu0:=aj UJ;have Er:=aj KS;have hj7:=aj cz2;have hj8:=aj Wu;have dk4:=aj Z;have dh5:=aj U;have dk5:=aj bk;have cw2:¬rt=Mb:=Zv;have cw0:¬rb=Mb:=Zv;have hc1:¬rt=rb:=Zv;simp only[az]at SB;clear bc UJ UC KS cw1;cases hcol:ks [] [] l with
 |error x=>exact nomatch mP.symm.t (fp6 hcol)
 |ok t=>
  have iP:=aj (bo4 l [] [] t hcol);have NW:=aj (fp3 hcol Zv);have SD:=aj hcol;have Ec:=aj ((SB t hcol).mono (R':=λe w'=>aL W1 Mb W1 w'/\e=YT (.tuple #[ah 0,ah 0])/\dN mW w' Mb (mz t)) λe w' h=>h);clear SB hcol Z U bk;have nJ:=aj λW=>fk8 rb W;simp only[az]at nJ
  go_upto_region 6 with(first
   |(go_at_call 88;refine Ec.m ?_;rintro e w2 ⟨fu,rfl,ck7⟩;have ik:=aj fu;have SK:=aj ck7;clear fu ck7)
   |(go_at_call 89;refine(nJ _).m ?_;rintro e O ⟨Ma,qb,mb,rfl,cj4,tL,lE,cv5,cv6,cv7,aM⟩;have JI:=aj cj4;have bt1:=aj cv6;have bt2:=aj cv7;have bE:=aj aM;clear cj4 cv6 cv7 aM))
  have N4:=aj (ai (ik.blk bu0 (blk_lt bu0) cw2) bE);have BI:=ai (ik.blk Er (blk_lt Er) cw0) bE.o;have dd9:=aj (SK.later bE);have Z:=dk4.o;have U:=dh5.o;have bk:=dk5.o;have bd:=ik.size;have gJ:=bE.size;have hf2:=JI.lt;have hf3:=blk_lt bt1.o;have he8:=blk_lt bt2.o;obtain⟨B,hB⟩:∃b,b=O.heap.size:=⟨_,rfl⟩;have dg8:Hid (lP O rb B 0 Mb {}):=⟨by omega,by omega,_,BI,gz.nil_ _ _⟩;have dc3:Hid (Below w.heap.size w O):=(ba.t ((ik.below Zv).mono Zv)).t (bE.mono Zv);have HZ:=aj (show rb<B/\Mb<B/\Ma<B/\qb<B/\mb<B/\rt<B/\w.heap.size<=rt/\rt<rb/\rt<Mb/\Mb<rb/\rb<qb/\rb<mb/\rb<Ma/\B=O from by omega);clear BI bd gJ hf2 hf3 he8 hB tL lE cv5 cw2 cw0 hc1 Wu cz2 Z U bk;go_wp2_with fail
  go_loopw [9,32] (λV i wr=>∃(k:Nat)(m:aU),k<=n/\i=ah k/\V=Zp ((l.take k).any λd=>XN (d.kind=8))/\t6 t 0 {} l=t6 t k m (l.drop k)/\lP wr rb B k Mb m/\aL B rb O wr) (λ_ i _=>n - (X8 i).toNat)
  case atStart=>exact⟨0,{},bU _,rfl,rfl,rfl,dg8,aL.refl _ _ _⟩
  case round=>
   obtain⟨k,m,hk,rfl,rfl,cw5,Oy,og⟩:=hrel;obtain⟨V,K8⟩:∃b,((l.take k).any λd=>XN (d.kind=8))=b:=⟨_,rfl⟩;rw[K8];have wG:=aj cw5;have Y:=aj Oy;have nM:=aj og;have Ee:=aj K8;have dc6:Hid (Below rb O wr):=og.below (fK HZ.1);have JJ:Hid (Below w.heap.size w wr):=dc3.t (dc6.mono Br);have zG:Hid (wr.heap[rt]?=_):=og.blk N4 HZ.2.2.2.2.2.1 Br;have GO:=aj (dd9.blk (og.block Mb HZ.2.1 Br));have dk0:=aj (og.blk bt1 HZ.2.2.2.1 Br);have fT:=aj (og.blk bt2 HZ.2.2.2.2.1 Br);have GB:=aj (JI.blk (og.block Ma HZ.2.2.1 Br));clear cw5 Oy og K8;by_cases ap:k<n
   .obtain⟨eC,bh⟩:=dt ap;obtain⟨d,hd⟩:=iT HN ap;have Df:l.drop k=d::l.drop (k+1):=M9 hd;have Fv:l.take (k+1)=l.take k++[d]:=by rw[List.take_add_one,hd];rfl
    rw[Df]at wG;have yK:=iP d (eE hd);have CQ:=aj yK;have bp8:=aj (show((l.take (k+1)).any λd=>XN (d.kind=8))=(V||XN (d.kind=8))by rw[Fv,List.any_append,Ee.o];simp);have Tr:Hid (ci 6 mS wr w.heap.size (Zk A n c) l):=HV.below mS.ab JJ (ar _);obtain⟨b,o,cs,rfl,fL,U3,hR,bo⟩:=Tr.at_ hd;obtain⟨rv,nv,rfl,nh,B3,aC,au⟩:=hR;obtain⟨RA,rn,rc,rfl,_,_,_⟩:=nh.sk.form;obtain⟨NA,nn,nc,rfl,_,_,_⟩:=B3.sk.form;have wH:=aj nh;have Bl:=aj B3;refine DF λh0 h1 h2=>?_;have h3:=bo 3 _ rfl;have h4:=bo 4 _ rfl;have h5:=bo 5 _ rfl;simp only[X7]at h0;clear bo U3 nh B3 hd Df Fv yK;go_upto_region 10 with(fail)
    refine ez (λW=>Below wr wr W/\af W wr.heap.size #[d.kind,bs d.name,Zk RA rn rc,Zk NA nn nc,d.by_,Zp d.always] 100) ⟨by first|exact cV (ak (am wr) _) (ar _) _|exact ak (am wr) _,by first|exact Yy wr _|exact(bf (bf (bf (bf (bf (bf (Yy wr _) _ _) _ _) _ _) _ _) _ _) _ _).t rfl⟩ ?_;intro W2 ⟨aZ,ev⟩;obtain⟨xb,fe⟩:∃b,wr.heap.size=b:=⟨_,rfl⟩;have ij:=blk_lt ev;simp only[fe]at ev ij⊢
    obtain⟨zK,wQ,zL,zM,zN,zO⟩:=dy ev;have Bo:=aj fe;have aX:=aj aZ;have nq:=aj ev;have cz1:=Y.2.1;have cv9:ae W2 rb (.map (XL Mb)):=by obtain⟨v,hv,_⟩:=Y.2.2;exact ag (ai hv aZ) rfl
    have ID:=JJ.size;have hd9:=aZ.size;have JM:=aj λh=>fq2 rb Mb t d (Zk RA rn rc) (Zk NA nn nc) W2 cv9 (GO.later aZ) ((wH.below aZ ID).more Zv) CQ h;simp only[az]at JM;clear aZ ev h0 h1 h2 h3 h4 h5 fe cv9;by_cases OR:n_ t d=0
    .have uy:=aj (wG.t (fp5 OR));have dd3:=aj (JM OR);clear JM OR
     go_upto_region 13 with(first
      |(go_at_call 90;refine dd3.r λy bx=>?_;have D:Hid (Below wr wr y):=aX.t (bx.mono hd9);have Kh:=aj (ai nq bx);clear bx))
     obtain⟨CZ,tB,qG,qH,C5,tC⟩:=dy Kh.o;obtain⟨k8b,ox⟩:∃b,XN (d.kind=8)=b:=⟨_,rfl⟩;go_cut [9]from 45 to 78 (λp wx=>p=Zp (V||k8b)/\y=wx)
     case first=>
      cases V with
      |true=>
       go_wp2_with fail
       go_meet;exact⟨rfl,rfl⟩
      |false=>
       cases k8b with
       |true=>
        have e8:((d.kind:Int)==8)=true:=by have:=of_decide_eq_true ox;simp;omega
        clear ox;go_wp2_with fail
        go_meet;exact⟨rfl,rfl⟩
       |false=>
        have e8:((d.kind:Int)==8)=false:=by have:=of_decide_eq_false ox;simp;omega
        clear ox;go_wp2_with fail
        go_meet;exact⟨rfl,rfl⟩
     case rest=>
     obtain⟨rfl,rfl⟩:=hcut;have vF:=aj ox;have Wt:=D.size;have Oy:=Y.o;obtain⟨Iw,BF,v,fR,tE⟩:=Oy;have HOr:=aj tE;have J:=aj (ai fR D);have NX:=aj (tE.gp (gZ.of_below D) Iw);have SL:=aj (GO.later D);have dj9:=aj (ai dk0 D);have dg9:=aj (ai fT D);have mZ:aN d.by_:=rM Zv;have oI:=aj (λW(F:Below y y W)=>ZJ rb Mb t (Zk RA rn rc) d.refs W ((F.cell (p:=rb) (blk_lt J)).t (ag J rfl)) (SL.later F) (((wH.below D ID).below F Zv).more (by have:=F.size;omega)) (by have:=(mX CQ).2.2.1;omega));have S6:Hid (aL B rb O y):=nM.t (aL.of_below D BF Wt);have db7:=aj (show ∀W Bu u,Below y y W->W.ownsRow Bu 3 1 u d.refs.length ((d.refs.map (bT t)).map (X1 .i64))->pM W rb B k Mb qb mb Bu t d m (Zk RA rn rc) (Zk NA nn nc) u from λW Bu u F X=>⟨⟨Iw,by have:=F.size;omega,v,ai J F,NX.gp (gZ.of_below F) Iw⟩,ai dj9 F,ai dg9 F,HZ.2.2.2.1,HZ.2.2.2.2.1,by have:=HZ.o;omega,SL.later F,((wH.below D ID).below F Zv).more Br,((Bl.below D ID).below F Zv).more Br,X,CQ,by have:=HN.o;omega,NW,mZ⟩);have cs8:∀u,addF qb mb (d.kind:Int)=u->(Yu 148 (.map (XL Ma)) (ah d.kind) XQ).run X3 y= .ok (u.getD .nilFunc) y:=λu X=>by have h:=sU (P:=X3) underlying148 XZ cJ (GB.later D) (d.kind:Int) XQ (zeroValue151 _);rw[X]at h;exact h
     have bs0:=aj cs8;simp only[az]at oI;clear fR tE cs8 ox;by_cases Im:d.kind<10
     .obtain⟨ff,cap,Ii,Ih,ep⟩:=fq8 qb mb d Im;have Be:=aj ep;have j8:(Instr.lookup 148 (.map (some Ma)) (.int .i64 d.kind) false).run prog y= .ok (.func (.func ff) #[] cap) y:=bs0 _ Ii;clear Im Ii ep;go_upto_region 16 with(fail)
      refine eT (S:=λw'=>ae w' xb (ah d.kind)/\aa w' xb 1 (X2 (bs d.name))/\aa w' xb 2 (Zk RA rn rc)/\aa w' xb 3 (Zk NA nn nc)/\aa w' xb 4 (ah d.by_)/\aa w' xb 5 (Zp d.always)) 6 7 (by exact⟨CZ,tB,qG,qH,C5,tC⟩) λhS=>?_;iterate 5 refine nz 7 57 ?_
      refine bt 5 λK hK=>?_;go_simp;refine(oI _ (aW (am y))).q λw6 u X cL=>?_;have z:Hid (Below y y w6):=aq (aW (am y)) cL;have HH:=aj (db7 w6 _ u z X);obtain⟨UA,um,uc,rfl⟩:=eW X;clear X cL;try go_simp
      clear hS;refine hK _ _ (by exact⟨kc (z) CZ,kc (z) tB,kc (z) qG,kc (z) qH,kc (z) C5,kc (z) tC⟩) λhS=>?_;clear hK;refine aH ?_;refine eA 6 λK hK=>?_;have eg:∀args w,(callFunc ff args).run X3 w= .ok (.enter ff args) w:=Ih;go_simp;refine(Be _ _ _ _ _ _ _ _ _ _ _ HH (show B<=y from bC Y.2.1 Wt)).m ?_;rintro e w7 ⟨⟨xv,rfl⟩,KE,wU⟩;have db6:=aj KE;have j':Hid (aL B rb O w7):=(S6.t (aL.of_below z (by have:=Y.2.1;omega) z.size)).t wU;have Ki:=aj wU;clear KE wU;try go_simp
      refine fD ?_;clear hK;refine aH ?_;refine gc ?_;go_wp2_with fail
      refine⟨⟨k+1,fv t m d,by omega,by go_num,by rw[bp8.o,vF.o],uy,db6,j'⟩,by simp[X8];omega⟩
     have Fi:10<=d.kind:=Zv;obtain⟨i0,hi,cA,a_,bd⟩:=Y0 (show(Tryz.prog.info? 88).map (λi=>(i.zero,i.size,i.bytes))=XL (XL (Zr #[ah 0,ah 0,ah 0,ah 0,ah 0,Zp XQ,Zk XM 0 0]),7,72)by kernel_rfl);have j8:(Yu 148 (.map (XL Ma)) (ah d.kind) XQ).run X3 y= .ok .nilFunc y:=bs0 XM (fk7 qb mb Zv);have bo9:=aj (fq1 (t:=t) (m:=m) Fi);have ti:=aj (fq0 CQ NW mZ);have Tj:=aj (λW(F:Below y y W)=>fs2 rb Mb t d (Zk RA rn rc) (Zk NA nn nc) W ((F.cell (p:=rb) (blk_lt J)).t (ag J rfl)) (SL.later F) (((wH.below D ID).below F Zv).more (by have:=F.size;omega)) (((Bl.below D ID).below F Zv).more (by have:=F.size;omega)) CQ Fi);have HU:=aj λo=>cF.vals_def (oa t d) o;simp only[az]at Tj;generalize oa t d=rl at bo9 ti Tj HU;obtain⟨rows,qf,hX⟩:=HOr.u_;have O':=X6 qf;have jy:v.u.ownBlock≠XL rb:=λe=>by have:=(O' rb e).1;omega
     have gH:v.u.ownBlock≠XL xb:=λe=>by have:=(O' xb e).2;have:=Bo.o;omega
     have bt5:=aj (eI qf D);have dn6:=aj (hX.gp (rb:=rb) (ob:=XM) (gZ.of_below D) Iw (λ_ _ _ _ _ _ e=>by cases e));have Hs:aa y rb 11 v.u:=ag J rfl;have pQ:=aj O';have Dk:m.rules.length<=100000:=by have:=HOr.len;have:=HN.o;omega
     clear qf hX O';go_upto_region 17 with(fail)
     refine eT (S:=λw'=>ae w' xb (ah d.kind)/\aa w' xb 1 (X2 (bs d.name))/\aa w' xb 2 (Zk RA rn rc)/\aa w' xb 3 (Zk NA nn nc)/\aa w' xb 4 (ah d.by_)/\aa w' xb 5 (Zp d.always)/\aa w' rb 11 (v.u)) 11 15 (by exact⟨CZ,tB,qG,qH,C5,tC,Hs⟩) λhS=>?_;iterate 8 refine da 15 64 ?_
     refine bt 8 λK hK=>?_;go_simp;refine(Tj _ (aW (am y))).q λw6 o ho cL=>?_;obtain⟨OA,om,oc,rfl⟩:=eW ho;have z:Hid (Below y y w6):=aq (aW (am y)) cL;have rW:=aj ho;have di2:=aj (eI bt5 z);rw[HU.o];clear ho cL;try go_simp
     clear hS;refine hK _ _ (by exact⟨kc (z) CZ,kc (z) tB,kc (z) qG,kc (z) qH,kc (z) C5,kc (z) tC,kc (z) Hs⟩) λhS=>?_;clear hK;refine aH ?_;refine bt 9 λK hK=>?_;go_simp;refine hK _ _ (by exact⟨((ak (am _) _).cell (p:=xb) (bY _ _ (hS.1))).t (hS.1),((ak (am _) _).cell (p:=xb 1 XM) (bY _ _ (hS.2.1))).t (hS.2.1),((ak (am _) _).cell (p:=xb 2 XM) (bY _ _ (hS.2.2.1))).t (hS.2.2.1),((ak (am _) _).cell (p:=xb 3 XM) (bY _ _ (hS.2.2.2.1))).t (hS.2.2.2.1),((ak (am _) _).cell (p:=xb 4 XM) (bY _ _ (hS.2.2.2.2.1))).t (hS.2.2.2.2.1),((ak (am _) _).cell (p:=xb 5 XM) (bY _ _ (hS.2.2.2.2.2.1))).t (hS.2.2.2.2.2.1),((ak (am _) _).cell (p:=rb 11 XM) (bY _ _ (hS.2.2.2.2.2.2))).t (hS.2.2.2.2.2.2)⟩) λhS=>?_;clear hK;refine aH ?_;refine bt 10 λK hK=>?_;refine step_append_lies _ de _ _ _ de B 88 i0 _ 7 72 underlying27 hi cA a_ bd rfl Zv _ _ _ de ((di2).alloc _) ⟨_,0,XM⟩ 1 1 (Cp rl (Zk OA om oc)) de de (pA rfl) (by simp[Cp,YH]) Zv uE mr (by have:=z.size;first|omega|(simp;omega)) _ rfl ?_;intro gg cap w7 jX I iZ ap;refine hK _ _ (by exact⟨(fZ I (bY _ _ (hS.1)) gH).t (hS.1),(fZ I (bY _ _ (hS.2.1)) gH).t (hS.2.1),(fZ I (bY _ _ (hS.2.2.1)) gH).t (hS.2.2.1),(fZ I (bY _ _ (hS.2.2.2.1)) gH).t (hS.2.2.2.1),(fZ I (bY _ _ (hS.2.2.2.2.1)) gH).t (hS.2.2.2.2.1),(fZ I (bY _ _ (hS.2.2.2.2.2.1)) gH).t (hS.2.2.2.2.2.1),(fZ I (bY _ _ (hS.2.2.2.2.2.2)) jy).t (hS.2.2.2.2.2.2)⟩) λhS=>?_;clear hK;refine aH ?_;refine eA 11 λK hK=>?_;go_simp;refine fD ?_;clear hK;refine aH ?_;refine eA 12 λK hK=>?_;go_simp;refine fD ?_;clear hK;refine aH ?_;refine eA 13 λK hK=>?_;go_simp;refine fD ?_;clear hK;refine aH ?_;have f1:w7.frozen? (rb 11 XM)=false:=cO (jD (ai (ai J z) (ak (am _) _)) I λj hj e=>jy CW) 11;refine eA 14 λK hK=>?_;go_simp;refine fD ?_;clear hK;refine aH ?_;refine gc ?_;go_wp2_with fail
     have qg:=z.size;have ck0:B<=y:=bC Y.2.1 Wt;have hp:=oS.mk' (w:=y) (T:=145) (C:=nV Mb m v) (off:=11) (ai (ai J z) (ak (am _) _)) (aq z (ak (am _) _)) I jy jX iZ mr (iZ.elim (λh e=>jy (by rw[h,e])) (λh e=>by simp at h;omega));have sD:=rW.o;have Ae:=X6 sD;have Ds:y.drew.heap.size=y.heap.size:=rfl;rw[Ds]at Ae sD;have BW:=nE (p:=rb) (QY (World.ownsRow.kept (eI sD (ak (am w6) (Zq (Cp rl (Zk OA om oc)).toArray 88))) I (by
      cases hq:YC (Zk OA om oc)with
      |none=>exact .inl rfl
      |some j=>exact .inr (λe=>by have:=Ae j hq;have:=pQ j e.symm;omega))) ck0) (λj hj e=>by have:=Ae j hj;omega) 11 (Zk (XL (gg 0 XM)) (m.rules.length+1) cap)
     obtain⟨KE,wU⟩:=lP.addU Iw ck0 NX bt5 dn6 hp BW ti.2 ti.1;rw[<-bo9.o]at KE;refine⟨⟨k+1,fv t m d,by omega,by go_num,by rw[bp8.o,vF.o],uy,KE,S6.t wU⟩,by simp[X8];omega⟩
    .exact nomatch mP.symm.t (fp7 SD (wG.t (fp4 OR)))
   .have hI:=eS ap;have zE:=aj (show t6 t 0 {} l= .ok m from by have h:=wG.o;rw[List.drop_eq_nil_of_le (by rw[HN.o];omega)]at h;exact h);have iO:=aj (show(l.any λd=>decide (d.kind=8))=V from by have h:=Ee.o;rw[List.take_of_length_le (by rw[HN.o];omega)]at h;exact h);clear wG Ee;cases V with
    |false=>exact nomatch mP.symm.t (fp8 SD zE iO)
    |true=>
     have HE:=aj (fp9 SD zE iO);obtain⟨Iw,BF,⟨vs,vf,vr,vm,vl,vi,vu⟩,fR,tE⟩:=Y.o;have o1:wr.ownsRow B _ _ vs _ _:=tE.s_;have o2:wr.ownsRow B _ _ vf _ _:=tE.f_;have o3:wr.ownsRow B _ _ vr _ _:=tE.r_;have o4:wr.ownsRow B _ _ vm _ _:=tE.m_;have o5:wr.ownsRow B _ _ vl _ _:=tE.l_;obtain⟨rowsI,o6,_⟩:=tE.i_;obtain⟨rowsU,o7,_⟩:=tE.u_;have o6:wr.ownsRow B _ _ vi _ _:=o6;have o7:wr.ownsRow B _ _ vu _ _:=o7;obtain⟨A1,n1,c1,rfl⟩:=eW o1;obtain⟨A2,n2,c2,rfl⟩:=eW o2;obtain⟨A3,n3,c3,rfl⟩:=eW o3;obtain⟨A4,n4,c4,rfl⟩:=eW o4;obtain⟨A5,n5,c5,rfl⟩:=eW o5;obtain⟨A6,n6,c6,rfl⟩:=eW o6;obtain⟨A7,n7,c7,rfl⟩:=eW o7;clear o1 o2 o3 o4 o5 o6 o7;obtain⟨v,Pq⟩:∃v:MV,v=⟨Zk A1 n1 c1,Zk A2 n2 c2,Zk A3 n3 c3,Zk A4 n4 c4,Zk A5 n5 c5,Zk A6 n6 c6,Zk A7 n7 c7⟩:=⟨_,rfl⟩;rw[<-Pq]at tE;have hj6:=aj Pq;have SF:=aj (ZI m v wr (HG.below JJ sq) tE.in_);have mN:=aj (show m.cells v= #[Zk A1 n1 c1,Zk A2 n2 c2,Zk A3 n3 c3,Zk A4 n4 c4,Zk A5 n5 c5,Zk A6 n6 c6,ah m.dark,ah m.slots,ah m.reserve,ah m.failures,Zk A7 n7 c7]from by rw[Pq];rfl);clear Pq;rw[mN.o]at SF;have NX:=aj tE;have J:=aj fR;have r0:aa wr rb 1 (Zk A1 n1 c1):=ag fR rfl;have r1:aa wr rb 2 (Zk A2 n2 c2):=ag fR rfl;have r2:aa wr rb 3 (Zk A3 n3 c3):=ag fR rfl;have r3:aa wr rb 4 (Zk A4 n4 c4):=ag fR rfl;have r4:aa wr rb 5 (Zk A5 n5 c5):=ag fR rfl;have r5:aa wr rb 6 (Zk A6 n6 c6):=ag fR rfl;have r6:aa wr rb 7 (ah m.dark):=ag fR rfl;have r7:aa wr rb 8 (ah m.slots):=ag fR rfl;have r8:aa wr rb 9 (ah m.reserve):=ag fR rfl;have r9:aa wr rb 10 (ah m.failures):=ag fR rfl;have hi0:aa wr rb 11 (Zk A7 n7 c7):=ag fR rfl;clear fR tE;obtain⟨mo,It⟩:∃b,ew m=b:=⟨_,rfl⟩;rw[It]at SF HE;cases mo with
     |false=>have h:=mP.o;rw[HE.o]at h;simp at h
     |true=>
      obtain rfl:m=m0:=by have h:=mP.o;rw[HE.o,if_pos rfl]at h;exact Except.ok.inj h
      go_upto_region 23 with(first
       |(go_at_call 23;refine SF.r λy bx=>?_;have D:=aj bx;clear bx))
      clear r0 r1 r2 r3 r4 r5 r6 r7 r8 r9 hi0;have Fu:af y rt #[Zk XM 0 0,Zk XM 0 0,Zk XM 0 0,Zk XM 0 0,Zk XM 0 0,Zk XM 0 0,ah 0,ah 0,ah 0,ah 0,Zk XM 0 0] 29:=ai zG D.o;have G:=ai J D.o;have s0:aa y rb 1 (Zk A1 n1 c1):=ag G rfl;have s1:aa y rb 2 (Zk A2 n2 c2):=ag G rfl;have s2:aa y rb 3 (Zk A3 n3 c3):=ag G rfl;have s3:aa y rb 4 (Zk A4 n4 c4):=ag G rfl;have s4:aa y rb 5 (Zk A5 n5 c5):=ag G rfl;have s5:aa y rb 6 (Zk A6 n6 c6):=ag G rfl;have s6:aa y rb 7 (ah m.dark):=ag G rfl;have s7:aa y rb 8 (ah m.slots):=ag G rfl;have s8:aa y rb 9 (ah m.reserve):=ag G rfl;have s9:aa y rb 10 (ah m.failures):=ag G rfl;have ia2:aa y rb 11 (Zk A7 n7 c7):=ag G rfl;clear G;obtain⟨q0,q1,q2,q3,q4,q5,q6,q7,q8,q9,Px⟩:=bQ Fu;obtain⟨z0,z1,z2,z3,z4,z5,z6,z7,z8,z9,RI⟩:=dx0 Fu;have dl8:=aj Fu;go_wp2_with fail
      refine fq7 de de de de dl8 λW7 si=>?_;have hz:=HZ.o;have KR:=(NX.gp (rb:=rt) (gZ.of_below D) Zv).gp (gZ.of_kp si) Zv;exact⟨(JJ.t (D.mono (by have:=JJ.size;omega))).t ((si.below (by have:=D.size;omega)).mono Zv),v,by rw[mN.o];rfl,KR.in_,_,_,by omega,KR⟩
end
def vd{d:aG}(h:bK d=XR):∀n∈d.nums,n<=1048576:=by unfold bK at h;simp only[XW,Yn,decide_eq_true_eq]at h;exact h.2
def vr{d:aG}(h:bK d=XR):∀w∈d.refs,bI w=true:=by unfold bK at h;simp only[XW,Yn]at h;exact h.1.2
def kl:ll.length=2/\eK.length=2/\qN.length=8/\iJ.length=4/\iL.length=4/\iK.length=5/\qP.length=5/\qO.length=7/\dT.length=6/\qK.length=2/\qJ.length=6:=aD
section
open Go.MapKept
def Cv(L:List ay)(i:Nat)(line:ay):Except (Nat×Nat) iM:=
 match pD (aJ (L.take i))with
  | .error x=> .error (Qx (aJ (L.take i)) x.1,x.2)
  | .ok ds=>match ru ds with
    | .error x=> .error (0,x.2)
    | .ok m=>match xD line with
      |none=> .error (i+1,3)
      |some c=>match kQ (i+2) [] (L.drop (i+1))with
       | .error x=> .error x
       | .ok acts=>if eF ⟨m,c.1,c.2,acts⟩then .ok ⟨m,c.1,c.2,acts⟩else .error (i+1,1)
section
variable {L:List ay} {i:Nat} {line:ay}
def go3{x:Nat×Nat}(h:pD (aJ (L.take i))= .error x):Cv L i line= .error (Qx (aJ (L.take i)) x.1,x.2):=by unfold Cv;rw[h]
def go4{ds:List aG}{x:Nat×Nat}(h:pD (aJ (L.take i))= .ok ds)(c:ru ds= .error x):Cv L i line= .error (0,x.2):=by unfold Cv;rw[h];simp only[c]
def go5{ds:List aG}{m:aU}(h:pD (aJ (L.take i))= .ok ds)(j:ru ds= .ok m):Cv L i line=(match xD line with
        |none=> .error (i+1,3)
        |some c=>match kQ (i+2) [] (L.drop (i+1))with
         | .error x=> .error x
         | .ok acts=>if eF ⟨m,c.1,c.2,acts⟩then .ok ⟨m,c.1,c.2,acts⟩else .error (i+1,1)):=by unfold Cv;rw[h];simp only[j]
end
section
variable {k:Nat} {acc:List aQ} {s:ay} {r:List ay}
def go6(h:s=[]\/s.head?=XL 35):kQ k acc (s::r)=kQ (k+1) acc r:=by rw[kQ,if_pos h]
def go7(h:¬(s=[]\/s.head?=XL 35))(c:qq (eP (bs s))=XM):kQ k acc (s::r)= .error (k,3):=by rw[kQ,if_neg h,c]
def go8{y:aQ}(h:¬(s=[]\/s.head?=XL 35))(c:qq (eP (bs s))=XL y)(j:acc.length=1024):kQ k acc (s::r)= .error (k,8):=by rw[kQ,if_neg h,c];simp only;rw[if_pos j]
def go9{y:aQ}(h:¬(s=[]\/s.head?=XL 35))(c:qq (eP (bs s))=XL y)(j:¬acc.length=1024):kQ k acc (s::r)=kQ (k+1) (acc++[y]) r:=by rw[kQ,if_neg h,c];simp only;rw[if_neg j]
end
def gp0{x:ay}(h:0<(bs x).size):(((bs x)[0].toNat:Int)==35)=XN (x.head?=XL 35):=by
 cases x with
 |nil=>rw[eM]at h;simp at h
 |cons a l=>
  rw[bj5 (s:=bs (a::l)) (k:=0) (x:=a) (by rw[ie];rfl) h];rw[Yf,beq_iff_eq,decide_eq_true_eq];constructor
  .intro e;have:a=35:=UInt8.toNat_inj.1 (by show a.toNat=35;omega);rw[this];rfl
  .intro e;injection e with e;rw[e];rfl
def gp1{W:XO}{b:Nat}{T:Ya}{u0 u1 u2 u3 u4 u5 u6 u7 u8 u9:XP}(J:af W b #[u0,u1,u2,u3,u4,u5,u6,u7,u8,u9] T)(c j y z A C D F G I:XP):
 ((((((((((W.setCell b c).setCell (b 1 XM) j).setCell (b 2 XM) y).setCell (b 3 XM) z).setCell (b 4 XM) A).setCell (b 5 XM) C).setCell (b 6 XM) D).setCell (b 7 XM) F).setCell (b 8 XM) G).setCell (b 9 XM) I).heap[b]?=XL (Zq #[c,j,y,z,A,C,D,F,G,I] T (0,0)):=
 (bf (bf (bf (bf (bf (bf (bf (bf (bf (bf J 0 c) 1 j) 2 y) 3 z) 4 A) 5 C) 6 D) 7 F) 8 G) 9 I).t aI
def gp2{w:XO}(ob:Obj)(c h j y z A C D F G:XP):
 Below w w (((((((((((w.alloc ob).setCell w c).setCell (w 1 XM) h).setCell (w 2 XM) j).setCell (w 3 XM) y).setCell (w 4 XM) z).setCell (w 5 XM) A).setCell (w 6 XM) C).setCell (w 7 XM) D).setCell (w 8 XM) F).setCell (w 9 XM) G):=
 cV (cV (cV (cV (cV (cV (cV (cV (cV (cV (ak (am w) ob) (ar _) c) (ar _) h) (ar _) j) (ar _) y) (ar _) z) (ar _) A) (ar _) C) (ar _) D) (ar _) F) (ar _) G
def RS{w:XO}{base:Nat}{e:Ya}{size n:Nat}{v:XP}{xs:List XP}(h:w.ownsRow base e size v n xs):∃A k c,v=Zk A k c/\k=n:=by
 rcases h.2 with⟨rfl,y⟩|⟨g,cap,j,rfl,_⟩
 .exact⟨_,_,_,rfl,y.symm⟩
 .exact⟨_,_,_,rfl,rfl⟩
def gp3:(Tryz.prog.info? 45).map (λi=>(i.zero,i.size,i.bytes))=XL (XL (Zr #[ah 0,ah 0,ah 0,ah 0,ah 0,X2 ⟨#[]⟩,ah 0,ah 0,Zk XM 0 0,Zk XM 0 0]),10,120):=aI
def gp4(t:ay)(w:XO)(hG:iC w)(hs:t.length<=65536)(K:Nat)(line:ay)(BP:ac1 (dZ t)=K)(lZ:(dZ t)[K]?=XL line)(gq:rL line=XR)(s0:iM)(jx:Cv (dZ t) K line= .ok s0):
 X4 X3 10 #[bs t] w (ac7 w (.ok s0)):=by
 have bm:((bs t).size:Int)<=65536:=by rw[eM];omega
 have KI:=hG.g.size;have HG:=aj hG;have HI:=aj BP;have NT:=aj lZ;have U0:=aj gq;clear hG BP lZ gq;have zD:=aj jx;clear jx;go_enter func10,ntmps10;go_upto_region 1 with(fail)
 refine df ?_;intro W1 ⟨bc,eY⟩;have ba:=aj bc;have Bn:=aj eY;clear bc eY;go_upto_region 4 with
  (go_at_call 34;refine(fu6 t _ (HG.g.step ba) hs).m ?_;rintro e C ⟨b,o,n,c,z,rfl,hv,gR,lC,ph,p_,Pa,cq4,au⟩;have aX:=aj (aq ba au);have wI:=aj (ai Bn au);have bu3:=aj hv;have li:=aj p_;have dg7:=aj Pa;clear hv p_ Pa au)
 have i1:IntKind.i64.wrap ((n:Int) - 1)=(n:Int) - 1:=Yr _ Zv;have i2:((n:Int) - 1).toNat=n - 1:=Zv;have i3:(0:Int)<=(n:Int) - 1:=Zv;have i4:(n:Int) - 1<(n:Int):=Zv;have cs7:(Yv t [10]).getLast?=XL z:=by rw[List.getLast?_eq_getElem?,li.o];exact dg7
 have br9:=aj cs7;clear cs7;have gx6:aa C b (o+(n - 1)) (X2 (bs z)):=cq4;clear cq4;obtain⟨bz,E6⟩:∃q,((bs z).toList==([]:List UInt8))=q:=⟨_,rfl⟩
 go_upto_if 32 with fail
 go_cut [5] (λv wx=>∃N,v=Zk (XL (b o XM)) N c/\N<=n/\Sl C C (Zk (XL (b o XM)) N c) ((dZ t).map oT)/\C=wx)
 case first=>
  cases bz with
  |true=>
   have hz:z=[]:=by rw[beq_iff_eq,je,ie]at E6;exact E6
   have Lm:dZ t=(Yv t [10]).dropLast:=by unfold dZ;simp only[br9.o,hz,if_true]
   have tq:Hid (Sl C C (Zk (XL (b o XM)) (n - 1) c) ((dZ t).map oT)):=by refine aj ?_;rw[Lm,List.map_dropLast];exact bu3.dropLast
   have i5:(n:Int) - 1<=(c:Int):=Zv;have i6:n - 1<=c:=Zv;clear Lm hz E6;go_wp2_with fail
   go_meet;exact⟨n - 1,rfl,by omega,tq,rfl⟩
  |false=>
   have hz:¬z=[]:=by rw[beq_eq_false_iff_ne,je,ie]at E6;exact E6
   have Lm:dZ t=Yv t [10]:=by unfold dZ;simp only[br9.o,Option.some.injEq,hz,if_false]
   have tq:Hid (Sl C C (Zk (XL (b o XM)) n c) ((dZ t).map oT)):=by refine aj ?_;rw[Lm];exact bu3
   clear Lm hz E6;go_wp2_with fail
   go_meet;exact⟨n,rfl,by omega,tq,rfl⟩
 case rest=>
 obtain⟨N,rfl,ho1,BH,rfl⟩:=hcut;obtain⟨L,hL⟩:∃q,dZ t=q:=⟨_,rfl⟩;have cm2:=(be1 _ t (ar _)).2;rw[hL]at BH cm2 HI NT zD;have NS:=aj (show(aJ L).length<=65537 by omega);have tq:=aj BH;have hN:L.length=N:=by obtain⟨A',c',he,_⟩:=BH;injection he with _ he _;rw[XY]at he;exact he.symm
 have bs4:=aj hN;have hn4:K<N:=by rw[<-hN];exact(List.getElem?_eq_some_iff.1 NT).1
 have S8:Hid (∀W,Below C C W->∀(j:Nat)x,L[j]?=XL x->W.cell? ⟨b,o+j,XM⟩=XL (X2 (bs x))):=aj (by obtain⟨A',c',he,_,_,h3⟩:=BH;obtain⟨b',o',hA,hb,nd⟩:=h3 (λe=>by have:=congrArg List.length e;simp at this;rw[this]at hN;simp at hN;omega);injection he with K_ yv BN;rw[<-K_]at hA;injection hA with hA;injection hA with h1 h2 _;subst h1 h2;intro W hW j x hx;exact(hW.cell (p:=⟨b,o+j,XM⟩) hb).t (nd j _ (by rw[X5,hx];rfl)));have uV:w.heap.size<=C:=aX.size;have gz8:line.length<=70000:=by have:=ac9 (eE NT);omega
 have hn3:(0:Int)<=(K:Int):=Zv;have cl3:¬(K:Int)<0:=Zv;have hn6:(K:Int)<=c:=Zv;have hn5:(K:Int)<N:=Zv;have hn7:K<=c:=Zv;clear hL BH cm2 hN gx6;go_wp2_with
  (go_at_call 35;refine(fz0 _ L _ tq).r λw3 aM=>?_;have bE:=aj aM;have N4:=aj (ai wI aM);clear aM;rw[HI.o])
 generalize pI:w.heap.size=rt at N4⊢
 have Ft:rt<=w:=Zv;have An:w.heap.size<=rt:=Zv;clear pI;go_loopw [7,9,50] (λsrc _ i wr=>∃j:Nat,j<=K/\i=ah j/\src=X2 (bs (aJ (L.take j)))/\wr=w3) (λ_ _ i _=>K - (X8 i).toNat)
 case atStart=>exact⟨0,bU _,rfl,rfl,rfl⟩
 case round=>
  obtain⟨j,hj,rfl,rfl,hw⟩:=hrel;obtain rfl:=hw.symm;by_cases F:j<K
  .obtain⟨eC,bh⟩:=dt F;obtain⟨x,hx⟩:∃x,L[j]?=some x:=⟨_,List.getElem?_eq_getElem (by rw[bs4.o];omega)⟩;have i':w3.cell? ⟨b,o+j,none⟩=some (.string (bs x)):=S8 w3 bE j x hx;have Bl:=aj (show bs (aJ (L.take j))++(bs x++⟨#[10]⟩)=bs (aJ (L.take (j+1)))by rw[fv5 L hx,<-fU,<-fU];rfl);have bZ:(bs x).size<=70000:=by have:=ac9 (eE hx);have:=NS.o;rw[eM];omega
   have bL:(bs (aJ (L.take j))).size<=70000:=by have:=ac8 L j;have:=NS.o;rw[eM];omega
   have kZ:(bs x++⟨#[10]⟩:ByteArray).size<=70001:=by rw[ByteArray.size_append];have:(⟨#[10]⟩:ByteArray).size=1:=rfl;omega
   clear hx;go_wp2_with fail
   exact⟨⟨j+1,by omega,by go_num,by rw[<-Bl.o],by trivial⟩,by simp[X8];omega⟩
  .have bh:=eS F;obtain rfl:K=j:=by omega
   obtain⟨S,hS⟩:∃q,aJ (L.take K)=q:=⟨_,rfl⟩;have ho3:(bs S).size<=1000000:=by have:=ac8 L K;have:=NS.o;rw[eM,<-hS];omega
   rw[hS];have HS:=aj hS.symm;have VZ:=λds h=>fv1 (bs S) w3 (HG.below (aX.t (bE.mono uV)) KI) ds h;clear hS F;rw[ie]at VZ;cases hp:pD S with
   |error x=>exact nomatch zD.symm.t (go3 (L:=L) (i:=K) (line:=line) (x:=x) (HS.o▸hp))
   |ok ds=>
    have yu:ds.length<=100000:=by have:=fv3 hp;omega
    have dj6:=aj (VZ ds hp);clear VZ;cases hm:ru ds with
    |error x=>exact nomatch zD.symm.t (go4 (L:=L) (i:=K) (line:=line) (x:=x) (HS.o▸hp) hm)
    |ok m=>
     have Lo:=aj hm
     go_upto_region 21 with(first
      |(go_at_call 38;refine dj6.m ?_;rintro e I ⟨aV,v,rfl,Pn⟩;have bW:=aj (aq bE aV);have G_:=aj (ai N4 aV);obtain⟨dA,dn,dc,rfl,_,_,_⟩:=Pn.form;have bu4:=aj Pn;have mN:=aj λW(h:Below I I W)=>fq9 (Zk dA dn dc) ds W (HG.below ((aX).t ((aq bW h).mono uV)) KI) (Pn.to mS.ab h (ar _) h.size) yu m Lo;clear Pn;clear aV)
      |(go_at_call 40;refine(mN _ (ak (am I) _)).m ?_;rintro e w5 ⟨bx,v,rfl,cx5,Bm,Mm,cj9,oh⟩;have cT:=aj (aq bW (aq (ak (am I) _) bx));have N5:=aj (ai G_ (aq (ak (am I) _) bx));have U:=ai (cR I _) bx;have he6:I.heap.size<w5:=blk_lt U;have KH:I.heap.size<Bm:=by have h:=cj9;simp at h;omega
        obtain⟨⟨Sa,sc,xf,bZ,bL⟩,⟨Fa,fc,bS,bM,cj⟩,⟨Ra,rc,ja,cd,cZ⟩,⟨Ma,mc,rh,cr,co⟩,⟨La,lc,ee,cW,dh⟩,⟨Ia,ic,Dh,dg,d'⟩,⟨Ua,uc,Fy,dm,dr⟩⟩:=cx5.cells;have HM:=aj (nD m xf bS ja rh ee Dh Fy);rw[HM.o];have nN:=aj oh;obtain⟨⟨q0,q1,q2,q3,q4,q5,q6,q7,q8,q9,Px,Ww,Wy,Wz⟩,z0,z1,z2,z3,z4,z5,z6,z7,z8,z9,RI,db3,db4,db5⟩:=bj4 U
        skip
        have dk9:=aj U;clear bx U cx5 oh xf bS ja rh ee Dh Fy cj9))
     refine ez (λW'=>af W' I.heap.size #[Zk Sa m.sites.length sc,Zk Fa m.feeds.length fc,Zk Ra m.racks.length rc,Zk Ma m.machs.length mc,Zk La m.links.length lc,Zk Ia m.items.length ic,m.dark,m.slots,m.reserve,m.failures,Zk Ua m.rules.length uc,Zk XM 0 0,ah 0,Zk XM 0 0] 33/\aL w5 I w5 W') ⟨fz4 dk9 _ _ _ _ _ _ _ _ _ _ _,fu3 _ _ _ _ _ _ _ _ _ _ _ _⟩ ?_;intro W6 ⟨xg,Lj⟩;have bt8:=aj (Lj.blk N5 (blk_lt N5) (by have:=blk_lt G_.o;omega));have dP:=aj (cT.t ((Lj.below Zv).mono bW.size));have rW:=aj (nN.gp (gZ.of_kp Lj) KH);have zF:=aj xg;have qg:=Lj.size;have ep:aa W6 b (o+K) (X2 (bs line)):=S8 W6 dP K line NT.o;obtain⟨sb,U⟩:∃q,I.heap.size=q:=⟨_,rfl⟩;have hc3:8<=sb:=by have:=bW.size;omega
     have Pi:rt<sb:=by rw[<-U];exact blk_lt G_.o
     have hy6:C.heap.size<=sb:=by rw[<-U];exact bW.size
     rw[U]at zF KH⊢
     clear xg Lj U q0 q1 q2 q3 q4 q5 q6 q7 q8 q9 Px Ww Wy Wz z0 z1 z2 z3 z4 z5 z6 z7 z8 z9 RI db3 db4 db5;have zC:=aj (λcc h=>fy5 line sb 33 #[Zk Sa m.sites.length sc,Zk Fa m.feeds.length fc,Zk Ra m.racks.length rc,Zk Ma m.machs.length mc,Zk La m.links.length lc,Zk Ia m.items.length ic,m.dark,m.slots,m.reserve,m.failures,Zk Ua m.rules.length uc,Zk XM 0 0,ah 0,Zk XM 0 0] W6 ((HG.below ((aX).t (dP.mono uV)) KI).g) U0 (by have:=gz8;omega) hc3 zF rfl cc h);have Eu:=aj (zD.symm.t (go5 (L:=L) (i:=K) (line:=line) (HS.o▸hp) hm));clear hm hp;cases lF:xD line with
     |none=>have h:=Eu.o;rw[lF]at h;exact nomatch (show(Except.ok s0:Except (Nat×Nat) iM)= .error (K+1,3)from h)
     |some cc=>
      obtain⟨cl,cn⟩:=cc;have zC:=aj (zC _ lF);rw[lF]at Eu;unfold ac4 at zC;rw[lF]at zC;have OS:cl.length<=100000:=by have:=fv4 lF;simp only at this;omega
      clear lF;go_upto_region 25 with
       (go_at_call 41;refine zC.m ?_;rintro e Y ⟨G,rfl,V,nn,c8,cw4,cp6,jG⟩;have bt9:=aj ((G.block rt (blk_lt bt8) (by simp;omega)).t bt8);have iu:Hid (Below C C Y):=aj (dP.t ⟨G.os,G.tape,G.output,G.size,λi hi=>G.block i (by have:=dP.size;omega) (by simp;omega)⟩);have xV:=aj (rW.gp (rb:=sb) ⟨G.os,G.tape,G.output,G.size,λi hi h1 _=>G.block i hi (by simp;omega)⟩ KH);have dl0:=aj (cw4.t (by kernel_rfl:_=some (.cells #[.slice Sa m.sites.length sc,.slice Fa m.feeds.length fc,.slice Ra m.racks.length rc,.slice Ma m.machs.length mc,.slice La m.links.length lc,.slice Ia m.items.length ic,.int .i64 m.dark,.int .i64 m.slots,.int .i64 m.reserve,.int .i64 m.failures,.slice Ua m.rules.length uc,.slice (some ⟨V,0,none⟩) nn c8,.int .i64 cn,.slice none 0 0] 33 (0,0))));have bp2:=aj cp6;have ho6:sb<V:=by have:=blk_lt zF.o;omega
        have hu8:sb<Y:=by have:=blk_lt zF.o;have:=G.size;omega
        have Au:=G.size;clear G cw4 cp6 jG)
      obtain⟨D,hD⟩:∃q,L.drop (K+1)=q:=⟨_,rfl⟩;obtain⟨R,hR⟩:∃q,N - (K+1)=q:=⟨_,rfl⟩;rw[hD]at Eu;have HD:=aj hD;have xQ:=aj (show D.length=R by rw[<-hD,Ym,bs4.o,hR]);have k1:IntKind.i64.wrap ((K:Int)+1)=(K:Int)+1:=Yr _ Zv;have k2:((K:Int)+1).toNat=K+1:=Zv;have k3:(0:Int)<=(K:Int)+1:=Zv;have k4:(K:Int)+1<=N:=Zv;have k5:K+1<=N:=Zv;have k6:(K:Int)+1<=c:=Zv;have k7:K+1<=c:=Zv;clear hD ep;go_cut [99,100,101] (λv n i wx=>(∃A cp,v=Zk A R cp/\(0<R->A=XL ⟨b,o+(K+1),XM⟩))/\n=ah R/\i=ah 0/\Y=wx)
      case first=>
       have oK:=aj hR;clear hR;by_cases oZ:K+1=c
       .have CN:=aj (show R=0 by rw[<-oK.o];omega);obtain rfl:c=K+1:=oZ.symm;clear oZ;go_wp2_with fail
        go_meet;exact⟨⟨_,_,by rw[oK.o],λh=>by rw[CN.o]at h;omega⟩,by rw[oK.o],rfl,rfl⟩
       .have hp1:¬c - (K+1)=0:=by omega
        have hp2:¬c<=K+1:=Zv;have hp3:¬c=K+1:=Zv;go_wp2_with fail
        go_meet;exact⟨⟨_,_,by rw[oK.o],λ_=>rfl⟩,by rw[oK.o],rfl,rfl⟩
      case rest=>
      obtain⟨⟨A,cp,rfl,hA⟩,rfl,rfl,rfl⟩:=hcut;obtain⟨i0,hi,cA,a_,bd⟩:=Y0 gp3;have ho2:R<=70000:=Zv;clear hR;go_wp2_with fail
      go_loopw [16,17,18,19,101] (λ_ _ _ _ i wr=>∃(j:Nat)(acc:List aQ)(rows:List (List XP))(av:XP),j<=R/\i=ah j/\kQ (K+2) [] D=kQ (K+2+j) acc (D.drop j)/\acc.length<=1024/\aL Y sb Y wr/\af wr sb #[Zk Sa m.sites.length sc,Zk Fa m.feeds.length fc,Zk Ra m.racks.length rc,Zk Ma m.machs.length mc,Zk La m.links.length lc,Zk Ia m.items.length ic,m.dark,m.slots,m.reserve,m.failures,Zk Ua m.rules.length uc,Zk (XL (V 0 XM)) nn c8,cn,av] 33/\xM wr Y av rows acc/\wr.ownsRow Y 45 10 av acc.length rows.flatten) (λ_ _ _ _ i _=>R - (X8 i).toNat)
      case atStart=>exact⟨0,[],[],Zk XM 0 0,bU _,rfl,rfl,bU _,aL.refl _ _ _,dl0,⟨rfl,λj x hx=>by simp at hx⟩,⟨rfl,.inl ⟨rfl,rfl⟩⟩⟩
      case round=>
       obtain⟨j,acc,rows,av,hj,rfl,Dg,gw2,Ip,nh,mJ,cu0⟩:=hrel;have bB:Hid (Below C C wr):=aj (iu.t ((Ip.below Zv).mono Zv));have zG:=aj (Ip.blk bt9 (blk_lt bt9) Zv);have rV:=aj Dg;have GV:=aj Ip;have wH:=aj nh;have uv:=aj mJ;have xW:=aj cu0;have eh:=Ip.size;have hz3:=blk_lt nh;clear Dg Ip nh mJ cu0;by_cases F:j<R
       .obtain⟨eC,bh⟩:=dt F;obtain⟨x,hx⟩:=iT xQ F;have zp:=aj (M9 hx);have Wp:L[K+1+j]?=some x:=by have h:=hx;rw[<-HD.o,List.getElem?_drop]at h;exact h
        obtain rfl:=hA Zv;have i':aa wr b (o+(K+1)+j) (X2 (bs x)):=by rw[Nat.add_assoc];exact S8 wr bB _ x Wp
        have IF:(bs x).size<=70000:=by have:=ac9 (eE Wp);have:=NS.o;rw[eM];omega
        clear hx Wp;by_cases X:x=[]
        .have HX:=aj (Or.inl X:x=[]\/x.head?=some 35);have e0:((bs x).toList==([]:List UInt8))=true:=by rw[beq_iff_eq,je,ie];exact X
         clear X;exact bz1
        .have e0:((bs x).toList==([]:List UInt8))=false:=by
          rw[beq_eq_false_iff_ne,je];exact X
         have VX:0<(bs x).size:=by rw[eM];exact List.length_pos_iff.2 X
         have hu0:(0:Int)<((bs x).size:Int):=Zv;have se:(((bs x)[0].toNat:Int)==35)=XN (x.head?=XL 35):=gp0 VX;by_cases eH:x.head?=XL 35
         .have HX:=aj (Or.inr eH:x=[]\/x.head?=some 35);have e1:(((bs x)[0].toNat:Int)==35)=true:=by rw[se];simp[eH]
          clear X eH se;exact bz1
         .have HX:=aj (λh=>(h.elim X eH):¬(x=[]\/x.head?=some 35));have e1:(((bs x)[0].toNat:Int)==35)=false:=by rw[se];simp[eH]
          clear X eH se;have xl:IntKind.i64.wrap ((K:Int)+(j:Int))=(K:Int)+j:=Yr _ Zv;have hy4:IntKind.i64.wrap ((K:Int)+(j:Int)+2)=(K:Int)+j+2:=Yr _ Zv;have ck8:=HG.below ((aX).t (bB.mono uV)) KI;cases vT:qq (eP (bs x))with
          |none=>have h:=Eu.o;rw[rV.o,zp.o,go7 HX vT]at h;exact nomatch (show(Except.ok s0:Except (Nat×Nat) iM)= .error (K+2+j,3)from h)
          |some y=>
           have G6:=aj (bl2 vT Zv wr ck8.g);have Pu:=fv6 vT Zv;have zn:=aj (fun(h:¬acc.length=1024)=>(show kQ (K+2) [] D=kQ (K+2+(j+1)) (acc++[y]) (D.drop (j+1))from rV.t (by rw[zp.o];exact go9 HX vT h)));have db9:=aj (fun(h:acc.length=1024)=>(show kQ (K+2) [] D= .error (K+2+j,8)from rV.t (by rw[zp.o];exact go8 HX vT h)));simp only[aQ.cells_def]at G6;clear vT ck8;go_upto_region 30 with
            (go_at_call 13;refine G6.m ?_;rintro e Z ⟨Am,nm,cm,At,nt,ct,rfl,cy6,O,Fc,Fd⟩;have pP:=aj O;have do3:=aj cy6;have lH:=aj Fc;have JR:=aj Fd;clear O cy6 Fc Fd)
           refine ez (λW'=>Below Z Z W'/\af W' Z.heap.size #[y.kind,y.a,y.b,y.c,y.ok,y.key,y.val,y.old,Zk Am nm cm,Zk At nt ct] 45) ⟨by first|exact ak (am Z) _|exact gp2 _ _,by first|exact cR Z _|exact(gp1 (cR Z _) _ _ _ _ _ _ _ _ _ _)⟩ ?_;intro Kp ⟨pZ,vO⟩;have J:=aq pP pZ;have hj4:=aj (ai zG J);have vD:=aj (bB.t (J.mono bB.size));have V9:=ai wH J;have dk6:=aj V9;have hi2:=ag (o:=13) V9 rfl;have dk1:=aj (uv.kp (aL.of_below (pb:=sb) J (ar _) J.size) Zv);have Tb:=aj (eI xW J);have GS:=aj (GV.t (aL.of_below J eh J.size));have do1:=aj ((do3.below pZ (ar _)).more pZ.size);have mL:=pP.size;have IH:=pZ.size;obtain⟨ab,gw1⟩:∃q,Z.heap.size=q:=⟨_,rfl⟩;rw[gw1]at vO⊢
           obtain⟨aA,an,acp,z',BJ⟩:=RS xW.o;obtain⟨hl0,hl1,hl2,hl3,hl4,hl5,hl6,hl7,hl8,hl9⟩:=XE vO;clear pZ J V9;by_cases Vf:acc.length=1024
           .have h:=Eu.o;rw[db9 Vf]at h;exact nomatch (show(Except.ok s0:Except (Nat×Nat) iM)= .error (K+2+j,8)from h)
           .have HE:=aj (zn Vf);have hm2:((acc.length:Int)==1024)=false:=by simp;omega
            have ho5:acc.length<1024:=Zv
            rw[z',BJ]at hi2;clear Vf;have vJ:=aj λk(h:av.ownBlock=XL k)=>X6 Tb k h;go_wp2_with first
             |(at_builtin;refine wpList_append_own_at _ rfl (.tmp 135) (.tmp 137) _ rfl Y.heap.size 45 i0 _ 10 120 underlying31 hi cA a_ bd rfl (by decide) av acc.length rows.flatten (by rw[z',BJ];rfl) (Tb.alloc _) ⟨Kp,0,none⟩ 1 1 (y.cells (.slice Am nm cm) (.slice At nt ct)).toList rfl rfl (pA rfl) (by simp[Value.oneCell',aQ.cells_def]) (by simp[maxLen];omega) (by omega) (by simp;omega) ?_
               intro av' pN VV O0 _ jw;obtain⟨aB,bn,bcp,rfl,rfl⟩:=RS VV;have aT:av.ownBlock≠XL sb:=λe=>by have:=(vJ sb e).1;omega
               have Pj:=jD (ai dk6 (ak (am Kp) _)) O0 (λk hk e=>aT (by rw[hk,e]));have dk7:=aj Pj;have ia3:aa pN sb 13 (Zk aA acc.length acp):=by rw[<-BJ,<-z'];exact ag Pj rfl
               have ci9:pN.frozen? (sb 13 XM)=false:=cO Pj 13;have bs5:=aj VV;have GT:=aj ((GS.alloc (ar _) _).grown (Tb.alloc _) O0 (ar _));have dk2:=aj (((dk1.kp (aL.of_below (pb:=sb) (ak (am Kp) _) (ar _) Zy) Zv).snoc ⟨(do1.below (ak (am Kp) _) (ar _)).more Zy,lH.less Zv,JR.less Zv,λ_ a n c e=>(λe'=>by have h1:=lH a n c e;have h2:=(X6 xW _ e').2;omega),λ_ a n c e=>(λe'=>by have h1:=JR a n c e;have h2:=(X6 xW _ e').2;omega),Pu.1,Pu.2⟩).grown O0 jw);clear VV O0 jw Pj)
            refine⟨⟨j+1,acc++[y],rows++[(y.cells (Zk Am nm cm) (Zk At nt ct)).toList],Zk aB (acc.length+1) bcp,by omega,by go_num,HE,by simp;omega,GT.set (.inl rfl) _,(bf dk7 13 (Zk aB (acc.length+1) bcp)).t aI,dk2.kp ((aL.refl _ _ _).set (.inl rfl) _) Zv,?_⟩,by simp[X8];omega⟩;have ho:=nE bs5 (p:=sb) (λk hk e=>by have:=(X6 bs5 k hk).1;omega) 13 (Zk aB (acc.length+1) bcp);show World.ownsRow _ _ _ _ _ (acc++[y]).length (rows++[_]).flatten;rw[X0,List.flatten_append,List.flatten_singleton];exact ho
       .have bh:=eS F;obtain rfl:R=j:=by omega
        have HE:=aj (show kQ (K+2) [] D= .ok acc from rV.t (by rw[List.drop_eq_nil_of_le (by rw[xQ.o];omega)];rfl));have nh:=wH.o;obtain⟨g0,g1,g2,g3,g4,g5,g6,g7,g8,g9,C6,Hu,Ow,EO⟩:=js nh;have iP:=aj (Q5 ⟨m,cl,cn,acc⟩ v (Zk (XL (V 0 XM)) nn c8) av wr (HG.below ((aX).t (bB.mono uV)) KI) (xV.gp (gZ.of_kp GV) KH).in_ (aS.at_blk bp2 eh λ_ a n c e F=>GV.block _ F Ob) (uv.sl xW) OS);rw[HM.o]at iP;have CP:=aj (show(#[Zk Sa m.sites.length sc,Zk Fa m.feeds.length fc,Zk Ra m.racks.length rc,Zk Ma m.machs.length mc,Zk La m.links.length lc,Zk Ia m.items.length ic,ah m.dark,ah m.slots,ah m.reserve,ah m.failures,Zk Ua m.rules.length uc]:Array XP)++ #[Zk (XL (V 0 XM)) nn c8,ah cn,av]= #[Zk Sa m.sites.length sc,Zk Fa m.feeds.length fc,Zk Ra m.racks.length rc,Zk Ma m.machs.length mc,Zk La m.links.length lc,Zk Ia m.items.length ic,ah m.dark,ah m.slots,ah m.reserve,ah m.failures,Zk Ua m.rules.length uc,Zk (XL (V 0 XM)) nn c8,ah cn,av]from rfl);obtain⟨aA,an,acp,z',BJ⟩:=RS xW.o;obtain⟨vo,Dn⟩:∃q,eF ⟨m,cl,cn,acc⟩=q:=⟨_,rfl⟩;have bu5:=aj Dn;rw[Dn]at iP;rw[CP.o]at iP;rw[z',BJ]at EO iP;clear Dn nh;cases vo with
        |false=>have h:=Eu.o;rw[HE.o]at h;simp[bu5.o]at h
        |true=>
         obtain rfl:s0=⟨m,cl,cn,acc⟩:=by have h:=Eu.o;rw[HE.o]at h;simp only[bu5.o,if_true]at h;exact Except.ok.inj h
         go_wp2_with
          (go_at_call 7;refine iP.r λZ O=>?_;have Tn:=aj (ai zG O);have pP:=aj (bB.t (O.mono bB.size));have N0:=aj (ai wH O);have LC:=ai wH O;obtain⟨h0,h1,h2,h3,h4,h5,h6,h7,h8,h9,eZ,cj1,EP,lT⟩:=js LC;have Ss:=aj O;obtain⟨⟨q0,q1,q2,q3,q4,q5,q6,q7,q8,q9,Px,Ww,Wy,Wz⟩,z0,z1,z2,z3,z4,z5,z6,z7,z8,z9,RI,db3,db4,db5⟩:=bj4 Tn.o;rw[z',BJ]at lT;clear O LC)
         refine fu4 de de de de Tn λW7 hk=>?_;refine⟨((aX).t (pP.mono uV)).t ((hk.below (fK (blk_lt Tn))).mono An),?_⟩;have Iq:aL wr rt wr W7:=(aL.of_below Ss (ar _) Ss.size).t (hk.mono Ss.size);have KR:=(xV.gp (gZ.of_kp GV) KH).gp (gZ.of_kp Iq) Zv;have ck2:=aS.at_blk (aS.at_blk bp2 eh λ_ a n c e F=>GV.block _ F Ob) Iq.size λ_ a n c e F=>Iq.block _ F Ob;have cn0:=uv.kp Iq Zv;have co3:=qu xW Iq (ar _) Zv;refine⟨v,Zk (XL (V 0 XM)) nn c8,av,?_,⟨KR.in_,ck2,cn0.sl co3⟩,λb' W' gC fA=>⟨(KR.gp (gZ.of_kp fA) Zv).in_,aS.at_blk ck2 fA.size (λ_ a n c e F=>fA.block _ F Ob),(cn0.kp fA Zv).sl (qu co3 fA (ar _) Zv)⟩⟩;show _=YT (.tuple #[Zr (m.cells v++ #[Zk (XL (V 0 XM)) nn c8,ah cn,av]),ah 0,ah 0]);rw[HM.o,CP.o,z',BJ];rfl
def gp5(t:ay)(w:XO)(y:iC w)(s0:iM)(h:Cg t= .ok s0):X4 X3 10 #[bs t] w (ac7 w (.ok s0)):=by
 by_cases j:65536<t.length
 .unfold Cg at h;rw[if_pos j]at h;cases h
 .cases hf:(dZ t).findIdx? rL with
  |none=>
   have c:(dZ t).findIdx? (λs=>sP.isPrefixOf s)=none:=hf;unfold Cg at h;rw[if_neg j,c]at h;cases h
  |some i=>
   have c:(dZ t).findIdx? (λs=>sP.isPrefixOf s)=XL i:=hf;obtain⟨h1,h2,_⟩:=List.findIdx?_eq_some_iff_getElem.1 hf;have e:Cg t=Cv (dZ t) i (dZ t)[i]:=by unfold Cg Cv;rw[if_neg j,c];simp only[X9,XT h1,Option.getD_some];rfl
   exact gp4 t w y Zv i _ (by unfold ac1;rw[hf]) (XT h1) h2 s0 (e.symm.t h)
end
end Go.Proofs.YtihhpjmclebfpaaGreatDoor
