/- A part of the proof. -/
import Derived.Test.YtklfdkdebgfmiaaGreatDoorQbr
import Derived.Test.YtklfdkdebgfmiaaGreatDoorQbs
import Derived.Test.YtklfdkdebgfmiaaGreatDoorQbt
import Derived.Test.YtklfdkdebgfmiaaGreatDoorQbu
set_option linter.defProp false
set_option linter.unusedVariables false
set_option linter.unusedSimpArgs false
set_option maxRecDepth 100000
set_option maxHeartbeats 32000000
open Option renaming none->Wr,some->Ws
open Decidable renaming decide->Wt
open Go renaming World->Wu,Value->Wv,Calls->WJ,TypeId->WQ,undef->XE,Ending->X0
open Bool renaming false->Ww,true->Wz
open Go.RowKit renaming Hid->WA
open Go.Lib renaming itoa->WB,split->Xh
open Go.Proofs renaming intOf->WS
open And renaming intro->WE
open Go.Proofs.Tryz renaming prog->WH
open Go.Value renaming int->WK,string->WM,slice->Yb,bool->Yc,agg->Ye,pointer->Yf
open Go.IntKind renaming i64->Xr
open Go.Ending renaming returned->Xz
open Go.Obj renaming cells->Yd
namespace Go.Proofs.YtklfdkdebgfmiaaGreatDoor
section
open Go Go.RowKit Go.MapKept Go.Proofs.Tryz
def Na (l:List ak):Int:=match l.findIdx? qw with|some i=>(i:Int)|none=> -1
def fr3 (x:ak) (w:Wu):aQ 15 #[bs x] w (Yc (qw x)):=by
 have c:=aa (λW=>(strings_HasPrefix (bs x) ⟨#[99,111,110,116,114,111,108,32]⟩ W).mono λe w' (h:e=Xz (Yc (qw x))/\w'=W)=>h);go_enter func15,ntmps15;go_wp2_with(go_at_call 16;refine(c.out _).m ?_;rintro e j ⟨rfl,g⟩;obtain rfl:=g.symm)
 go_ret;exact⟨rfl,XA _ _⟩
def ZQ (v:Wv) (l:List ak) (w:Wu) (h:Sl w w v (l.map ku)):
 aQ 14 #[v,bm 15 #[]] w (WK Xr (Na l)):=by
 refine(ag0 (R1 ku) (R1.ab ku) v l 15 #[] (jg l qw) w (Sl.k1 h) (WD func15 aC rfl) (λj x y W hx g z C=>by have c:y=[ku x]:=z;rw[eW hx,c];exact fr3 x W)).mono λe w' ⟨A,g⟩=>⟨?_,g⟩;rw[A,Yw];rfl
def ZR:Array Value:= #[Yb Wr 0 0,Yb Wr 0 0,Yb Wr 0 0,Yb Wr 0 0,Yb Wr 0 0,Yb Wr 0 0,WK Xr 0,WK Xr 0,WK Xr 0,WK Xr 0,Yb Wr 0 0,Yb Wr 0 0,WK Xr 0,Yb Wr 0 0]
def BO (w:Wu) (s:lB) (v:MV) (cv av:Wv):Prop:=s.m.In w w v/\aW w w cv s.control/\bW 10 ue w w av s.acts
def tH (w:Wu) (r:Except (Nat×Nat) lB) (e:X0) (w':Wu):Prop:=
 Below w w w'/\match r with
  | .error x=>e=Xz (.tuple #[Ye ZR,x.1,x.2])
  | .ok s=> ∃v cv av,e=Xz (.tuple #[Ye (s.m.cells v++ #[cv,WK Xr s.clients,av]),WK Xr 0,WK Xr 0])/\BO w' s v cv av/\∀b W,b<w.heap.size->aF w'.heap.size b w' W->BO W s v cv av
def tH.err {w w':Wu} {r:Except (Nat×Nat) lB} {x:Nat×Nat} {e:X0} (h:r= .error x) (g:e=Xz (.tuple #[Ye ZR,x.1,x.2])) (c:Below w w w'):tH w r e w':=by subst h;exact⟨c,g⟩
def Dx {a w w':Wu} {B:Nat} (h:Below B a w) (k:Below B w w'):Below B a w':=h.trans k
section
variable {W:Wu} {rt:Nat} {T:WQ} {u0 u1 u2 u3 u4 u5 u6 u7 u8 u9 u10 u11 u12 u13:Wv}
def fr4 (V:W.heap[rt]? =Ws (Yd #[u0,u1,u2,u3,u4,u5,u6,u7,u8,u9,u10,u11,u12,u13] T (0,0))) (z A C D F G I J O U c j y g:Wv):
 ((((((((((((((W.setCell rt z).setCell (rt 1 Wr) A).setCell (rt 2 Wr) C).setCell (rt 3 Wr) D).setCell (rt 4 Wr) F).setCell (rt 5 Wr) G).setCell (rt 6 Wr) I).setCell (rt 7 Wr) J).setCell (rt 8 Wr) O).setCell (rt 9 Wr) U).setCell (rt 10 Wr) c).setCell (rt 11 Wr) j).setCell (rt 12 Wr) y).setCell (rt 13 Wr) g).heap[rt]? =Ws (Yd #[z,A,C,D,F,G,I,J,O,U,c,j,y,g] T (0,0)):=
 (aZ (aZ (aZ (aZ (aZ (aZ (aZ (aZ (aZ (aZ (aZ (aZ (aZ (aZ V 0 z) 1 A) 2 C) 3 D) 4 F) 5 G) 6 I) 7 J) 8 O) 9 U) 10 c) 11 j) 12 y) 13 g).trans aC
def fr5 (B:Nat) (y z A C D F G I J O c h j g:Wv):
 aF B rt W ((((((((((((((W.setCell rt y).setCell (rt 1 Wr) z).setCell (rt 2 Wr) A).setCell (rt 3 Wr) C).setCell (rt 4 Wr) D).setCell (rt 5 Wr) F).setCell (rt 6 Wr) G).setCell (rt 7 Wr) I).setCell (rt 8 Wr) J).setCell (rt 9 Wr) O).setCell (rt 10 Wr) c).setCell (rt 11 Wr) h).setCell (rt 12 Wr) j).setCell (rt 13 Wr) g):=
 (((((((((((((((aF.refl B rt W).set (.inl rfl) y).set (.inl rfl) z).set (.inl rfl) A).set (.inl rfl) C).set (.inl rfl) D).set (.inl rfl) F).set (.inl rfl) G).set (.inl rfl) I).set (.inl rfl) J).set (.inl rfl) O).set (.inl rfl) c).set (.inl rfl) h).set (.inl rfl) j).set (.inl rfl) g)
def fr6 (J:W.heap[rt]? =Ws (Yd #[u0,u1,u2,u3,u4,u5,u6,u7,u8,u9,u10,u11,u12,u13] T (0,0))) (g j y z A C D F G I c:Wv):
 (((((((((((W.setCell rt g).setCell (rt 1 Wr) j).setCell (rt 2 Wr) y).setCell (rt 3 Wr) z).setCell (rt 4 Wr) A).setCell (rt 5 Wr) C).setCell (rt 6 Wr) D).setCell (rt 7 Wr) F).setCell (rt 8 Wr) G).setCell (rt 9 Wr) I).setCell (rt 10 Wr) c).heap[rt]? =Ws (Yd #[g,j,y,z,A,C,D,F,G,I,c,u11,u12,u13] T (0,0)):=
 (aZ (aZ (aZ (aZ (aZ (aZ (aZ (aZ (aZ (aZ (aZ J 0 g) 1 j) 2 y) 3 z) 4 A) 5 C) 6 D) 7 F) 8 G) 9 I) 10 c).trans aC
def bq4 (B:Nat) (g h j y z A C D F G c:Wv):
 aF B rt W (((((((((((W.setCell rt g).setCell (rt 1 Wr) h).setCell (rt 2 Wr) j).setCell (rt 3 Wr) y).setCell (rt 4 Wr) z).setCell (rt 5 Wr) A).setCell (rt 6 Wr) C).setCell (rt 7 Wr) D).setCell (rt 8 Wr) F).setCell (rt 9 Wr) G).setCell (rt 10 Wr) c):=
 ((((((((((((aF.refl B rt W).set (.inl rfl) g).set (.inl rfl) h).set (.inl rfl) j).set (.inl rfl) y).set (.inl rfl) z).set (.inl rfl) A).set (.inl rfl) C).set (.inl rfl) D).set (.inl rfl) F).set (.inl rfl) G).set (.inl rfl) c)
def Dy (c:W.heap[rt]? =Ws (Yd #[u0,u1,u2,u3,u4,u5,u6,u7,u8,u9,u10,u11,u12,u13] T (0,0))):(W.cell? rt=Ws u0/\W.cell? (rt 1 Wr)=Ws u1/\W.cell? (rt 2 Wr)=Ws u2/\W.cell? (rt 3 Wr)=Ws u3/\W.cell? (rt 4 Wr)=Ws u4/\W.cell? (rt 5 Wr)=Ws u5/\W.cell? (rt 6 Wr)=Ws u6/\W.cell? (rt 7 Wr)=Ws u7/\W.cell? (rt 8 Wr)=Ws u8/\W.cell? (rt 9 Wr)=Ws u9/\W.cell? (rt 10 Wr)=Ws u10/\W.cell? (rt 11 Wr)=Ws u11/\W.cell? (rt 12 Wr)=Ws u12/\W.cell? (rt 13 Wr)=Ws u13)/\W.frozen? rt=Ww/\W.frozen? (rt 1 Wr)=Ww/\W.frozen? (rt 2 Wr)=Ww/\W.frozen? (rt 3 Wr)=Ww/\W.frozen? (rt 4 Wr)=Ww/\W.frozen? (rt 5 Wr)=Ww/\W.frozen? (rt 6 Wr)=Ww/\W.frozen? (rt 7 Wr)=Ww/\W.frozen? (rt 8 Wr)=Ww/\W.frozen? (rt 9 Wr)=Ww/\W.frozen? (rt 10 Wr)=Ww/\W.frozen? (rt 11 Wr)=Ww/\W.frozen? (rt 12 Wr)=Ww/\W.frozen? (rt 13 Wr)=false:=
 ⟨⟨ah c rfl,ah c rfl,ah c rfl,ah c rfl,ah c rfl,ah c rfl,ah c rfl,ah c rfl,ah c rfl,ah c rfl,ah c rfl,ah c rfl,ah c rfl,ah c rfl⟩,cd c 0,cd c 1,cd c 2,cd c 3,cd c 4,cd c 5,cd c 6,cd c 7,cd c 8,cd c 9,cd c 10,cd c 11,cd c 12,cd c 13⟩
def BP {a:Act} {R:X0->Wu->Prop} {z A C D F G I J O U c j y g i e:Wv} (h2:a.tmps.getD 2 XE=Yf (Ws rt)) (h3:a.tmps.getD 3 XE=i) (h4:a.tmps.getD 4 XE=e) (hd:a.defers=[])
 (hT:W.heap[rt]? =Ws (Yd #[u0,u1,u2,u3,u4,u5,u6,u7,u8,u9,u10,u11,u12,u13] T (0,0)))
 (hR: ∀V,aF W.heap.size rt W V->R (Xz (.tuple #[Ye #[z,A,C,D,F,G,I,J,O,U,c,j,y,g],i,e])) V):
 bodyPost WH Tryz.f5 R .ret a ((((((((((((((W.setCell rt z).setCell (rt 1 Wr) A).setCell (rt 2 Wr) C).setCell (rt 3 Wr) D).setCell (rt 4 Wr) F).setCell (rt 5 Wr) G).setCell (rt 6 Wr) I).setCell (rt 7 Wr) J).setCell (rt 8 Wr) O).setCell (rt 9 Wr) U).setCell (rt 10 Wr) c).setCell (rt 11 Wr) j).setCell (rt 12 Wr) y).setCell (rt 13 Wr) g):=by
 have X:=fr4 hT z A C D F G I J O U c j y g;have Y:=fr5 (W:=W) (rt:=rt) W.heap.size z A C D F G I J O U c j y g;generalize ((((((((((((((W.setCell rt z).setCell (rt 1 Wr) A).setCell (rt 2 Wr) C).setCell (rt 3 Wr) D).setCell (rt 4 Wr) F).setCell (rt 5 Wr) G).setCell (rt 6 Wr) I).setCell (rt 7 Wr) J).setCell (rt 8 Wr) O).setCell (rt 9 Wr) U).setCell (rt 10 Wr) c).setCell (rt 11 Wr) j).setCell (rt 12 Wr) y).setCell (rt 13 Wr) g)=V at X Y⊢
 obtain⟨f0,f1,f2,f3,f4,f5,f6,f7,f8,f9,f10,gg7,gg8,cc5⟩:=jt X;refine bodyPost_ret (v:= .tuple #[Ye #[z,A,C,D,F,G,I,J,O,U,c,j,y,g],i,e]) ?_ hd (hR V Y);have zy:a.tmps[2]?.getD XE=Yf (Ws rt):=by simpa using h2
 have Z:a.tmps[3]?.getD XE=i:=by simpa using h3
 have KI:a.tmps[4]?.getD XE=e:=oh;simp[results,Tryz.f5,go_sem,zy,Z,KI,f0,f1,f2,f3,f4,f5,f6,f7,f8,f9,f10,gg7,gg8,cc5]
end
def fr7 (s:ByteArray) (w:Wu) (J:65536<s.size):WJ WH 5 #[s] w (tH w (.error (0,8))):=by
 have O:(65536:Int)<s.size:=Yi;go_enter func5,ntmps5;go_upto_region 1 with (fail)
 refine ZS ?_;intro G ⟨g,j⟩;have A:=aa g;have y:=aa j;clear g j;generalize D:w.heap.size=rt at y⊢
 have F:w.heap.size<=rt:=Yi;clear D;have c:=y.out;obtain⟨q0,q1,q2,q3,q4,q5,q6,q7,q8,q9,pq,vq,vt,vv⟩:=jt c;obtain⟨z0,z1,z2,z3,z4,z5,z6,z7,z8,z9,qC,xh,xj,xk⟩:=Yv c;have z:=aa c;clear c;go_wp2_with fail
 refine BP cA cA cA cA z.out (λI C=> ?_);exact tH.err rfl rfl (Dx A.out ((C.below (eJ (blk_lt z.out))).mono F))
def fr9 (t:ak) (w:Wu) (hG:fD w) (hs:t.length<=65536) (hi:Na (bB t)= -1):WJ WH 5 #[bs t] w (tH w (.error ((bB t).length+1,3))):=by
 have a_:((bs t).size:Int)<=65536:=xy;have HG:=aa hG;have HI:=aa hi;clear hG hi;go_enter func5,ntmps5;go_upto_region 1 with (fail)
 refine ZS ?_;intro W1 ⟨aU,dK⟩;have aT:=aa aU;have td:=aa dK;clear aU dK;go_upto_region 4 with
  (go_at_call 13;refine(bq5 t _ (HG.out.g.step aT.out) hs).m ?_;rintro e A ⟨b,o,n,c,z,rfl,hv,hZ,kX,wz,mi,EN,I,U⟩;have aR:=aa (ai aT.out U);have rR:=aa (aq td.out U);have Ck:=aa hv;have jp:=aa mi;have S7:=aa EN;clear hv mi EN U)
 refine bq6 λi1 i2 i3 i4=> ?_;have Lp:(Xh t [10]).getLast?=Ws z:=by rw[List.getLast?_eq_getElem?,jp.out];exact S7.out
 have JN:=aa Lp;clear Lp;by_cases J:z=[]
 .subst J;have UJ:A.cell? ⟨b,o+(n - 1),none⟩=some (.string ⟨#[]⟩):=I;have G:bB t=(Lib.split t [10]).dropLast:=by unfold bB;simp only[JN.out,if_true]
  have od:Hid (Sl A A (Yb (Ws (b o Wr)) (n - 1) c) ((bB t).map ku)):=by refine aa ?_;rw[G,List.map_dropLast];exact Ck.out.dropLast
  have i5:(n:Int) - 1<=(c:Int):=Yi;have i6:n - 1<=c:=Yi;clear I G
  skip
  have C:(bB t).length=n - 1:=bz4
  have O:=aa C;clear C;have i9:IntKind.i64.wrap (((n - 1:Nat):Int)+1)=((n - 1:Nat):Int)+1:=Xf _ Yi;go_upto_region 8 with
   (go_at_call 14;refine(ZQ _ (bB t) _ od.out).m ?_;rintro e w3 ⟨rfl,j⟩;have V:=aa (ai aR.out j);have F:=aa (aq rR.out j);clear j;rw[HI.out])
  generalize Z:w.heap.size=rt at F⊢
  have si:w.heap.size<=rt:=Yi;clear Z;have g:=F.out;obtain⟨q0,q1,q2,q3,q4,q5,q6,q7,q8,q9,pq,vq,vt,vv⟩:=jt g;obtain⟨z0,z1,z2,z3,z4,z5,z6,z7,z8,z9,qC,xh,xj,xk⟩:=Yv g;have D:=aa g;clear g;go_wp2_with fail
  refine BP cA cA cA cA D.out (λW7 Y=> ?_)
  exact tH.err rfl (by have X:((n - 1:Nat):Int)+1=(((bB t).length+1:Nat):Int):=by rw[O.out];omega
                       rw[X];rfl) (Dx V.out ((Y.below (eJ (blk_lt D.out))).mono si))
 .have G:bB t=Lib.split t [10]:=by
   unfold bB;simp only[JN.out,Option.some.injEq,J,if_false]
  have od:Hid (Sl A A (Yb (Ws (b o Wr)) n c) ((bB t).map ku)):=by refine aa ?_;rw[G];exact Ck.out
  have q1:((bs z).toList==([]:List UInt8))=false:=by
   rw[beq_eq_false_iff_ne];intro e;apply J;have:=congrArg List.length e;rw[jr] at this;cases z with
   |nil=>rfl
   |cons x y=>simp[bs] at this
  have UJ:A.cell? ⟨b,o+(n - 1),Wr⟩=Ws (WM (bs z)):=I;clear I G J
  skip
  have C:(bB t).length=n:=bz4
  have O:=aa C;clear C;have i9:IntKind.i64.wrap (((n:Nat):Int)+1)=((n:Nat):Int)+1:=Xf _ Yi;go_upto_region 8 with
   (go_at_call 14;refine(ZQ _ (bB t) _ od.out).m ?_;rintro e w3 ⟨rfl,j⟩;have V:=aa (ai aR.out j);have F:=aa (aq rR.out j);clear j;rw[HI.out])
  generalize Z:w.heap.size=rt at F⊢
  have si:w.heap.size<=rt:=Yi;clear Z;have g:=F.out;obtain⟨q0,q1,q2,q3,q4,q5,q6,q7,q8,q9,pq,vq,vt,vv⟩:=jt g;obtain⟨z0,z1,z2,z3,z4,z5,z6,z7,z8,z9,qC,xh,xj,xk⟩:=Yv g;have D:=aa g;clear g;go_wp2_with fail
  refine BP cA cA cA cA D.out (λW7 Y=> ?_)
  exact tH.err rfl (by have X:((n:Nat):Int)+1=(((bB t).length+1:Nat):Int):=by rw[O.out];omega
                       rw[X];rfl) (Dx V.out ((Y.below (eJ (blk_lt D.out))).mono si))
end
section
open Go Go.RowKit Go.Proofs.Tryz
def Q8 (M:List ak) (t:cO):Prop:= ∀s n,cY t s=Ws (3,n)->dG M n=s
def mA (l:List au):List ak:=(l.filter λx=>Wt (bD x.kind=3)).map (·.name)
def fo0 (l:List au):(mA l).length=gv l 3:=by unfold mA gv;rw[WF]
def R0 (a b:List au):mA (a++b)=mA a++mA b:=by simp[mA]
def bs0: ∀(r b:List au) (t j:cO),iN b t r= .ok j->(∀x∈t,x.2.1=3->1<=x.2.2/\(mA b)[x.2.2 - 1]? =Ws x.1)->∀x∈j,x.2.1=3->1<=x.2.2/\(mA (b++r))[x.2.2 - 1]? =Ws x.1
 |[],b,t,j,h,ht,x,hx=>by rw[QF] at h;injection h with h;subst h;rw[XT];exact ht x hx
 |d::r,b,t,j,h,ht,x,hx=>by
  rw[Rv] at h;split at h
  .cases h
  .split at h
   .cases h
   .have A:=bs0 r (b++[d]) _ j h (λy c g=>by
     have old: ∀y∈t,y.2.1=3->1<=y.2.2/\(mA (b++[d]))[y.2.2 - 1]? =Ws y.1:=λy c g=>by obtain⟨h1,h2⟩:=ht y c g;refine⟨h1,?_⟩;rw[R0,Xx (List.getElem?_eq_some_iff.1 h2).1];exact h2
     split at c
     .exact old y c g
     .rcases List.mem_append.1 c with c|c
      .exact old y c g
      .rw[List.mem_singleton.1 c] at g⊢
       have hk:d.kind=3:=g;have z:bD d.kind=3:=Cn;show 1<=gv (b++[d]) (bD d.kind)/\(mA (b++[d]))[gv (b++[d]) (bD d.kind) - 1]? =Ws d.name;rw[QE,if_pos rfl,z];refine⟨by omega,?_⟩;have e:mA (b++[d])=mA b++[d.name]:=by rw[R0];simp[mA,z]
       rw[e,Nat.add_sub_cancel,<-fo0];simp) x hx
    rw[Xd] at A;exact A
def fo1 {l:List au} {t:cO} (h:iN [] [] l= .ok t):Q8 (mA l) t:=by
 intro s n c;unfold cY at c;cases hf:t.find? (λx=>Wt (x.1=s)) with
 |none=>rw[hf] at c;cases c
 |some x=>
  rw[hf] at c;have hx:x.2=(3,n):=by injection c
  have hm:=bs0 l [] [] t h (λx hx=>by simp at hx) x (List.mem_of_find?_eq_some hf) (by rw[hx]);have j:x.1=s:=by simpa using List.find?_some hf
  rw[hx] at hm;unfold dG;rw[WP,show((n:Int) - 1).toNat=n - 1 by omega];have g:(mA l)[n - 1]? =Ws x.1:=hm.2;rw[g,j];rfl
def bs1 (t:cO): ∀(l:List au) (i:Nat) (m c:aM),(∀d∈l,d.kind<=16)->mV t i m l= .ok c->c.machs.map (·.name)=m.machs.map (·.name)++mA l
 |[],i,m,c,_,h=>by rw[bj3] at h;injection h with h;subst h;simp[mA]
 |d::r,i,m,c,hk,h=>by
  by_cases j:ea t d=0
  .rw[Rz j] at h;rw[bs1 t r (i+1) _ c (λx hx=>hk x (by simp[hx])) h];have e:mA (d::r)=mA [d]++mA r:=R0 [d] r;rw[e,<-List.append_assoc];congr 1;have C:=hk d (by simp);unfold eA mA;split<;>(rename_i y;first|(simp[y,bD];done)|skip);have g:bD d.kind=5\/bD d.kind=10\/bD d.kind=d.kind:=by
    unfold bD;split
    .exact .inl rfl
    .split
     .exact .inr (.inl rfl)
     .exact .inr (.inr rfl)
   have z: ¬bD d.kind=3:=by
    rcases g with g|g|g
    .omega
    .omega
    .intro A;exact absurd (by omega:d.kind=3) vZ
   simp[z]
  .rw[Rw j] at h;cases h
def n9 (M:List ak) (l:List Int):Nat:=((l.map (dG M)).map List.length).sum
def xe (M:List ak) (m:aM):Nat:=(m.items.map λx=>n9 M x.on).sum+(m.rules.map λx=>n9 M x.ms).sum
def bs3 (M:List ak) (n:Int): ∀l,n9 M (wQ n l)=n9 M (n::l)
 |[]=>rfl
 |a::l=>by
  unfold wQ;split
  .rfl
  .have:=bs3 M n l;unfold n9 at this⊢
   simp only[WO,List.sum_cons] at this⊢
   omega
def R3 (M:List ak) (n:Int) (l:List Int):n9 M (n::l)=(dG M n).length+n9 M l:=by simp[n9]
def R4 (M:List ak): ∀l,n9 M (lX l)=n9 M l
 |[]=>rfl
 |a::l=>by have:lX (a::l)=wQ a (lX l):=rfl;rw[this,bs3,R3,R3,R4 M l]
def R5 {M:List ak} {t:cO} (c:Q8 M t): ∀(l:List ak),(∀s∈l,∃n,cY t s=Ws (3,n))->n9 M (l.map (bC t))=(l.map List.length).sum
 |[],_=>rfl
 |s::l,h=>by
  obtain⟨n,hn⟩:=h s Yl;have g:=R5 c l λx hx=>h x zk;rw[WO,R3,g];have e:dG M (bC t s)=s:=by unfold bC;rw[hn];exact c s n hn
  rw[e];simp
def R6 {t:cO} {d:au} (j: ∀i k,1<=i\/(d.kind=5\/d.kind=6\/d.kind=7)->fO d i k=Wz->k=3): ∀(l:List ak) (i:Nat),1<=i\/(d.kind=5\/d.kind=6\/d.kind=7)->kM t d i l=0->∀s∈l,∃n,cY t s=Ws (3,n)
 |[],_,_,_,s,c=>by simp at c
 |a::l,i,hi,h,s,c=>by
  rw[kM] at h;cases hl:cY t a with
  |none=>rw[hl] at h;simp at h
  |some x=>
   rw[hl] at h;simp only at h;split at h
   .rename_i g;rcases List.mem_cons.1 c with rfl|c
    .exact⟨x.2,by rw[hl,<-j i x.1 hi g]⟩
    .exact R6 j l (i+1) (.inl Yi) h s c
   .simp at h
def fo2 {d:au} (h:d.kind=5\/d.kind=6\/d.kind=7) (i k:Nat) (hw:fO d i k=Wz):k=3:=bz2
def fo3 {d:au} (h:d.kind=13) (i k:Nat) (c:1<=i) (hw:fO d i k=Wz):k=3:=bz2
def fo4 {t:cO} {d:au} (h:ea t d=0):kM t d 0 d.refs=0:=by
 unfold ea at h;simp only at h;split at h
 .rename_i c;exact absurd h c
 .rename_i c;simpa using c
def fo5 {M:List ak} {t:cO} (A:Q8 M t) {d:au} (C:ea t d=0) (m:aM):xe M (eA t m d)<=xe M m+oC d:=by
 have c:=fo4 C;have it (x:fg) (hx:x.on=lX (d.refs.map (bC t))) (z:d.kind=5\/d.kind=6\/d.kind=7):xe M {m with items:=m.items++[x]}<=xe M m+oC d:=by
  have y:n9 M x.on=oC d:=by rw[hx,R4,R5 A d.refs (R6 (λi k _ g=>fo2 z i k g) d.refs 0 (.inr z) c)];rfl
  unfold xe;simp only[Xb,List.sum_append,WO,XS,List.sum_cons,List.sum_nil,y];omega
 unfold eA;split
 .exact X4 _ _
 .exact X4 _ _
 .exact X4 _ _
 .exact X4 _ _
 .exact X4 _ _
 .rename_i h;exact it _ rfl (.inl h)
 .rename_i h;exact it _ rfl (.inr (.inl h))
 .rename_i h;exact it _ rfl (.inr (.inr h))
 .exact X4 _ _
 .exact X4 _ _
 .have y:n9 M (mt t d).ms<=oC d:=by
   show n9 M (if d.kind=13 then lX ((d.refs.map (bC t)).drop 1) else[])<=_;by_cases j:d.kind=13
   .rw[if_pos j,R4];unfold oC;cases hrf:d.refs with
    |nil=>simp[n9]
    |cons a l=>
     rw[hrf,kM] at c;cases hl:cY t a with
     |none=>rw[hl] at c;simp at c
     |some x=>
      rw[hl] at c;simp only at c;split at c
      .have:=R5 A l (R6 (λi k D g=>fo3 j i k Yi g) l 1 (.inl Yi) c);simp only[WO,List.drop_succ_cons,List.drop_zero,List.sum_cons];omega
      .simp at c
   .rw[if_neg j];simp[n9]
  unfold xe;simp only[Xb,List.sum_append,WO,XS,List.sum_cons,List.sum_nil];omega
def bs4 {M:List ak} {t:cO} (j:Q8 M t): ∀(l:List au) (i:Nat) (m c:aM),mV t i m l= .ok c->xe M c<=xe M m+(l.map oC).sum
 |[],i,m,c,h=>by rw[bj3] at h;injection h with h;subst h;simp
 |d::r,i,m,c,h=>by
  by_cases g:ea t d=0
  .rw[Rz g] at h;have y:=bs4 j r (i+1) _ c h;have z:=fo5 j g m;rw[WO,List.sum_cons];omega
  .rw[Rw g] at h;cases h
def fo6 {l:List au} {m:aM} (h:nE l= .ok m):xe (m.machs.map (·.name)) m<=(l.map oC).sum:=by
 cases hc:iN [] [] l with
 |error x=>rw[be7 hc] at h;cases h
 |ok t=>
  cases h2:mV t 0 {} l with
  |error x=>rw[be8 hc h2] at h;cases h
  |ok m'=>
   have j:=ZK l [] [] t hc;have hm:=bs1 t l 0 {} m' (λd g=>by have:=j d g;unfold bx at this;simp only[WC] at this;exact FZ this.1.1) h2;have y:m'=m:=by
    cases h8:l.any λd=>Wt (d.kind=8) with
    |false=>rw[be9 hc h2 h8] at h;cases h
    |true=>
     rw[bf0 hc h2 h8] at h;split at h
     .injection h
     .cases h
   subst y;have c:=fo1 hc;rw[show mA l=m'.machs.map (·.name) by rw[hm];rfl] at c;have:=bs4 c l 0 {} m' h2;have z:xe (m'.machs.map (·.name)) {}=0:=rfl;omega
def yO (d:au):Nat:=(cU d).length+1
def i' (l:List au):Nat:=(l.map yO).sum
def fo7 (l:List au):(aE (l.map cU)).length=i' l:=by
 induction l with
 |nil=>rfl
 |cons a l ih=>have e:aE ((a::l).map cU)=cU a++([10]++aE (l.map cU)):=xz;rw[e,WG,WG,ih];simp[i',yO];omega
def fo8 (a b:List au):i' (a++b)=i' a+i' b:=by simp[i']
def Nc {α:Type} (f:α->au) (c:Nat) (l:List α) (h: ∀x∈l,yO (f x)<=c):i' (l.map f)<=c*l.length:=by
 induction l with
 |nil=>simp[i']
 |cons a l ih=>
  have g:=h a Yl;have j:=ih λx hx=>h x zk;have e:i' ((a::l).map f)=yO (f a)+i' (l.map f):=by simp[i']
  rw[e,Xg,Nat.mul_succ];omega
def bs5 {α:Type} (f:α->au) (g:α->Nat) (c:Nat) (l:List α) (h: ∀x∈l,yO (f x)<=c+g x):i' (l.map f)<=c*l.length+(l.map g).sum:=by
 induction l with
 |nil=>simp[i']
 |cons a l ih=>
  have j:=h a Yl;have y:=ih λx hx=>h x zk;have e:i' ((a::l).map f)=yO (f a)+i' (l.map f):=by simp[i']
  rw[e,Xg,Nat.mul_succ,WO,List.sum_cons];omega
def nZ (l:List ak):Nat:=(l.map λx=>x.length+1).sum
def bs6: ∀(l:List ak),(dr [32] l).length<=nZ l
 |[]=>by simp[dr,nZ]
 |[a]=>by simp[dr,nZ]
 |a::b::l=>by
  have c:=bs6 (b::l);have e:dr [32] (a::b::l)=a++[32]++dr [32] (b::l):=rfl;rw[e];simp only[WG,Xg,XO,nZ,WO,List.sum_cons] at c⊢
  omega
def R7: ∀(l:List ak),(fZ l).length<=(l.map List.length).sum+2*l.length
 |[]=>by simp[fZ,dr]
 |[a]=>by simp[fZ,dr]
 |a::b::l=>by
  have c:=R7 (b::l);have e:fZ (a::b::l)=a++[44,32]++fZ (b::l):=rfl;rw[e];simp only[WG,Xg,XO,WO,List.sum_cons] at c⊢
  omega
def fo9 (d:au):yO d<=(rules.getD d.kind ([],[])).1.length+3+nZ (ci d):=by have:=bs6 (ci d);unfold yO cU;simp only[WG,Xg,XO];omega
def fp0 {d:au} (h: ∀n∈d.nums,n<=1048576) (i:Nat):(rp d i).length<=7:=by
 have key: ∀n:Nat,n<=1048576->(WB (n:Int)).length<=7:=λn c=>by rw[Qb];exact Nn 7 n Yi Yi
 unfold rp;rw[WP];cases e:d.nums[i]? with
 |none=>exact key 0 Yi
 |some x=>exact key x (h x (eD e))
def R8 {s:ak} (h:br s=Wz):s.length<=31:=bz9
def vd {d:au} (h:bx d=Wz): ∀n∈d.nums,n<=1048576:=by unfold bx at h;simp only[WC,Xo,decide_eq_true_eq] at h;exact h.2
def fp1 {d:au} (h: ∀w∈d.refs,br w=Wz) (i:Nat):(iw d i).length<=31:=by
 unfold iw;rw[WP];cases e:d.refs[i]? with
 |none=>exact bU _
 |some x=>exact R8 (h x (eD e))
def vr {d:au} (h:bx d=Wz): ∀w∈d.refs,br w=true:=by unfold bx at h;simp only[WC,Xo] at h;exact h.1.2
def fp2 {d:au} (z: ∀w∈d.refs,br w=Wz) (y: ∀n∈d.nums,n<=1048576):nZ (kK d)<=32*d.refs.length+8*d.nums.length:=by
 have g: ∀(l:List ak),(∀w∈l,w.length<=31)->nZ l<=32*l.length:=by
  intro l;induction l with
  |nil=>intro _;simp[nZ]
  |cons a l ih=>
   intro h;have:=ih λw c=>h w (by simp[c]);have:=h a Yl;simp only[nZ,WO,List.sum_cons,Xg] at*
   omega
 have j: ∀(l:List Nat),(∀n∈l,n<=1048576)->nZ (l.map λn:Nat=>WB (n:Int))<=8*l.length:=by
  intro l;induction l with
  |nil=>intro _;simp[nZ]
  |cons a l ih=>
   intro h;have:=ih λw c=>h w (by simp[c]);have A:(WB (a:Int)).length<=7:=by rw[Qb];exact Nn 7 a Yi (by have:=h a Yl;omega)
   simp only[nZ,WO,List.sum_cons,Xg] at*
   omega
 have e:nZ (kK d)=nZ d.refs+nZ (d.nums.map λn:Nat=>WB (n:Int)):=by simp[kK,nZ]
 rw[e];have:=g d.refs λw c=>R8 (z w c);have:=j d.nums y;omega
def gt9:nD.length=2/\el.length=2/\yN.length=8/\ka.length=4/\jY.length=4/\jX.length=5/\yn.length=5/\ym.length=7/\iD.length=6/\yM.length=2/\yL.length=6:=az
def fp3 (n:Nat):(yw n).length<=4:=by
 unfold yw;by_cases c:n=2
 .rw[if_pos c];decide
 by_cases g:n=3
 .rw[if_neg c,if_pos g];decide
 by_cases h:n=4
 .rw[if_neg c,if_neg g,if_pos h];decide
 rw[if_neg c,if_neg g,if_neg h];exact bU _
def fp4 (n:Nat):(BX n).length<=30:=by have h:=R7 ((if n%2=1 then[mT] else[])++(if n / 2%2=1 then[fe] else[])++(if n / 4%2=1 then[fq] else[]));refine bo h ?_;have g:mT.length=7:=rfl;have j:fe.length=4:=rfl;have y:fq.length=4:=rfl;simp only[Xb,List.sum_append,WG];split<;>split<;>split<;>simp[g,j,y]
def sL {d:au} (h:bx d=Wz) (O:d.name.length<=31):
 yO d<=(match d.kind with
  |0=>39|1=>39|2=>110|3=>96|4=>80|5=>92+(fZ d.refs).length|6=>92+(fZ d.refs).length|7=>124|8=>90|9=>45|13=>43+(fZ (d.refs.drop 1)).length|_=>88):=by
 have g:=fo9 d;have y:=fp0 (vd h);have D:=fp1 (vr h);have C:=fp2 (vr h) (vd h);obtain⟨k1,k2,k3,k4,k5,k6,k7,k8,k9,gt4,gt5⟩:=gt9;have V:=fp3 d.by_;have J:=fp4 d.by_;have Y:=y 0;have Z:=y 1;have n2:=y 2;have n3:=y 3;have r0:=D 0;have r1:=D 1;have c:je d=true:=N';have X:=FZ c;have F: ∀k,d.kind=k->(rules.getD d.kind ([],[])).1.length=(rules.getD k ([],[])).1.length:=λk e=>by rw[e]
 unfold je at c;unfold ci at g;have A:(rules.getD 0 ([],[])).1.length=4/\(rules.getD 1 ([],[])).1.length=4/\(rules.getD 2 ([],[])).1.length=4/\(rules.getD 3 ([],[])).1.length=7/\(rules.getD 4 ([],[])).1.length=4/\(rules.getD 5 ([],[])).1.length=5/\(rules.getD 6 ([],[])).1.length=4/\(rules.getD 7 ([],[])).1.length=3/\(rules.getD 8 ([],[])).1.length=4/\(rules.getD 9 ([],[])).1.length=8/\(rules.getD 10 ([],[])).1.length=6/\(rules.getD 11 ([],[])).1.length=4/\(rules.getD 12 ([],[])).1.length=6/\(rules.getD 13 ([],[])).1.length=4/\(rules.getD 14 ([],[])).1.length=5/\(rules.getD 15 ([],[])).1.length=7/\(rules.getD 16 ([],[])).1.length=7:=az;obtain⟨w0,w1,w2,w3,w4,w5,w6,w7,w8,w9,AA,nw,Jf,Ns,Nt,xg,AB⟩:=A;rcases(by omega:d.kind=0\/d.kind=1\/d.kind=2\/d.kind=3\/d.kind=4\/d.kind=5\/d.kind=6\/d.kind=7\/d.kind=8\/d.kind=9\/d.kind=10\/d.kind=11\/d.kind=12\/d.kind=13\/d.kind=14\/d.kind=15\/d.kind=16) with e|e|e|e|e|e|e|e|e|e|e|e|e|e|e|e|e;all_goals
  have I:=F _ e;rw[I] at g;rw[e] at c g⊢
  simp only at c g⊢
  try simp only[WC] at c
 all_goals first
  |(have j:=ij c;have G:=j.2.1;have z:=j.2.2.1;rw[z] at C;omega)
  |(simp only[nZ,tT,WZ,Xl,WO,XS,List.sum_cons,List.sum_nil,k1,k2,k3,k4,k5,k6,k7,k8,k9,gt4,gt5,XP,Nat.reduceAdd] at g;omega)
  |(have j:=ij c;have G:=j.2.1;have z:=j.2.2.1;rw[z] at C;have U:nZ (kK d++[iD])=nZ (kK d)+7:=by simp[nZ,k9]
    cases ha:d.always<;>simp only[ha,if_true,if_false,WW] at g<;>omega)
def bs7 (M:List ak) (l:List Int):(fZ (l.map (dG M))).length<=n9 M l+2*l.length:=by have:=R7 (l.map (dG M));rw[WF] at this;exact this
def fp5 {m:aM} (h:dZ m=Wz):i' (lz m)<=9700+xe (m.machs.map (·.name)) m:=by
 have hm:=F3 h;have C:=QY hm;have G: ∀s∈cG m,s.length<=31:=λs z=>R8 (hm.names s z);rw[z_] at C⊢
 simp only[fo8];have mem {d:au} {A B:List au} (h:d∈A):d∈A++B:=List.mem_append_left _ h;have memr {d:au} {A B:List au} (h:d∈B):d∈A++B:=List.mem_append_right _ h;have nS: ∀s∈m.sites,s.length<=31:=λs z=>G s (by simp[cG,z]);have nF: ∀s∈m.feeds,s.length<=31:=λs z=>G s (by simp[cG,z]);have nR: ∀x∈m.racks,x.name.length<=31:=λx hx=>G _ (by simp only[cG,Xt,List.mem_map];exact .inl (.inl (.inr ⟨x,hx,rfl⟩)));have nM: ∀x∈m.machs,x.name.length<=31:=λx hx=>G _ (by simp only[cG,Xt,List.mem_map];exact .inl (.inr ⟨x,hx,rfl⟩));have nI: ∀x∈m.items,x.name.length<=31:=λx hx=>G _ (by simp only[cG,Xt,List.mem_map];exact .inr ⟨x,hx,rfl⟩);have vS: ∀d∈dS m,bx d=true:=λd g=>C d (mem g);have vF: ∀d∈dF m,bx d=true:=λd g=>C d (memr (mem g));have vR: ∀d∈dR m,bx d=true:=λd g=>C d (memr (memr (mem g)));have vM: ∀d∈dM m,bx d=true:=λd g=>C d (memr (memr (memr (mem g))));have vL: ∀d∈dL m,bx d=true:=λd g=>C d (memr (memr (memr (memr (mem g)))));have vI: ∀d∈dI m,bx d=true:=λd g=>C d (memr (memr (memr (memr (memr (mem g))))));have vD: ∀d∈dD m,bx d=true:=λd g=>C d (memr (memr (memr (memr (memr (memr (mem g)))))));have O: ∀d∈dX m,bx d=true:=λd g=>C d (memr (memr (memr (memr (memr (memr (memr (mem g))))))));have vU: ∀d∈rU m,bx d=true:=λd g=>C d (memr (memr (memr (memr (memr (memr (memr (memr g))))))));have tS:i' (dS m)<=39*m.sites.length:=Nc _ 39 _ λs z=>sL (vS _ (XG z)) (nS s z);have tF:i' (dF m)<=39*m.feeds.length:=Nc _ 39 _ λs z=>sL (vF _ (XG z)) (nF s z);have tR:i' (dR m)<=110*m.racks.length:=Nc _ 110 _ λx hx=>sL (vR _ (XG hx)) (nR x hx);have tM:i' (dM m)<=96*m.machs.length:=Nc _ 96 _ λx hx=>sL (vM _ (XG hx)) (nM x hx);have tL:i' (dL m)<=80*m.links.length:=Nc _ 80 _ λx hx=>sL (vL _ (XG hx)) (bU _);have tD:i' (dD m)<=90:=by
  have:=sL (vD _ (by unfold dD;exact List.mem_singleton_self _)) (bU _);have e:i' (dD m)=yO {kind:=8,refs:=[dG m.sites m.dark],nums:=[m.slots.toNat,m.reserve.toNat]}:=by simp[i',dD]
  rw[e];exact this
 have tX:i' (dX m)<=45:=by
  by_cases J:0<m.failures
  .have e:dX m=[{kind:=9,by_:=m.failures.toNat}]:=by unfold dX;rw[if_pos J]
   rw[e] at O⊢
   have:=sL (O _ (List.mem_singleton_self _)) (bU _);have e:i' [({kind:=9,by_:=m.failures.toNat}:au)]=yO {kind:=9,by_:=m.failures.toNat}:=by simp[i']
   rw[e];exact this
  .have e:dX m=[]:=by unfold dX;rw[if_neg J]
   rw[e];simp[i']
 have tI:i' (dI m)<=124*m.items.length+(m.items.map λx=>n9 (m.machs.map (·.name)) x.on).sum:=bs5 _ _ 124 _ λx hx=>by
  obtain⟨X,fp,_⟩:=F4 (hm.items x hx);have Y:=IE fp;have pQ:=hm.mn.2;have g:=bs7 (m.machs.map (·.name)) x.on;have j:=vI _ (XG hx);have F:=sL j (show(sC m x).name.length<=31 from nI x hx);rcases X with k|k|k
  .rw[ve 0 k] at F⊢
   exact bo F ca1
  .rw[ve 1 k] at F⊢
   exact bo F ca1
  .rw[ve 2 k] at F⊢
   exact bo F (by show 124<=_;omega)
 have tU:i' (rU m)<=88*m.rules.length+(m.rules.map λx=>n9 (m.machs.map (·.name)) x.ms).sum:=bs5 _ _ 88 _ λx hx=>by
  have Z:=MI (hm.rules x hx);have j:=vU _ (XG hx);have ge {i:Int} (h:aH i m.items.length=Wz):1<=i:=(kr.1 h).1;cases Z with
  |quorum i y D=>rw[QR m (ge y)] at j⊢;exact bo (sL j (bU _)) (X4 _ _)
  |keep i n a y D I=>rw[QS m n a (ge y)] at j⊢;exact bo (sL j (bU _)) (X4 _ _)
  |spread i n b y D I U V=>rw[QT m n b (ge y)] at j⊢;exact bo (sL j (bU _)) (X4 _ _)
  |only i l y D=>
   rw[QU m l (ge y)] at j⊢
   have Y:=IE D;have pQ:=hm.mn.2;have g:=bs7 (m.machs.map (·.name)) l;exact bo (sL j (bU _)) (by show 43+(fZ (l.map (dG (m.machs.map (·.name))))).length<=88+n9 _ l;omega)
  |order i o y D I=>rw[QV m (ge y) (ge D)] at j⊢;exact bo (sL j (bU _)) (X4 _ _)
  |disturb n y D=>rw[QW m n] at j⊢;exact bo (sL j (bU _)) (X4 _ _)
  |silence i n y D I=>rw[QX m n (ge y)] at j⊢;exact bo (sL j (bU _)) (X4 _ _)
 have y:=hm.sn.2;have D:=hm.fn;have I:=hm.rn;have U:=hm.mn.2;have V:=hm.ln;have h6:=hm.xn;have h7:=hm.un;unfold xe;omega
def fp6 {s:ByteArray} {y:aP} (h:km (cW s)=Ws y):y.Num:=by
 obtain⟨w,r,hs,hj⟩:=I4 s;rw[hs] at h;simp only[km] at h;obtain⟨k,hk,h⟩:=Option.bind_eq_some_iff.1 h;obtain⟨z,hz,h⟩:=Option.bind_eq_some_iff.1 h;split at h
 .injection h with h;subst h;exact(Yk hz).2.2.1
 .cases h
def Q9: ∀(R:List ak) (k:Nat) (acc l:List aP),gz k acc R= .ok l->(∀a∈acc,a.Num)->(aE (l.map eS)).length<=(aE (acc.map eS)).length+(aE R).length/\∀a∈l,a.Num
 |[],k,acc,l,h,hN=>by rw[gz] at h;injection h with h;subst h;exact⟨by omega,hN⟩
 |s::r,k,acc,l,h,hN=>by
  have e:aE (s::r)=s++([10]++aE r):=xz;rw[e,WG,WG];by_cases c:s=[]\/s.head?=Ws 35
  .rw[gz,if_pos c] at h;have:=Q9 r (k+1) acc l h hN;exact⟨by omega,this.2⟩
  .cases hp:km (cW (bs s)) with
   |none=>rw[gz,if_neg c,hp] at h;cases h
   |some a=>
    by_cases g:acc.length=1024
    .rw[gz,if_neg c,hp] at h;simp only at h;rw[if_pos g] at h;cases h
    .rw[gz,if_neg c,hp] at h;simp only at h;rw[if_neg g] at h;obtain⟨h1,h2⟩:=ed7 hp;have y:eS a=s:=by have:=congrArg (λb:ByteArray=>b.data.toList) h2;simpa[gI] using this
     have:=Q9 r (k+1) (acc++[a]) l h (λx hx=>by
      rcases List.mem_append.1 hx with hx|hx
      .exact hN x hx
      .rw[List.mem_singleton.1 hx];exact fp6 hp)
     have j:aE ((acc++[a]).map eS)=aE (acc.map eS)++(s++[10]):=by rw[Xb];simp[aE,y]
     rw[j,WG,WG] at this;simp only[Xg,XO] at this⊢
     exact⟨by omega,this.2⟩
def bs8: ∀(R:List ak) (k:Nat) (acc:List aP) (x:Nat×Nat),gz k acc R= .error x->x.2≠0/\x.1<k+R.length
 |[],k,acc,x,h=>by rw[gz] at h;cases h
 |s::r,k,acc,x,h=>by
  have go (a:List aP) (h:gz (k+1) a r= .error x):x.2≠0/\x.1<k+(s::r).length:=by have:=bs8 r (k+1) a x h;exact⟨this.1,by simp only[Xg];omega⟩
  by_cases c:s=[]\/s.head?=Ws 35
  .rw[gz,if_pos c] at h;exact go _ h
  .cases hp:km (cW (bs s)) with
   |none=>rw[gz,if_neg c,hp] at h;injection h with h;subst h;exact⟨by simp,by simp⟩
   |some a=>
    rw[gz,if_neg c,hp] at h;simp only at h;split at h
    .injection h with h;subst h;exact⟨by simp,by simp⟩
    .exact go _ h
def bs9: ∀(L:List ak),(∀x∈L,dy 10 x)->(aE L).count 10=L.length
 |[],_=>rfl
 |x::L,h=>by have e:aE (x::L)=x++(10::aE L):=xz;have c:x.count 10=0:=List.count_eq_zero.2 λhm=>h x Yl 10 hm rfl;rw[e,List.count_append,c,List.count_cons_self,bs9 L λy hy=>h y qO];simp
def fp7 {L:List ak} (h: ∀x∈L,dy 10 x) (k:Nat):BY (aE L) k<=L.length+1:=by have c:((aE L).take k).count 10<=(aE L).count 10:=(List.take_sublist k _).count_le _;rw[bs9 L h] at c;unfold BY;omega
def fp8 {t:ak} {x:Nat×Nat} (h:ox t= .error x):x.2≠0/\x.1<=(bB t).length+1:=by
 have j:=(Nm _ t (ag _)).1;unfold ox at h;split at h
 .injection h with h;subst h;exact⟨by simp,bU _⟩
 .split at h
  .injection h with h;subst h;exact⟨by simp,ag _⟩
  .rename_i i A;have D:i<(bB t).length:=(List.findIdx?_eq_some_iff_findIdx_eq.1 A).1;split at h
   .rename_i y g;injection h with h;subst h;refine⟨show y.2≠0 from br6 g,bo (fp7 (λz C=>j z (List.mem_of_mem_take C)) _) ?_⟩;rw[XW];omega
   .split at h
    .rename_i y g;injection h with h;subst h;exact⟨show y.2≠0 from br8 g,bU _⟩
    .split at h
     .injection h with h;subst h;exact⟨by simp,by simp only;omega⟩
     .split at h
      .rename_i y g;injection h with h;subst h;have:=bs8 _ _ _ _ g;rw[Xc] at this;exact⟨this.1,by omega⟩
      .split at h
       .cases h
       .injection h with h;subst h;exact⟨by simp,by simp only;omega⟩
def fp9 {t:ak} {s:lB} (O:t.length<=4000) (h:ox t= .ok s):
 ii s=Wz/\(∀a∈s.acts,a.Num)/\(aE (jE s)).length<=16384/\(wP s).length<=65536/\ox (wP s)= .ok s:=by
 obtain⟨O7,b_⟩:=Nm _ t (ag _);unfold ox at h;rw[if_neg Yi] at h;split at h
 .cases h
 .rename_i i J;split at h
  .cases h
  .rename_i ds F;split at h
   .cases h
   .rename_i m hm;split at h
    .cases h
    .rename_i c G;split at h
     .cases h
     .rename_i acts z;split at h
      .rename_i g;injection h with h;subst h;obtain⟨h1,h2,h3,h4,h5⟩:=Nl g;have y:=(Q9 _ _ _ _ z (by simp)).2;have D:=(Q9 _ _ _ _ z (by simp)).1;have V:=fr2 F;have X:=fo6 hm;have Y:=fp5 (show dZ m=true from h1);have Z:=Q7 (bB t) i;have A:(aE (jE ⟨m,c.1,c.2,acts⟩)).length<=16384:=by unfold jE;rw[fo7];show i' (lz m)<=_;omega
       obtain⟨c1,c2⟩:=ZY h1 h2;have C:(c.1:List Int).length<=10:=by unfold jK at h2;simp only[WC,XK,decide_eq_true_eq] at h2;omega
       have U:=az4 (s:=⟨m,c.1,c.2,acts⟩) c2 ⟨by have:=h3.1;simp only at this;omega,by have:=h3.2;simp only at this;omega⟩ C;have I:(aE ((bB t).drop (i+1))).length<=4001:=by
        have e:aE (bB t)=aE ((bB t).take (i+1))++aE ((bB t).drop (i+1)):=by exact RY
        rw[e,WG] at b_;omega
       have j:(wP ⟨m,c.1,c.2,acts⟩).length<=65536:=by rw[ZZ g];have e:aE (jE ⟨m,c.1,c.2,acts⟩++em ⟨m,c.1,c.2,acts⟩::acts.map eS)=aE (jE ⟨m,c.1,c.2,acts⟩)++(em ⟨m,c.1,c.2,acts⟩++([10]++aE (acts.map eS))):=xz;show(aE (jE ⟨m,c.1,c.2,acts⟩++em ⟨m,c.1,c.2,acts⟩::acts.map eS)).length<=_;rw[e];simp only[WG,Xg,XO];simp only[XS,show aE []=[] from rfl,XO] at D;omega
       exact⟨g,y,A,j,ex7 g y A j⟩
      .cases h
end
section
open Go Go.RowKit Go.MapKept Go.Proofs.Tryz
def fu0 {l:List au} {k:Nat} {d:au} (h:l[k]? =Ws d):aE ((l.map cU).take (k+1))=aE ((l.map cU).take k)++(cU d++[10]):=by rw[XJ,WN,h];simp[aE]
def fu1 {l:List ak} {k:Nat}:(aE (l.take k)).length<=(aE l).length:=by
 have h:aE l=aE (l.take k)++aE (l.drop k):=by exact RY
 rw[h,WG];omega
def fu2 (d:au):cU d≠[]:=by unfold cU;simp
def fu3 (v:Wv) (l:List au) (w:Wu) (V:fD w) (F:bW 6 oD w w v l) (U: ∀d∈l,bx d=Wz) (O:(aE (l.map cU)).length<=10000000):
 aQ 25 #[v] w (WM (bs (aE (l.map cU)))):=by
 obtain⟨A,n,c,rfl,hn,wz,iG⟩:=F.form;have HV:=aa F;have HN:=aa hn;have Y:=aa U;have HG:=aa V;have I:=aa O;clear F hn U V O;go_enter func25,ntmps25;go_upto_region 2 with (fail)
 refine cP (λW=>qh w.heap.size w.heap.size [] W/\Below w w W) ⟨qh.new w (ag _),ae (af w) _⟩ ?_;intro W1 ⟨y,C⟩;have bf:=aa C;have mj:=aa y;clear y C;go_upto_region 3 with (fail)
 go_loopw [9] (λi wr=> ∃k:Nat,k<=n/\i=WK Xr k/\qh w.heap.size w.heap.size (aE ((l.map cU).take k)) wr/\Below w w wr) (λi _=>n - (WS i).toNat)
 case atStart=>exact⟨0,bU _,rfl,by simpa[aE] using mj.out,bf.out⟩
 case round=>
  obtain⟨k,hk,rfl,ew,y⟩:=hrel;have G:=aa ew;have g:=aa y;clear ew y;by_cases ar:k<n
  .have hI:(k:Int)<n:=by omega
   obtain⟨d,hd⟩: ∃d,l[k]? =Ws d:=⟨_,Wy lU⟩;obtain⟨sb,so,cs,rfl,jR,eF,⟨r,nv,rfl,hr,iJ,_,_⟩,fW⟩:=HV.out.at_ hd;have c0:wr.cell? ⟨sb,so+k*6,Wr⟩=Ws (WK Xr d.kind):=(g.out.cell (p:=⟨sb,so+k*6,Wr⟩) jR).trans (fW 0 _ rfl);have c1:wr.cell? ⟨sb,so+k*6+1,Wr⟩=Ws (WM (bs d.name)):=(g.out.cell (p:=⟨sb,so+k*6+1,Wr⟩) jR).trans (fW 1 _ rfl);have c2:wr.cell? ⟨sb,so+k*6+2,Wr⟩=Ws r:=(g.out.cell (p:=⟨sb,so+k*6+2,Wr⟩) jR).trans (fW 2 _ rfl);have c3:wr.cell? ⟨sb,so+k*6+3,Wr⟩=Ws nv:=(g.out.cell (p:=⟨sb,so+k*6+3,Wr⟩) jR).trans (fW 3 _ rfl);have c4:wr.cell? ⟨sb,so+k*6+4,Wr⟩=Ws (WK Xr d.by_):=(g.out.cell (p:=⟨sb,so+k*6+4,Wr⟩) jR).trans (fW 4 _ rfl);have c5:wr.cell? ⟨sb,so+k*6+5,Wr⟩=Ws (Yc d.always):=(g.out.cell (p:=⟨sb,so+k*6+5,Wr⟩) jR).trans (fW 5 _ rfl);have HT:=aa (λW (j:Below w w W)=>fy5 d r nv W (HG.out.step j) ((hr.below j (ag _)).more j.size) ((iJ.below j (ag _)).more j.size) (Y.out d (eD hd)));have X:=aa (fu0 hd);have rP:=aa (fu1 (l:=l.map cU) (k:=k+1));have aO:(bs (cU d)).toList.isEmpty=false:=by
    rw[jr,gI];cases h:cU d with
    |nil=>exact absurd h (fu2 d)
    |cons a b=>rfl
   have D:=rP.out;rw[X.out,WG,WG] at D;have hz: ¬9223372036854775807<(bs (cU d)).size+1:=by have h:=I.out;show ¬_<(cU d).length+1;simp at D;omega
   have jp:=aa D;have mN:=aa hr;have sU:=aa iJ;obtain⟨RA,rn,rc,rfl,_⟩:=hr.sk.form;obtain⟨NA,nn,nc,rfl,_⟩:=iJ.sk.form
   have HW:=aa (λW (h:qh w.heap.size w.heap.size (aE ((l.map cU).take k)) W) (C:w.heap.size<=W.heap.size)=>(show WJ WH 24 #[Yf (Ws w),WM (bs (cU d)++⟨#[10]⟩)] W _ from
    Rf w.heap.size w.heap.size _ (cU d++[10]) W h (by have h1:=I.out;have h2:=jp.out;simp at h2⊢;omega) C))
   clear hd fW eF hr iJ D;go_wp2_with first
    |(go_at_call 61;refine(HT.out _ (ae g.out _)).m ?_;rintro e w2 ⟨rfl,z⟩;have J:=ai (ae g.out _) z;have gM:=G.out.later (ai (ae (af wr) _) z))
    |(go_at_call 24;refine(HW.out _ gM J.size).m ?_;rintro e w3 ⟨rfl,ON,aL,_⟩)
   exact⟨⟨k+1,by omega,by go_num,by rw[X.out];exact ON,J.trans aL⟩,by simp[WS];omega⟩
  .have hI: ¬(k:Int)<n:=by omega
   have HS:=aa (bt8 w.heap.size w.heap.size _ wr G.out g.out.size);have Z:=aa (show(l.map cU).take k=l.map cU from WY (by rw[WF,HN.out];omega));go_wp2_with(go_at_call 30;refine HS.out.m ?_;rintro e w2 ⟨rfl,z⟩)
   go_ret;exact⟨by rw[Z.out];rfl,g.out.trans z⟩
def fu4 {l:List Int} (h:su l=Wz):l.length<=16:=by
 unfold su at h;have g: ∀j,j<l.length->yt l j:=λj c=>of_decide_eq_true (List.all_eq_true.1 h j (List.mem_range.2 c));have key: ∀j,j<l.length->(j:Int)+1<=cT l j:=by
  intro j;induction j with
  |zero=>intro c;have:=(g 0 c).1.1;omega
  |succ j ih=>intro c;have A:=ih Yi;have y:=(g (j+1) c).2 Yi;rw[Nat.add_sub_cancel] at y;omega
 rcases Nat.eq_zero_or_pos l.length with z|z
 .omega
 .have A:=key (l.length - 1) Yi;have y:=(g (l.length - 1) Yi).1.2;omega
def bt9 {x:aP} (h:fE x=Wz):x.ms.length<=100/\x.ss.length<=100:=by unfold fE at h;simp only[WC,decide_eq_true_eq] at h;have:=fu4 h.1.2;exact⟨by omega,by omega⟩
def fu5 {l:List aP} {k:Nat} {x:aP} (h:l[k]? =Ws x):aE ((l.map eS).take (k+1))=aE ((l.map eS).take k)++(eS x++[10]):=by rw[XJ,WN,h];simp[aE]
def fu6 (s:lB) (v:MV) (cv av:Wv) (w:Wu) (y:fD w) (hv:s.m.In w w v) (hc:aW w w cv s.control) (Z:bW 10 ue w w av s.acts) (bN:ii s=Wz) (b_:(aE (jE s)).length<=16384) (Bz:(wP s).length<=65536):
 aQ 8 #[Ye (s.m.cells v++ #[cv,WK Xr s.clients,av])] w (WM (bs (wP s))):=by
 have VK:=ZZ bN;obtain⟨p1,p2,p3,p4,p5⟩:=Nl bN;obtain⟨c1,c2⟩:=ZY p1 p2;have CM:s.control.length<=5:=ca2;have Bh:aK s.clients:=⟨by omega,by omega⟩;have xV:=az4 c2 Bh Yi;have H9:=QY (F3 p1);have jq:=aa (λW (g:Below w w W)=>bq0 s v cv av W (y.below g y.g.size) (hv.to g (ag _) g.size) ((hc.below g (ag _)).more g.size) (Z.to ue.ab g (ag _) g.size) Yi);rw[bN] at jq;have SK:=aa (λW (g:Below w w W)=>fb2 s.m v W (y.below g y.g.size) (hv.to g (ag _) g.size) p1);have N0:=aa (λu W (g:Below w w W) (hu:bW 6 oD W W u (lz s.m))=>fu3 u (lz s.m) W (y.below g y.g.size) hu H9 (by have:(aE ((lz s.m).map cU)).length<=16384:=b_;omega));have GF:=aa (λW (g:Below w w W)=>BH cv s.control W (y.g.step g) ((hc.below g (ag _)).more g.size) Yi);have V:=aa (λu W (hu:bG W W u (s.control.map WB))=>R_ [44,32] u (s.control.map WB) W hu (by rw[WF];omega) TP);have U:=aa (λW (g:Below w w W)=>LO s.clients Bh W (y.g.step g));have jp:=aa (show bs tV++bs (dr [44,32] (s.control.map WB))++bs gl++bs (WB s.clients)++⟨#[10]⟩=bs (em s++[10]) by show _++_++_++_++bs [10]=_;rw[Fv,Fv,Fv,Fv];rfl);have Bl:(dr [44,32] (s.control.map WB)).length<=1000:=TP;have Hk:(WB s.clients).length<=1000:=TP;have lm:=aa p5;have NC:=aa (show(aE (s.acts.map eS)).length<=65536 by rw[VK] at Bz;have e:aE (jE s++em s::s.acts.map eS)=aE (jE s++[em s])++aE (s.acts.map eS):=xz;rw[e,WG] at Bz;omega);have I:=aa (show aE (jE s)++(em s++[10])=aE (jE s++[em s]) by simp[aE]);have O:=aa (show wP s=aE (jE s++[em s])++aE (s.acts.map eS) by rw[VK];simp[aE]);have Bx:(aE (jE s++[em s])).length<=18000:=by rw[<-I.out,WG,WG,XF];omega
 have SV:=aa (show(aE (jE s)).length<=16384 from b_);have DI:=aa xV;rw[O.out];have vB:Hid (aE ((lz s.m).map cU)=aE (jE s)):=rfl;rw[vB.out] at N0;generalize CG:aE (jE s)=T0 at N0 I SV;generalize dK:em s=T1 at jp I DI Bx;generalize eT:aE (jE s++[T1])=T2 at I Bx;obtain⟨m,ctl,cl,acts⟩:=s;simp only at hv hc Z jq SK N0 GF V U jp lm NC Bl Hk CG dK eT Bh⊢
 clear bN b_ Bz VK p1 p2 p3 p4 p5 c1 c2 CM xV H9 O vB CG dK eT;obtain⟨⟨Sa,sc,hs,dh,bS⟩,⟨Fa,fc,cB,cr,cL⟩,⟨Ra,rc,hr,cM,cV⟩,⟨Ma,mc,hm,dd,cz⟩,⟨La,lc,eX,dt,di⟩,⟨Ia,ic,hi,ed,ez⟩,⟨Ua,uc,hu,dP,dq⟩⟩:=hv.cells;obtain⟨A,n,c,rfl,hn,Bi,iG⟩:=hc.form;obtain⟨A2,n2,c2,rfl,kX,ci8,gk7⟩:=Z.form;refine bq1 λHM HS=> ?_;rw[HM.out] at SK;rw[HS.out] at jq⊢
 have HA:=aa Z;have ml:=aa kX;have HG:=aa y;clear y hv hc Z hs cB hr hm eX hi hu dh bS cr cL cM cV dd cz dt di ed ez dP dq hn kX;go_enter func8,ntmps8;go_upto_region 1 with (fail)
 refine cP (λW=>Below w w W/\W.heap[w.heap.size]? =Ws (Yd #[Yb Sa m.sites.length sc,Yb Fa m.feeds.length fc,Yb Ra m.racks.length rc,Yb Ma m.machs.length mc,Yb La m.links.length lc,Yb Ia m.items.length ic,m.dark,m.slots,m.reserve,m.failures,Yb Ua m.rules.length uc,Yb A n c,cl,Yb A2 n2 c2] 34 (0,0))) ⟨ae (af w) _,bQ w _⟩ ?_;intro W1 ⟨aU,wE⟩;have aT:=aa aU;have Ec:=aa wE;obtain⟨a0,a1,a2,a3,a4,a5,a6,a7,a8,a9,fN,rS,xB,xC⟩:=jt wE;clear aU wE
 go_upto_region 4 with (first
  |(go_at_call 21;refine(jq.out _ aT.out).m ?_;rintro e F ⟨rfl,am⟩;have aR:=aa (ai aT.out am);have Eb:=aa (aq Ec.out am);clear am))
 refine cP (λW=>qh F.heap.size F.heap.size [] W/\Below F F W) ⟨qh.new F (ag _),ae (af F) _⟩ ?_;intro J ⟨z,aL⟩;have bg:=aa (ai aR.out aL);have p_:=aq Eb.out aL;have Y:=aa p_;have X:=aa z;have bd:=blk_lt Eb.out;have D:=aL.size;obtain⟨d0,d1,d2,d3,d4,d5,d6,d7,d8,d9,Cs,GZ,G0,G3⟩:=jt p_;clear z aL p_ a0 a1 a2 a3 a4 a5 a6 a7 a8 a9 fN rS xB xC;generalize gP:F.heap.size=bb at X bd D⊢
 have C:=aa (fun(a b:Wu) (h:Below bb J a) (k:Below a a b)=>Below.trans h (k.mono (bo D h.size)));have lR:w.heap.size<=bb:=eJ bd;have G:=aa (fun(a:Wu) (h:Below bb J a)=>Below.trans bg.out (h.mono lR))
 go_upto_region 5 with (first
  |(go_at_call 26;refine(SK.out _ bg.out).m ?_;rintro e w4 ⟨u,rfl,VL,aS⟩;have eN:=aa (C.out _ _ ((af J).mono D) aS);have dj5:=aa VL;have dh5:=aa (X.out.later aS);obtain⟨uA,un,uc',rfl,_⟩:=VL.form;clear VL aS)
  |(go_at_call 25;refine(N0.out _ _ (G.out _ eN.out) dj5.out).m ?_;rintro e w5 ⟨rfl,bp⟩;have eI:=aa (C.out _ _ eN.out bp);have dh6:=aa (dh5.out.later bp);clear bp)
  |(go_at_call 24;refine(Rf bb bb [] T0 _ dh6.out (by have:=SV.out;simp;omega) (bo D eI.out.size)).m ?_;rintro e w6 ⟨rfl,Uv,bM,_⟩;rw[Xl] at Uv;have dh7:=aa Uv;have oM:=aa (eI.out.trans bM);clear Uv bM))
 have wD:=js Y.out oM.out bd;have pp:bb<=w6.heap.size:=bo D oM.out.size;have du:=aa (λW (h:Below w6 w6 W)=>jt (aq wD h));have V6:(bs (dr [44,32] (ctl.map WB))).size=(dr [44,32] (ctl.map WB)).length:=rfl;have gw9:(bs (WB cl)).size=(WB cl).length:=rfl;have y1: ¬9223372036854775807<8+(bs (dr [44,32] (ctl.map WB))).size:=Yi;have y2: ¬9223372036854775807<8+(bs (dr [44,32] (ctl.map WB))).size+9:=Yi;have y3: ¬9223372036854775807<8+(bs (dr [44,32] (ctl.map WB))).size+9+(bs (WB cl)).size:=Yi;have y4: ¬9223372036854775807<8+(bs (dr [44,32] (ctl.map WB))).size+9+(bs (WB cl)).size+1:=Yi;clear wD V6 gw9 d0 d1 d2 d3 d4 d5 d6 d7 d8 d9 Cs GZ G0 G3;refine fC (S:=λw'=>Below w6 w6 w') 11 12 Cp λhS=> ?_;iterate 2 refine pK 12 14 ?_
 refine rh 6 20 ?_;refine rh 7 21 ?_;refine bF 2 λK hK=> ?_;go_simp;refine(GF.out _ (G.out _ (C.out _ _ oM.out hS))).m ?_;rintro e w7 ⟨u,rfl,hu,gB⟩;have HU:=aa (show bG w7 w7 u (ctl.map WB) from by have h:=hu.slS;unfold bG;rw[XB];exact h);try go_simp
 refine hK.out _ _ (ai hS gB) λhS=> ?_;clear hK hu;refine aG ?_;refine bF 3 λK hK=> ?_;go_simp;refine(V.out u _ HU.out).m ?_;rintro e w8 ⟨rfl,eL⟩;try go_simp
 refine hK.out _ _ (ai hS eL) λhS=> ?_;clear hK;refine aG ?_;refine rh 4 18 ?_;refine rh 5 19 ?_;refine bF 8 λK hK=> ?_;go_simp;refine(U.out _ (G.out _ (C.out _ _ oM.out hS))).m ?_;rintro e w9 ⟨rfl,fA⟩;try go_simp
 refine hK.out _ _ (ai hS fA) λhS=> ?_;clear hK;refine aG ?_;refine rh 9 23 ?_;refine rh 10 24 ?_;refine eC 11 λK hK=> ?_;go_simp;refine((show WJ WH 24 #[Yf (Ws bb),WM _] w9 _ from jp.out▸Rf bb bb T0 (T1++[10]) w9 (dh7.out.later hS) (by have:=SV.out;have:=DI.out;simp;omega) (bo pp hS.size))).m ?_;rintro e AA ⟨rfl,Uu,nO,_⟩;rw[I.out] at Uu;have dh3:=aa Uu;have Gq:=aa ((C.out _ _ oM.out hS).trans nO);try go_simp
 refine iZ ?_;clear hK;refine aG ?_;refine gK ?_;clear Uu nO gB eL fA HU hS du y1 y2 y3 y4;go_upto_region 6 with (fail)
 refine cP (λW=>qh bb bb T2 W/\Below bb J W) ⟨dh3.out,Gq.out⟩ ?_;intro ge7 ⟨z,hk⟩;have dh4:=aa z;have Gr:=aa hk;obtain⟨d0,d1,d2,d3,d4,d5,d6,d7,d8,d9,Cs,GZ,G0,G3⟩:=jt (js Y.out hk bd);clear z hk;go_upto_region 7 with (fail)
 clear d0 d1 d2 d3 d4 d5 d6 d7 d8 d9 Cs GZ G0 G3;go_loopw [29] (λi wr=> ∃k:Nat,k<=n2/\i=WK Xr k/\qh bb bb (T2++aE ((acts.map eS).take k)) wr/\Below bb J wr) (λi _=>n2 - (WS i).toNat)
 case atStart=>exact⟨0,bU _,rfl,by simpa[aE] using dh4.out,Gr.out⟩
 case round=>
  obtain⟨k,hk,rfl,z,g⟩:=hrel;have mj:=aa z;have jc:=aa g;have j:=aa (G.out _ g);have eB:=bo D g.size;clear z g;by_cases ar:k<n2
  .have dz:(0:Int)<=k:=by omega
   have bJ:(k:Int)<n2:=Yi;obtain⟨x,hx⟩: ∃x,acts[k]? =Ws x:=⟨_,Wy (by rw[ml.out];exact ar)⟩;obtain⟨b1,p1,Cr,rfl,ap,_,⟨B4,B8,rfl,fL,_⟩,bt⟩:=HA.out.at_ hx;have dJ:wr.cell? ⟨b1,p1+k*10,Wr⟩=Ws (WK Xr x.kind):=(j.out.cell (p:=⟨b1,p1+k*10,Wr⟩) ap).trans (bt 0 _ rfl);have jL:wr.cell? ⟨b1,p1+k*10+1,Wr⟩=Ws (WK Xr x.a):=(j.out.cell (p:=⟨b1,p1+k*10+1,Wr⟩) ap).trans (bt 1 _ rfl);have jC:wr.cell? ⟨b1,p1+k*10+2,Wr⟩=Ws (WK Xr x.b):=(j.out.cell (p:=⟨b1,p1+k*10+2,Wr⟩) ap).trans (bt 2 _ rfl);have oq:wr.cell? ⟨b1,p1+k*10+3,Wr⟩=Ws (WK Xr x.c):=(j.out.cell (p:=⟨b1,p1+k*10+3,Wr⟩) ap).trans (bt 3 _ rfl);have mq:wr.cell? ⟨b1,p1+k*10+4,Wr⟩=Ws (WK Xr x.ok):=(j.out.cell (p:=⟨b1,p1+k*10+4,Wr⟩) ap).trans (bt 4 _ rfl);have oP:wr.cell? ⟨b1,p1+k*10+5,Wr⟩=Ws (WM x.key):=(j.out.cell (p:=⟨b1,p1+k*10+5,Wr⟩) ap).trans (bt 5 _ rfl);have pI:wr.cell? ⟨b1,p1+k*10+6,Wr⟩=Ws (WK Xr x.val):=(j.out.cell (p:=⟨b1,p1+k*10+6,Wr⟩) ap).trans (bt 6 _ rfl);have A_:wr.cell? ⟨b1,p1+k*10+7,Wr⟩=Ws (WK Xr x.old):=(j.out.cell (p:=⟨b1,p1+k*10+7,Wr⟩) ap).trans (bt 7 _ rfl);have Ct:wr.cell? ⟨b1,p1+k*10+8,Wr⟩=Ws (B4):=(j.out.cell (p:=⟨b1,p1+k*10+8,Wr⟩) ap).trans (bt 8 _ rfl);have Cu:wr.cell? ⟨b1,p1+k*10+9,Wr⟩=Ws (B8):=(j.out.cell (p:=⟨b1,p1+k*10+9,Wr⟩) ap).trans (bt 9 _ rfl);have wH:=lm.out x (eD hx);have Ji:=aa (λW (g:Below w w W)=>an0 x B4 B8 W (HG.out.g.step g) ((fL.below g (ag _)).more g.size) (bt9 wH).1 (bt9 wH).2);have de3:=aa (show IS x=eS x from by unfold IS;rw[wH];rfl);rw[de3.out] at Ji;have HT:=aa (fu5 hx);have fI:(aE ((acts.map eS).take (k+1))).length<=65536:=bo (Q7 _ _) NC.out;rw[HT.out,WG,WG] at fI;have rP:=aa fI;have hz: ¬9223372036854775807<(bs (eS x)).size+1:=by have h:(bs (eS x)).size=(eS x).length:=rfl;simp at fI;omega
   simp only[aP.cells_def] at Ji;obtain⟨Ty,V0,VZ,rfl,_,_,_⟩:=fL.ms.form;obtain⟨Tz,V4,V3,rfl,_,_,_⟩:=fL.ss.form
   have df5:=aa (λW (h:qh bb bb (T2++aE ((acts.map eS).take k)) W) (hB:bb<=W.heap.size)=>(show WJ WH 24 #[Yf (Ws bb),WM (bs (eS x)++⟨#[10]⟩)] W _ from
    Rf bb bb _ (eS x++[10]) W h (by have h2:=rP.out;simp at h2⊢;omega) hB))
   clear bt hx fL wH fI;go_upto_region 9 with (fail)
   refine cP (λW=>Below wr wr W/\W.heap[wr.heap.size]? =Ws (Yd #[WK Xr x.kind,WK Xr x.a,WK Xr x.b,WK Xr x.c,WK Xr x.ok,WM x.key,WK Xr x.val,WK Xr x.old,Yb Ty V0 VZ,Yb Tz V4 V3] 46 (0,0))) ⟨ae (af wr) _,bQ wr _⟩ ?_;intro Wx ⟨fk,lg⟩;obtain⟨c0,c1,c2,c3,c4,c5,c6,c7,c8,c9⟩:=af3 lg;have pw:=aa (C.out _ _ jc.out fk);have kH:=aa (mj.out.later fk);clear fk lg dJ jL jC oq mq oP pI A_ Ct Cu;go_wp2_with first
    |(go_at_call 11;refine(Ji.out _ (G.out _ pw.out)).m ?_;rintro e Jf ⟨rfl,Hc⟩;have JJ:=aa (C.out _ _ pw.out Hc);have dh2:=aa (kH.out.later Hc);clear Hc)
    |(go_at_call 24;refine(df5.out _ dh2.out (bo D JJ.out.size)).m ?_;rintro e Ns ⟨rfl,gj8,gj5,_⟩)
   exact⟨⟨k+1,by omega,by go_num,by rw[HT.out,<-Xd];exact gj8,JJ.out.trans gj5⟩,by simp[WS];omega⟩
  .have bJ: ¬(k:Int)<n2:=by omega
   have bo4:=aa (bt8 bb bb _ wr mj.out eB);have cw5:=aa (show(acts.map eS).take k=acts.map eS from WY (by rw[WF,ml.out];omega));go_wp2_with(go_at_call 30;refine bo4.out.m ?_;rintro e Nt ⟨rfl,OM⟩)
   go_ret;exact⟨by rw[cw5.out];rfl,G.out _ (jc.out.trans OM)⟩
def bu8 (m:aM) (l:List Int) (cl:Int) (acts:List aP) (v1 G:MV) (Y c2 U V:Wv) (w:Wu) (Z:m.In w w v1) (kf:m.In w w G) (bt:aW w w Y l) (j:aW w w c2 l) (rW:bW 10 ue w w U acts) (J:bW 10 ue w w V acts):
 aQ 7 #[Ye (m.cells v1++ #[Y,WK Xr cl,U]),Ye (m.cells G++ #[c2,WK Xr cl,V])] w (Yc Wz):=by
 obtain⟨C1,nc,Ei,rfl,hZ,go6,_⟩:=bt.form;obtain⟨C2,gu1,Om,rfl,kX,cn0,_⟩:=j.form;obtain rfl:nc=gu1:=Yi;obtain⟨D1,na,xG,rfl,Lr,gl3,_⟩:=rW.form;obtain⟨D2,gu0,On,rfl,go5,hd5,_⟩:=J.form;obtain rfl:na=gu0:=Yi;obtain⟨⟨S1,s1,dh,_,_⟩,⟨F1,f1,cr,_,_⟩,⟨R1,r1,cM,_,_⟩,⟨M1,m1,dd,_,_⟩,⟨L1,l1,dt,_,_⟩,⟨I1,i1,ed,_,_⟩,⟨U1,u1,dP,_,_⟩⟩:=Z.cells;refine bu9 λDT AO Ca=> ?_;obtain⟨⟨S2,s2,bS,_,_⟩,⟨F2,f2,cL,_,_⟩,⟨R2,r2,cV,_,_⟩,⟨M2,m2,z,_,_⟩,⟨L2,l2,di,_,_⟩,⟨I2,i2,ez,_,_⟩,⟨U2,u2,dq,_,_⟩⟩:=kf.cells;have JO:=aa (show m.cells G= #[Yb S2 m.sites.length s2,Yb F2 m.feeds.length f2,Yb R2 m.racks.length r2,Yb M2 m.machs.length m2,Yb L2 m.links.length l2,Yb I2 m.items.length i2,WK Xr m.dark,WK Xr m.slots,WK Xr m.reserve,WK Xr m.failures,Yb U2 m.rules.length u2] from by rw[aM.cells_def,bS,cL,cV,z,di,ez,dq]);have ui:=aa (show m.cells G++ #[Yb C2 nc Om,WK Xr cl,Yb D2 na On]= #[Yb S2 m.sites.length s2,Yb F2 m.feeds.length f2,Yb R2 m.racks.length r2,Yb M2 m.machs.length m2,Yb L2 m.links.length l2,Yb I2 m.items.length i2,WK Xr m.dark,WK Xr m.slots,WK Xr m.reserve,WK Xr m.failures,Yb U2 m.rules.length u2,Yb C2 nc Om,WK Xr cl,Yb D2 na On] from by rw[JO.out];rfl);have NB:=aa J;have AQ:=aa (λW (y:Below w w W)=>fv3 m v1 G W (Z.to y (ag _) y.size) (kf.to y (ag _) y.size));have li:=aa (show ∀W,Below w w W->aQ 23 #[Yb C1 nc Ei,Yb C2 nc Om] W (Yc Wz) from λW y=>(LQ _ _ l l W W.heap.size ((bt.below y (ag _)).more y.size) ((j.below y (ag _)).more y.size)).mono λe w' ⟨he,hb⟩=>⟨by rw[he];exact cE Yl,hb⟩);rw[DT.out,JO.out] at AQ;rw[AO.out,ui.out];have HN:=aa Lr;have ec:(cl !=cl)=false:=Yl;have en:((na:Int)!=(na:Int))=false:=Yl;clear hZ kX Lr go5 bt j rW J Z kf dh cr cM dd dt ed dP bS cL cV z di ez dq;go_enter func7,ntmps7;go_upto_region 1 with (fail)
 refine cP (λW=>Below w w W/\W.heap[w.heap.size]? =Ws (Yd #[Yb S1 m.sites.length s1,Yb F1 m.feeds.length f1,Yb R1 m.racks.length r1,Yb M1 m.machs.length m1,Yb L1 m.links.length l1,Yb I1 m.items.length i1,m.dark,m.slots,m.reserve,m.failures,Yb U1 m.rules.length u1,Yb C1 nc Ei,cl,Yb D1 na xG] 34 (0,0))/\W.heap[w.heap.size+1]? =Ws (Yd #[Yb S2 m.sites.length s2,Yb F2 m.feeds.length f2,Yb R2 m.racks.length r2,Yb M2 m.machs.length m2,Yb L2 m.links.length l2,Yb I2 m.items.length i2,m.dark,m.slots,m.reserve,m.failures,Yb U2 m.rules.length u2,Yb C2 nc Om,cl,Yb D2 na On] 34 (0,0))) ⟨ae (ae (af w) _) _,aq (bQ w _) (ae (af _) _),FN w _ _⟩ ?_;intro O ⟨aU,dd,z⟩;have aT:=aa aU;have AT:=aa dd;have GK:=aa z;obtain⟨a0,U,V,a3,a4,a5,a6,a7,a8,a9,fN,rS,xB,xC⟩:=jt dd;obtain⟨b0,b1,b2,b3,b4,b5,b6,b7,b8,b9,xD,Kp,Kq,Kr⟩:=jt z;clear aU dd z
 go_wp2_with(first
  |(go_at_call 22;refine(AQ.out O aT.out).m ?_;rintro e w2 ⟨rfl,g⟩;have aR:=aa g;have F:=aq AT.out g;have I:=aq GK.out g;obtain⟨d0,d1,d2,d3,d4,d5,d6,d7,d8,d9,Cs,GZ,G0,G3⟩:=jt F;obtain⟨g0,g1,g2,g3,g4,g5,g6,g7,g8,g9,Cv,G6,Ot,El⟩:=jt I;clear g F I)
  |(go_at_call 23;refine(li.out _ (ai aT.out aR.out)).m ?_;rintro e w3 ⟨rfl,aL⟩;have X:=aa (ai aR.out aL);have F:=aq AT.out X.out;have I:=aq GK.out X.out;obtain⟨x0,x1,x2,x3,x4,x5,x6,x7,x8,x9,ho3,ho4,ho5,ho6⟩:=jt F;obtain⟨y0,y1,y2,y3,y4,y5,y6,y7,y8,y9,ho7,ho8,ho9,hp0⟩:=jt I;clear aL F I))
 go_loopw [5] (λi wr=> ∃k:Nat,k<=na/\i=WK Xr k/\Below O O wr) (λi _=>na - (WS i).toNat)
 case atStart=>exact⟨0,bU _,rfl,X.out⟩
 case round=>
  obtain⟨k,hk,rfl,hB⟩:=hrel;have HB:=aa hB;refine oX λbH=> ?_;refine Jc λiH lL=> ?_;have Y:wr.cell? (w 13 Wr)=Ws (Yb D1 na xG):=ah iH rfl;clear hB;by_cases ar:k<na
  .have dz:(0:Int)<=k:=by omega
   have bJ:(k:Int)<na:=Yi;obtain⟨x,hx⟩: ∃x,acts[k]? =Ws x:=⟨_,Wy lU⟩;obtain⟨b1,p1,Cr,rfl,ap,_,⟨B4,B8,rfl,fL,_⟩,bt⟩:=Ca.out.at_ hx;obtain⟨b2,p2,GY,rfl,g,_,⟨V1,V5,rfl,cQ,_⟩,j⟩:=NB.out.at_ hx;refine bv0 λdJ jL jC oq mq oP pI A_ Ct Cu=> ?_;have jW:wr.cell? ⟨b2,p2+k*10+0,Wr⟩=Ws (WK Xr x.kind):=(bH.out.cell (p:=⟨b2,p2+k*10+0,Wr⟩) g).trans (j 0 _ rfl);have mQ:wr.cell? ⟨b2,p2+k*10+1,Wr⟩=Ws (WK Xr x.a):=(bH.out.cell (p:=⟨b2,p2+k*10+1,Wr⟩) g).trans (j 1 _ rfl);have mR:wr.cell? ⟨b2,p2+k*10+2,Wr⟩=Ws (WK Xr x.b):=(bH.out.cell (p:=⟨b2,p2+k*10+2,Wr⟩) g).trans (j 2 _ rfl);have zr:wr.cell? ⟨b2,p2+k*10+3,Wr⟩=Ws (WK Xr x.c):=(bH.out.cell (p:=⟨b2,p2+k*10+3,Wr⟩) g).trans (j 3 _ rfl);have zt:wr.cell? ⟨b2,p2+k*10+4,Wr⟩=Ws (WK Xr x.ok):=(bH.out.cell (p:=⟨b2,p2+k*10+4,Wr⟩) g).trans (j 4 _ rfl);have zu:wr.cell? ⟨b2,p2+k*10+5,Wr⟩=Ws (WM x.key):=(bH.out.cell (p:=⟨b2,p2+k*10+5,Wr⟩) g).trans (j 5 _ rfl);have zv:wr.cell? ⟨b2,p2+k*10+6,Wr⟩=Ws (WK Xr x.val):=(bH.out.cell (p:=⟨b2,p2+k*10+6,Wr⟩) g).trans (j 6 _ rfl);have A:wr.cell? ⟨b2,p2+k*10+7,Wr⟩=Ws (WK Xr x.old):=(bH.out.cell (p:=⟨b2,p2+k*10+7,Wr⟩) g).trans (j 7 _ rfl);have C:wr.cell? ⟨b2,p2+k*10+8,Wr⟩=Ws (V1):=(bH.out.cell (p:=⟨b2,p2+k*10+8,Wr⟩) g).trans (j 8 _ rfl);have D:wr.cell? ⟨b2,p2+k*10+9,Wr⟩=Ws (V5):=(bH.out.cell (p:=⟨b2,p2+k*10+9,Wr⟩) g).trans (j 9 _ rfl);simp only[WR] at dJ jW;have J4:=aa (show ∀W,Below w w W->aQ 12 #[Ye (x.cells B4 B8),Ye (x.cells V1 V5)] W (Yc Wz) from λW y=>(YJ x x B4 B8 V1 V5 W ((fL.below y (ag _)).more y.size) ((cQ.below y (ag _)).more y.size)).mono λe w' ⟨he,hb⟩=>⟨by rw[he,ai4],hb⟩);simp only[aP.cells_def] at J4;obtain⟨Ty,V0,VZ,rfl,_,_,_⟩:=fL.ms.form;obtain⟨gx6,hn2,hn1,rfl,_,_,_⟩:=cQ.ms.form;obtain⟨Tz,V4,V3,rfl,_,_,_⟩:=fL.ss.form;obtain⟨gx7,ho2,ho1,rfl,_,_,_⟩:=cQ.ss.form;clear bt j hx fL cQ;have du:=aa (λW (h:Below wr wr W)=>WE ((show W.cell? (w 13 Wr)=Ws (Yb (Ws (b1 p1 Wr)) na xG) from ah (aq iH h) rfl)) (WE ((show W.cell? ⟨(w.heap.size+1),13,Wr⟩=Ws (Yb (Ws (b2 p2 Wr)) na On) from ah (aq lL h) rfl)) (WE (kc h dJ) (WE (kc h jL) (WE (kc h jC) (WE (kc h oq) (WE (kc h mq) (WE (kc h oP) (WE (kc h pI) (WE (kc h A_) (WE (kc h Ct) (WE (kc h Cu) (WE (kc h jW) (WE (kc h mQ) (WE (kc h mR) (WE (kc h zr) (WE (kc h zt) (WE (kc h zu) (WE (kc h zv) (WE (kc h A) (WE (kc h C) (kc h D))))))))))))))))))))));clear iH lL dJ jL jC oq mq oP pI A_ Ct Cu jW mQ mR zr zt zu zv A C D;go_upto_region 6 with (fail)
   refine fC (S:=Below wr wr) 12 12 (aX (af wr)) λhS=> ?_;iterate 10 refine cI 12 43 ?_
   refine bF 10 λK hK=> ?_;go_simp;refine(J4.out _ (ai bH.out hS)).m ?_;rintro e w4 ⟨rfl,aS⟩;try go_simp
   refine BQ λhS=> ?_;clear hK;refine aG ?_;refine ie 11 54 ?_;exact Nh
  .have bJ: ¬(k:Int)<na:=by omega
   go_wp2_with fail
   go_ret;exact⟨rfl,bH.out⟩
def lf (L:List ak) (i:Nat) (line:ak):Except (Nat×Nat) lB:=
 match lC (aE (L.take i)) with
  | .error x=> .error (BY (aE (L.take i)) x.1,x.2)
  | .ok ds=>match nE ds with
    | .error x=> .error (0,x.2)
    | .ok m=>match yx line with
      |none=> .error (i+1,3)
      |some c=>match gz (i+2) [] (L.drop (i+1)) with
       | .error x=> .error x
       | .ok acts=>if ii ⟨m,c.1,c.2,acts⟩ then .ok ⟨m,c.1,c.2,acts⟩ else .error (i+1,1)
section
variable {L:List ak} {i:Nat} {line:ak}
def gc8 {x:Nat×Nat} (h:lC (aE (L.take i))= .error x):lf L i line= .error (BY (aE (L.take i)) x.1,x.2):=by unfold lf;rw[h]
def gc9 {ds:List au} {x:Nat×Nat} (h:lC (aE (L.take i))= .ok ds) (c:nE ds= .error x):lf L i line= .error (0,x.2):=by unfold lf;rw[h];simp only[c]
def gd0 {ds:List au} {m:aM} (h:lC (aE (L.take i))= .ok ds) (g:nE ds= .ok m):lf L i line=(match yx line with
        |none=> .error (i+1,3)
        |some c=>match gz (i+2) [] (L.drop (i+1)) with
         | .error x=> .error x
         | .ok acts=>if ii ⟨m,c.1,c.2,acts⟩ then .ok ⟨m,c.1,c.2,acts⟩ else .error (i+1,1)):=by unfold lf;rw[h];simp only[g]
end
section
variable {k:Nat} {acc:List aP} {s:ak} {r:List ak}
def gd1 (h:s=[]\/s.head?=Ws 35):gz k acc (s::r)=gz (k+1) acc r:=by rw[gz,if_pos h]
def gd2 (h: ¬(s=[]\/s.head?=Ws 35)) (c:km (cW (bs s))=Wr):gz k acc (s::r)= .error (k,3):=by rw[gz,if_neg h,c]
def gd3 {y:aP} (h: ¬(s=[]\/s.head?=Ws 35)) (c:km (cW (bs s))=Ws y) (g:acc.length=1024):gz k acc (s::r)= .error (k,8):=by rw[gz,if_neg h,c];simp only;rw[if_pos g]
def gd4 {y:aP} (h: ¬(s=[]\/s.head?=Ws 35)) (c:km (cW (bs s))=Ws y) (g: ¬acc.length=1024):gz k acc (s::r)=gz (k+1) (acc++[y]) r:=by rw[gz,if_neg h,c];simp only;rw[if_neg g]
end
def gd5 {x:ak} (h:0<(bs x).size):(((bs x)[0].toNat:Int)==35)=Wt (x.head?=Ws 35):=by
 cases x with
 |nil=>rw[kJ] at h;simp at h
 |cons a l=>
  rw[ZT (s:=bs (a::l)) (k:=0) (x:=a) (by rw[gI];rfl) h];rw[WU,beq_iff_eq,decide_eq_true_eq];constructor
  .intro e;have:a=35:=UInt8.toNat_inj.1 (by show a.toNat=35;omega);rw[this];rfl
  .intro e;injection e with e;rw[e];rfl
def gd6 {W:Wu} {b:Nat} {T:WQ} {u0 u1 u2 u3 u4 u5 u6 u7 u8 u9:Wv} (I:W.heap[b]? =Ws (Yd #[u0,u1,u2,u3,u4,u5,u6,u7,u8,u9] T (0,0))) (c g j y z A C D F G:Wv):
 ((((((((((W.setCell b c).setCell (b 1 Wr) g).setCell (b 2 Wr) j).setCell (b 3 Wr) y).setCell (b 4 Wr) z).setCell (b 5 Wr) A).setCell (b 6 Wr) C).setCell (b 7 Wr) D).setCell (b 8 Wr) F).setCell (b 9 Wr) G).heap[b]? =Ws (Yd #[c,g,j,y,z,A,C,D,F,G] T (0,0)):=
 (aZ (aZ (aZ (aZ (aZ (aZ (aZ (aZ (aZ (aZ I 0 c) 1 g) 2 j) 3 y) 4 z) 5 A) 6 C) 7 D) 8 F) 9 G).trans aC
def bv8 {w:Wu} (ob:Obj) (c g h j y z A C D F:Wv):
 Below w w (((((((((((w.alloc ob).setCell w c).setCell (w 1 Wr) g).setCell (w 2 Wr) h).setCell (w 3 Wr) j).setCell (w 4 Wr) y).setCell (w 5 Wr) z).setCell (w 6 Wr) A).setCell (w 7 Wr) C).setCell (w 8 Wr) D).setCell (w 9 Wr) F):=
 cF (cF (cF (cF (cF (cF (cF (cF (cF (cF (ae (af w) ob) (ag _) c) (ag _) g) (ag _) h) (ag _) j) (ag _) y) (ag _) z) (ag _) A) (ag _) C) (ag _) D) (ag _) F
def Rn {w:Wu} {base:Nat} {e:WQ} {size n:Nat} {v:Wv} {xs:List Wv} (h:w.ownsRow base e size v n xs): ∃A k c,v=Yb A k c/\k=n:=by
 rcases h.2 with ⟨rfl,y⟩|⟨g,cap,j,rfl,_⟩
 .exact⟨_,_,_,rfl,y.symm⟩
 .exact⟨_,_,_,rfl,rfl⟩
def gd7:(Tryz.prog.info? 46).map (λi=>(i.zero,i.size,i.bytes))=Ws (Ws (Ye #[WK Xr 0,WK Xr 0,WK Xr 0,WK Xr 0,WK Xr 0,WM ⟨#[]⟩,WK Xr 0,WK Xr 0,Yb Wr 0 0,Yb Wr 0 0]),10,120):=aC
def gd8 (t:ak) (w:Wu) (hG:fD w) (hs:t.length<=65536) (K:Nat) (line:ak) (OW:Na (bB t)=K) (kW:(bB t)[K]? =Ws line) (eU:qw line=Wz):
 WJ WH 5 #[bs t] w (tH w (lf (bB t) K line)):=by
 have a_:((bs t).size:Int)<=65536:=xy;have KO:=hG.g.size;have HG:=aa hG;have HI:=aa OW;have yV:=aa kW;have UF:=aa eU;clear hG OW kW eU;obtain⟨res,EX⟩: ∃q,lf (bB t) K line=q:=⟨_,rfl⟩;rw[EX];have uh:=aa EX;clear EX;go_enter func5,ntmps5;go_upto_region 1 with (fail)
 refine ZS ?_;intro W1 ⟨aU,dK⟩;have aT:=aa aU;have td:=aa dK;clear aU dK;go_upto_region 4 with
  (go_at_call 13;refine(bq5 t _ (HG.out.g.step aT.out) hs).m ?_;rintro e w2 ⟨b,o,n,c,z,rfl,hv,hZ,kX,wz,mi,EN,EB,am⟩;have aR:=aa (ai aT.out am);have rR:=aa (aq td.out am);have Ck:=aa hv;have jp:=aa mi;have S7:=aa EN;clear hv mi EN am)
 refine bq6 λi1 i2 i3 i4=> ?_;have Lp:(Xh t [10]).getLast?=Ws z:=by rw[List.getLast?_eq_getElem?,jp.out];exact S7.out
 have JN:=aa Lp;clear Lp;have UJ:w2.cell? ⟨b,o+(n - 1),Wr⟩=Ws (WM (bs z)):=EB;clear EB;obtain⟨bz,Ez⟩: ∃q,((bs z).toList==([]:List UInt8))=q:=⟨_,rfl⟩
 go_upto_if 32 with fail
 go_cut [5] (λv wx=> ∃N,v=Yb (Ws (b o Wr)) N c/\N<=n/\Sl w2 w2 (Yb (Ws (b o Wr)) N c) ((bB t).map ku)/\w2=wx)
 case first=>
  cases bz with
  |true=>
   have hz:z=[]:=by rw[beq_iff_eq,jr,gI] at Ez;exact Ez
   have ya:bB t=(Xh t [10]).dropLast:=by unfold bB;simp only[JN.out,hz,if_true]
   have od:Hid (Sl w2 w2 (Yb (Ws (b o Wr)) (n - 1) c) ((bB t).map ku)):=by refine aa ?_;rw[ya,List.map_dropLast];exact Ck.out.dropLast
   have i5:(n:Int) - 1<=(c:Int):=Yi;have i6:n - 1<=c:=Yi;clear ya hz Ez;go_wp2_with fail
   go_meet;exact⟨n - 1,rfl,by omega,od.out,rfl⟩
  |false=>
   have hz: ¬z=[]:=by rw[beq_eq_false_iff_ne,jr,gI] at Ez;exact Ez
   have ya:bB t=Xh t [10]:=by unfold bB;simp only[JN.out,Option.some.injEq,hz,if_false]
   have od:Hid (Sl w2 w2 (Yb (Ws (b o Wr)) n c) ((bB t).map ku)):=by refine aa ?_;rw[ya];exact Ck.out
   clear ya hz Ez;go_wp2_with fail
   go_meet;exact⟨n,rfl,by omega,od.out,rfl⟩
 case rest=>
 obtain⟨N,rfl,hc3,Bd,rfl⟩:=hcut;obtain⟨L,hL⟩: ∃q,bB t=q:=⟨_,rfl⟩;have cf8:=(Nm _ t (ag _)).2;rw[hL] at Bd cf8 HI yV uh;have NU:=aa (show(aE L).length<=65537 by omega);have od:=aa Bd;have hN:L.length=N:=by obtain⟨A',c',he,_⟩:=Bd;injection he with _ he _;rw[WF] at he;exact he.symm
 have Gz:=aa hN;have hb6:K<N:=by rw[<-hN];exact(List.getElem?_eq_some_iff.1 yV.out).1
 have Gu:Hid (∀W,Below w2 w2 W->∀(j:Nat) x,L[j]? =Ws x->W.cell? ⟨b,o+j,Wr⟩=Ws (WM (bs x))):=aa (by obtain⟨A',c',he,_,_,h3⟩:=Bd;obtain⟨b',o',hA,hb,mg⟩:=h3 (λe=>by have:=congrArg List.length e;simp at this;rw[this] at hN;simp at hN;omega);injection he with Lg xX wt;rw[<-Lg] at hA;injection hA with hA;injection hA with h1 h2 _;subst h1 h2;intro W hW j x hx;exact(hW.cell (p:=⟨b,o+j,Wr⟩) hb).trans (mg j _ (by rw[WN,hx];rfl)));have oK:w.heap.size<=w2.heap.size:=aR.out.size;have gn9:line.length<=70000:=by have:=RZ (eD yV.out);omega
 have hb5:(0:Int)<=(K:Int):=Yi;have ce9: ¬(K:Int)<0:=Yi;have hb8:(K:Int)<=c:=Yi;have hb7:(K:Int)<N:=Yi;have hb9:K<=c:=Yi;clear hL Bd cf8 hN UJ;go_wp2_with
  (go_at_call 14;refine(ZQ _ L _ od.out).m ?_;rintro e w3 ⟨rfl,aL⟩;have bg:=aa aL;have vV:=aa (aq rR.out aL);clear aL;rw[HI.out])
 generalize kZ:w.heap.size=rt at vV⊢
 have si:rt<=w.heap.size:=Yi;have EY:w.heap.size<=rt:=Yi;clear kZ;go_loopw [7,9,50] (λsrc _ i wr=> ∃j:Nat,j<=K/\i=WK Xr j/\src=WM (bs (aE (L.take j)))/\wr=w3) (λ_ _ i _=>K - (WS i).toNat)
 case atStart=>exact⟨0,bU _,rfl,rfl,rfl⟩
 case round=>
  obtain⟨j,hj,rfl,rfl,hw⟩:=hrel;obtain rfl:=hw.symm;by_cases I:j<K
  .have dz:(0:Int)<=j:=by omega
   have bJ:(j:Int)<K:=Yi;obtain⟨x,hx⟩: ∃x,L[j]? =Ws x:=⟨_,Wy (by rw[Gz.out];omega)⟩;have lJ:w3.cell? ⟨b,o+j,Wr⟩=Ws (WM (bs x)):=Gu.out w3 bg.out j x hx;have AR:=aa (show bs (aE (L.take j))++(bs x++⟨#[10]⟩)=bs (aE (L.take (j+1))) by rw[ft0 L hx,<-Fv,<-Fv];rfl);have dh:(bs x).size<=70000:=by have:=RZ (eD hx);have:=NU.out;rw[kJ];omega
   have bS:(bs (aE (L.take j))).size<=70000:=by have:=Q7 L j;have:=NU.out;rw[kJ];omega
   have p_:(bs x++⟨#[10]⟩:ByteArray).size<=70001:=by rw[ByteArray.size_append];have:(⟨#[10]⟩:ByteArray).size=1:=rfl;omega
   clear hx;go_wp2_with fail
   exact⟨⟨j+1,by omega,by go_num,by rw[<-AR.out],by trivial⟩,by simp[WS];omega⟩
  .have bJ: ¬(j:Int)<K:=by omega
   obtain rfl:K=j:=Yi;obtain⟨S,hS⟩: ∃q,aE (L.take K)=q:=⟨_,rfl⟩;have gj1:(bs S).size<=1000000:=by have:=Q7 L K;have:=NU.out;rw[kJ,<-hS];omega
   rw[hS];have HS:=aa hS.symm;have EV:=fs6 (bs S) w3 (HG.out.below (aR.out.trans (bg.out.mono oK)) KO);clear hS I;rw[gI] at EV;cases hp:lC S with
   |error x=>
    obtain⟨x1,x2⟩:=x;have HR:=aa (show lf L K line= .error (BY S x1,x2) by rw[HS.out];exact gc8 (HS.out▸hp));have cQ: ¬x2=0:=br6 hp;have e1:(((x2:Nat):Int)==0)=false:=bI;have e2:(((x2:Nat):Int)!=0)=true:=bI;rw[hp] at EV;have NY:=aa EV;clear cQ hp EV
    go_wp2_with(first
     |(go_at_call 17;refine NY.out.m ?_;rintro e w4 ⟨G,rfl⟩;have bE:=aa (ai bg.out G);have U:=aa (aq vV.out G);obtain⟨⟨q0,q1,q2,q3,q4,q5,q6,q7,q8,q9,pq,vq,vt,vv⟩,z0,z1,z2,z3,z4,z5,z6,z7,z8,z9,qC,xh,xj,xk⟩:=Dy U.out;clear G)
     |(go_at_call 18;refine(ee0 (bs S) x1 _ gj1).m ?_;rintro e w5 ⟨c5,rfl,hw⟩;obtain rfl:=hw;rw[gI]))
    refine BP cA cA cA cA U.out (λW7 hk=> ?_);exact tH.err (by rw[<-uh.out,HR.out]) rfl (Dx ((aR.out).trans (bE.out.mono oK)) ((hk.below (eJ (blk_lt U.out))).mono EY))
   |ok ds=>
    have tr:ds.length<=100000:=by have:=fs8 hp;omega
    rw[hp] at EV;have NY:=aa EV;clear EV;cases hm:nE ds with
    |error x=>
     obtain⟨x1,x2⟩:=x;have HR:=aa (gc9 (L:=L) (i:=K) (line:=line) (HS.out▸hp) hm);have cQ: ¬x2=0:=br8 hm;have e1:(((x2:Nat):Int)==0)=false:=bI;have e2:(((x2:Nat):Int)!=0)=true:=bI;have EO:=aa hm;clear cQ hm hp
     go_upto_region 21 with (first
      |(go_at_call 17;refine NY.out.m ?_;rintro e w4 ⟨G,v,rfl,E1⟩;have bE:=aa (ai bg.out G);have U:=aa (aq vV.out G);obtain⟨dA,dn,dc,rfl,_,_,_⟩:=E1.form;refine bv9 λJ6 py=> ?_;rw[EO.out] at py;clear E1;clear G)
      |(go_at_call 19;refine(py.out _ (ae (af w4) _)).m ?_;rintro e w5 ⟨X,rfl⟩;have bY:=aa (ai bE.out (ai (ae (af w4) _) X));have D7:=aa (aq U.out (ai (ae (af w4) _) X));have C:=aq (bQ w4 _) X;have cs5:w4.heap.size<w5.heap.size:=blk_lt C;obtain⟨⟨q0,q1,q2,q3,q4,q5,q6,q7,q8,q9,pq,vq,vt,vv⟩,z0,z1,z2,z3,z4,z5,z6,z7,z8,z9,qC,xh,xj,xk⟩:=Dy C
        skip
        have bo3:=aa C;simp only[Dw];clear X C))
     refine cP (λO=>aF w5.heap.size w4.heap.size w5 O) (bq4 _ _ _ _ _ _ _ _ _ _ _ _) ?_;intro W6 V;have GE:=aa (V.blk D7.out (blk_lt D7.out) (by have:=blk_lt U.out;omega));have cK:=aa (bY.out.trans ((V.below Yi).mono bE.out.size));clear V q0 q1 q2 q3 q4 q5 q6 q7 q8 q9 pq vq vt vv z0 z1 z2 z3 z4 z5 z6 z7 z8 z9 qC xh xj xk;obtain⟨⟨q0,q1,q2,q3,q4,q5,q6,q7,q8,q9,pq,vq,vt,vv⟩,z0,z1,z2,z3,z4,z5,z6,z7,z8,z9,qC,xh,xj,xk⟩:=Dy GE.out;go_wp2_with fail
     refine BP cA cA cA cA GE.out (λW7 hk=> ?_);exact tH.err (by rw[<-uh.out,HR.out]) rfl (Dx ((aR.out).trans (cK.out.mono oK)) ((hk.below (eJ (blk_lt GE.out))).mono EY))
    |ok m=>
     have EO:=aa hm
     go_upto_region 21 with (first
      |(go_at_call 17;refine NY.out.m ?_;rintro e w4 ⟨G,v,rfl,E1⟩;have bE:=aa (ai bg.out G);have U:=aa (aq vV.out G);obtain⟨dA,dn,dc,rfl,_,_,_⟩:=E1.form;refine bv9 λJ6 py=> ?_;rw[EO.out] at py;clear E1;clear G)
      |(go_at_call 19;refine(py.out _ (ae (af w4) _)).m ?_;rintro e w5 ⟨X,v,rfl,cr1,Bm,Mm,cd6,nf⟩;have bY:=aa (ai bE.out (ai (ae (af w4) _) X));have D7:=aa (aq U.out (ai (ae (af w4) _) X));have C:=aq (bQ w4 _) X;have cs5:w4.heap.size<w5.heap.size:=blk_lt C;have KN:w4.heap.size<Bm:=by have h:=cd6;simp at h;omega
        obtain⟨⟨Sa,sc,q',dh,bS⟩,⟨Fa,fc,cB,cr,cL⟩,⟨Ra,rc,iu,cM,cV⟩,⟨Ma,mc,nU,dd,cz⟩,⟨La,lc,eX,dt,di⟩,⟨Ia,ic,zE,ed,ez⟩,⟨Ua,uc,zO,dP,dq⟩⟩:=cr1.cells;have HM:=aa (show m.cells v= #[Yb Sa m.sites.length sc,Yb Fa m.feeds.length fc,Yb Ra m.racks.length rc,Yb Ma m.machs.length mc,Yb La m.links.length lc,Yb Ia m.items.length ic,WK Xr m.dark,WK Xr m.slots,WK Xr m.reserve,WK Xr m.failures,Yb Ua m.rules.length uc] from by rw[aM.cells_def,q',cB,iu,nU,eX,zE,zO]);rw[HM.out];have og:=aa nf;obtain⟨⟨q0,q1,q2,q3,q4,q5,q6,q7,q8,q9,pq,vq,vt,vv⟩,z0,z1,z2,z3,z4,z5,z6,z7,z8,z9,qC,xh,xj,xk⟩:=Dy C
        skip
        have bo3:=aa C;clear X C cr1 nf q' cB iu nU eX zE zO cd6))
     refine cP (λO=>O.heap[w4.heap.size]? =Ws (Yd #[Yb Sa m.sites.length sc,Yb Fa m.feeds.length fc,Yb Ra m.racks.length rc,Yb Ma m.machs.length mc,Yb La m.links.length lc,Yb Ia m.items.length ic,m.dark,m.slots,m.reserve,m.failures,Yb Ua m.rules.length uc,Yb Wr 0 0,WK Xr 0,Yb Wr 0 0] 34 (0,0))/\aF w5.heap.size w4.heap.size w5 O) ⟨fr6 bo3.out _ _ _ _ _ _ _ _ _ _ _,bq4 _ _ _ _ _ _ _ _ _ _ _ _⟩ ?_;intro W6 ⟨wD,V⟩;have GE:=aa (V.blk D7.out (blk_lt D7.out) (by have:=blk_lt U.out;omega));have cK:=aa (bY.out.trans ((V.below Yi).mono bE.out.size));have qK:=aa (og.out.gp (gi.of_kp V) KN);have ze:=aa wD;have pp:=V.size;have eF:W6.cell? ⟨b,o+K,Wr⟩=Ws (WM (bs line)):=Gu.out W6 cK.out K line yV.out;obtain⟨sb,C⟩: ∃q,w4.heap.size=q:=⟨_,rfl⟩;have gq6:8<=sb:=by have:=bE.out.size;omega
     have Pb:rt<sb:=by rw[<-C];exact blk_lt U.out
     have hm2:w2.heap.size<=sb:=by rw[<-C];exact bE.out.size
     rw[C] at ze KN⊢
     clear wD V C q0 q1 q2 q3 q4 q5 q6 q7 q8 q9 pq vq vt vv z0 z1 z2 z3 z4 z5 z6 z7 z8 z9 qC xh xj xk;have vN:=aa (fi7 line sb 34 #[Yb Sa m.sites.length sc,Yb Fa m.feeds.length fc,Yb Ra m.racks.length rc,Yb Ma m.machs.length mc,Yb La m.links.length lc,Yb Ia m.items.length ic,m.dark,m.slots,m.reserve,m.failures,Yb Ua m.rules.length uc,Yb Wr 0 0,WK Xr 0,Yb Wr 0 0] W6 ((HG.out.below ((aR.out).trans (cK.out.mono oK)) KO).g) UF.out (by have:=gn9;omega) gq6 ze.out rfl);have D5:=aa (uh.out.symm.trans (gd0 (L:=L) (i:=K) (line:=line) (HS.out▸hp) hm));clear hm hp;cases p9:yx line with
     |none=>
      rw[p9] at D5;unfold Q5 at vN;rw[p9] at vN;clear p9;go_wp2_with
       (go_at_call 20;refine vN.out.m ?_;rintro e w8 ⟨pk,rfl⟩;refine bw0 λCj gW=> ?_;obtain⟨⟨q0,q1,q2,q3,q4,q5,q6,q7,q8,q9,pq,vq,vt,vv⟩,z0,z1,z2,z3,z4,z5,z6,z7,z8,z9,qC,xh,xj,xk⟩:=Dy Cj.out;clear pk)
      refine BP cA cA cA cA Cj.out (λW7 hk=> ?_);rw[show(K:Int)+1=((K+1:Nat):Int) by omega];exact tH.err (D5.out) rfl (Dx ((aR.out).trans (gW.out.mono oK)) ((hk.below (eJ (blk_lt Cj.out))).mono EY))
     |some cc=>
      obtain⟨cl,cn⟩:=cc;rw[p9] at D5;unfold Q5 at vN;rw[p9] at vN;have CM:cl.length<=100000:=by have:=fs9 p9;simp only at this;omega
      clear p9;go_upto_region 25 with
       (go_at_call 20;refine vN.out.m ?_;rintro e w8 ⟨pk,rfl,bl,nn,c8,cq1,ci5,ir⟩;refine bw0 λCj gW=> ?_;have JQ:=aa (qK.out.gp (rb:=sb) ⟨pk.os,pk.tape,pk.output,pk.size,λi hi h1 _=>pk.block i hi (by simp;omega)⟩ KN);have dd1:=aa (cq1.trans (by kernel_rfl:_=some (.cells #[.slice Sa m.sites.length sc,.slice Fa m.feeds.length fc,.slice Ra m.racks.length rc,.slice Ma m.machs.length mc,.slice La m.links.length lc,.slice Ia m.items.length ic,.int .i64 m.dark,.int .i64 m.slots,.int .i64 m.reserve,.int .i64 m.failures,.slice Ua m.rules.length uc,.slice (some ⟨bl,0,none⟩) nn c8,.int .i64 cn,.slice none 0 0] 34 (0,0))));have bk0:=aa ci5;have hc7:sb<bl:=by have:=blk_lt ze.out;omega
        have hi2:sb<w8.heap.size:=by have:=blk_lt ze.out;have:=pk.size;omega
        have If:=pk.size;clear pk cq1 ci5 ir)
      obtain⟨D,hD⟩: ∃q,L.drop (K+1)=q:=⟨_,rfl⟩;obtain⟨R,hR⟩: ∃q,N - (K+1)=q:=⟨_,rfl⟩;rw[hD] at D5;have HD:=aa hD;have vB:=aa (show D.length=R by rw[<-hD,Xc,Gz.out,hR]);have k1:IntKind.i64.wrap ((K:Int)+1)=(K:Int)+1:=Xf _ Yi;have k2:((K:Int)+1).toNat=K+1:=Yi;have k3:(0:Int)<=(K:Int)+1:=Yi;have k4:(K:Int)+1<=N:=Yi;have k5:K+1<=N:=Yi;have k6:(K:Int)+1<=c:=Yi;have k7:K+1<=c:=Yi;clear hD eF;go_cut [99,100,101] (λv n i wx=>(∃A cp,v=Yb A R cp/\(0<R->A=Ws ⟨b,o+(K+1),Wr⟩))/\n=WK Xr R/\i=WK Xr 0/\w8=wx)
      case first=>
       have zd:=aa hR;clear hR;by_cases CL:K+1=c
       .have Cg:=aa (show R=0 by rw[<-zd.out];omega);obtain rfl:c=K+1:=CL.symm;clear CL;go_wp2_with fail
        go_meet;exact⟨⟨_,_,by rw[zd.out],λh=>by rw[Cg.out] at h;omega⟩,by rw[zd.out],rfl,rfl⟩
       .have hd0: ¬c - (K+1)=0:=by omega
        have hd1: ¬c<=K+1:=Yi;have hd2: ¬c=K+1:=Yi;go_wp2_with fail
        go_meet;exact⟨⟨_,_,by rw[zd.out],λ_=>rfl⟩,by rw[zd.out],rfl,rfl⟩
      case rest=>
      obtain⟨⟨A,cp,rfl,hA⟩,rfl,rfl,rfl⟩:=hcut;obtain⟨i0,hi,cJ,ba,bd⟩:=XU gd7;have hc4:R<=70000:=Yi;clear hR;go_wp2_with fail
      go_loopw [16,17,18,19,101] (λ_ _ _ _ i wr=> ∃(j:Nat) (acc:List aP) (rows:List (List Wv)) (av:Wv),j<=R/\i=WK Xr j/\gz (K+2) [] D=gz (K+2+j) acc (D.drop j)/\acc.length<=1024/\aF w8.heap.size sb w8 wr/\wr.heap[sb]? =Ws (Yd #[Yb Sa m.sites.length sc,Yb Fa m.feeds.length fc,Yb Ra m.racks.length rc,Yb Ma m.machs.length mc,Yb La m.links.length lc,Yb Ia m.items.length ic,m.dark,m.slots,m.reserve,m.failures,Yb Ua m.rules.length uc,Yb (Ws (bl 0 Wr)) nn c8,cn,av] 34 (0,0))/\xd wr w8 av rows acc/\wr.ownsRow w8.heap.size 46 10 av acc.length rows.flatten) (λ_ _ _ _ i _=>R - (WS i).toNat)
      case atStart=>exact⟨0,[],[],Yb Wr 0 0,bU _,rfl,rfl,bU _,aF.refl _ _ _,dd1.out,⟨rfl,λj x hx=>by simp at hx⟩,⟨rfl,.inl ⟨rfl,rfl⟩⟩⟩
      case round=>
       obtain⟨j,acc,rows,av,hj,rfl,CP,gj3,Hn,mE,lQ,cn7⟩:=hrel;have J:Hid (Below w2 w2 wr):=aa (gW.out.trans ((Hn.below Yi).mono Yi));have pz:=aa (Hn.blk Cj.out (blk_lt Cj.out) Yi);have qG:=aa CP;have Gt:=aa Hn;have vT:=aa mE;have sY:=aa lQ;have xt:=aa cn7;have eB:=Hn.size;have hm9:=blk_lt mE;clear CP Hn mE lQ cn7;by_cases I:j<R
       .have dz:(0:Int)<=j:=by omega
        have bJ:(j:Int)<R:=Yi;obtain⟨x,hx⟩: ∃x,D[j]? =Ws x:=⟨_,Wy (by rw[vB.out];exact I)⟩;have yT:=aa (I_ hx);have VR:L[K+1+j]? =Ws x:=by have h:=hx;rw[<-HD.out,List.getElem?_drop] at h;exact h
        obtain rfl:=hA Yi;have lJ:wr.cell? ⟨b,o+(K+1)+j,Wr⟩=Ws (WM (bs x)):=by rw[Nat.add_assoc];exact Gu.out wr J.out _ x VR
        have Ic:(bs x).size<=70000:=by have:=RZ (eD VR);have:=NU.out;rw[kJ];omega
        clear hx VR;by_cases nY:x=[]
        .have HX:=aa (Or.inl nY:x=[]\/x.head?=some 35);have e0:((bs x).toList==([]:List UInt8))=true:=by rw[beq_iff_eq,jr,gI];exact nY
         clear nY;exact bw1
        .have e0:((bs x).toList==([]:List UInt8))=false:=by
          rw[beq_eq_false_iff_ne,jr];exact nY
         have Vr:0<(bs x).size:=by rw[kJ];exact List.length_pos_iff.2 nY
         have hh5:(0:Int)<((bs x).size:Int):=Yi;have qQ:(((bs x)[0].toNat:Int)==35)=Wt (x.head?=Ws 35):=gd5 Vr;by_cases fL:x.head?=Ws 35
         .have HX:=aa (Or.inr fL:x=[]\/x.head?=some 35);have e1:(((bs x)[0].toNat:Int)==35)=true:=by rw[qQ];simp[fL]
          clear nY fL qQ;exact bw1
         .have HX:=aa (λh=>(h.elim nY fL): ¬(x=[]\/x.head?=some 35));have e1:(((bs x)[0].toNat:Int)==35)=false:=by rw[qQ];simp[fL]
          clear nY fL qQ;have cr3:IntKind.i64.wrap ((K:Int)+(j:Int))=(K:Int)+j:=Xf _ Yi;have hl9:IntKind.i64.wrap ((K:Int)+(j:Int)+2)=(K:Int)+j+2:=Xf _ Yi;have OB:=HG.out.below ((aR.out).trans (J.out.mono oK)) KO;cases qZ:km (cW (bs x)) with
          |none=>
           have xw:=aa (bg7 qZ Yi wr OB.g);have HE:=aa (show gz (K+2) [] D= .error (K+2+j,3) from qG.out.trans (by rw[yT.out];exact gd2 HX.out qZ));clear qZ OB;go_upto_region 30 with
            (go_at_call 10;refine xw.out.m ?_;rintro e F ⟨rfl,g⟩;have Z:=aa g;clear g)
           refine cP (λO=>Below F F O) (by first|exact ae (af F) _|exact bv8 _ _) ?_;intro Ed nO;have N2:=aa (aq pz.out (ai Z.out nO));have rG:=aa (J.out.trans ((ai Z.out nO).mono J.out.size));clear nO;exact bw2
          |some y=>
           have xw:=aa (bg6 qZ Yi wr OB.g);have C_:=fn9 qZ Yi;have Ji:=aa (fun(h: ¬acc.length=1024)=>(show gz (K+2) [] D=gz (K+2+(j+1)) (acc++[y]) (D.drop (j+1)) from qG.out.trans (by rw[yT.out];exact gd4 HX.out qZ h)));have cu9:=aa (fun(h:acc.length=1024)=>(show gz (K+2) [] D= .error (K+2+j,8) from qG.out.trans (by rw[yT.out];exact gd3 HX.out qZ h)));simp only[aP.cells_def] at xw;clear qZ OB;go_upto_region 30 with
            (go_at_call 10;refine xw.out.m ?_;rintro e F ⟨Am,nm,cm,At,nt,ct,rfl,cs1,g,zB,zC⟩;have Z:=aa g;have dg4:=aa cs1;have mH:=aa zB;have Gl:=aa zC;clear g cs1 zB zC)
           refine cP (λO=>Below F F O/\O.heap[F.heap.size]? =Ws (Yd #[y.kind,y.a,y.b,y.c,y.ok,y.key,y.val,y.old,Yb Am nm cm,Yb At nt ct] 46 (0,0))) ⟨by first|exact ae (af F) _|exact bv8 _ _,by first|exact bQ F _|exact(gd6 (bQ F _) _ _ _ _ _ _ _ _ _ _)⟩ ?_;intro Ed ⟨nO,uC⟩;have Y:=ai Z.out nO;have N2:=aa (aq pz.out Y);have rG:=aa (J.out.trans (Y.mono J.out.size));have VB:=aq vT.out Y;have dc9:=aa VB;have ct1:Ed.cell? (sb 13 Wr)=Ws av:=ah VB rfl;have dc5:=aa (sY.out.kp (aF.of_below (pb:=sb) Y (ag _) Y.size) Yi);have S':=aa (fS xt.out Y);have Gq:=aa (Gt.out.trans (aF.of_below Y eB Y.size));have dg1:=aa ((dg4.out.below nO (ag _)).more nO.size);have lR:=Z.out.size;have Id:=nO.size;obtain⟨ab,gj2⟩: ∃q,F.heap.size=q:=⟨_,rfl⟩;rw[gj2] at uC⊢
           obtain⟨aA,an,acp,CI,CH⟩:=Rn xt.out;obtain⟨gy8,gy9,gz0,gz1,gz2,gz3,gz4,gz5,gz6,gz7⟩:=af3 uC;clear nO Y VB;by_cases Lj:acc.length=1024
           .have HE:=aa (cu9.out Lj);have gg6:((acc.length:Int)==1024)=true:=by simp[Lj]
            rw[CI,CH] at ct1;clear Lj;exact bw2
           .have HE:=aa (Ji.out Lj);have gg6:((acc.length:Int)==1024)=false:=by simp;omega
            have hc6:acc.length<1024:=Yi
            rw[CI,CH] at ct1;clear Lj;have y_:=aa (λk (h:av.ownBlock=Ws k)=>WL S'.out k h);go_wp2_with first
             |(at_builtin;refine wpList_append_own_at _ rfl (.tmp 135) (.tmp 137) _ rfl w8.heap.size 46 i0 _ 10 120 underlying32 hi cJ ba bd rfl (by decide) av acc.length rows.flatten (by rw[CI,CH];rfl) (S'.out.alloc _) ⟨Ed.heap.size,0,none⟩ 1 1 (y.cells (.slice Am nm cm) (.slice At nt ct)).toList rfl rfl (mw rfl) (by simp[Value.oneCell',aP.cells_def]) (by simp[maxLen];omega) (by omega) (by simp;omega) ?_
               intro av' nw Vo OV _ iT;obtain⟨aB,bn,bcp,rfl,rfl⟩:=Rn Vo;have aO:av.ownBlock≠Ws sb:=λe=>by have:=(y_.out sb e).1;omega
               have Pc:=iY (aq dc9.out (ae (af Ed) _)) OV (λk hk e=>aO (by rw[hk,e]));have dd0:=aa Pc;have ho0:nw.cell? (sb 13 Wr)=Ws (Yb aA acc.length acp):=by rw[<-CH,<-CI];exact ah Pc rfl
               have cc5:nw.frozen? (sb 13 Wr)=false:=cd Pc 13;have bm9:=aa Vo;have Gr:=aa ((Gq.out.alloc (ag _) _).grown (S'.out.alloc _) OV (ag _));have dc6:=aa (((dc5.out.kp (aF.of_below (pb:=sb) (ae (af Ed) _) (ag _) Yl) Yi).snoc ⟨(dg1.out.below (ae (af Ed) _) (ag _)).more Yl,mH.out.less Yi,Gl.out.less Yi,λ_ a n c e=>(λe'=>by have h1:=mH.out a n c e;have h2:=(WL xt.out _ e').2;omega),λ_ a n c e=>(λe'=>by have h1:=Gl.out a n c e;have h2:=(WL xt.out _ e').2;omega),C_.1,C_.2⟩).grown OV iT);clear Vo OV iT Pc)
            refine⟨⟨j+1,acc++[y],rows++[(y.cells (Yb Am nm cm) (Yb At nt ct)).toList],Yb aB (acc.length+1) bcp,by omega,by go_num,HE.out,by simp;omega,Gr.out.set (.inl rfl) _,(aZ dd0.out 13 (Yb aB (acc.length+1) bcp)).trans aC,dc6.out.kp ((aF.refl _ _ _).set (.inl rfl) _) Yi,?_⟩,by simp[WS];omega⟩;have ho:=mu bm9.out (p:=sb) (λk hk e=>by have:=(WL bm9.out k hk).1;omega) 13 (Yb aB (acc.length+1) bcp);show World.ownsRow _ _ _ _ _ (acc++[y]).length (rows++[_]).flatten;rw[WG,List.flatten_append,List.flatten_singleton];exact ho
       .have bJ: ¬(j:Int)<R:=by omega
        obtain rfl:R=j:=Yi;have HE:=aa (show gz (K+2) [] D= .ok acc from qG.out.trans (by rw[List.drop_eq_nil_of_le (by rw[vB.out];omega)];rfl));have mE:=vT.out;obtain⟨g0,g1,g2,g3,g4,g5,g6,g7,g8,g9,Cv,G6,Ot,El⟩:=jt mE;have jq:=aa (bq0 ⟨m,cl,cn,acc⟩ v (Yb (Ws (bl 0 Wr)) nn c8) av wr (HG.out.below ((aR.out).trans (J.out.mono oK)) KO) (JQ.out.gp (gi.of_kp Gt.out) KN).in_ (aW.at_blk bk0.out eB (λ_ a n c e I=>Gt.out.block _ I N9)) (sY.out.sl xt.out) CM);rw[HM.out] at jq;have AQ:=aa (show(#[Yb Sa m.sites.length sc,Yb Fa m.feeds.length fc,Yb Ra m.racks.length rc,Yb Ma m.machs.length mc,Yb La m.links.length lc,Yb Ia m.items.length ic,WK Xr m.dark,WK Xr m.slots,WK Xr m.reserve,WK Xr m.failures,Yb Ua m.rules.length uc]:Array Wv)++ #[Yb (Ws (bl 0 Wr)) nn c8,WK Xr cn,av]= #[Yb Sa m.sites.length sc,Yb Fa m.feeds.length fc,Yb Ra m.racks.length rc,Yb Ma m.machs.length mc,Yb La m.links.length lc,Yb Ia m.items.length ic,WK Xr m.dark,WK Xr m.slots,WK Xr m.reserve,WK Xr m.failures,Yb Ua m.rules.length uc,Yb (Ws (bl 0 Wr)) nn c8,WK Xr cn,av] from rfl);obtain⟨aA,an,acp,CI,CH⟩:=Rn xt.out;obtain⟨vo,Pf⟩: ∃q,ii ⟨m,cl,cn,acc⟩=q:=⟨_,rfl⟩;have bo9:=aa Pf;rw[Pf] at jq;rw[AQ.out] at jq;rw[CI,CH] at El jq;clear Pf mE;cases vo with
        |false=>
         go_wp2_with
          (go_at_call 21;refine jq.out.m ?_;rintro e F ⟨rfl,g⟩;have D8:=aa (aq pz.out g);have Z:=aa (J.out.trans (g.mono J.out.size));obtain⟨⟨q0,q1,q2,q3,q4,q5,q6,q7,q8,q9,pq,vq,vt,vv⟩,z0,z1,z2,z3,z4,z5,z6,z7,z8,z9,qC,xh,xj,xk⟩:=Dy D8.out;clear g)
         refine BP cA cA cA cA D8.out (λW7 hk=> ?_);rw[show(K:Int)+1=((K+1:Nat):Int) by omega];exact tH.err (by rw[D5.out,HE.out];simp only[bo9.out];rfl) rfl (Dx ((aR.out).trans (Z.out.mono oK)) ((hk.below (eJ (blk_lt D8.out))).mono EY))
        |true=>
         go_wp2_with
          (go_at_call 21;refine jq.out.m ?_;rintro e F ⟨rfl,g⟩;have D8:=aa (aq pz.out g);have Z:=aa (J.out.trans (g.mono J.out.size));have bo4:=aa (aq vT.out g);have cq2:=aq vT.out g;obtain⟨h0,h1,h2,h3,h4,h5,h6,h7,h8,h9,d_,cc7,KH,jF⟩:=jt cq2;have Sv:=aa g;obtain⟨⟨q0,q1,q2,q3,q4,q5,q6,q7,q8,q9,pq,vq,vt,vv⟩,z0,z1,z2,z3,z4,z5,z6,z7,z8,z9,qC,xh,xj,xk⟩:=Dy D8.out;rw[CI,CH] at jF;clear g cq2)
         refine BP cA cA cA cA D8.out (λW7 hk=> ?_);refine⟨((aR.out).trans (Z.out.mono oK)).trans ((hk.below (eJ (blk_lt D8.out))).mono EY),?_⟩;rw[D5.out,HE.out];simp only[bo9.out,if_true];have Ho:aF wr.heap.size rt wr W7:=(aF.of_below Sv.out (ag _) Sv.out.size).trans (hk.mono Sv.out.size);have KZ:=(JQ.out.gp (gi.of_kp Gt.out) KN).gp (gi.of_kp Ho) Yi;have cd9:=aW.at_blk (aW.at_blk bk0.out eB (λ_ a n c e I=>Gt.out.block _ I N9)) Ho.size (λ_ a n c e I=>Ho.block _ I N9);have cg3:=sY.out.kp Ho Yi;have ch4:=oS xt.out Ho (ag _) Yi;refine⟨v,Yb (Ws (bl 0 Wr)) nn c8,av,?_,⟨KZ.in_,cd9,cg3.sl ch4⟩,λb' O fP fQ=>⟨(KZ.gp (gi.of_kp fQ) Yi).in_,aW.at_blk cd9 fQ.size (λ_ a n c e I=>fQ.block _ I N9),(cg3.kp fQ Yi).sl (oS ch4 fQ (ag _) Yi)⟩⟩;show _=Xz (.tuple #[Ye (m.cells v++ #[Yb (Ws (bl 0 Wr)) nn c8,WK Xr cn,av]),WK Xr 0,WK Xr 0]);rw[HM.out,AQ.out,CI,CH];rfl
def RU (t:ak) (w:Wu) (j:fD w):WJ WH 5 #[bs t] w (tH w (ox t)):=by
 by_cases c:65536<t.length
 .have e:ox t= .error (0,8):=by unfold ox;rw[if_pos c]
  rw[e];exact fr7 _ w (by rw[kJ];exact c)
 .cases hf:(bB t).findIdx? qw with
  |none=>
   have g:(bB t).findIdx? (λs=>tV.isPrefixOf s)=none:=hf;have e:ox t= .error ((bB t).length+1,3):=by unfold ox;rw[if_neg c,g]
   rw[e];exact fr9 t w j Yi (by unfold Na;rw[hf])
  |some i=>
   have g:(bB t).findIdx? (λs=>tV.isPrefixOf s)=Ws i:=hf;obtain⟨h1,h2,_⟩:=List.findIdx?_eq_some_iff_getElem.1 hf;have e:ox t=lf (bB t) i (bB t)[i]:=by unfold ox lf;rw[if_neg c,g];simp only[WP,Wy h1,Option.getD_some];rfl
   rw[e];exact gd8 t w j Yi i _ (by unfold Na;rw[hf]) (Wy h1) h2
def bt0: ∀l:List ak,l.length<=(aE l).length
 |[]=>bU _
 |x::l=>by have:=bt0 l;have e:aE (x::l)=x++[10]++aE l:=xz;rw[e];simp;omega
def gd9 (t:ak):(bB t).length<=t.length+1:=by have c:=(Nm _ t (ag _)).2;have g:=bt0 (bB t);omega
end
end Go.Proofs.YtklfdkdebgfmiaaGreatDoor
