/- A part of the proof. -/
import Derived.Test.YtpfienbhhhgpkaaGreatDoorQbg
set_option linter.defProp false
set_option linter.unusedVariables false
set_option linter.unusedSimpArgs false
set_option maxRecDepth 100000
set_option maxHeartbeats 32000000
open Option renaming some->WX,none->WY
open Decidable renaming decide->WZ
open Go renaming World->Xa,Value->Xb,Calls->Xq,TypeId->Xv,maxLen->XF,Oper->Yf,undef->Yg,Ending->Ys,Program->YA
open Bool renaming false->Xc,true->Xe
open Go.RowKit renaming Hid->Xf
open Go.Lib renaming itoa->Xg
open Go.Proofs.Tryz renaming prog->Xn
open Go.Proofs renaming intOf->Xw
open Go.Value renaming int->Xo,string->Xp,slice->YG,bool->YH,agg->YJ,pointer->YK
open Go.World renaming setCell->Ye
open Go.IntKind renaming i64->XO
open Go.Region renaming Mode->Yq
open Go.Ending renaming returned->Ya
open Go.Obj renaming cells->YI
open Go.Operand renaming tmp->YL
namespace Go.Proofs.YtpfienbhhhgpkaaGreatDoor
section
open Go Go.RowKit Go.MapKept Go.ChangeMaps Go.Proofs.Tryz
structure kI where
 word:List UInt8
 kind:Int
 gu:Nat
 gf:Nat
 caps:Array Xb
 gr:Nat
 gt:Nat
def kI.val(x:kI):Value:=zy (bs x.word) x.kind (bq x.gu #[]) (bq x.gf x.caps) (bq x.gr #[]) (bq x.gt #[])
def kI.kv(x:kI):Xb×Value:=(Xp (bs x.word),x.val)
def items(b:Nat->Nat):List kI:=[
 ⟨bH 0,0,177,178,#[aq (b 0)],179,180⟩,
 ⟨bH 1,1,177,178,#[aq (b 1)],179,180⟩,
 ⟨bH 2,2,177,178,#[aq (b 2)],179,180⟩,
 ⟨bH 3,3,177,178,#[aq (b 3)],179,180⟩,
 ⟨bH 6,6,177,178,#[aq (b 4)],179,180⟩,
 ⟨bH 13,13,177,178,#[aq (b 5)],179,180⟩,
 ⟨bH 4,4,181,182,#[],183,184⟩,
 ⟨bH 16,16,181,182,#[],183,184⟩,
 ⟨bH 8,8,177,178,#[aq (b 6)],179,180⟩,
 ⟨bH 9,9,177,178,#[aq (b 7)],179,180⟩,
 ⟨bH 11,11,177,178,#[aq (b 8)],179,180⟩,
 ⟨bH 17,17,177,178,#[aq (b 9)],179,180⟩,
 ⟨bH 5,5,75,76,#[],79,80⟩,
 ⟨bH 7,7,82,83,#[],84,85⟩,
 ⟨bH 10,10,86,87,#[],90,92⟩,
 ⟨bH 12,12,94,95,#[],96,98⟩,
 ⟨bH 14,14,100,101,#[],102,103⟩,
 ⟨bH 15,15,104,105,#[],106,107⟩]
def xX:List Nat:=[0,1,2,3,6,13,4,16,8,9,11,17,5,7,10,12,14,15]
def at0(b:Nat->Nat):(items b).map (·.word)=xX.map bH:=rfl
def eg4:(xX.map bH).Nodup:=aF
def LH(w:Xa)(r j:Nat)(x:kI):Prop:=
 w.cell? ⟨r,j*6,WY⟩=WX (Xp (bs x.word))/\w.cell? ⟨r,j*6+1,WY⟩=WX (Xo XO x.kind)/\w.cell? ⟨r,j*6+2,WY⟩=WX (bq x.gu #[])/\w.cell? ⟨r,j*6+3,WY⟩=WX (bq x.gf x.caps)/\w.cell? ⟨r,j*6+4,WY⟩=WX (bq x.gr #[])/\w.cell? ⟨r,j*6+5,WY⟩=WX (bq x.gt #[])
def eg5:Nat->Nat
 |0=>72
 |1=>72
 |2=>72
 |3=>69
 |4=>69
 |5=>69
 |6=>68
 |7=>68
 |8=>70
 |9=>74
 |_=>0
def pW(w:Xa)(b:Nat->Nat):Prop:=∀i,i<10->b i<w.heap.size/\w.cell? ⟨b i,0,WY⟩=WX (bq (eg5 i) #[])
def eg6(w:Xa)(e:Ys)(w':Xa):Prop:=
 ∃M b,e=Ya (.map (WX M))/\fJ w' M ((items b).map kI.kv)/\pW w' b/\(∀i,i<10->w.heap.size<b i)/\w.heap.size<=M/\Below w w w'
def VX{P:YA}{c:Code}{Q:Exit->Act->Xa->Prop}{a:Act}{W:Xa}(F:Xa->Prop)(j:F W)(h:∀W0,F W0->Code.wp P c Q a W0):Code.wp P c Q a W:=h W j
structure ao0(w:Xa)(b:Nat->Nat)(r:Nat)(W:Xa):Prop where
 below:Below w w W
 map:fJ W w []
 rows:∀(j:Nat)x,(items b)[j]?=WX x->LH W r j x
 boxes:pW W b
 ne:¬r=w
 lt:r<W
 fresh:∀i,i<10->w.heap.size<b i
def P4(b:Nat->Nat):(items b).length=18:=rfl
def eg7{b:Nat->Nat}{k:Nat}{x:kI}(hx:(items b)[k]?=WX x):∀p∈((items b).take k).map kI.kv,IsKey .string p.1/\p.1≠ .string (bs x.word):=by
 intro p C;obtain⟨y,hy,rfl⟩:=List.mem_map.1 C;refine⟨trivial,λe=>?_⟩;have z:bs y.word=bs x.word:=by injection e
 have A:y.word=x.word:=by rw[<-eS y.word,z,eS]
 obtain⟨j,hj⟩:=List.mem_iff_getElem?.1 hy;rw[List.getElem?_take]at hj;split at hj
 .rename_i D;have c:((items b).map (·.word))[j]?=some x.word:=by rw[List.getElem?_map,hj,<-A];rfl
  have h:((items b).map (·.word))[k]?=WX x.word:=by rw[Xr,hx];rfl
  rw[at0]at c h;have:=(List.getElem?_inj (List.getElem?_eq_some_iff.1 c).1 eg4).1 (c.trans h.symm);omega
 .cases hj
def LH.keep{w w':Xa}{r j:Nat}{x:kI}(h:LH w r j x)(c:∀o,w'.cell? (r o WY)=w.cell? (r o WY)):LH w' r j x:=by
 unfold LH at h⊢
 simp only[c];exact h
def Fe(M:Nat)(W0 w:Xa):Prop:=W0.heap.size<=w/\∀b o,b≠M->b<W0.heap.size->w.cell? ⟨b,o,WY⟩=W0.cell? ⟨b,o,WY⟩
def Fe.refl(M:Nat)(W:Xa):Fe M W W:=⟨am _,λ_ _ _ _=>rfl⟩
def Fe.put{M:Nat}{W0 w w':Xa}{o:Obj}(h:Fe M W0 w)(y:jt (w.alloc o) w' M):Fe M W0 w':=
 ⟨by rw[y.2.1];exact bQ h.1 YQ,λb o' z j=>(y.cell z).trans ((Yw w _ _ (bt j h.1)).trans (h.2 b o' z j))⟩
def ao1(w:Xa):
 Xq Xn 29 #[] w (eg6 w):=by
 have S:=λword k g w=>eg3 word k g w;have S0:=λword k w=>eg2 word k w;simp only[zy,bq,aq]at S S0;have A:=ah S;have Js:=ah S0;clear S S0;refine uC λlZ=>?_;go_enter func29,ntmps29;go_wp2_with fail
 refine(A.o {data:= #[100,101,108,105,118,101,114]} 0 72 _).m ?_;rintro e w0 ⟨rfl,rQ,oK,kO⟩;have ju:=ak (ai (aj w) _) rQ;go_wp2_with fail
 refine(A.o {data:= #[100,114,111,112]} 1 72 _).m ?_;rintro e w1 ⟨rfl,ay,fT,cS⟩;have cA:=ak ju ay;go_wp2_with fail
 refine(A.o {data:= #[100,111,117,98,108,101]} 2 72 _).m ?_;rintro e w2 ⟨rfl,au,dz,du⟩;have ba:=ak cA au;go_wp2_with fail
 refine(A.o {data:= #[116,105,99,107]} 3 69 _).m ?_;rintro e w3 ⟨rfl,aN,kQ,AW⟩;have c_:=ak ba aN;go_wp2_with fail
 refine(A.o {data:= #[114,101,115,116,97,114,116]} 6 69 _).m ?_;rintro e w4 ⟨rfl,aQ,qE,Ey⟩;have gm:=ak c_ aQ;go_wp2_with fail
 refine(A.o {data:= #[99,111,109,112,97,99,116]} 13 69 _).m ?_;rintro e w5 ⟨rfl,bf,mP,Oj⟩;have rK:=ak gm bf;go_wp2_with fail
 refine(Js.o {data:= #[115,108,111,116]} 4 _).m ?_;rintro e w6 ⟨rfl,bJ⟩;have AH:=ak rK bJ;go_wp2_with fail
 refine(Js.o {data:= #[100,97,114,107]} 16 _).m ?_;rintro e w7 ⟨rfl,gD⟩;have D_:=ak AH gD;go_wp2_with fail
 refine(A.o {data:= #[105,115,111,108,97,116,101]} 8 68 _).m ?_;rintro e w8 ⟨rfl,dF,xI,Ol⟩;have I:=ak D_ dF;go_wp2_with fail
 refine(A.o {data:= #[106,111,105,110]} 9 68 _).m ?_;rintro e w9 ⟨rfl,ff,OF,Om⟩;have J:=ak I ff;go_wp2_with fail
 refine(A.o {data:= #[114,101,116,114,121]} 11 70 _).m ?_;rintro e zZ ⟨rfl,gG,O,Oh⟩;have F:=ak J gG;go_wp2_with fail
 refine(A.o {data:= #[99,97,108,109]} 17 74 _).m ?_;rintro e z ⟨rfl,N1,U,Oi⟩;have G:=ak F N1;go_wp2_with fail
 rw[show(w.alloc (Obj.map #[] 0)).heap.size=w.heap.size+1 by simp]at oK kO;have cE:w.heap.size<w0:=YN;have aZ:w.heap.size<w1:=bt cE ay.size;have bh:w.heap.size<w2:=bt aZ au.size;have iC:w.heap.size<w3:=bt bh aN.size;have oL:w.heap.size<w4:=bt iC aQ.size;have rY:w.heap.size<w5:=bt oL bf.size;have rZ:w.heap.size<w6:=bt rY bJ.size;have Hr:w.heap.size<w7:=bt rZ gD.size;have Cy:w.heap.size<w8:=bt Hr dF.size;have OK:w.heap.size<w9:=bt Cy ff.size;have OJ:w.heap.size<zZ:=bt OK gG.size;have go3:w.heap.size<z:=bt OJ N1.size;have wW:=N1;have nQ:=ak gG wW;have wY:=ak ff nQ;have kM:=ak dF wY;have wX:=ak gD kM;have iZ:=ak bJ wX;have pI:=ak bf iZ;have gP:=ak aQ pI;have gO:=ak aN gP;have ep:=ak au gO;have D:=ak ay ep;refine VX (ao0 w (λi=>match i with|0=>w.heap.size+1|1=>w0.heap.size|2=>w1.heap.size|3=>w2.heap.size|4=>w3.heap.size|5=>w4.heap.size|6=>w7.heap.size|7=>w8.heap.size|8=>w9.heap.size|9=>zZ.heap.size|_=>w.heap.size+1) z) ?_ ?_
 .refine⟨ai G _,?_,?_,?_,by omega,by simp,?_⟩
  .exact((fJ.made w).later (ak rQ D)).later (ai (aj z) _)
  .intro j x y
   match j,y with
   |0,y=>injection y with y;subst y;refine⟨?_,?_,?_,?_,?_,?_⟩<;>(rw[XE];rfl)
   |1,y=>injection y with y;subst y;refine⟨?_,?_,?_,?_,?_,?_⟩<;>(rw[XE];rfl)
   |2,y=>injection y with y;subst y;refine⟨?_,?_,?_,?_,?_,?_⟩<;>(rw[XE];rfl)
   |3,y=>injection y with y;subst y;refine⟨?_,?_,?_,?_,?_,?_⟩<;>(rw[XE];rfl)
   |4,y=>injection y with y;subst y;refine⟨?_,?_,?_,?_,?_,?_⟩<;>(rw[XE];rfl)
   |5,y=>injection y with y;subst y;refine⟨?_,?_,?_,?_,?_,?_⟩<;>(rw[XE];rfl)
   |6,y=>injection y with y;subst y;refine⟨?_,?_,?_,?_,?_,?_⟩<;>(rw[XE];rfl)
   |7,y=>injection y with y;subst y;refine⟨?_,?_,?_,?_,?_,?_⟩<;>(rw[XE];rfl)
   |8,y=>injection y with y;subst y;refine⟨?_,?_,?_,?_,?_,?_⟩<;>(rw[XE];rfl)
   |9,y=>injection y with y;subst y;refine⟨?_,?_,?_,?_,?_,?_⟩<;>(rw[XE];rfl)
   |10,y=>injection y with y;subst y;refine⟨?_,?_,?_,?_,?_,?_⟩<;>(rw[XE];rfl)
   |11,y=>injection y with y;subst y;refine⟨?_,?_,?_,?_,?_,?_⟩<;>(rw[XE];rfl)
   |12,y=>injection y with y;subst y;refine⟨?_,?_,?_,?_,?_,?_⟩<;>(rw[XE];rfl)
   |13,y=>injection y with y;subst y;refine⟨?_,?_,?_,?_,?_,?_⟩<;>(rw[XE];rfl)
   |14,y=>injection y with y;subst y;refine⟨?_,?_,?_,?_,?_,?_⟩<;>(rw[XE];rfl)
   |15,y=>injection y with y;subst y;refine⟨?_,?_,?_,?_,?_,?_⟩<;>(rw[XE];rfl)
   |16,y=>injection y with y;subst y;refine⟨?_,?_,?_,?_,?_,?_⟩<;>(rw[XE];rfl)
   |17,y=>injection y with y;subst y;refine⟨?_,?_,?_,?_,?_,?_⟩<;>(rw[XE];rfl)
   |j+18,y=>simp[items]at y
  .intro i C
   match i,C with
   |0,_=>exact⟨bt (bt kO D.size) YQ,(Yw z _ _ (bt kO D.size)).trans ((D.cell kO).trans oK)⟩
   |1,_=>exact⟨bt (bt cS ep.size) YQ,(Yw z _ _ (bt cS ep.size)).trans ((ep.cell cS).trans fT)⟩
   |2,_=>exact⟨bt (bt du gO.size) YQ,(Yw z _ _ (bt du gO.size)).trans ((gO.cell du).trans dz)⟩
   |3,_=>exact⟨bt (bt AW gP.size) YQ,(Yw z _ _ (bt AW gP.size)).trans ((gP.cell AW).trans kQ)⟩
   |4,_=>exact⟨bt (bt Ey pI.size) YQ,(Yw z _ _ (bt Ey pI.size)).trans ((pI.cell Ey).trans qE)⟩
   |5,_=>exact⟨bt (bt Oj iZ.size) YQ,(Yw z _ _ (bt Oj iZ.size)).trans ((iZ.cell Oj).trans mP)⟩
   |6,_=>exact⟨bt (bt Ol wY.size) YQ,(Yw z _ _ (bt Ol wY.size)).trans ((wY.cell Ol).trans xI)⟩
   |7,_=>exact⟨bt (bt Om nQ.size) YQ,(Yw z _ _ (bt Om nQ.size)).trans ((nQ.cell Om).trans OF)⟩
   |8,_=>exact⟨bt (bt Oh wW.size) YQ,(Yw z _ _ (bt Oh wW.size)).trans ((wW.cell Oh).trans O)⟩
   |9,_=>exact⟨bt Oi YQ,(Yw z _ _ Oi).trans U⟩
  .intro i C
   match i,C with
   |0,_=>exact(Nat.lt_succ_self _)
   |1,_=>exact cE
   |2,_=>exact aZ
   |3,_=>exact bh
   |4,_=>exact iC
   |5,_=>exact oL
   |6,_=>exact Hr
   |7,_=>exact Cy
   |8,_=>exact OK
   |9,_=>exact OJ
 intro W0 Kd;clear lZ;clear oK kO fT cS dz du kQ AW qE Ey mP Oj xI Ol OF Om O Oh U Oi rQ ju ay cA au ba aN c_ aQ gm bf rK bJ AH gD D_ dF I ff J gG F N1 G D ep gO gP pI iZ wX kM wY nQ wW cE aZ bh iC oL rY rZ Hr Cy OK OJ go3;suffices h:∀(b:Nat->Nat)(r:Nat)(_:ao0 w b r W0)(v1 v5 v6 v7 v8 v9 iD qa qZ qg V X Y Z cr3 cr4 cr5 cr6 v22 cr7 cr8 v25:Xb),Code.wp _ _ _ (Act.mk (List.toArray ((.map WY)::v1::(.map (WX w.heap.size))::Yg::Yg::v5::v6::v7::v8::v9::iD::qa::qZ::qg::V::X::Y::Z::cr3::cr4::cr5::cr6::v22::cr7::cr8::v25::(YG (WX (r 0 WY)) 18 18)::(Xo XO 18)::(Xo XO 0)::Yg::Yg::Yg::Yg::Yg::Yg::Yg::Yg::Yg::[])) []) W0 from h _ _ Kd _ _ _ _ _ _ _ _ _ _ _ _ _ _ _ _ _ _ _ _ _ _
 clear Kd;intro b r hW v1 v5 v6 v7 v8 v9 iD qa qZ qg V X Y Z cr3 cr4 cr5 cr6 v22 cr7 cr8 v25;have H:=ah hW;clear hW A Js;go_loopw [28] (λi wr=>∃k:Nat,k<=18/\i=Xo XO k/\fJ wr w (((items b).take k).map kI.kv)/\Below w w wr/\Fe w W0 wr) (λi _=>18 - (Xw i).toNat)
 case atStart=>exact⟨0,cb _,rfl,H.o.map,H.o.below,Fe.refl _ _⟩
 case round=>
  obtain⟨k,hk,rfl,cj9,hb,cj3⟩:=hrel;have HM:=ah cj9;have HK:=ah cj3;clear cj9 cj3;by_cases az:k<18
  .obtain⟨x,hx⟩:∃x,(items b)[k]?=some x:=⟨_,List.getElem?_eq_getElem (by rw[P4];exact az)⟩;have HX:=ah hx;have dO:=(H.o.rows k x hx).keep λo=>HK.o.2 r o H.o.ne H.o.lt;have Uo:=ah (eg7 hx);obtain⟨c0,c1,c2,c3,c4,c5⟩:=dO;unfold bq at c2 c3 c4 c5;have i1:(0:Int)<=(k:Int):=by omega
   have i2:(k:Int)<18:=YN;refine Pp λi3=>?_;clear hx
   go_wp2_with(first
    |(refine CM _ rfl (YL 32) (YL 34) (YL 35) 75 (.inl rfl) 9 73 _ underlying75 X0 w _ rfl (HM.o.later (ai (aj _) _)) (Xp (bs x.word)) x.val rfl rfl uB Uo.o ?_;intro w' hL hT))
   refine⟨⟨k+1,by omega,by go_num,?_,hT.1 w w (ai hb _) (am _),HK.o.put hT⟩,by simp[Xw];omega⟩;rw[XU,HX.o,XX];exact hL
  .go_wp2_with fail
   go_ret;obtain rfl:k=18:=YN;refine⟨w.heap.size,b,rfl,?_,?_,H.o.fresh,am _,hb⟩
   .have h:=HM.o
    rwa [Xu (by rw[P4];exact am _)]at h
   .intro i C;obtain⟨h1,h2⟩:=H.o.boxes i C;exact⟨bt h1 HK.o.1,(HK.o.2 _ _ (Nat.ne_of_gt (H.o.fresh i C)) h1).trans h2⟩
def eg8{W w:Xa}{b:Nat}(h:W.grownBy w (WX b))(q:Nat):W.grownBy (w.drewN q) (WX b):=⟨h.os,h.tape,h.output,h.size,h.block⟩
section
variable {P:YA} {ops:Array Yf} {Q:Exit->Act->Xa->Prop} {md:Yq}
end
def eg9(k:Int)(v:Xb)(l:List ByteArray)(W:Xa)(j:Nat)(h:cB W j v l)(C:l.length≠3):
 Xq Xn 96 #[aq j,v] W (kW W j (tx k l)):=by
 have z:tx k l=none:=by unfold tx;rw[if_neg C]
 rw[z];obtain⟨A,n,c,rfl,hl,hc,hm⟩:=h.form;have F:((n:Int)==3)=false:=bP;have G:WZ ((n:Int)=3)=false:=bP;clear h z;simp only[aq];go_enter func96,ntmps96;go_wp2_with fail
 go_quiet (fail)
 all_goals go_wp2_with fail
 all_goals
  go_ret;exact⟨eg8 (YC _ _) _,rfl,λy D=>by cases D⟩
def eh0(k:Int)(v:Xb)(l:List ByteArray)(W:Xa)(pa:Nat)(hG:cV W)(C:eZ W pa (bW k) aM aM)(U:8<=pa)(h:cB W pa v l)(bd:∀s∈l,s.size<=1000000)(O:l.length=3)(hq:gL (l.take 2) 2=WY):
 Xq Xn 96 #[aq pa,v] W (kW W pa (tx k l)):=by
 have az:=C.lt;have I:tx k l=none:=by unfold tx;rw[if_pos O,hq];rfl
 rw[I];obtain⟨A,n,c,rfl,hl,hc,hm⟩:=h.form;obtain rfl:n=3:=YN;obtain⟨bl,ol,rfl,ig,bb⟩:=h.at_ 0 YN;have hcell2:=bb 2 YN;have J:=ah C;have Y:=ah hcell2;refine ao2 λHT HS HZ HQ sI GM GX aV gQ i2 n2=>?_;clear hG C h bd bb hcell2 hq I;simp only[aq];go_enter func96,ntmps96;go_wp2_with fail
 refine po 26 ?_;iterate 12 refine iT 26 5 ?_
 refine fi 12 λK z=>?_;go_simp;refine z _ _ ?_;clear z K;refine aO ?_;refine fi 13 λK z=>?_;go_simp;refine(E3 _ (l.take 2) [1,2] 2 W _ pa 45 _ _ GM pa rfl (Sl.below HT.o GX) (am _) bP HS.o sI.o (λj D=>by
  match j,D with
  |0,_=>go_simp;try rfl
  |1,_=>go_simp;try rfl) gQ YQ U (((a_ (ai (aj W) _)).block _ az).trans J.o) (λj D=>by
  match j,D with
  |0,_=>show _<10;decide
  |1,_=>show _<10;decide)).mono ?_
 rintro e Z F;have G:=F.ret;rw[show gL (l.take 2) [1,2].length=_ from HQ.o]at G;subst G;have X:=F.2;rw[show gL (l.take 2) [1,2].length=_ from HQ.o]at X;go_simp;refine z _ _ ?_;clear z K;refine aO ?_;iterate 2 refine iT 26 5 ?_
 iterate 8 refine EY 26 5 ?_
 refine lw 24 29 ?_;refine lw 25 4 ?_;refine vz ?_;go_wp2_with fail
 go_ret;exact⟨zX (a_ (ai (aj W) _)) F.1,rfl,λy V=>by cases V⟩
def eh1(k:Int)(v:Xb)(l:List ByteArray)(W:Xa)(pa:Nat)(hG:cV W)(G:eZ W pa (bW k) aM aM)(F:8<=pa)(h:cB W pa v l)(bd:∀s∈l,s.size<=1000000)(h3:l.length=3)(D:List Int)(hq:gL (l.take 2) 2=WX D):
 Xq Xn 96 #[aq pa,v] W (kW W pa (tx k l)):=by
 have az:=G.lt;have O:tx k l=(bM (aJ l 2)).map λu=>{bW k with a:=cM D 0,b:=cM D 1,val:=u}:=by unfold tx;rw[if_pos h3,hq];rfl
 rw[O];obtain⟨A,n,c,rfl,hl,hc,hm⟩:=h.form;obtain rfl:n=3:=YN;obtain⟨bl,ol,rfl,ig,bb⟩:=h.at_ 0 YN;have hcell2:=bb 2 YN;have X:=ah G;have Y:=ah hcell2;refine ao2 λHT HS HZ HQ sI GM GX aV gQ i2 n2=>?_;clear hG G h bd bb hcell2 hq O;simp only[aq];go_enter func96,ntmps96;go_wp2_with fail
 refine po 26 ?_;iterate 12 refine iT 26 5 ?_
 refine fi 12 λK z=>?_;go_simp;refine z _ _ ?_;clear z K;refine aO ?_;refine fi 13 λK z=>?_;go_simp;refine(E3 _ (l.take 2) [1,2] 2 W _ pa 45 _ _ GM pa rfl (Sl.below HT.o GX) (am _) bP HS.o sI.o (λj I=>by
  match j,I with
  |0,_=>go_simp;try rfl
  |1,_=>go_simp;try rfl) gQ YQ F (((a_ (ai (aj W) _)).block _ az).trans X.o) (λj I=>by
  match j,I with
  |0,_=>show _<10;decide
  |1,_=>show _<10;decide)).mono ?_
 rintro e V C;have J:=C.ret;rw[show gL (l.take 2) [1,2].length=_ from HQ.o]at J;subst J;have U:=C.2;rw[show gL (l.take 2) [1,2].length=_ from HQ.o]at U;have rR:=U.2;have e2:V.cell? (bl (ol+2) WY)=WX (Xp (aJ l 2)):=(World.grownBy.cell_far C.1 (bl (ol+2) WY) bP (λe=>absurd (show bl=pa by injection e) YN)).trans ((GX.cell (p:=bl (ol+2) WY) ig).trans Y.o);go_simp;refine z _ _ ?_;clear z K;refine aO ?_;iterate 4 refine iT 26 5 ?_
 iterate 4 refine iT 27 5 ?_
 refine fi 18 λK z=>?_;go_simp;refine z _ _ ?_;clear z K;refine aO ?_;refine fi 23 λK z=>?_;go_simp;refine(Po (aJ l 2) pa 6 45 _ V (GM.grown C.1 F) HZ.o F rR (by rw[Ly];show 6<10;decide)).m ?_;rintro e w2 ⟨jB,u,Z,rfl,dC⟩;go_simp;refine z _ _ ?_;clear z K;refine aO ?_;refine lw 24 29 ?_;refine lw 25 4 ?_;refine vz ?_;go_wp2_with fail
 go_ret;have fW:=zX (a_ (ai (aj W) _)) C.1;refine⟨Vi fW jB,?_,λy hy=>?_⟩
 .show Ya (YH (bM (aJ l 2)).isSome)=_;rw[Option.isSome_map]
 .obtain⟨a,ha,rfl⟩:=Option.map_eq_some_iff.1 hy;have:=dC _ ha;subst this;have mO:=E4 HQ.o
  match D,mO with
  |[p,q],_=>exact⟨aM,aM,Z.trans rfl,aW.nil_ _ _,aW.nil_ _ _,jQ.nil _,jQ.nil _⟩
def eh2(k:Int)(v:Xb)(l:List ByteArray)(W:Xa)(c:Nat)(A:cV W)(C:eZ W c (bW k) aM aM)(z:8<=c)(h:cB W c v l)(y:∀s∈l,s.size<=1000000):
 Xq Xn 96 #[aq c,v] W (kW W c (tx k l)):=by
 by_cases j:l.length=3
 .cases hq:gL (l.take 2) 2 with
  |none=>exact eh0 k v l W c A C z h y j hq
  |some vs=>exact eh1 k v l W c A C z h y j vs hq
 .exact eg9 k v l W c h j
structure jR(w:Xa)(k:Nat)(x:kI):Prop where
 kind:x.kind=k
 word:x.word=bH k
 lt:k<18
 eu:dw x.gu
 ef:dw x.gf
 er:dw x.gr
 et:dw x.gt
 caps:x.caps= #[]\/∃b,x.caps= #[aq b]
 used:∀(y:aS)(m s:Xb)(W:Xa)(px pa:Nat),(∃A n c,m=YG A n c)->(∃A n c,s=YG A n c)->eZ W px (bW k) aM aM->jP W pa y m s->px≠pa->
  Xq Xn x.gu #[aq px,aq pa] W (zS W px (cy {y with kind:=k}) (if k=15 then m else aM) (if k=5 then s else aM))
 fits:∀(y:aS)(m s:Xb)(W:Xa),Below w w W->aP y.a->aW W W m y.ms->aW W W s y.ss->y.ms.length<=1000000->y.ss.length<=1000000->
  aR x.gf (#[YJ (y.cells m s)]++x.caps) W (YH (K_ k y))
 read:∀(v:Xb)(l:List ByteArray)(W:Xa)(pa:Nat),cV W->eZ W pa (bW k) aM aM->8<=pa->cB W pa v l->(∀s∈l,s.size<=1000000)->l.length<=100000->
  Xq Xn x.gr #[aq pa,v] W (kW W pa (ip k l))
 text:k=5->∀(y:aS)(m s:Xb)(W:Xa),cV W->y.In W W m s->y.ms.length<=100000->y.ss.length<=100000->
  Xq Xn x.gt #[YJ (y.cells m s)] W (OP W ((cT {y with kind:=k}).map bs)):=by intro h;omega
def eh9(l:List Int):(l.map Xg).map bs=l.map Lw:=by rw[X5];rfl
def ei0(w:Xa)(b:Nat)(j:w.cell? b=WX (bq 72 #[]))(A:b<w):
 jR w 0 ⟨bH 0,0,177,178,#[aq b],179,180⟩ where
 kind:=rfl
 word:=rfl
 lt:=YN
 eu:=Xk func177 aI rfl
 ef:=Xk func178 aI rfl
 er:=Xk func179 aI rfl
 et:=Xk func180 aI rfl
 caps:= .inr ⟨b,rfl⟩
 used:=λy m s W X z hm V U D F=>(zT 0 y m s W X z hm V U D F)
 fits:=λy m s W C D _ _ _ _=>zR y m s W 72 b _ (Xk func72 aI rfl) (λW=>Pj y.a W) ((C.cell (p:=b) A).trans j) (bt A C.size)
 read:=λv l W z J j I h G O=>zY 0 v l W z J j I h G O
def ei1(w:Xa)(b:Nat)(j:w.cell? b=WX (bq 72 #[]))(A:b<w):
 jR w 1 ⟨bH 1,1,177,178,#[aq b],179,180⟩ where
 kind:=rfl
 word:=rfl
 lt:=YN
 eu:=Xk func177 aI rfl
 ef:=Xk func178 aI rfl
 er:=Xk func179 aI rfl
 et:=Xk func180 aI rfl
 caps:= .inr ⟨b,rfl⟩
 used:=λy m s W X z hm V U D F=>(zT 1 y m s W X z hm V U D F)
 fits:=λy m s W C D _ _ _ _=>zR y m s W 72 b _ (Xk func72 aI rfl) (λW=>Pj y.a W) ((C.cell (p:=b) A).trans j) (bt A C.size)
 read:=λv l W z J j I h G O=>zY 1 v l W z J j I h G O
def ei2(w:Xa)(b:Nat)(j:w.cell? b=WX (bq 72 #[]))(A:b<w):
 jR w 2 ⟨bH 2,2,177,178,#[aq b],179,180⟩ where
 kind:=rfl
 word:=rfl
 lt:=YN
 eu:=Xk func177 aI rfl
 ef:=Xk func178 aI rfl
 er:=Xk func179 aI rfl
 et:=Xk func180 aI rfl
 caps:= .inr ⟨b,rfl⟩
 used:=λy m s W X z hm V U D F=>(zT 2 y m s W X z hm V U D F)
 fits:=λy m s W C D _ _ _ _=>zR y m s W 72 b _ (Xk func72 aI rfl) (λW=>Pj y.a W) ((C.cell (p:=b) A).trans j) (bt A C.size)
 read:=λv l W z J j I h G O=>zY 2 v l W z J j I h G O
def ei3(w:Xa)(b:Nat)(j:w.cell? b=WX (bq 69 #[]))(A:b<w):
 jR w 3 ⟨bH 3,3,177,178,#[aq b],179,180⟩ where
 kind:=rfl
 word:=rfl
 lt:=YN
 eu:=Xk func177 aI rfl
 ef:=Xk func178 aI rfl
 er:=Xk func179 aI rfl
 et:=Xk func180 aI rfl
 caps:= .inr ⟨b,rfl⟩
 used:=λy m s W X z hm V U D F=>(zT 3 y m s W X z hm V U D F)
 fits:=λy m s W C D _ _ _ _=>zR y m s W 69 b _ (Xk func69 aI rfl) (λW=>xP y.a W) ((C.cell (p:=b) A).trans j) (bt A C.size)
 read:=λv l W z J j I h G O=>zY 3 v l W z J j I h G O
def ed6(w:Xa)(b:Nat)(j:w.cell? b=WX (bq 69 #[]))(A:b<w):
 jR w 6 ⟨bH 6,6,177,178,#[aq b],179,180⟩ where
 kind:=rfl
 word:=rfl
 lt:=YN
 eu:=Xk func177 aI rfl
 ef:=Xk func178 aI rfl
 er:=Xk func179 aI rfl
 et:=Xk func180 aI rfl
 caps:= .inr ⟨b,rfl⟩
 used:=λy m s W X z hm V U D F=>(zT 6 y m s W X z hm V U D F)
 fits:=λy m s W C D _ _ _ _=>zR y m s W 69 b _ (Xk func69 aI rfl) (λW=>xP y.a W) ((C.cell (p:=b) A).trans j) (bt A C.size)
 read:=λv l W z J j I h G O=>zY 6 v l W z J j I h G O
def ed7(w:Xa)(b:Nat)(j:w.cell? b=WX (bq 69 #[]))(A:b<w):
 jR w 13 ⟨bH 13,13,177,178,#[aq b],179,180⟩ where
 kind:=rfl
 word:=rfl
 lt:=YN
 eu:=Xk func177 aI rfl
 ef:=Xk func178 aI rfl
 er:=Xk func179 aI rfl
 et:=Xk func180 aI rfl
 caps:= .inr ⟨b,rfl⟩
 used:=λy m s W X z hm V U D F=>(zT 13 y m s W X z hm V U D F)
 fits:=λy m s W C D _ _ _ _=>zR y m s W 69 b _ (Xk func69 aI rfl) (λW=>xP y.a W) ((C.cell (p:=b) A).trans j) (bt A C.size)
 read:=λv l W z J j I h G O=>zY 13 v l W z J j I h G O
def ed8(w:Xa)(b:Nat)(z:w.cell? b=WX (bq 68 #[]))(C:b<w):
 jR w 8 ⟨bH 8,8,177,178,#[aq b],179,180⟩ where
 kind:=rfl
 word:=rfl
 lt:=YN
 eu:=Xk func177 aI rfl
 ef:=Xk func178 aI rfl
 er:=Xk func179 aI rfl
 et:=Xk func180 aI rfl
 caps:= .inr ⟨b,rfl⟩
 used:=λy m s W X A hm V U j F=>(zT 8 y m s W X A hm V U j F)
 fits:=λy m s W D j _ _ _ _=>zR y m s W 68 b _ (Xk func68 aI rfl) (λW=>aa2 y.a j W) ((D.cell (p:=b) C).trans z) (bt C D.size)
 read:=λv l W A J z I h G O=>zY 8 v l W A J z I h G O
def ed9(w:Xa)(b:Nat)(z:w.cell? b=WX (bq 68 #[]))(C:b<w):
 jR w 9 ⟨bH 9,9,177,178,#[aq b],179,180⟩ where
 kind:=rfl
 word:=rfl
 lt:=YN
 eu:=Xk func177 aI rfl
 ef:=Xk func178 aI rfl
 er:=Xk func179 aI rfl
 et:=Xk func180 aI rfl
 caps:= .inr ⟨b,rfl⟩
 used:=λy m s W X A hm V U j F=>(zT 9 y m s W X A hm V U j F)
 fits:=λy m s W D j _ _ _ _=>zR y m s W 68 b _ (Xk func68 aI rfl) (λW=>aa2 y.a j W) ((D.cell (p:=b) C).trans z) (bt C D.size)
 read:=λv l W A J z I h G O=>zY 9 v l W A J z I h G O
def ee0(w:Xa)(b:Nat)(j:w.cell? b=WX (bq 70 #[]))(A:b<w):
 jR w 11 ⟨bH 11,11,177,178,#[aq b],179,180⟩ where
 kind:=rfl
 word:=rfl
 lt:=YN
 eu:=Xk func177 aI rfl
 ef:=Xk func178 aI rfl
 er:=Xk func179 aI rfl
 et:=Xk func180 aI rfl
 caps:= .inr ⟨b,rfl⟩
 used:=λy m s W X z hm V U D F=>(zT 11 y m s W X z hm V U D F)
 fits:=λy m s W C D _ _ _ _=>zR y m s W 70 b _ (Xk func70 aI rfl) (λW=>Lv y.a W) ((C.cell (p:=b) A).trans j) (bt A C.size)
 read:=λv l W z J j I h G O=>zY 11 v l W z J j I h G O
def ee1(w:Xa)(b:Nat)(j:w.cell? b=WX (bq 74 #[]))(A:b<w):
 jR w 17 ⟨bH 17,17,177,178,#[aq b],179,180⟩ where
 kind:=rfl
 word:=rfl
 lt:=YN
 eu:=Xk func177 aI rfl
 ef:=Xk func178 aI rfl
 er:=Xk func179 aI rfl
 et:=Xk func180 aI rfl
 caps:= .inr ⟨b,rfl⟩
 used:=λy m s W X z hm V U D F=>(zT 17 y m s W X z hm V U D F)
 fits:=λy m s W C D _ _ _ _=>zR y m s W 74 b _ (Xk func74 aI rfl) (λW=>dm6 y.a W) ((C.cell (p:=b) A).trans j) (bt A C.size)
 read:=λv l W z J j I h G O=>zY 17 v l W z J j I h G O
def ee2(w:Xa):jR w 4 ⟨bH 4,4,181,182,#[],183,184⟩ where
 kind:=rfl
 word:=rfl
 lt:=YN
 eu:=Xk func181 aI rfl
 ef:=Xk func182 aI rfl
 er:=Xk func183 aI rfl
 et:=Xk func184 aI rfl
 caps:= .inl rfl
 used:=λy m s W F c hm D C j z=>(ag9 4 y m s W F c hm D C j z)
 fits:=λy m s W U j I J Y Z=>(ag7 y m s W)
 read:=λv l W c V A O h G X=>ad6 4 v l W c A h
def ee3(w:Xa):jR w 16 ⟨bH 16,16,181,182,#[],183,184⟩ where
 kind:=rfl
 word:=rfl
 lt:=YN
 eu:=Xk func181 aI rfl
 ef:=Xk func182 aI rfl
 er:=Xk func183 aI rfl
 et:=Xk func184 aI rfl
 caps:= .inl rfl
 used:=λy m s W F c hm D C j z=>(ag9 16 y m s W F c hm D C j z)
 fits:=λy m s W U j I J Y Z=>(ag7 y m s W)
 read:=λv l W c V A O h G X=>ad6 16 v l W c A h
def ee4(w:Xa):jR w 5 ⟨bH 5,5,75,76,#[],79,80⟩ where
 kind:=rfl
 word:=rfl
 lt:=YN
 eu:=Xk func75 aI rfl
 ef:=Xk func76 aI rfl
 er:=Xk func79 aI rfl
 et:=Xk func80 aI rfl
 caps:= .inl rfl
 used:=λy m s W X j hm V U A D=>(dh0 5 y m s W X j hm V U A D)
 fits:=λy m s W hB A Z G Y z=>(dk5 y m s W G z)
 read:=λv l W j c J I h F O=>dr3 5 v l W j c J I h F O
 text:=λ_ y m s W c C Y z=>by have:=dh7 y m s W c C.a C.ss z;rw[<-eh9]at this;exact this
def ee5(w:Xa):jR w 7 ⟨bH 7,7,82,83,#[],84,85⟩ where
 kind:=rfl
 word:=rfl
 lt:=YN
 eu:=Xk func82 aI rfl
 ef:=Xk func83 aI rfl
 er:=Xk func84 aI rfl
 et:=Xk func85 aI rfl
 caps:= .inl rfl
 used:=λy m s W O c hm J I j z=>(dh1 7 y m s W O c hm J I j z)
 fits:=λy m s W X j U V Y Z=>(dk1 y m s W)
 read:=λv l W c D F C h A G=>dq6 7 v l W c D F C h A G
def ee6(w:Xa):jR w 10 ⟨bH 10,10,86,87,#[],90,92⟩ where
 kind:=rfl
 word:=rfl
 lt:=YN
 eu:=Xk func86 aI rfl
 ef:=Xk func87 aI rfl
 er:=Xk func90 aI rfl
 et:=Xk func92 aI rfl
 caps:= .inl rfl
 used:=λy m s W O c hm J I j z=>(dh2 10 y m s W O c hm J I j z)
 fits:=λy m s W X j U V Y Z=>(dk4 y m s W)
 read:=λv l W c D F C h A G=>eh8 10 v l W c D F C h A G
def ee7(w:Xa):jR w 12 ⟨bH 12,12,94,95,#[],96,98⟩ where
 kind:=rfl
 word:=rfl
 lt:=YN
 eu:=Xk func94 aI rfl
 ef:=Xk func95 aI rfl
 er:=Xk func96 aI rfl
 et:=Xk func98 aI rfl
 caps:= .inl rfl
 used:=λy m s W J c hm I G j z=>(dh3 12 y m s W J c hm I G j z)
 fits:=λy m s W V j O U Y Z=>(dk2 y m s W)
 read:=λv l W c D F C h A X=>eh2 12 v l W c D F C h A
def ee8(w:Xa):jR w 14 ⟨bH 14,14,100,101,#[],102,103⟩ where
 kind:=rfl
 word:=rfl
 lt:=YN
 eu:=Xk func100 aI rfl
 ef:=Xk func101 aI rfl
 er:=Xk func102 aI rfl
 et:=Xk func103 aI rfl
 caps:= .inl rfl
 used:=λy m s W O c hm J I j z=>(dh4 14 y m s W O c hm J I j z)
 fits:=λy m s W X j U V Y Z=>(dk3 y m s W)
 read:=λv l W c D F C h A G=>dq7 14 v l W c D F C h A G
def ee9(w:Xa):jR w 15 ⟨bH 15,15,104,105,#[],106,107⟩ where
 kind:=rfl
 word:=rfl
 lt:=YN
 eu:=Xk func104 aI rfl
 ef:=Xk func105 aI rfl
 er:=Xk func106 aI rfl
 et:=Xk func107 aI rfl
 caps:= .inl rfl
 used:=λy m s W U c hm O J j z=>(dh5 15 y m s W U c hm O J j z)
 fits:=λy m s W Y j C X V Z=>(eg1 y m s W C V)
 read:=λv l W c F G D h A I=>dq8 15 v l W c F G D h A I
def jR.later{w w':Xa}{k:Nat}{x:kI}(h:jR w k x)(j:Below w w w'):jR w' k x:=
 ⟨h.kind,h.word,h.lt,h.eu,h.ef,h.er,h.et,h.caps,h.used,λy m s W c=>h.fits y m s W (ak j c),h.read,h.text⟩
def ao6(w:Xa)(b:Nat->Nat)(y:pW w b)(j:Nat)(x:kI)(c:(items b)[j]?=WX x):∃k,xX[j]?=WX k/\jR w k x:=by
 match j,c with
 |0,c=>injection c with c;subst c;exact⟨0,rfl,ei0 w _ (y 0 YN).2 (y 0 YN).1⟩
 |1,c=>injection c with c;subst c;exact⟨1,rfl,ei1 w _ (y 1 YN).2 (y 1 YN).1⟩
 |2,c=>injection c with c;subst c;exact⟨2,rfl,ei2 w _ (y 2 YN).2 (y 2 YN).1⟩
 |3,c=>injection c with c;subst c;exact⟨3,rfl,ei3 w _ (y 3 YN).2 (y 3 YN).1⟩
 |4,c=>injection c with c;subst c;exact⟨6,rfl,ed6 w _ (y 4 YN).2 (y 4 YN).1⟩
 |5,c=>injection c with c;subst c;exact⟨13,rfl,ed7 w _ (y 5 YN).2 (y 5 YN).1⟩
 |6,c=>injection c with c;subst c;exact⟨4,rfl,ee2 w⟩
 |7,c=>injection c with c;subst c;exact⟨16,rfl,ee3 w⟩
 |8,c=>injection c with c;subst c;exact⟨8,rfl,ed8 w _ (y 6 YN).2 (y 6 YN).1⟩
 |9,c=>injection c with c;subst c;exact⟨9,rfl,ed9 w _ (y 7 YN).2 (y 7 YN).1⟩
 |10,c=>injection c with c;subst c;exact⟨11,rfl,ee0 w _ (y 8 YN).2 (y 8 YN).1⟩
 |11,c=>injection c with c;subst c;exact⟨17,rfl,ee1 w _ (y 9 YN).2 (y 9 YN).1⟩
 |12,c=>injection c with c;subst c;exact⟨5,rfl,ee4 w⟩
 |13,c=>injection c with c;subst c;exact⟨7,rfl,ee5 w⟩
 |14,c=>injection c with c;subst c;exact⟨10,rfl,ee6 w⟩
 |15,c=>injection c with c;subst c;exact⟨12,rfl,ee7 w⟩
 |16,c=>injection c with c;subst c;exact⟨14,rfl,ee8 w⟩
 |17,c=>injection c with c;subst c;exact⟨15,rfl,ee9 w⟩
 |j+18,c=>simp[items]at c
def ao7:∀k,k<18->k∈xX:=aF
def V0:Value:=YJ #[Xp ⟨#[]⟩,Xo XO 0,.nilFunc,.nilFunc,.nilFunc,.nilFunc]
def ef0(w:Xa)(k:Int)(e:Ys)(w':Xa):Prop:=
 Below w w w'/\((∃(n:Nat)(x:kI),k=n/\jR w' n x/\e=Ya (.tuple #[x.val,YH Xe]))\/
  ((k<0\/17<k)/\e=Ya (.tuple #[V0,YH Xc])))
def pW.later{w w':Xa}{b:Nat->Nat}(h:pW w b)(y:Below w w w'):pW w' b:=λi j=>⟨bt (h i j).1 y.size,(y.cell (p:=⟨b i,0,WY⟩) (h i j).1).trans (h i j).2⟩
def ef1{k:Int}{seen:Array Nat}{b:Nat->Nat}(y:∀i,i<(items b).length->i∈seen)(z:∀i,i∈seen->∀c:Nat,xX[i]?=WX c->¬k=c):k<0\/17<k:=by apply Classical.byContradiction;intro h;obtain⟨n,rfl⟩:∃n:Nat,k=n:=⟨k.toNat,by omega⟩;obtain⟨j,hj⟩:=List.mem_iff_getElem?.1 (ao7 n YN);have A:j<18:=(List.getElem?_eq_some_iff.1 hj).1;exact z j (y j (by rw[P4];exact A)) n hj rfl
def LI{w:Xa}{r:Nat}{a b c d e f:Xb}{t:Xv}(h:w.heap[r]?=WX (YI #[a,b,c,d,e,f] t (0,0))):
 (w.cell? r=WX a/\w.cell? (r 1 WY)=WX b/\w.cell? (r 2 WY)=WX c/\w.cell? (r 3 WY)=WX d/\w.cell? (r 4 WY)=WX e/\w.cell? (r 5 WY)=WX f)/\
 ∀o,w.frozen? (r o WY)=false:=
 ⟨⟨j8 h GA,j8 h GA,j8 h GA,j8 h GA,j8 h GA,j8 h GA⟩,λo=>mZ h o⟩
def pW.set{w:Xa}{b:Nat->Nat}{r:Nat}(h:pW w b)(j:∀i,i<10->¬b i=r)(o:Nat)(v:Xb):pW (w.setCell (r o WY) v) b:=λi c=>⟨by simpa[Ye]using(h i c).1,(Vj (j i c)).trans (h i c).2⟩
def pW.alloc{w:Xa}{b:Nat->Nat}(h:pW w b)(o:Obj):pW (w.alloc o) b:=h.later (ai (aj w) o)
def V1{w:Xa}{b:Nat->Nat}{i k:Nat}{x:kI}(hx:(items b)[i]?=WX x)(j:xX[i]?=WX k)(h:pW w b):jR w k x:=by obtain⟨k',c,h2⟩:=ao6 w b h i x hx;rw[j]at c;injection c with c;subst c;exact h2
def ao8(k:Int)(w:Xa):Xq Xn 44 #[k] w (ef0 w k):=by
 have HP:=ah (λW=>ao1 W);go_enter func44,ntmps44
 go_wp2_with(first
  |(go_at_call 29;refine(HP.o _).m ?_;rintro e y ⟨M,b,rfl,hL,hX,vO,hM,A⟩;have U:=ah (ak (ai (aj w) _) A);have HL:=ah hL;have HX:=ah hX;have aZ:w.heap.size<y:=dB A YQ;obtain⟨bA,bT⟩:=dr A;clear hL hX)
  |(refine dj1 _ rfl (YL 6) 75 rfl 9 73 underlying75 M _ rfl HL.o ?_;intro w2 F au bD))
 have HR:=ah (show y.heap[w.heap.size]?=WX (YI #[Xp ⟨#[]⟩,Xo XO 0,.nilFunc,.nilFunc,.nilFunc,.nilFunc] 73 (0,0))from(A.block w YQ).trans (X1 w _));have ha3:=HL.o.lt
 have ha4:¬w.heap.size=M:=by have:w.heap.size+1<=M:=by simpa using hM
                             omega
 have Y:=ah F;have F9:=ah (show ∀i,i<10->¬b i=w.heap.size from λi hi=>by have:=vO i hi;simp at this;omega);clear bA bT A vO hM F HP
 go_frame
 go_loopw [8] (λ_ wr=>∃seen:Array Nat,vX wr M y ((items b).map kI.kv) seen/\Below y y wr/\∀i,i∈seen->∀z:Nat,xX[i]?=WX z->¬k=z) (λ_ wr=>wr.rangeLeft M y)
 case atStart=>exact⟨#[],Y.o,au,by simp⟩
 case round=>
  obtain⟨seen,F,hB,hS⟩:=hrel;have Y:=ah F;have HS:=ah hS;have hR:=(hB.block w aZ).trans HR.o;clear F hS;have mS:=ah hR;clear hR
  go_wp2_with(first
   |(at_next;refine wpList_step _ rfl (YL 7) rfl M y _ seen rfl Y.o ?_ ?_))
  .intro dE;have HO:=ah (ef1 dE HS.o);clear dE;obtain⟨⟨d0,d1,d2,d3,d4,d5⟩,fr⟩:=LI mS.o;have f0:=fr 0;have f1:=fr 1;have f2:=fr 2;have f3:=fr 3;have f4:=fr 4;have f5:=fr 5;clear fr;go_wp2_with fail
   refine bodyPost_ret (v:= .tuple #[V0,YH Xc]) (by simp[results,results44,go_sem,V0,d0,d1,d2,d3,d4,d5]) rfl ?_;refine⟨?_,.inr ⟨HO.o,rfl⟩⟩;have hb:=(U.o).trans (hB.mono U.o.size);repeat' first|with_reducible exact hb|with_reducible refine cF ?_ (am _) _
  .intro i key v w' x hx T4 fl Tb az V N7;obtain⟨rfl,rfl⟩:=Prod.mk.inj T4;have D:=V.1 y y hB (am _);obtain⟨z,jC,hF⟩:=ao6 w' b (HX.o.later D) i x hx;have X:x.kind=z:=hF.kind;have HF:=ah hF;have I:=ah Tb;have df1:=ah az;have HT:=ah V;have hz:w.heap.size<w':=bt aZ D.size;have gv:¬w.heap.size=w'.heap.size:=by omega
   have nr:¬w'.heap.size=w.heap.size:=YN;have J:=(HT.o.2.2 w YN).trans mS.o;obtain⟨⟨d0,d1,d2,d3,d4,d5⟩,fr⟩:=LI J;have f0:=fr 0;have f1:=fr 1;have f2:=fr 2;have f3:=fr 3;have f4:=fr 4;have f5:=fr 5;have RH:=ah J;simp only[kI.val,zy,bq]at N7⊢
   by_cases G:k=z
   .have e1:(x.kind==k)=true:=by simp[X,G]
    have HE:=ah G;have Z:=ah jC;have Gy:=ah hx;clear G X T4 hx jC fl Tb az V fr hF J;go_wp2_with fail
    refine bodyPost_ret (v:= .tuple #[x.val,YH Xe]) (by simp[results,results44,go_sem,kI.val,zy,bq,d0,d1,d2,d3,d4,d5,hz,gv,nr]) rfl ?_;have hb:=(U.o).trans (D.mono U.o.size);refine⟨?_,.inl ⟨z,x,HE.o,V1 Gy.o Z.o ?_,rfl⟩⟩
    .repeat' first|with_reducible exact hb|with_reducible refine cF ?_ (am _) _|with_reducible refine ai ?_ _
    .have oF:=HX.o.later D;repeat' first|with_reducible exact oF|with_reducible refine pW.set ?_ F9.o _ _|with_reducible refine pW.alloc ?_ _
   .have e1:(x.kind==k)=false:=by simp[X];omega
    have HN:=ah G;have Z:=ah jC;clear G X T4 hx jC fl Tb az V fr hF J d0 d1 d2 d3 d4 d5 f0 f1 f2 f3 f4 f5;go_wp2_with fail
    have C:=I.o.below (ai (aj w') (YI #[bs x.word,x.kind,.func (.func x.gu) #[] #[],.func (.func x.gf) #[] x.caps,.func (.func x.gr) #[] #[],.func (.func x.gt) #[] #[]] 73)) I.o.lt.1 I.o.lt.2;refine⟨⟨seen.push i,C,ai D _,λj hj=>?_⟩,?_⟩
    .rcases Array.mem_push.1 hj with h|h
     .exact HS.o j h
     .subst h;intro kk' O;rw[Z.o]at O;injection O with O;subst O;exact HN.o
    .rw[C.left,<-I.o.left];exact df1.o
def ao9(k:Int)(z:0<=k)(A:k<=17)(w:Xa):Xq Xn 44 #[k] w λe w'=>∃(x:kI),jR w' k.toNat x/\e=Ya (.tuple #[YJ #[bs x.word,x.kind,.func (.func x.gu) #[] #[],.func (.func x.gf) #[] x.caps,.func (.func x.gr) #[] #[],.func (.func x.gt) #[] #[]],YH Xe])/\Below w w w':=
 (ao8 k w).mono λe w'⟨j,h⟩=>by
   rcases h with⟨n,x,rfl,c,y⟩|⟨h,_⟩
   .exact⟨x,c,y,j⟩
   .omega
def ef2(k:Int)(h:¬(0<=k/\k<=17))(w:Xa):aR 44 #[k] w (.tuple #[YJ #[Xp ⟨#[]⟩,Xo XO 0,.nilFunc,.nilFunc,.nilFunc,.nilFunc],YH Xc]):=
 (ao8 k w).mono λe w'⟨z,j⟩=>by
   rcases j with⟨n,x,rfl,y,c⟩|⟨_,c⟩
   .have:=y.lt;omega
   .exact⟨c,z⟩
def ef3(x:aS)(m s:Xb)(w:Xa)(h:¬(0<=x.kind/\x.kind<=17)):
 aR 30 #[YJ (x.cells m s)] w (YH Xc):=by
 have c:=ah (λW=>ef2 x.kind h W);clear h;rw[aS.cells_def];go_enter func30,ntmps30;go_wp2_with(go_at_call 44;refine(c.o _).m ?_;rintro e y ⟨rfl,j⟩)
 go_ret;exact⟨rfl,ai (ak (ai (aj w) _) j) _⟩
def jP.turns{w w':Xa}{b c:Nat}{x:aS}{m s:Xb}(h:jP w b x m s)(y:jt w w' c)(j:b≠c):jP w' b x m s:=h.keep λ_=>y.cell j
def ef4(c:Xa)(j:Obj)(k:Nat)(h:Int)(z:h=k):eZ ((c.alloc j).alloc (YI #[h,Xo XO 0,Xo XO 0,Xo XO 0,Xo XO 0,Xp ⟨#[]⟩,Xo XO 0,Xo XO 0,YG WY 0 0,YG WY 0 0] 45)) (c+1) (bW k) aM aM:=by have y:=X1 (c.alloc j) (YI #[h,Xo XO 0,Xo XO 0,Xo XO 0,Xo XO 0,Xp ⟨#[]⟩,Xo XO 0,Xo XO 0,YG WY 0 0,YG WY 0 0] 45);rw[show(c.alloc j).heap.size=c.heap.size+1 by simp]at y;unfold eZ;rw[nd,<-z];exact y
def ef5(x:aS)(m s:Xb)(w:Xa)(hx:x.In w w m s)(cH:x.ms.length<=1000000)(da:x.ss.length<=1000000)(Y:0<=x.kind)(Z:x.kind<=17):
 aR 30 #[YJ (x.cells m s)] w (YH (my x (cy x)&&K_ x.kind x)):=by
 obtain⟨k,hk⟩:∃k:Nat,x.kind=k:=⟨x.kind.toNat,by omega⟩;have X:x.kind.toNat=k:=YN;have I:=λW=>ao9 x.kind Y Z W;rw[X]at I;have V:=ah I;have HX:=ah hx;have HK:=ah hk;clear hk X Y Z I;obtain⟨Am,nm,cm,rfl,_,_,_⟩:=hx.ms.form;obtain⟨As,ns,cs,rfl,_,_,_⟩:=hx.ss.form;obtain⟨m',np⟩:∃m',m'=if k=15 then Value.slice Am nm cm else aM:=⟨_,rfl⟩
 obtain⟨s',qD⟩:∃s',s'=if k=5 then Value.slice As ns cs else aM:=⟨_,rfl⟩
 obtain⟨y,hy⟩:∃y,y=cy x:=⟨_,rfl⟩;have xK:y.In w w m' s':=by
  have h:=Z2 hx;rw[<-hy]at h;have e1:(if x.kind=15 then Value.slice Am nm cm else .slice WY 0 0)=m':=by
   rw[np,HK.o];by_cases e:k=15
   .rw[if_pos e,if_pos YN]
   .rw[if_neg e,if_neg YN];rfl
  have e2:(if x.kind=5 then Value.slice As ns cs else .slice WY 0 0)=s':=by
   rw[qD,HK.o];by_cases e:k=5
   .rw[if_pos e,if_pos YN]
   .rw[if_neg e,if_neg YN];rfl
  rwa [e1,e2]at h
 have HU:Hid (∀(w1:Xa)(O:kI)(W:Xa)(z D:Nat),jR w1 k O->eZ W z (bW k) aM aM->jP W D x (YG Am nm cm) (YG As ns cs)->z≠D->Xq Xn O.gu #[aq z,aq D] W (zS W z y m' s')):=λw1 O W z D c h1 h2 h3=>by
  have h:=c.used x (YG Am nm cm) (YG As ns cs) W z D ⟨_,_,_,rfl⟩ ⟨_,_,_,rfl⟩ h1 h2 h3;have e:({x with kind:=(k:Int)}:aS)=x:=by rw[<-HK.o]
  rw[e,<-hy,<-np,<-qD]at h;exact h
 have HY:=ah xK;have U:=ah hy;clear hx np qD xK hy;rw[aS.cells_def];cases hs:my x (cy x)with
 |false=>
  have J:=ah (show my x y=Xc by rw[U.o];exact hs);clear hs;go_enter func30,ntmps30
  go_wp2_with(first
   |(go_at_call 44;refine(V.o _).m ?_;rintro e w1 ⟨⟨word,kind,gu,gf,caps,gr,gt⟩,c,rfl,ay⟩;have tK:=ah c;have eu:=c.eu;have ef:=c.ef;unfold dw at eu ef;simp only at eu ef;have aZ:w.heap.size<w1:=dB ay YQ;refine V2 λbk yq=>?_;obtain⟨bA,bT⟩:=dr ay;clear c ay))
  refine ap0 ?_;rintro e w2 ⟨⟨v,rfl⟩,hT,jv⟩;refine ap1 λKP l0 l1 l2 l3 l4 l5 l6 l7 l8 l9 q0 q1 q2 q3 q4 q5 q6 q7 q8 q9 p3 ba Ab aU bh kr ku SC=>?_;rw[J.o]at SC;have G:=ah SC;clear SC hT jv bA bT KP ba aZ;go_wp2_with(go_at_call 108;refine G.o.m ?_;rintro e w3 ⟨rfl,j⟩;obtain⟨kg,nS⟩:=dr j;have C:=ah (ak Ab.o j);have A:=ah (ak aU.o j);clear j)
  go_ret;exact⟨rfl,C.o⟩
 |true=>
  have J:=ah (show my x y=Xe by rw[U.o];exact hs);clear hs;go_enter func30,ntmps30
  go_wp2_with(first
   |(go_at_call 44;refine(V.o _).m ?_;rintro e w1 ⟨⟨word,kind,gu,gf,caps,gr,gt⟩,c,rfl,ay⟩;have tK:=ah c;have eu:=c.eu;have ef:=c.ef;unfold dw at eu ef;simp only at eu ef;have aZ:w.heap.size<w1:=dB ay YQ;refine V2 λbk yq=>?_;obtain⟨bA,bT⟩:=dr ay;clear c ay))
  refine ap0 ?_;rintro e w2 ⟨⟨v,rfl⟩,hT,jv⟩;refine ap1 λKP l0 l1 l2 l3 l4 l5 l6 l7 l8 l9 q0 q1 q2 q3 q4 q5 q6 q7 q8 q9 p3 ba Ab aU bh kr ku SC=>?_;rw[J.o]at SC;have G:=ah SC;clear SC hT jv bA bT KP ba aZ;go_wp2_with(go_at_call 108;refine G.o.m ?_;rintro e w3 ⟨rfl,j⟩;obtain⟨kg,nS⟩:=dr j;have C:=ah (ak Ab.o j);have A:=ah (ak aU.o j);clear j)
  have F:=(HX.o.below C.o (am _)).more C.o.size;refine(tK.o.fits x (YG Am nm cm) (YG As ns cs) w3 A.o F.a F.ms F.ss cH da).m ?_;rintro e w4 ⟨rfl,aQ⟩;clear F;go_wp2_with fail
  go_ret;exact⟨cd (by rw[HK.o];simp),ak C.o aQ⟩
def V4(x:aS)(m s:Xb)(w:Xa)(hx:x.In w w m s)(y:x.ms.length<=1000000)(z:x.ss.length<=1000000):
 aR 30 #[YJ (x.cells m s)] w (YH (dx x)):=by
 rw[<-ds1];by_cases h:0<=x.kind/\x.kind<=17
 .refine(ef5 x m s w hx y z h.1 h.2).mono λe w'⟨j,c⟩=>⟨?_,c⟩;rw[j];exact cd (by simp[O1,h.1,h.2])
 .refine(ef3 x m s w h).mono λe w'⟨j,c⟩=>⟨?_,c⟩;rw[j];refine cd ?_;have:(decide (0<=x.kind)&&decide (x.kind<=17))=false:=by rw[Bool.eq_false_iff];intro e;simp only[Bool.and_eq_true,decide_eq_true_eq]at e;exact h e
  simp[O1,this]
def dI.lit(w:Xa)(base:Nat)(s:ByteArray)(c:base<=w):dI (w.alloc (YI #[s] 9)) base (YG (WX (w 0 WY)) 1 1) [s]:=
 ⟨rfl,.inr ⟨w.heap.size,1,#[Xp s],rfl,c,X1 w _,by simp,by simp[XF],rfl,rfl⟩⟩
def V5:∀(l:List (List UInt8))(B:Nat),(∀w∈l,w.length<=B)->Lib.lens l<=l.length*B
 |[],_,_=>by simp[Lib.lens]
 |a::r,B,h=>by
  have y:=h a YQ;have c:=V5 r B λw j=>h w (by simp[j]);rw[XV,Nat.add_mul,Nat.one_mul];simp only[Lib.lens,XA,List.sum_cons]at c⊢
  omega
def V6(x:aS)(hx:x.Num)(K:Nat)(C:21<=K)(D:x.key.size<=K):(∀w∈cT x,w.length<=K)/\(cT x).length<=x.ms.length+x.ss.length+10:=by
 have ms:∀l:List Int,(∀n∈l,aP n)->∀w∈l.map Xg,w.length<=K:=λl j w h=>by obtain⟨n,hn,rfl⟩:=List.mem_map.1 h;have:=Lib.itoa_length_le n (j n hn).1 (j n hn).2;omega
 have key:x.key.data.toList.length<=K:=by have:x.key.data.toList.length=x.key.size:=Nz;omega
 have y:(∀w∈kG x,w.length<=K)/\(kG x).length<=4:=by
  have z:=Lib.itoa_length_le x.val hx.val.1 hx.val.2;have A:=Lib.itoa_length_le x.old hx.old.1 hx.old.2;unfold kG;repeat' split
  all_goals
   refine⟨λw c=>?_,by simp⟩;simp only[XR,XP,or_false]at c;first
    |(rcases c with rfl|rfl|rfl|rfl<;>first|exact key|omega|(simp;omega))
    |(rcases c with rfl|rfl|rfl<;>first|exact key|omega|(simp;omega))
    |(rcases c with rfl|rfl<;>first|exact key|(simp;omega))
 unfold cT;split
 .simp
 split
 .exact⟨ms _ hx.ms,by simp;omega⟩
 split
 .exact⟨ms (x.a::x.ss) (by simp only[XR,forall_eq_or_imp];exact⟨hx.a,hx.ss⟩),by simp;omega⟩
 split
 .exact⟨ms [x.a,x.b] (by simpa using⟨hx.a,hx.b⟩),by simp⟩
 split
 .exact⟨ms [x.a,x.b,x.c] (by simpa using⟨hx.a,hx.b,hx.c⟩),by simp⟩
 split
 .exact⟨ms [x.a,x.b,x.val] (by simpa using⟨hx.a,hx.b,hx.val⟩),by simp⟩
 split
 .refine⟨λw c=>?_,by simp only[List.length_append,List.length_cons,List.length_nil];omega⟩;rcases List.mem_append.1 c with h|h
  .exact ms [x.a,x.b] (by simpa using⟨hx.a,hx.b⟩) w h
  .exact y.1 w h
 .exact⟨ms [x.a] (by simpa using hx.a),by simp⟩
def ef6(x:aS)(hx:x.Num)(j:x.key.size<=1000000)(y:x.ms.length<=100)(z:x.ss.length<=100):(dy x).length<=1000000000:=by
 obtain⟨h1,h2⟩:=V6 x hx 1000000 YN j;unfold dy;rw[Lib.join_length];have A:=V5 (cT x) 1000000 h1;have C:(bH x.kind.toNat).length<=8:=by generalize x.kind.toNat=k;unfold bH;split<;>simp
 have c:Lib.lens (bH x.kind.toNat::cT x)=(bH x.kind.toNat).length+Lib.lens (cT x):=by simp[Lib.lens]
 rw[c];have D:(cT x).length*1000000<=210*1000000:=Nat.mul_le_mul_right _ YN;simp only[XH];omega
def ef7(x:aS)(hx:x.Num)(j:x.key.size<=100)(y:x.ms.length<=100)(z:x.ss.length<=100):(bs (dy x)).size<=100000:=by
 rw[dd];obtain⟨h1,h2⟩:=V6 x hx 100 YN j;unfold dy;rw[Lib.join_length];have A:=V5 (cT x) 100 h1;have C:(bH x.kind.toNat).length<=8:=by generalize x.kind.toNat=k;unfold bH;split<;>simp
 have c:Lib.lens (bH x.kind.toNat::cT x)=(bH x.kind.toNat).length+Lib.lens (cT x):=by simp[Lib.lens]
 rw[c];have D:(cT x).length*100<=210*100:=Nat.mul_le_mul_right _ YN;simp only[XH];omega
structure ef8(x:aS)(m s:Xb)(w:Xa)(p:Nat)(word:List UInt8)(gt:Nat)(W:Xa):Prop where
 below:Below w w W
 p0:W.cell? p=WX (Xp (bs word))
 p5:W.cell? (p 5 WY)=WX (.func (.func gt) #[] #[])
 lies:jP W w x m s
 lp:p<W
 la:w.heap.size<W
def ec6(x:aS)(m s:Xb)(w:Xa)(hG:cV w)(hx:x.In w w m s)(cH:x.ms.length<=100)(da:x.ss.length<=100)(J:dx x=Xe)(h5:x.kind=5):
 aR 18 #[YJ (x.cells m s)] w (Xp (bs (dy x))):=by
 have D:=λW(h:Below w w W)=>V4 x m s W ((hx.below h (am _)).more h.size) YN YN;rw[J]at D;obtain⟨h0,oz⟩:=CG (CH J);obtain⟨k,hk⟩:∃k:Nat,x.kind=k:=⟨x.kind.toNat,by omega⟩;have ek:x.kind.toNat=k:=YN;have gJ:=ah (show k=5 from by omega);clear h5;have V:=λW=>ao9 x.kind h0 oz W;rw[ek]at V;have M5:=ah V;have Y:=ah hx;have HK:=ah hk;have HG:=ah hG;have DT:=ah J;clear hk ek h0 oz V hG J;obtain⟨Am,nm,cm,rfl,_,_,_⟩:=hx.ms.form;obtain⟨As,ns,cs,rfl,_,_,_⟩:=hx.ss.form;rw[aS.cells_def]at D⊢
 have jp:=ah D;clear hx D;go_enter func18,ntmps18
 go_wp2_with(first
  |(go_at_call 30;refine(jp.o _ (ai (aj w) _)).m ?_;rintro e w1 ⟨rfl,ay⟩;refine V2 λbk yq=>?_;have Z:w.heap.size<w1:=dB ay YQ;obtain⟨bA,bT⟩:=dr ay;clear ay)
  |(go_at_call 44;refine(M5.o _).m ?_;rintro e y ⟨⟨word,kind,gu,gf,caps,gr,gt⟩,hF,rfl,G⟩;have tK:=ah hF;have et:=hF.et;unfold dw at et;simp only at et;have aU:=ah (ak bk.o G);have Jg:=ah (yq.o.below G Z);have bh:w.heap.size<y:=dB G Z;clear hF G bA bT Z))
 refine VX (ef8 x (YG Am nm cm) (YG As ns cs) w y word gt) ⟨ai aU.o _,by go_simp,by go_simp,Jg.o.below (ai (aj y) _) bh,by simp,by simp;omega⟩ ?_;intro W hW;have hw:word=bH k:=tK.o.word;have dc4:Hid (∀z,Below W W z->Xq Xn gt #[YJ #[x.kind,x.a,x.b,x.c,x.ok,x.key,x.val,x.old,YG Am nm cm,YG As ns cs]] z (OP z ((cT x).map bs))):=λz hb=>by
  have fQ:=ak hW.below hb;have h:=tK.o.text gJ.o x (YG Am nm cm) (YG As ns cs) z (HG.o.step fQ) ((Y.o.below fQ (am _)).more fQ.size) YN YN;have e:({x with kind:=(k:Int)}:aS)=x:=by rw[<-HK.o]
  rw[e]at h;exact h
 have HJ:Hid ((Lib.join ((bs word::(cT x).map bs).map (·.data.toList)) [32])=dy x):=by
  show _=_;have e1:((cT x).map bs).map (·.data.toList)=cT x:=by
   rw[X5]
   conv=>rhs;rw[<-List.map_id (cT x)]
   exact List.map_congr_left λl _=>eS l
  unfold dy;rw[XA,eS,e1,hw,HK.o];rfl
 have U:x.key.size<=1000000:=by have:=uD DT.o;omega
 have db9:=ah (ef6 x Y.o.num U cH da);have A:=ah (V6 x Y.o.num 1000000 YN U).2;clear U;have X:=ah hW.below;obtain⟨_,p0,p5,⟨l0,l1,l2,l3,l4,l5,l6,l7,l8,l9⟩,Oo,T5⟩:=hW;have eN:=X.o.size;clear hw aU Jg bh;go_region_held3 (λw'=>w'.cell? y=WX (Xp (bs word))/\w'.cell? (y 5 WY)=WX (.func (.func gt) #[] #[])/\w'.cell? w=WX (Xo XO x.kind)/\w'.cell? (w 1 WY)=WX (Xo XO x.a)/\w'.cell? (w 2 WY)=WX (Xo XO x.b)/\w'.cell? (w 3 WY)=WX (Xo XO x.c)/\w'.cell? (w 4 WY)=WX (Xo XO x.ok)/\w'.cell? (w 5 WY)=WX (Xp x.key)/\w'.cell? (w 6 WY)=WX (Xo XO x.val)/\w'.cell? (w 7 WY)=WX (Xo XO x.old)/\w'.cell? (w 8 WY)=WX (YG Am nm cm)/\w'.cell? (w 9 WY)=WX (YG As ns cs)) (go_simp)
  (first
    |(go_at_fn gt
      refine(dc4.o _ (by first|exact a_ (aj W)|exact a_ (ai (aj W) _))).m ?_;rintro e j ⟨u,rfl,hu,F⟩;have I:Below W W j:=by first|exact ak (a_ (aj W)) F|exact ak (a_ (ai (aj W) _)) F
      have iC:W.heap.size<=j:=I.size;have kg:∀b o,b<W.heap.size->j.cell? ⟨b,o,WY⟩=W.cell? ⟨b,o,WY⟩:=λb o h=>I.cell (p:=⟨b,o,WY⟩) h;have he8:y.heap.size<j:=YN;have he0:w.heap.size<j:=by omega)
    |(go_at_call 45;refine(dk6 v' (bs word::(cT x).map bs) _ (show dI O w v' (bs word::(cT x).map bs)from bN).slS (by have:=A.o;simp;omega) (by rw[HJ.o];have:=db9.o;omega)).m ?_;rintro e w5 ⟨rfl,bf⟩;have rK:=ak gm bf;have Kj:∀b o,b<W.heap.size->w5.cell? ⟨b,o,WY⟩=W.cell? ⟨b,o,WY⟩:=λb o h=>(bf.cell (p:=⟨b,o,WY⟩) (bt h oL)).trans (jI b o h))
    |(refine Lg rfl (.tmp 16) (.tmp 20) rfl w.heap.size _ u [bs word] ((cT x).map bs) (by rfl) (by rfl) (by first|exact dI.below (show dI (W.alloc (.cells #[.string (bs word)] 9)).drew w _ [bs word]from dI.lit W w (bs word) eN) F|exact dI.lit j w (bs word) (by omega)) (by first|exact hu.src|exact dI.src (hu.alloc _)) (by have:=A.o;simp;omega) (by first|omega|(simp;omega)) ?_;intro v' O bN C;have gm:Below w w O:=by
       first
        |exact dI.grown (dI.below (show dI (W.alloc (YI #[bs word] 9)).drew w _ [bs word]from dI.lit W w (bs word) eN) F) (ak X.o I) C
        |exact dI.grown (dI.lit j w (bs word) YN) (ai (ak X.o I) _) C
      have oL:W.heap.size<=O:=bQ (by first|exact iC|(simp;omega)) C.size;have jI:∀b o,b<W.heap.size->O.cell? ⟨b,o,WY⟩=W.cell? ⟨b,o,WY⟩:=λb o h=>by
       first
        |exact(World.grownBy.cell_far C ⟨b,o,WY⟩ (bt h iC) (λe=>absurd (show b=W.heap.size by injection (show WX b=WX W.heap.size from e)) YN)).trans (kg b o h)
        |exact(World.grownBy.cell_far C ⟨b,o,WY⟩ bP (λe=>absurd (show b=j.heap.size by injection (show WX b=WX j.heap.size from e)) YN)).trans ((Yw j _ _ (bt h iC)).trans (kg b o h))))
 all_goals
  go_wp2_with fail
  go_ret;exact⟨lQ (congrArg bs (by have h:=HJ.o;simp only[XA,X5]at h;exact h)),rK⟩
def ec7(x:aS)(m s:Xb)(w:Xa)(z:cV w)(hx:x.In w w m s)(h:x.ms.length<=100)(j:x.ss.length<=100)(c:dx x=Xe)(y:x.kind=5):
 aR 18 #[YJ (x.cells m s)] w (Xp (bs (CE x))):=by
 unfold CE;rw[c];exact ec6 x m s w z hx h j c y
end
end Go.Proofs.YtpfienbhhhgpkaaGreatDoor
