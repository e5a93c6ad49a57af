/- A part of the proof. -/
import Derived.Test.YtpfienbhhhgpkaaGreatDoorQbv
set_option linter.defProp false
set_option linter.unusedVariables false
set_option linter.unusedSimpArgs false
set_option maxRecDepth 100000
set_option maxHeartbeats 32000000
open Option renaming some->WX,none->WY
open Decidable renaming decide->WZ
open Go renaming World->Xa,Value->Xb
open Bool renaming false->Xc,true->Xe
open Go.RowKit renaming Hid->Xf
open Go.Lib renaming itoa->Xg
open And renaming intro->Xi
open Go.Proofs renaming intOf->Xw
open Go.Value renaming int->Xo,string->Xp,slice->YG,bool->YH,agg->YJ
open Go.IntKind renaming i64->XO
namespace Go.Proofs.YtpfienbhhhgpkaaGreatDoor
section
open Go Go.RowKit Go.MapKept Go.Proofs.Tryz
def iS(k:Nat)(nm:ar)(rv nv:Xb)(Y:Nat)(AL:Bool)(W:Xa)(t:ByteArray):Prop:=
 aR 118 #[YJ #[k,bs nm,rv,nv,Y,YH AL]] W (Xp t)
def gu1(nm:ar)(rv nv:Xb)(Y:Nat)(j:Bool)(w:Xa)(hr:∃A n c,rv=YG A n c)(hn:∃A n c,nv=YG A n c):iS 0 nm rv nv Y j w (bs nm):=by exact bg1
def gu2(nm:ar)(rv nv:Xb)(Y:Nat)(j:Bool)(w:Xa)(hr:∃A n c,rv=YG A n c)(hn:∃A n c,nv=YG A n c):iS 1 nm rv nv Y j w (bs nm):=by exact bg1
def gu3(nm a b:ar)(rv nv:Xb)(Y:Nat)(F:Bool)(w:Xa)(z:bp w w rv [a,b])(J:∃A n c,nv=YG A n c)(hl:nm.length<=31/\a.length<=31/\b.length<=31):iS 2 nm rv nv Y F w (bs nm++bs [32,105,110,32]++bs a++bs [32,111,110,32]++bs b):=by
 obtain⟨rA,rn,rc,rfl,dM,jj,_⟩:=z.sk.form;obtain⟨nA,nn,nc,rfl⟩:=J;obtain⟨rb,ro,rfl,bg,C⟩:=bp.cell z (j:=0) (x:=a) rfl;obtain⟨rb',ro',e',_,D⟩:=bp.cell z (j:=1) (x:=b) rfl;cases e';rw[Xt]at C;obtain rfl:2=rn:=dM;have O:(bs nm).size<=31:=vq
 have U:(bs a).size<=31:=by rw[dd];exact hl.2.1
 have V:(bs b).size<=31:=by rw[dd];exact hl.2.2
 unfold iS;generalize bs nm=s0 at O⊢
 generalize bs a=s1 at U C⊢
 generalize bs b=s2 at V D⊢
 refine Ml λy1 y2=>?_;have Z:¬9223372036854775807<s0.size+4+s1.size+4:=YN;have y4:¬9223372036854775807<s0.size+4+s1.size+4+s2.size:=YN;clear z hl;go_enter func118,ntmps118;go_upto_region 1 with(fail)
 refine eG ?_;intro X ⟨y,hx⟩;have G:=ah y;have I:=ah hx;have C:=kc y C;have D:=kc y D;clear y hx;obtain⟨x0,x1,x2,x3,x4,x5⟩:=dW I.o;go_quiet (fail)
 go_upto_region 7 with(fail)
 go_quiet (fail)
 go_wp2_with fail
 go_ret;exact⟨rfl,pA (pA G.o _) _⟩
def gu4(nm a:ar)(y:Nat)(rv nv:Xb)(Y:Nat)(O:Bool)(w:Xa)(D:bp w w rv [a])(C:aW w w nv [(y:Int)])(hl:nm.length<=31/\a.length<=31/\y<=1048576):iS 3 nm rv nv Y O w (bs nm++bs [32,105,110,32]++bs a++bs [32,99,97,112,97,99,105,116,121,32]++bs (Xg (y:Nat))):=by
 obtain⟨rA,rn,rc,rfl,dM,jj,_⟩:=D.sk.form;obtain⟨nA,nn,nc,rfl,cR,mJ,_⟩:=C.form;obtain⟨rb,ro,rfl,bg,z⟩:=bp.cell D (j:=0) (x:=a) rfl;obtain⟨nb,no,rfl,lD,A⟩:=aW.cell C (j:=0) (x:=(y:Int)) rfl;rw[Xt]at z;rw[Xt]at A;obtain rfl:1=rn:=dM;obtain rfl:1=nn:=cR;have X:(bs nm).size<=31:=vq;have Z:(bs a).size<=31:=by rw[dd];exact hl.2.1
 have z2:=qV y hl.2.2;have J:=ah (λW(_:Below w w W)=>uK y hl.2.2 W);unfold iS;generalize bs nm=s0 at X⊢
 generalize bs a=s1 at Z z⊢
 generalize bs (Xg (y:Nat))=s2 at z2 J⊢
 refine Ml λy1 y2=>?_;have y3:¬9223372036854775807<s0.size+4+s1.size+10:=YN;have y4:¬9223372036854775807<s0.size+4+s1.size+10+s2.size:=YN;clear D C hl;go_enter func118,ntmps118;go_upto_region 1 with(fail)
 refine eG ?_;intro W1 ⟨hB,hx⟩;have U:=ah hB;have G:=ah hx;have z:=kc hB z;have A:=kc hB A;refine Fs λaZ xF vR=>?_;clear hB hx;obtain⟨x0,x1,x2,x3,x4,x5⟩:=dW G.o;go_quiet (fail)
 go_upto_region 9 with(fail)
 refine Dg ?_;intro W2 hw;have F:=ah (ak U.o hw);have z:=kc hw z;have A:=kc hw A;refine Mn λbh Ba ze=>?_;clear x0 x1 x2 x3 x4 x5;obtain⟨x0,x1,x2,x3,x4,x5⟩:=dW (aC G.o hw);clear hw;go_region_held3 (λw'=>w'.cell? (w 1 WY)=WX (Xp s0)/\w'.cell? (rb ro WY)=WX (Xp s1)/\w'.cell? (nb no WY)=WX (Xo XO y)) (go_simp)
  (first
    |(go_at_call 197;refine(J.o _ (a_ F.o)).m ?_;rintro e w3 ⟨rfl,I⟩;have V:=ak (a_ F.o) I;obtain⟨kg,nS⟩:=nH I))
 go_wp2_with fail
 go_ret;exact⟨rfl,V⟩
def gu5(nm a b:ar)(y:Nat)(rv nv:Xb)(Y:Nat)(U:Bool)(w:Xa)(D:bp w w rv [a,b])(F:aW w w nv [(y:Int)])(hl:a.length<=31/\b.length<=31/\y<=1048576):iS 4 nm rv nv Y U w (bs a++bs [32]++bs b++bs [32]++bs (Xg (y:Nat))):=by
 obtain⟨rA,rn,rc,rfl,dM,jj,_⟩:=D.sk.form;obtain⟨nA,nn,nc,rfl,cR,mJ,_⟩:=F.form;obtain⟨rb,ro,rfl,bg,z⟩:=bp.cell D (j:=0) (x:=a) rfl;obtain⟨rb',ro',e',_,C⟩:=bp.cell D (j:=1) (x:=b) rfl;cases e';obtain⟨nb,no,rfl,lD,A⟩:=aW.cell F (j:=0) (x:=(y:Int)) rfl;rw[Xt]at z;rw[Xt]at A;obtain rfl:2=rn:=dM;obtain rfl:1=nn:=cR;have Z:(bs a).size<=31:=vq
 have z1:(bs b).size<=31:=by rw[dd];exact hl.2.1
 have z2:=qV y hl.2.2;have O:=ah (λW(_:Below w w W)=>uK y hl.2.2 W);unfold iS;generalize bs a=s0 at Z z⊢
 generalize bs b=s1 at z1 C⊢
 generalize bs (Xg (y:Nat))=s2 at z2 O⊢
 refine Mo λy1 y2=>?_;have y3:¬9223372036854775807<s0.size+1+s1.size+1:=YN;have y4:¬9223372036854775807<s0.size+1+s1.size+1+s2.size:=YN;clear D F hl;go_enter func118,ntmps118;go_upto_region 1 with(fail)
 refine eG ?_;intro W1 ⟨hB,hx⟩;have V:=ah hB;have I:=ah hx;have z:=kc hB z;have C:=kc hB C;have A:=kc hB A;refine Fs λaZ xF vR=>?_;clear hB hx;obtain⟨x0,x1,x2,x3,x4,x5⟩:=dW I.o;go_quiet (fail)
 go_upto_region 11 with(fail)
 refine Dg ?_;intro W2 hw;have G:=ah (ak V.o hw);have z:=kc hw z;have C:=kc hw C;have A:=kc hw A;refine Mn λbh Ba ze=>?_;clear x0 x1 x2 x3 x4 x5;obtain⟨x0,x1,x2,x3,x4,x5⟩:=dW (aC I.o hw);clear hw;go_region_held3 (λw'=>w'.cell? (rb ro WY)=WX (Xp s0)/\w'.cell? (rb (ro+1) WY)=WX (Xp s1)/\w'.cell? (nb no WY)=WX (Xo XO y)) (go_simp)
  (first
    |(go_at_call 197;refine(O.o _ (a_ G.o)).m ?_;rintro e w3 ⟨rfl,J⟩;have X:=ak (a_ G.o) J;obtain⟨kg,nS⟩:=nH J))
 go_wp2_with fail
 go_ret;exact⟨rfl,X⟩
def gu6(nm:ar)(l:List ar)(n0 n1 n2:Nat)(rv nv:Xb)(Y:Nat)(j:Bool)(w:Xa)(hr:bp w w rv l)(hn:aW w w nv [(n0:Int),(n1:Int),(n2:Int)])(hl:nm.length<=31/\n0<=1048576/\n1<=1048576/\n2<=1048576/\l.length<=16/\∀x∈l,x.length<=31):iS 5 nm rv nv Y j w (bs nm++bs [32,111,110,32]++bs (iL l)++bs (rG n0 n1 n2)):=by exact bg2
def gu7(nm:ar)(l:List ar)(n0 n1 n2:Nat)(rv nv:Xb)(Y:Nat)(j:Bool)(w:Xa)(hr:bp w w rv l)(hn:aW w w nv [(n0:Int),(n1:Int),(n2:Int)])(hl:nm.length<=31/\n0<=1048576/\n1<=1048576/\n2<=1048576/\l.length<=16/\∀x∈l,x.length<=31):iS 7 nm rv nv Y j w (bs nm++bs [32,111,110,32]++bs (iL l)++bs (rG n0 n1 n2)):=by exact bg2
def gu8(nm:ar)(l:List ar)(y z A C:Nat)(rv nv:Xb)(Y:Nat)(AL:Bool)(w:Xa)(V:bp w w rv l)(U:aW w w nv [(y:Int),(z:Int),(A:Int),(C:Int)])(hl:nm.length<=31/\y<=1048576/\z<=1048576/\A<=1048576/\C<=1048576/\l.length<=16/\∀x∈l,x.length<=31):iS 6 nm rv nv Y AL w (bs nm++bs [32]++bs (Xg (y:Nat))++bs [32,111,110,32]++bs (iL l)++bs (rG z A C)):=by
 obtain⟨rA,rn,rc,rfl,dM,jj,_⟩:=V.sk.form;obtain⟨nA,nn,nc,rfl,cR,mJ,_⟩:=U.form;obtain⟨nb,no,rfl,lD,G⟩:=aW.cell U (j:=0) (x:=(y:Int)) rfl;rw[Xt]at G;obtain rfl:4=nn:=cR;have Ot:¬nc=1:=YN;have Hd:((4:Nat):Int)<=nc:=YN;have z0:(bs nm).size<=31:=vq;have z1:=qV y hl.2.1;have z2:=ZW hl.2.2.2.2.2;have z3:=bf9 z A C ⟨hl.2.2.1,hl.2.2.2.1,hl.2.2.2.2.1⟩;have iE:=ah (λW(_:Below w w W)=>uK y hl.2.1 W);have iQ:=ah (λW(F:Below w w W)=>Vg _ l W ((V.below F (am _)).more F.size) (by have:=hl.2.2.2.2.2.1;omega) (λx hx=>by have:=hl.2.2.2.2.2.2 x hx;omega));have tJ:=ah (λW(F:Below w w W)=>bi0 _ z A C [(z:Int),(A:Int),(C:Int)] W (((fn2 U).below F (am _)).more F.size) rfl rfl rfl ⟨hl.2.2.1,hl.2.2.2.1,hl.2.2.2.2.1⟩);unfold iS;generalize bs nm=s0 at z0⊢
 generalize bs (Xg (y:Nat))=s1 at z1 iE⊢
 generalize bs (iL l)=s2 at z2 iQ⊢
 generalize bs (rG z A C)=s3 at z3 tJ⊢
 refine Mo λy1 y2=>?_;have y3:¬9223372036854775807<s0.size+1+s1.size+4:=YN;have y4:¬9223372036854775807<s0.size+1+s1.size+4+s2.size:=YN;have y5:¬9223372036854775807<s0.size+1+s1.size+4+s2.size+s3.size:=YN;clear V U hl;go_enter func118,ntmps118;go_upto_region 1 with(fail)
 refine eG ?_;intro W1 ⟨O,hx⟩;have HB:=ah O;have Z:=ah hx;have G:=kc O G;have aZ:=blk_lt hx;have vR:nb<W1:=bt lD O.size;clear O hx;obtain⟨x0,x1,x2,x3,x4,x5⟩:=dW Z.o;go_quiet (fail)
 go_upto_region 16 with(fail)
 refine Dg ?_;intro W2 D;have X:=ah (ak HB.o D);have G:=kc D G;have bh:=bt aZ D.size;have ze:=bt vR D.size;clear x0 x1 x2 x3 x4 x5;obtain⟨x0,x1,x2,x3,x4,x5⟩:=dW (aC Z.o D);clear D;go_region_held3 (λw'=>w'.cell? (w 1 WY)=WX (Xp s0)/\w'.cell? (nb no WY)=WX (Xo XO y)) (go_simp)
  (first
    |(go_at_call 197;refine(iE.o _ (a_ X.o)).m ?_;rintro e w3 ⟨rfl,I⟩;have c_:=ak (a_ X.o) I;have iC:=dB I bh;have Ul:=dB I ze;obtain⟨kg,nS⟩:=nH I)
    |(go_at_call 198;refine(iQ.o _ c_).m ?_;rintro e w4 ⟨rfl,J⟩;have gm:=ak c_ J;have oL:=dB J iC;have hf9:=dB J Ul;obtain⟨jI,li⟩:=dr J)
    |(go_at_call 199;refine(tJ.o _ gm).m ?_;rintro e w5 ⟨rfl,bf⟩;have rK:=ak gm bf;obtain⟨Kj,N8⟩:=dr bf))
 go_wp2_with fail
 go_ret;exact⟨rfl,rK⟩
def gu9(nm a:ar)(y z:Nat)(rv nv:Xb)(Y:Nat)(AL:Bool)(w:Xa)(I:bp w w rv [a])(F:aW w w nv [(y:Int),(z:Int)])(hl:a.length<=31/\y<=1048576/\z<=1048576):iS 8 nm rv nv Y AL w (bs a++bs [32,115,108,111,116,115,32]++bs (Xg (y:Nat))++bs [32,114,101,115,101,114,118,101,32]++bs (Xg (z:Nat))):=by
 obtain⟨rA,rn,rc,rfl,dM,jj,_⟩:=I.sk.form;obtain⟨nA,nn,nc,rfl,cR,mJ,_⟩:=F.form;obtain⟨rb,ro,rfl,bg,A⟩:=bp.cell I (j:=0) (x:=a) rfl;obtain⟨nb,no,rfl,lD,C⟩:=aW.cell F (j:=0) (x:=(y:Int)) rfl;obtain⟨nb',no',e',_,G⟩:=aW.cell F (j:=1) (x:=(z:Int)) rfl;cases e';rw[Xt]at A;rw[Xt]at C;obtain rfl:1=rn:=dM;obtain rfl:2=nn:=cR;have z0:(bs a).size<=31:=vq
 have z1:=qV y hl.2.1;have z2:=qV z hl.2.2;have X:=ah (λW(_:Below w w W)=>uK y hl.2.1 W);have Z:=ah (λW(_:Below w w W)=>uK z hl.2.2 W);unfold iS;generalize bs a=s0 at z0 A⊢
 generalize bs (Xg (y:Nat))=s1 at z1 X⊢
 generalize bs (Xg (z:Nat))=s2 at z2 Z⊢
 have y1:¬9223372036854775807<s0.size+7:=YN;have y2:¬9223372036854775807<s0.size+7+s1.size:=YN;have y3:¬9223372036854775807<s0.size+7+s1.size+9:=YN;have y4:¬9223372036854775807<s0.size+7+s1.size+9+s2.size:=YN;clear I F hl;go_enter func118,ntmps118;go_upto_region 1 with(fail)
 refine eG ?_;intro W1 ⟨hB,hx⟩;have HB:=ah hB;have O:=ah hx;have A:=kc hB A;have C:=kc hB C;have G:=kc hB G;refine Fs λaZ xF vR=>?_;clear hB hx;obtain⟨x0,x1,x2,x3,x4,x5⟩:=dW O.o;go_quiet (fail)
 go_upto_region 18 with(fail)
 refine Dg ?_;intro W2 hw;have J:=ah (ak HB.o hw);have A:=kc hw A;have C:=kc hw C;have G:=kc hw G;refine Mn λbh Ba ze=>?_;clear x0 x1 x2 x3 x4 x5;obtain⟨x0,x1,x2,x3,x4,x5⟩:=dW (aC O.o hw);clear hw;go_region_held3 (λw'=>w'.cell? (rb ro WY)=WX (Xp s0)/\w'.cell? (nb no WY)=WX (Xo XO y)/\w'.cell? (nb (no+1) WY)=WX (Xo XO z)) (go_simp)
  (first
    |(go_at_call_of 197 (Xo XO (y:Nat));refine(X.o _ (a_ J.o)).m ?_;rintro e w3 ⟨rfl,D⟩;have V:=ak (a_ J.o) D;have gl8:=dB D Ba;have Ul:=dB D ze;obtain⟨kg,nS⟩:=nH D)
    |(go_at_call_of 197 (Xo XO (z:Nat));refine(Z.o _ V).m ?_;rintro e w4 ⟨rfl,U⟩;have gm:=ak V U;obtain⟨jI,li⟩:=dr U))
 go_wp2_with fail
 go_ret;exact⟨rfl,gm⟩
def gv0(nm a:ar)(rv nv:Xb)(Y:Nat)(D:Bool)(w:Xa)(z:bp w w rv [a])(F:∃A n c,nv=YG A n c)(C:a.length<=31):iS 10 nm rv nv Y D w (bs a):=by
 obtain⟨rA,rn,rc,rfl,dM,jj,_⟩:=z.sk.form;obtain⟨nA,nn,nc,rfl⟩:=F;obtain⟨rb,ro,rfl,bg,y⟩:=bp.cell z (j:=0) (x:=a) rfl;rw[Xt]at y;obtain rfl:1=rn:=dM;have G:(bs a).size<=31:=by rw[dd];exact C
 unfold iS;generalize bs a=s0 at G y⊢
 clear z C;go_enter func118,ntmps118;go_upto_region 1 with(fail)
 refine eG ?_;intro I ⟨hB,hx⟩;have HB:=ah hB;have HX:=ah hx;have y:=kc hB y;exact bg3
def gv1(nm a:ar)(n0:Nat)(rv nv:Xb)(Y:Nat)(w:Xa)(z:bp w w rv [a])(y:aW w w nv [(n0:Int)])(hl:a.length<=31/\n0<=1048576):iS 11 nm rv nv Y Xe w (bs a++bs [32]++bs (Xg (n0:Nat))++bs [32,97,108,119,97,121,115]):=by
 obtain⟨rA,rn,rc,rfl,dM,jj,_⟩:=z.sk.form;obtain⟨nA,nn,nc,rfl,cR,mJ,_⟩:=y.form;obtain⟨rb,ro,rfl,bg,q0⟩:=bp.cell z (j:=0) (x:=a) rfl;obtain⟨nb,no,rfl,lD,m0⟩:=aW.cell y (j:=0) (x:=(n0:Int)) rfl;rw[Xt]at q0;rw[Xt]at m0;obtain rfl:1=rn:=dM;obtain rfl:1=nn:=cR;have A:(bs a).size<=31:=vq;have C:=qV n0 hl.2;have iE:=ah (λW(_:Below w w W)=>uK n0 hl.2 W);unfold iS;generalize bs a=s0 at A q0⊢
 generalize bs (Xg (n0:Nat))=s1 at C iE⊢
 refine Mo λy1 y2=>?_;have D:¬9223372036854775807<s0.size+1+s1.size+7:=YN;clear z y hl;go_enter func118,ntmps118;go_upto_region 1 with(fail)
 refine eG ?_;intro W1 ⟨hB,hx⟩;have HB:=ah hB;have HX:=ah hx;have q0:=kc hB q0;have m0:=kc hB m0;refine Fs λaZ xF vR=>?_;clear hB hx;obtain⟨x0,x1,x2,x3,x4,x5⟩:=dW HX.o;go_quiet (fail)
 go_upto_region 25 with(fail)
 exact Zc
def gv2(nm a:ar)(n0:Nat)(rv nv:Xb)(Y:Nat)(w:Xa)(z:bp w w rv [a])(y:aW w w nv [(n0:Int)])(hl:a.length<=31/\n0<=1048576):iS 11 nm rv nv Y Xc w (bs a++bs [32]++bs (Xg (n0:Nat))):=by
 obtain⟨rA,rn,rc,rfl,dM,jj,_⟩:=z.sk.form;obtain⟨nA,nn,nc,rfl,cR,mJ,_⟩:=y.form;obtain⟨rb,ro,rfl,bg,q0⟩:=bp.cell z (j:=0) (x:=a) rfl;obtain⟨nb,no,rfl,lD,m0⟩:=aW.cell y (j:=0) (x:=(n0:Int)) rfl;rw[Xt]at q0;rw[Xt]at m0;obtain rfl:1=rn:=dM;obtain rfl:1=nn:=cR;have A:(bs a).size<=31:=vq;have C:=qV n0 hl.2;have iE:=ah (λW(_:Below w w W)=>uK n0 hl.2 W);unfold iS;generalize bs a=s0 at A q0⊢
 generalize bs (Xg (n0:Nat))=s1 at C iE⊢
 refine Mo λy1 y2=>?_;clear z y hl;go_enter func118,ntmps118;go_upto_region 1 with(fail)
 refine eG ?_;intro W1 ⟨hB,hx⟩;have HB:=ah hB;have HX:=ah hx;have q0:=kc hB q0;have m0:=kc hB m0;refine Fs λaZ xF vR=>?_;clear hB hx;obtain⟨x0,x1,x2,x3,x4,x5⟩:=dW HX.o;go_quiet (fail)
 go_upto_region 26 with(fail)
 exact Zc
def gv3(nm a:ar)(y:Nat)(rv nv:Xb)(Y:Nat)(X:Bool)(w:Xa)(F:bp w w rv [a])(D:aW w w nv [(y:Int)])(hl:a.length<=31/\y<=1048576/\2<=Y/\Y<=4):iS 12 nm rv nv Y X w (bs a++bs [32,98,121,32]++bs (vY Y)++bs [32]++bs (Xg (y:Nat))):=by
 obtain⟨rA,rn,rc,rfl,dM,jj,_⟩:=F.sk.form;obtain⟨nA,nn,nc,rfl,cR,mJ,_⟩:=D.form;obtain⟨rb,ro,rfl,bg,z⟩:=bp.cell F (j:=0) (x:=a) rfl;obtain⟨nb,no,rfl,lD,C⟩:=aW.cell D (j:=0) (x:=(y:Int)) rfl;rw[Xt]at z;rw[Xt]at C;obtain rfl:1=rn:=dM;obtain rfl:1=nn:=cR;have z0:(bs a).size<=31:=vq;have z1:=fn0 Y;have z2:=qV y hl.2.1;have U:=ah (λW(_:Below w w W)=>fh0 Y hl.2.2 W);have V:=ah (λW(_:Below w w W)=>uK y hl.2.1 W);unfold iS;generalize bs a=s0 at z0 z⊢
 generalize bs (vY Y)=s1 at z1 U⊢
 generalize bs (Xg (y:Nat))=s2 at z2 V⊢
 refine Ml λy1 y2=>?_;have y3:¬9223372036854775807<s0.size+4+s1.size+1:=YN;have y4:¬9223372036854775807<s0.size+4+s1.size+1+s2.size:=YN;clear F D hl;go_enter func118,ntmps118;go_upto_region 1 with(fail)
 refine eG ?_;intro W1 ⟨hB,hx⟩;have Z:=ah hB;have I:=ah hx;have z:=kc hB z;have C:=kc hB C;refine Fs λaZ xF vR=>?_;clear hB hx;obtain⟨x0,x1,x2,x3,x4,x5⟩:=dW I.o;go_quiet (fail)
 go_upto_region 28 with(fail)
 refine Dg ?_;intro W2 hw;have G:=ah (ak Z.o hw);have z:=kc hw z;have C:=kc hw C;refine Mn λbh Ba ze=>?_;clear x0 x1 x2 x3 x4 x5;obtain⟨x0,x1,x2,x3,x4,x5⟩:=dW (aC I.o hw);clear hw;go_region_held3 (λw'=>w'.cell? (w 4 WY)=WX (Xo XO Y)/\w'.cell? (rb ro WY)=WX (Xp s0)/\w'.cell? (nb no WY)=WX (Xo XO y)) (go_simp)
  (first
    |(go_at_call 201;refine(U.o _ (a_ G.o)).m ?_;rintro e w3 ⟨rfl,A⟩;have O:=ak (a_ G.o) A;have iC:=dB A bh;have gl8:=dB A Ba;have Ul:=dB A ze;obtain⟨kg,nS⟩:=nH A)
    |(go_at_call 197;refine(V.o _ O).m ?_;rintro e w4 ⟨rfl,J⟩;have gm:=ak O J;obtain⟨jI,li⟩:=dr J))
 go_wp2_with fail
 go_ret;exact⟨rfl,gm⟩
def gv4(nm a:ar)(l:List ar)(rv nv:Xb)(Y:Nat)(U:Bool)(w:Xa)(D:bp w w rv (a::l))(hn:∃A n c,nv=YG A n c)(hl:a.length<=31/\1<=l.length/\l.length<=16/\∀x∈l,x.length<=31):iS 13 nm rv nv Y U w (bs a++bs [32,111,110,32]++bs (iL l)):=by
 obtain⟨rA,rn,rc,rfl,dM,jj,_⟩:=D.sk.form;obtain⟨nA,nn,nc,rfl⟩:=hn;obtain⟨rb,ro,rfl,bg,z⟩:=bp.cell D (j:=0) (x:=a) rfl;rw[Xt]at z;have hh0:l.length+1=rn:=dM;have ca:0<rn:=YN;have cQ:(0:Int)<rn:=YN;have Uy:(1:Int)<=rn:=YN;have ji:¬rc=1:=by have:=hl.2.1;omega
 have ug:(rn:Int)<=rc:=YN;have xE:1<=rn:=YN;have z0:(bs a).size<=31:=vq;have z1:=ZW hl.2.2;have O:=ah (λW(J:Below w w W)=>Vg _ l W (((fn1 D).below J (am _)).more J.size) (by have:=hl.2.2.1;omega) (λx hx=>by have:=hl.2.2.2 x hx;omega));unfold iS;generalize bs a=s0 at z0 z⊢
 generalize bs (iL l)=s1 at z1 O⊢
 refine Ml λy1 y2=>?_;clear D hl;go_enter func118,ntmps118;go_upto_region 1 with(fail)
 refine eG ?_;intro W1 ⟨C,hx⟩;have V:=ah C;have G:=ah hx;have z:=kc C z;have X:=blk_lt hx;have xF:rb<W1:=bt bg C.size;clear C hx;obtain⟨x0,x1,x2,x3,x4,x5⟩:=dW G.o;go_quiet (fail)
 go_upto_region 30 with(fail)
 refine Dg ?_;intro W2 y;have F:=ah (ak V.o y);have z:=kc y z;have bh:=bt X y.size;have Ba:=bt xF y.size;clear x0 x1 x2 x3 x4 x5;obtain⟨x0,x1,x2,x3,x4,x5⟩:=dW (aC G.o y);clear y;go_region_held3 (λw'=>w'.cell? (rb ro WY)=WX (Xp s0)) (go_simp)
  (first
    |(go_at_call 198;refine(O.o _ (a_ F.o)).m ?_;rintro e w3 ⟨rfl,I⟩;have Z:=ak (a_ F.o) I;obtain⟨kg,nS⟩:=nH I))
 go_wp2_with fail
 go_ret;exact⟨rfl,Z⟩
def gv5(nm a b:ar)(rv nv:Xb)(Y:Nat)(F:Bool)(w:Xa)(z:bp w w rv [a,b])(J:∃A n c,nv=YG A n c)(hl:a.length<=31/\b.length<=31):iS 14 nm rv nv Y F w (bs a++bs [32,98,101,102,111,114,101,32]++bs b):=by
 obtain⟨rA,rn,rc,rfl,dM,jj,_⟩:=z.sk.form;obtain⟨nA,nn,nc,rfl⟩:=J;obtain⟨rb,ro,rfl,bg,C⟩:=bp.cell z (j:=0) (x:=a) rfl;obtain⟨rb',ro',e',_,D⟩:=bp.cell z (j:=1) (x:=b) rfl;cases e';rw[Xt]at C;obtain rfl:2=rn:=dM;have O:(bs a).size<=31:=vq
 have U:(bs b).size<=31:=by rw[dd];exact hl.2
 unfold iS;generalize bs a=s0 at O C⊢
 generalize bs b=s1 at U D⊢
 have X:¬9223372036854775807<s0.size+8:=YN;have Z:¬9223372036854775807<s0.size+8+s1.size:=YN;clear z hl;go_enter func118,ntmps118;go_upto_region 1 with(fail)
 refine eG ?_;intro V ⟨y,hx⟩;have G:=ah y;have I:=ah hx;have C:=kc y C;have D:=kc y D;clear y hx;obtain⟨x0,x1,x2,x3,x4,x5⟩:=dW I.o;go_quiet (fail)
 go_upto_region 32 with(fail)
 go_quiet (fail)
 go_wp2_with fail
 go_ret;exact⟨rfl,pA (pA G.o _) _⟩
def gv6(nm:ar)(y:Nat)(rv nv:Xb)(Y:Nat)(J:Bool)(w:Xa)(X:∃A n c,rv=YG A n c)(D:aW w w nv [(y:Int)])(C:y<=1048576):iS 15 nm rv nv Y J w (bs (Xg (y:Nat))):=by
 obtain⟨rA,rn,rc,rfl⟩:=X;obtain⟨nA,nn,nc,rfl,cR,mJ,_⟩:=D.form;obtain⟨nb,no,rfl,lD,F⟩:=aW.cell D (j:=0) (x:=(y:Int)) rfl;rw[Xt]at F;obtain rfl:1=nn:=cR;have Z:=qV y C;have I:=ah (λW(_:Below w w W)=>uK y C W);unfold iS;generalize bs (Xg (y:Nat))=s0 at Z I⊢
 clear D C;go_enter func118,ntmps118;go_upto_region 1 with(fail)
 refine eG ?_;intro U ⟨z,hx⟩;have G:=ah z;have O:=ah hx;have F:=kc z F;have aZ:=blk_lt hx;have vR:nb<U:=bt lD z.size;clear z hx;obtain⟨x0,x1,x2,x3,x4,x5⟩:=dW O.o;go_quiet (fail)
 go_wp2_with(go_at_call 197;refine(I.o _ (pA G.o _)).m ?_;rintro e w3 ⟨rfl,V⟩)
 go_ret;exact⟨rfl,ak (pA G.o _) V⟩
def gv7(nm a:ar)(n0:Nat)(rv nv:Xb)(Y:Nat)(A:Bool)(w:Xa)(z:bp w w rv [a])(y:aW w w nv [(n0:Int)])(hl:a.length<=31/\n0<=1048576):iS 16 nm rv nv Y A w (bs a++bs [32]++bs (Xg (n0:Nat))):=by
 obtain⟨rA,rn,rc,rfl,dM,jj,_⟩:=z.sk.form;obtain⟨nA,nn,nc,rfl,cR,mJ,_⟩:=y.form;obtain⟨rb,ro,rfl,bg,q0⟩:=bp.cell z (j:=0) (x:=a) rfl;obtain⟨nb,no,rfl,lD,m0⟩:=aW.cell y (j:=0) (x:=(n0:Int)) rfl;rw[Xt]at q0;rw[Xt]at m0;obtain rfl:1=rn:=dM;obtain rfl:1=nn:=cR;have C:(bs a).size<=31:=vq;have D:=qV n0 hl.2;have iE:=ah (λW(_:Below w w W)=>uK n0 hl.2 W);unfold iS;generalize bs a=s0 at C q0⊢
 generalize bs (Xg (n0:Nat))=s1 at D iE⊢
 refine Mo λy1 y2=>?_;clear z y hl;go_enter func118,ntmps118;go_upto_region 1 with(fail)
 refine eG ?_;intro W1 ⟨hB,hx⟩;have HB:=ah hB;have HX:=ah hx;have q0:=kc hB q0;have m0:=kc hB m0;refine Fs λaZ xF vR=>?_;clear hB hx;obtain⟨x0,x1,x2,x3,x4,x5⟩:=dW HX.o;go_quiet (fail)
 go_upto_region 35 with(fail)
 exact Zc
def fl4{n a b:Int}(h:aD n a b=Xe):a<=n:=by simp[aD]at h;exact h.1
def fl5{n a b:Int}(h:aD n a b=Xe):n<=b:=by simp[aD]at h;exact h.2
def bp9{c:Nat->Bool}{n k:Nat}{b:Bool}(j:b=eF c n)(y:k<n)(h:c k=Xc):b=false:=by rw[j];exact uG y h
def bq0{c:Nat->Bool}{n:Nat}{b:Bool}(y:b=eF c n)(h:∀j,j<n->c j=Xe):b=true:=by rw[y];exact zw h
def fl6{m:aT}(h:fF m=Xe):m.sites.length<=4/\m.feeds.length<=16/\m.racks.length<=16/\m.machs.length<=16/\m.links.length<=12:=by unfold fF at h;simp only[Xh,decide_eq_true_eq]at h;obtain⟨⟨⟨⟨⟨⟨⟨h1,h2⟩,h3⟩,h4⟩,h5⟩,_⟩,_⟩,_⟩:=h;have:=Mr h1;have:=Mr h4;omega
def de6(m:aT)(v:MV)(w:Xa)(hv:m.In w w v):
 aR 37 #[YJ (m.cells v)] w (YH (ev m)):=by
 refine qP λSa sc hs cz bD Fa fc cC bT cG Ra rc hr ca cQ Ma mc hm cJ cD La lc hl cS du Ia ic hi dG ew Ua uc hu dH dC HS=>?_;have lJ:=ah hv;have jp:=ah (λW(y:Below w w W)=>fi1 m v W (lJ.o.to y (am _) y.size));rw[HS.o]at jp;have xq:=hv.is;rw[hi]at xq;have Ho:=hv.us;rw[hu]at Ho;have mh:=ah xq;have DR:=ah Ho;have HO:Hid (ev m=(fF m&&WZ (m.items.length<=8)&&WZ (m.rules.length<=40)&&aG m.dark m.sites.length&&aD m.slots 1 16&&aD m.reserve 0 (m.slots - 1)&&aD m.failures 0 7&&oZ (cY m)&&m.items.all (dN m)&&m.rules.all (dm m))):=ah rfl;generalize ev m=r at HO⊢
 obtain⟨so,UH⟩:∃q,fF m=q:=⟨_,rfl⟩;obtain⟨no,me⟩:∃q,oZ (cY m)=q:=⟨_,rfl⟩;obtain⟨ex,vN⟩:∃q,aG m.dark m.sites.length=q:=⟨_,rfl⟩;obtain⟨v1,fg⟩:∃q,aD m.slots 1 16=q:=⟨_,rfl⟩;obtain⟨v2,lG⟩:∃q,aD m.reserve 0 (m.slots - 1)=q:=⟨_,rfl⟩;obtain⟨v3,Bd⟩:∃q,aD m.failures 0 7=q:=⟨_,rfl⟩;obtain⟨ia,TR⟩:∃q,m.items.all (dN m)=q:=⟨_,rfl⟩;obtain⟨ra,Uz⟩:∃q,m.rules.all (dm m)=q:=⟨_,rfl⟩;rw[UH,me,vN,fg,lG,Bd,TR,Uz]at HO;have Al:=ah (show ia=eF (iY m.items (dN m)) m.items.length by rw[<-TR,Wy]);have gR:=ah (show ra=eF (iY m.rules (dm m)) m.rules.length by rw[<-Uz,Wy]);have BJ:=ah (λk x(h:m.items[k]?=WX x)=>(fq h:iY m.items (dN m) k=dN m x));have U:=ah (λk x(h:m.rules[k]?=WX x)=>(fq h:iY m.rules (dm m) k=dm m x));generalize iY m.items (dN m)=F1 at Al BJ;generalize iY m.rules (dm m)=F2 at gR U;have J:=ah UH;have M4:=ah me;have I7:=ah vN;have sN:=ah fg;have sO:=ah lG;have vg:=ah Bd;have gv:m.items.length<=9223372036854775807:=bQ dG ew;have nr:m.rules.length<=9223372036854775807:=bQ dH dC;clear UH me vN fg lG Bd TR Uz xq Ho;rw[HS.o];clear hv hs cC hr hm hl hi hu;go_enter func37,ntmps37;go_upto_region 1 with(fail)
 refine eG ?_;intro W1 ⟨aY,dq⟩;have bo:=ah aY;have G:=ah dq;have ti:=blk_lt dq;obtain⟨a0,a1,a2,a3,a4,a5,a6,a7,a8,a9,ez⟩:=eR dq;clear aY dq;cases so with
 |false=>
  go_wp2_with first
   |(go_at_call 119;refine zN ?_;rintro e w2 ⟨rfl,au⟩;rw[J.o];have cD:=aC G.o au;obtain⟨b0,b1,b2,b3,b4,b5,b6,b7,b8,b9,ru⟩:=eR cD;refine tr λaU=>?_;have C:=ah au;clear au cD)
  go_ret;exact⟨cd JQ,aU.o⟩
 |true=>
  have Ei:=fl6 J.o;by_cases q8:m.items.length<=8;rotate_left
  .have gr5:(8:Int)<(m.items.length:Int):=by omega
   have H8:=ah (show WZ (m.items.length<=8)=Xc by simp;omega);clear q8 Ei;go_wp2_with first
    |(go_at_call 119;refine zN ?_;rintro e w2 ⟨rfl,au⟩;rw[J.o];have cD:=aC G.o au;obtain⟨b0,b1,b2,b3,b4,b5,b6,b7,b8,b9,ru⟩:=eR cD;refine tr λaU=>?_;have C:=ah au;clear au cD)
    |(go_at_call 120;refine(Z.o w2 aU.o).m ?_;rintro e w3 ⟨rfl,z⟩;rw[M4.o];have V:=ah (ak C.o z);clear z)
   go_ret;exact⟨cd (by rw[HO.o,H8.o];simp),aU.o⟩
  have gr5:¬(8:Int)<(m.items.length:Int):=YN;have Z:=ah (λW(y:Below w w W)=>fm4 m v W (lJ.o.to y (am _) y.size) YN YN YN YN YN);rw[HS.o]at Z;have H8:=ah (show WZ (m.items.length<=8)=Xe by simp;omega);rw[H8.o]at HO;clear q8 Ei;by_cases X:m.rules.length<=40;rotate_left
  .have gr4:(40:Int)<(m.rules.length:Int):=by omega
   have FU:=ah (show WZ (m.rules.length<=40)=Xc by simp;omega);clear X;go_wp2_with first
    |(go_at_call 119;refine zN ?_;rintro e w2 ⟨rfl,au⟩;rw[J.o];have cD:=aC G.o au;obtain⟨b0,b1,b2,b3,b4,b5,b6,b7,b8,b9,ru⟩:=eR cD;refine tr λaU=>?_;have C:=ah au;clear au cD)
    |(go_at_call 120;refine(Z.o w2 aU.o).m ?_;rintro e w3 ⟨rfl,z⟩;rw[M4.o];have V:=ah (ak C.o z);clear z)
   go_ret;exact⟨cd (by rw[HO.o,FU.o];simp),aU.o⟩
  have gr4:¬(40:Int)<(m.rules.length:Int):=YN;have FU:=ah (show WZ (m.rules.length<=40)=Xe by simp;omega);rw[FU.o]at HO;clear X;cases no with
  |false=>
   go_wp2_with first
    |(go_at_call 119;refine zN ?_;rintro e w2 ⟨rfl,au⟩;rw[J.o];have cD:=aC G.o au;obtain⟨b0,b1,b2,b3,b4,b5,b6,b7,b8,b9,ru⟩:=eR cD;refine tr λaU=>?_;have C:=ah au;clear au cD)
    |(go_at_call 120;refine(Z.o w2 aU.o).m ?_;rintro e w3 ⟨rfl,z⟩;rw[M4.o];have V:=ah (ak C.o z);clear z)
   go_ret;exact⟨cd JQ,ak bo.o V.o⟩
  |true=>
   go_wp2_with first
    |(go_at_call 119;refine zN ?_;rintro e w2 ⟨rfl,au⟩;rw[J.o];have cD:=aC G.o au;obtain⟨b0,b1,b2,b3,b4,b5,b6,b7,b8,b9,ru⟩:=eR cD;refine tr λaU=>?_;have C:=ah au;clear au cD)
    |(go_at_call 120;refine(Z.o w2 aU.o).m ?_;rintro e w3 ⟨rfl,z⟩;rw[M4.o];have V:=ah (ak C.o z);clear z)
   go_loopw [3] (λi wr=>∃k:Nat,k<=m.items.length/\i=Xo XO k/\(∀j,j<k->F1 j=Xe)/\Below W1 W1 wr) (λi _=>m.items.length - (Xw i).toNat)
   case atStart=>exact⟨0,cb _,rfl,λj hj=>by omega,V.o⟩
   case round=>
    obtain⟨k,hk,rfl,cj,hB⟩:=hrel;have eO:=ah cj;have HB:=ah hB;refine nE λbm=>?_;have fN:=aC G.o hB;have cf:=ap (o:=5) fN rfl;clear cj hB;by_cases O:k<m.items.length
    .have dh:(0:Int)<=k:=by omega
     have bF:(k:Int)<m.items.length:=YN;obtain⟨x,hx⟩:∃x,m.items[k]?=WX x:=⟨_,Xd O⟩;have D:=ah ((BJ.o k x hx:F1 k=dN m x));obtain⟨b,o,cs,rfl,hb,_,⟨yo,rfl,KR,_⟩,bb⟩:=mh.o.at_ hx;have I:=ah (λW(y:Below w w W)=>fm6 m v x yo W (lJ.o.to y (am _) y.size) ((KR.below y (am _)).more y.size));rw[HS.o,em.vals_def]at I;refine bq2 λe0 e1 e2 e3 e4 e5 e6=>?_;simp only[Xt]at e0;refine bq3 λfP=>?_;obtain⟨b1,ay⟩:∃q,dN m x=q:=⟨_,rfl⟩;have Y:=ah ay;rw[ay]at D;clear bb hx KR ay fN e0 e1 e2 e3 e4 e5 e6;cases b1 with
     |false=>
      have HR:=ah (bp9 Al.o O D.o);go_upto_region 6 with(fail)
      refine gx (S:=Below wr wr) 8 8 (a_ (aj wr)) λhS=>?_;iterate 6 refine cL 8 32 ?_
      refine bC 6 λK A=>?_;go_simp;refine(I.o _ (ak bm.o hS)).m ?_;rintro e w4 ⟨rfl,F⟩;rw[Y.o];try go_simp
      refine A.o _ _ (ak hS F) λhS=>?_;clear A;refine aO ?_;refine iw 7 39 ?_;exact IV
     |true=>
      have jZ:=ah (show F1 k=Xe from D.o);go_upto_region 6 with(fail)
      refine gx (S:=Below wr wr) 8 8 (a_ (aj wr)) λhS=>?_;iterate 6 refine cL 8 32 ?_
      refine bC 6 λK A=>?_;go_simp;refine(I.o _ (ak bm.o hS)).m ?_;rintro e w4 ⟨rfl,F⟩;rw[Y.o];try go_simp
      refine A.o _ _ (ak hS F) λhS=>?_;clear A;refine aO ?_;refine iw 7 39 ?_;exact Zl
    .have bF:¬(k:Int)<m.items.length:=by omega
     have Hitems:=ah (bq0 Al.o λj hj=>eO.o j YN);go_wp2_with fail
     clear fN cf;go_loopw [4] (λi wr=>∃k:Nat,k<=m.rules.length/\i=Xo XO k/\(∀j,j<k->F2 j=Xe)/\Below W1 W1 wr) (λi _=>m.rules.length - (Xw i).toNat)
     case atStart=>exact⟨0,cb _,rfl,λj hj=>by omega,HB.o⟩
     case round=>
      obtain⟨k,hk,rfl,cj,hB⟩:=hrel;have eO:=ah cj;have HB:=ah hB;refine nE λbm=>?_;have fN:=aC G.o hB;have cf:=ap (o:=10) fN rfl;clear cj hB;by_cases O:k<m.rules.length
      .have dh:(0:Int)<=k:=by omega
       have bF:(k:Int)<m.rules.length:=YN;obtain⟨x,hx⟩:∃x,m.rules[k]?=WX x:=⟨_,Xd O⟩;have D:=ah ((U.o k x hx:F2 k=dm m x));obtain⟨b,o,cs,rfl,hb,_,⟨yo,rfl,KR,_⟩,bb⟩:=DR.o.at_ hx;have I:=ah (λW(y:Below w w W)=>fl3 m v x yo W (lJ.o.to y (am _) y.size) ((KR.below y (am _)).more y.size));rw[HS.o,ci.vals_def]at I;refine bq2 λe0 e1 e2 e3 e4 e5 e6=>?_;simp only[Xt]at e0;refine bq3 λfP=>?_;obtain⟨b1,ay⟩:∃q,dm m x=q:=⟨_,rfl⟩;have Y:=ah ay;rw[ay]at D;clear bb hx KR ay fN e0 e1 e2 e3 e4 e5 e6;cases b1 with
       |false=>
        have HR:=ah (bp9 gR.o O D.o);go_upto_region 11 with(fail)
        refine gx (S:=Below wr wr) 8 8 (a_ (aj wr)) λhS=>?_;iterate 6 refine cL 8 47 ?_
        refine bC 6 λK A=>?_;go_simp;refine(I.o _ (ak bm.o hS)).m ?_;rintro e w4 ⟨rfl,F⟩;rw[Y.o];try go_simp
        refine A.o _ _ (ak hS F) λhS=>?_;clear A;refine aO ?_;refine iw 7 54 ?_;exact IV
       |true=>
        have jZ:=ah (show F2 k=Xe from D.o);go_upto_region 11 with(fail)
        refine gx (S:=Below wr wr) 8 8 (a_ (aj wr)) λhS=>?_;iterate 6 refine cL 8 47 ?_
        refine bC 6 λK A=>?_;go_simp;refine(I.o _ (ak bm.o hS)).m ?_;rintro e w4 ⟨rfl,F⟩;rw[Y.o];try go_simp
        refine A.o _ _ (ak hS F) λhS=>?_;clear A;refine aO ?_;refine iw 7 54 ?_;exact Zl
      .have bF:¬(k:Int)<m.rules.length:=by omega
       have Hrules:=ah (bq0 gR.o λj hj=>eO.o j YN);obtain⟨g0,g1,g2,g3,g4,g5,g6,g7,g8,g9,D8⟩:=eR fN;clear fN;cases ex with
       |false=>exact Zm
       |true=>
        cases v1 with
        |false=>exact Zm
        |true=>
         have cz:=fl4 sN.o;have bD:=fl5 sN.o;have q1:IntKind.i64.wrap (m.slots - 1)=m.slots - 1:=XK _ YN;clear cz bD;cases v2 with
         |false=>exact Zm
         |true=>
          have HR:=ah (show r=v3 by rw[HO.o,Hitems.o,Hrules.o];simp);go_wp2_with first
           |(go_at_call 123;refine pZ ?_;rintro e w3 ⟨rfl,hw⟩;obtain rfl:=hw.symm;rw[I7.o])
           |(go_at_call 124;refine(Fw _ _ _ _).m ?_;rintro e w3 ⟨rfl,hw⟩;obtain rfl:=hw.symm;first|rw[sN.o]|rw[sO.o]|rw[vg.o])
          go_ret;exact⟨cd HR.o.symm,bm.o⟩
end
end Go.Proofs.YtpfienbhhhgpkaaGreatDoor
