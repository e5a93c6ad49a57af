/- A part of the proof. -/
import Derived.Test.YtpfienbhhhgpkaaGreatDoorQbx
import Derived.Test.YtpfienbhhhgpkaaGreatDoorQby
import Derived.Test.YtpfienbhhhgpkaaGreatDoorQbz
import Derived.Test.YtpfienbhhhgpkaaGreatDoorRows
set_option linter.defProp false
set_option linter.unusedVariables false
set_option linter.unusedSimpArgs false
set_option maxRecDepth 100000
set_option maxHeartbeats 32000000
open Option renaming some->WX,none->WY
open Decidable renaming decide->WZ
open Go renaming World->Xa,Value->Xb,Calls->Xq,TypeId->Xv,Addr->Yy
open Bool renaming false->Xc,true->Xe
open Go.RowKit renaming Hid->Xf
open And renaming intro->Xi
open Go.Proofs.Tryz renaming prog->Xn
open Go.Proofs renaming intOf->Xw
open Go.Value renaming int->Xo,string->Xp,slice->YG,bool->YH,agg->YJ
open Go.IntKind renaming i64->XO
open Go.Ending renaming returned->Ya
open ByteArray renaming size_append->Yo
open Go.OpenSpec renaming ofChange->Yu
namespace Go.Proofs.YtpfienbhhhgpkaaGreatDoor
section
open Go Go.RowKit Go.MapKept Go.Proofs.Tryz
def fs4(m:aT)(l:List Int)(z:Int)(acts:List aS)(U:MV)(Y V:Xb)(w:Xa)(fg:m.In w w U)(bA:aW w w Y l)(jA:bU 10 ws w w V acts):
 aR 12 #[YJ (m.cells U++ #[Y,Xo XO z,V])] w (YH (dV ⟨m,l,z,acts⟩)):=by
 obtain⟨C1,nc,wQ,rfl,gv,Um,_⟩:=bA.form;obtain⟨D1,c,tZ,rfl,vQ,Ty,_⟩:=jA.form;refine OR λS1 s1 cz F1 f1 bT R1 r1 ca M1 m1 cJ L1 l1 cS I1 i1 dG U1 u1 dH wH=>?_;have Jt:=ah (Hx wH.o (YG C1 nc wQ) (Xo XO z) (YG D1 c tZ));have BJ:=ah jA;have D:=ah (show ∀W,Below w w W->aR 33 #[YJ (m.cells U++ #[YG C1 nc wQ,Xo XO z,YG D1 c tZ])] W (YH (nU ⟨m,l,z,acts⟩))from λW A=>fs3 m U l z acts _ (YG D1 c tZ) W (fg.to A (am _) A.size) ((bA.below A (am _)).more A.size) YN);rw[Jt.o]at D⊢
 have HN:=ah vQ;have C:=ah (show dV ⟨m,l,z,acts⟩=(nU ⟨m,l,z,acts⟩&&WZ (acts.length<=1024)&&acts.all dx)from rfl);rw[vQ]at C;generalize dV ⟨m,l,z,acts⟩=res at C⊢
 generalize nU ⟨m,l,z,acts⟩=vo at C D;clear gv vQ bA jA fg cz bT ca cJ cS dG dH;go_enter func12,ntmps12;go_upto_region 1 with(fail)
 refine eG ?_;intro F ⟨aY,cJ⟩;have bo:=ah aY;have vj:=ah cJ;obtain⟨a0,V,a2,a3,a4,a5,a6,a7,a8,a9,ez,kC,mq,mr⟩:=jE cJ;clear aY cJ;cases vo with
 |false=>
  go_wp2_with(go_at_call 33;refine(D.o F bo.o).m ?_;rintro e w2 ⟨rfl,y⟩;have G:=ah (ak bo.o y);clear y)
  go_ret;exact⟨cd (by rw[C.o];rfl),G.o⟩
 |true=>
 by_cases hn:1024<c
 .have en:decide ((1024:Int)<(c:Int))=true:=by rw[decide_eq_true_eq];omega
  have Z:(1024:Int)<(c:Int):=YN;have HF:=ah (show WZ (c<=1024)=Xc from by rw[decide_eq_false_iff_not];omega);clear hn;go_wp2_with(go_at_call 33;refine(D.o F bo.o).m ?_;rintro e w2 ⟨rfl,y⟩;have G:=ah (ak bo.o y);have J:=aC vj.o y;obtain⟨d0,d1,d2,d3,d4,d5,d6,d7,d8,d9,JU,SY,S3,S4⟩:=jE J;clear y J)
  go_ret;exact⟨cd (by rw[C.o,HF.o];rfl),G.o⟩
 have en:WZ ((1024:Int)<(c:Int))=false:=R5;have Z:¬(1024:Int)<(c:Int):=YN;have HR:=ah (show res=acts.all dx from by rw[C.o,show WZ (c<=1024)=Xe from by rw[decide_eq_true_eq];omega];rfl);clear hn
 go_wp2_with(first
  |(go_at_call 33;refine(D.o F bo.o).m ?_;rintro e w2 ⟨rfl,y⟩;have G:=ah y;have J:=aC vj.o y;obtain⟨d0,d1,d2,d3,d4,d5,d6,d7,d8,d9,JU,SY,S3,S4⟩:=jE J;clear y J))
 go_loopw [3] (λi wr=>∃k:Nat,k<=c/\i=Xo XO k/\(∀a∈acts.take k,dx a=Xe)/\Below F F wr) (λi _=>c - (Xw i).toNat)
 case atStart=>exact⟨0,cb _,rfl,λa j=>by simp at j,G.o⟩
 case round=>
  obtain⟨k,hk,rfl,dE,hB⟩:=hrel;have HB:=ah hB;have uQ:=ah dE;clear dE;refine nE λbm=>?_;have jh:=aC vj.o hB;have Y:=ap (o:=13) jh rfl;clear hB;by_cases az:k<c
  .have dh:(0:Int)<=k:=by omega
   have bF:(k:Int)<c:=YN;obtain⟨x,hx⟩:∃x,acts[k]?=WX x:=⟨_,Xd kB⟩;obtain⟨b1,p1,Ca,rfl,ay,_,⟨KV,ME,rfl,fT⟩,bA⟩:=BJ.o.at_ hx;refine Va λdL j6 jN pw mV qs py D3 yV GI=>?_;simp only[Xt]at dL;have O:=ah (show ∀W,Below w w W->aR 34 #[YJ (x.cells KV ME)] W (YH (dx x))from λW A=>aa0 x KV ME W ((fT.below A (am _)).more A.size));simp only[aS.cells_def]at O;obtain⟨bw6,U4,cq0,rfl,_,_,_⟩:=fT.ms.form;obtain⟨bw7,U7,cq5,rfl,_,_,_⟩:=fT.ss.form;have mi:=ah (show dx x=Xc->acts.all dx=Xc from λh=>by rw[List.all_eq_false];exact⟨x,fK hx,by rw[h];simp⟩)
   have I:=ah (show dx x=Xe->∀a∈acts.take (k+1),dx a=Xe from λh a j=>by
    rw[XU,hx]at j;rcases List.mem_append.1 j with j|j
    .exact uQ.o a j
    .simp at j;rw[j];exact h)
   generalize dx x=vx at O mi I;clear bA hx fT;have fP:=ah (λW(h:Below wr wr W)=>(Xi (show W.cell? (w 13 WY)=WX (YG (WX (b1 p1 WY)) c tZ)from ap (aC jh h) rfl) (Xi (kc h dL) (Xi (kc h j6) (Xi (kc h jN) (Xi (kc h pw) (Xi (kc h mV) (Xi (kc h qs) (Xi (kc h py) (Xi (kc h D3) (Xi (kc h yV) (kc h GI))))))))))));clear jh;cases vx with
   |false=>
    go_wp2_with(first
     |(go_at_call 34;refine(O.o _ (by first|exact bm.o|exact a_ bm.o)).m ?_;rintro e w4 ⟨rfl,X⟩))
    go_ret;exact⟨cd (by rw[HR.o,mi.o yK]),ak bm.o X⟩
   |true=>
    go_wp2_with(first
     |(go_at_call 34;refine(O.o _ (by first|exact bm.o|exact a_ bm.o)).m ?_;rintro e w4 ⟨rfl,X⟩))
    exact⟨⟨k+1,by omega,by go_num,I.o yK,ak HB.o X⟩,by simp[Xw];omega⟩
  .have bF:¬(k:Int)<c:=by omega
   have HT:=ah (show acts.all dx=Xe from by rw[XM];intro a j;exact uQ.o a (by rw[Xu sR];exact j));go_wp2_with fail
   go_ret;exact⟨cd (by rw[HR.o,HT.o]),bm.o⟩
def tt(s:fz)(k:Nat):ar:=aE ((kD s.m).map jL)++eC s++[10]++aE ((s.acts.take k).map dy)
def fp6{s:fz}(h:dV s=Xe){k:Nat}(c:s.acts.length<=k):tt s k=kK s:=by unfold tt kK;rw[if_pos h,Xu c];simp[aE]
def fp7{s:fz}{k:Nat}{x:aS}(h:s.acts[k]?=WX x):tt s (k+1)=tt s k++dy x++[10]:=by unfold tt;rw[XU,h];simp[aE]
def bu8{m:aT}(h:qK m):(kD m).length<=900:=by have c:=h.sn.2;have j:=h.fn;have y:=h.rn;have z:=h.mn.2;have A:=h.ln;have C:=h.xn;have D:=h.un;unfold kD;simp only[Xm,Xl,XH];split<;>simp<;>omega
def bu9{x:aS}(h:dx x=Xe)(hx:x.Num):(dy x).length<=100000:=by
 obtain⟨h1,h2⟩:=Qj h;have:=ef7 x hx (by have:=uD h;omega) YN YN
 rwa [dd]at this
def bv0{s:fz}(h:jq s=Xe):s.control.length<=10:=by unfold jq at h;simp only[Xh,Ym,decide_eq_true_eq]at h;omega
def fp8{s:fz}(h:dV s=Xe)(C:∀a∈s.acts,a.Num)(k:Nat):(tt s k).length<=300000000:=by
 obtain⟨h1,h2,h3,h4,h5⟩:=If h;have D:=Mc (zq h1);have j:=gr8 101000 ((kD s.m).map jL) λx hx=>by obtain⟨d,hd,rfl⟩:=List.mem_map.1 hx;exact hn9 (D d hd)
 have y:=gr8 100000 ((s.acts.take k).map dy) λx hx=>by obtain⟨a,ha,rfl⟩:=List.mem_map.1 hx;have c:=List.mem_of_mem_take ha;exact bu9 (h5 a c) (C a c)
 have F:(eC s).length<=1000:=du6 (ak5 h1 h2).2 ⟨by omega,by omega⟩ (bv0 h2);have z:=bu8 (zq h1);rw[Xl]at j y;have A:(s.acts.take k).length<=1024:=JR;have G:(101000+1)*(kD s.m).length<=(101000+1)*900:=Nat.mul_le_mul_left _ z;have I:(100000+1)*(s.acts.take k).length<=(100000+1)*1024:=Nat.mul_le_mul_left _ A;unfold tt;simp only[Xm,XH];omega
def fp9(m:aT)(l:List Int)(c:Int)(acts:List aS)(v1:MV)(c1 Z:Xb)(w:Xa)(fg:m.In w w v1)(bA:aW w w c1 l)(V:bU 10 ws w w Z acts):
 aR 4 #[YJ (m.cells v1++ #[c1,Xo XO c,Z])] w (Xp (bs (kK ⟨m,l,c,acts⟩))):=by
 obtain⟨C1,nc,wQ,rfl,gv,Um,_⟩:=bA.form;obtain⟨D1,na,tZ,rfl,vQ,Ty,ch6⟩:=V.form;refine OR λS1 s1 cz F1 f1 bT R1 r1 ca M1 m1 cJ L1 l1 cS I1 i1 dG U1 u1 dH wH=>?_;have jp:=ah (λW(j:Below w w W)=>fs4 m l c acts v1 (YG C1 nc wQ) (YG D1 na tZ) W (fg.to j (am _) j.size) ((bA.below j (am _)).more j.size) (V.to ws.ab j (am _) j.size));have BJ:=ah V;have HN:=ah vQ;have rh:=ah (show ∀a∈acts,a.Num from λa ha=>by obtain⟨k,hk⟩:=List.mem_iff_getElem?.1 ha;obtain⟨b,o,cs,_,_,_,⟨ms,ss,rfl,hx⟩,_⟩:=V.at_ hk;exact hx.num);have uS:=ah (fun(D:ev m=Xe)W(j:Below w w W)=>gw0 m v1 W (fg.to j (am _) j.size) D);have wE:=ah (fun(hl:l.length<=10)(O:aP c)W(j:Below w w W)=>fp4 (YG S1 m.sites.length s1) (YG F1 m.feeds.length f1) (YG R1 m.racks.length r1) (YG M1 m.machs.length m1) (YG L1 m.links.length l1) (YG I1 m.items.length i1) (Xo XO m.dark) (Xo XO m.slots) (Xo XO m.reserve) (Xo XO m.failures) (YG U1 m.rules.length u1) (YG C1 nc wQ) (YG D1 na tZ) l c W ((bA.below j (am _)).more j.size) hl O m acts);rw[wH.o]at jp uS⊢
 clear gv vQ bA V fg cz bT ca cJ cS dG dH;obtain⟨vo,EO⟩:∃b,dV ⟨m,l,c,acts⟩=b:=⟨_,rfl⟩;rw[EO]at jp;have eO:=ah EO;clear EO;go_enter func4,ntmps4;go_upto_region 1 with(fail)
 refine eG ?_;intro W1 ⟨aY,cJ⟩;have bo:=ah aY;have vj:=ah cJ;obtain⟨a0,Z,a2,a3,a4,a5,a6,a7,a8,a9,ez,kC,mq,mr⟩:=jE cJ;clear aY cJ;cases vo with
 |false=>
  go_wp2_with(go_at_call 12;refine zN ?_;rintro e F ⟨rfl,C⟩;have A:=ah (ak bo.o C);clear C)
  go_ret;exact⟨lQ (by unfold kK;rw[eO.o];rfl),A.o⟩
 |true=>
  obtain⟨D,KE,O,cf5,xd⟩:=If eO.o;have J:aP c:=⟨by simp at O;omega,by simp at O;omega⟩;have Dw:=ah (uS.o D);have Y:=ah (wE.o (bv0 KE) J);have ct5:=ah xd;have DU:=ah (Mc (zq D));have cu8:=ah (bu8 (zq D));have HT:=ah (λk=>show(bs (tt ⟨m,l,c,acts⟩ k)).size<=300000000 from by rw[dd];exact fp8 eO.o rh.o k);have gk4:na<=1024:=by have:=HN.o;simp at cf5;omega
  have y:=ah (show bs (tt ⟨m,l,c,acts⟩ 0)=bs (aE ((kD m).map jL))++bs (eC ⟨m,l,c,acts⟩)++⟨#[10]⟩from by show _=_++_++bs [10];rw[eP,eP];exact congrArg bs (by unfold tt;simp[aE]));have z:=HT.o 0;rw[y.o,Yo,Yo]at z;have aZ:(⟨#[10]⟩:ByteArray).size=1:=rfl;rw[aZ]at z;clear aZ D KE O cf5 xd J uS wE;have kS:=ah (λv W h=>gt1 v (kD m) W h DU.o cu8.o);generalize aE ((kD m).map jL)=t0 at y kS z;generalize eC ⟨m,l,c,acts⟩=t1 at y Y z;generalize bs t0=s0 at y kS z;generalize bs t1=s1' at y Y z;have y1:¬9223372036854775807<s0.size+s1'.size:=YN;have y2:¬9223372036854775807<s0.size+s1'.size+1:=YN;go_upto_region 3 with(go_at_call 12;refine(jp.o W1 bo.o).m ?_;rintro e F ⟨rfl,C⟩;have A:=ah C;have I:=ah (aC vj.o C);clear C)
  clear a0 Z a2 a3 a4 a5 a6 a7 a8 a9 ez kC mq mr;have fP:=ah (λW(h:Below F F W)=>jE (aC I.o h));have Q2:=ah (ak bo.o A.o);refine gx (S:=Below F F) 8 9 (a_ (aj F)) λhS=>?_;iterate 2 refine rJ 9 8 ?_
  refine EX 4 12 ?_;refine bC 2 λK hK=>?_;go_simp;refine(Dw.o _ (ak Q2.o hS)).m ?_;rintro e w3 ⟨v3,rfl,jn,aN⟩;obtain⟨V3,n3,c3,rfl,_⟩:=jn.form;have ph:=ah jn;try go_simp
  refine hK.o _ _ (by exact ak hS aN) λhS=>?_;clear hK jn aN;refine aO ?_;refine bC 3 λK hK=>?_;go_simp;refine(kS.o _ _ ph.o).m ?_;rintro e w4 ⟨rfl,aQ⟩;try go_simp
  refine hK.o _ _ (by exact ak hS aQ) λhS=>?_;clear hK aQ;refine aO ?_;refine bC 5 λK hK=>?_;go_simp;refine(Y.o _ (ak Q2.o hS)).m ?_;rintro e w5 ⟨rfl,G⟩;try go_simp
  refine hK.o _ _ (by exact ak hS G) λhS=>?_;clear hK G;refine aO ?_;iterate 2 refine rJ 9 8 ?_
  refine eQ 8 λK hK=>?_;go_simp;refine il ?_;clear hK;refine aO ?_;refine gA ?_;rw[<-y.o];clear Dw Y kS fP ph y y1 y2 z;go_upto_region 5 with(fail)
  refine fe (λW=>Below W1 W1 W) (A.o.trans (hS.mono A.o.size)) ?_;intro W5 G;have bR:=ah G;clear G hS Q2 I A;go_loopw [3,4] (λs i wr=>∃k:Nat,k<=na/\i=Xo XO k/\s=Xp (bs (tt ⟨m,l,c,acts⟩ k))/\Below W1 W1 wr) (λ_ i _=>na - (Xw i).toNat)
  case atStart=>exact⟨0,cb _,rfl,rfl,bR.o⟩
  case round=>
   obtain⟨k,hk,rfl,rfl,hB⟩:=hrel;have HB:=ah hB;refine nE λbm=>?_;have by0:=ap (o:=13) (aC vj.o hB) rfl;have ep:=HT.o k;clear hB;by_cases az:k<na
   .have dh:(0:Int)<=k:=by omega
    have bF:(k:Int)<na:=YN;have fu:=ah az;obtain⟨x,hx⟩:∃x,acts[k]?=WX x:=⟨_,Xd kB⟩;obtain⟨b1,p1,Ca,rfl,ay,_,⟨KV,ME,rfl,fT⟩,bA⟩:=BJ.o.at_ hx;refine Va λdL j6 jN pw mV qs py D3 yV GI=>?_;simp only[Xt]at dL;have U:=ct5.o x (fK hx);have xz:=rh.o x (fK hx);have X:=ah (λW(j:Below w w W)=>fp2 x KV ME W ((fT.below j (am _)).more j.size) (by have:=(Qj U).1;omega) (by have:=(Qj U).2;omega));rw[show CE x=dy x from by unfold CE;rw[U];rfl]at X;simp only[aS.cells_def]at X;have bh:(bs (dy x)).size<=100000:=by rw[dd];exact bu9 U xz
    have lL:=ah (show bs (tt ⟨m,l,c,acts⟩ (k+1))=bs (tt ⟨m,l,c,acts⟩ k)++bs (dy x)++⟨#[10]⟩from by rw[fp7 (s:=⟨m,l,c,acts⟩) hx];show _=_++_++bs [10];rw[eP,eP]);obtain⟨bw6,U4,cq0,rfl,_,_,_⟩:=fT.ms.form;obtain⟨bw7,U7,cq5,rfl,_,_,_⟩:=fT.ss.form;generalize bs (dy x)=sx at X bh lL;generalize bs (tt ⟨m,l,c,acts⟩ k)=sk at ep lL;have y1:¬9223372036854775807<sk.size+sx.size:=YN;have y2:¬9223372036854775807<sk.size+sx.size+1:=YN;clear bA hx fT U xz;go_wp2_with(go_at_call 16;refine(X.o _ bm.o).m ?_;rintro e w4 ⟨rfl,aQ⟩)
    exact⟨⟨k+1,fu.o,by go_num,by rw[lL.o],ak HB.o aQ⟩,by have:=fu.o;simp[Xw];omega⟩
   .have bF:¬(k:Int)<na:=by omega
    have HE:=ah (fp6 eO.o (k:=k) sR);go_wp2_with fail
    go_ret;exact⟨lQ (by rw[HE.o]),bm.o⟩
def fu8{w:Xa}{B:Nat}{v:Xb}{acts:List aS}(h:bU 10 ws w B v acts)(z:∀x∈acts,x.ms.length<=1000000/\x.ss.length<=1000000):bU 10 xL w B v acts:=by obtain⟨A,c,rfl,h1,h2,h3⟩:=h;refine⟨A,c,rfl,h1,h2,λy=>?_⟩;obtain⟨b,o,rfl,hb,hc⟩:=h3 y;refine⟨b,o,rfl,hb,λj x hx=>?_⟩;obtain⟨cs,eh,⟨ms,ss,e1,e2⟩,za⟩:=hc j x hx;exact⟨cs,eh,⟨ms,ss,e1,e2,z x (fK hx)⟩,za⟩
def fu9{w:Xa}{base:Nat}{v:Xb}{l:List ar}(h:w.ownsRow base 9 1 v l.length (l.map jT)):bp w w v l:=by have c:=Sl.of_own h;unfold bp cB;rw[X5];exact c
def bs4:∀l:List ar,l.length<=(aE l).length
 |[]=>cb _
 |a::l=>by have:=bs4 l;have e:aE (a::l)=a++[10]++aE l:=B7;rw[e,Xm,Xm,XH,XV];omega
def fv0(s:ByteArray)(J:s.size<=100000)(W:Xa)(I:cV W):Xq Xn 10 #[s] W λe w'=>∃(y:aS)(c:Option Yy)(nm z:Nat)(j:Option Yy)(G A:Nat)(g:Int),e=Ya (.tuple #[YJ (y.cells (YG c nm z) (YG j G A)),g])/\(iX (cP s)=WY->g=3)/\((iX (cP s)).isSome=Xe->g=0)/\Below W W w':=by
 cases h:iX (cP s)with
 |none=>exact(ZL h J W I).mono λe w'⟨F,D⟩=>⟨bW 0,WY,0,0,WY,0,0,3,F,λ_=>rfl,λC=>by simp at C,D⟩
 |some y=>exact(bh6 h J W I).mono λe w'⟨c,nm,z,j,G,A,F,_,D⟩=>⟨y,c,nm,z,j,G,A,0,F,λC=>by simp at C,λ_=>rfl,D⟩
def QM{w w':Xa}{s:fz}{v:MV}{y j:Xb}(h:Mv w s v y j)(c:Below w w w'):Mv w' s v y j:=
 ⟨h.1.to c (am _) c.size,(h.2.1.below c (am _)).more c.size,h.2.2.to xL.ab c (am _) c.size⟩
def fv1{L:List ar}{j:Nat}{x:ar}(h:L[j]?=WX x):aE (L.take (j+1))=aE (L.take j)++(x++[10]):=by rw[XU,h];simp[aE]
def fv2{s:fz}(h:dV s=Xe):kK s=aE (cW s):=ah9 h
def fv3(m:aT)(l:List Int)(z:Int)(acts:List aS)(v1:MV)(c1 X:Xb)(at_:Nat)(gV:at_<=255)(line:ar)(w:Xa)(hG:iu w)(fg:m.In w w v1)(bA:aW w w c1 l)(jA:bU 10 ws w w X acts):
 aR 3 #[YJ (m.cells v1++ #[c1,Xo XO z,X]),.int .u8 at_,bs line] w (YH Xe):=by
 obtain⟨C1,nc,wQ,rfl,gv,Um,_⟩:=bA.form;obtain⟨D1,G,tZ,rfl,vQ,Ty,ch6⟩:=jA.form;refine OR λS1 s1 cz F1 f1 bT R1 r1 ca M1 m1 cJ L1 l1 cS I1 i1 dG U1 u1 dH wH=>?_;have Nn:=ah (Hx wH.o (YG C1 nc wQ) (Xo XO z) (YG D1 G tZ));have M7:=ah (λW(D:Below w w W)=>fp9 m l z acts v1 (YG C1 nc wQ) (YG D1 G tZ) W (fg.to D (am _) D.size) ((bA.below D (am _)).more D.size) (jA.to ws.ab D (am _) D.size));have Gr:=ah (λW(D:Below w w W)=>fn3 m l z acts v1 (YG C1 nc wQ) (YG D1 G tZ) W (fg.to D (am _) D.size) ((bA.below D (am _)).more D.size) (jA.to ws.ab D (am _) D.size));have QU:=ah (λW(h:cV W)=>fk3 W h);have HG:=ah hG;have rh:=ah (show ∀a∈acts,a.Num from λa ha=>by obtain⟨k,hk⟩:=List.mem_iff_getElem?.1 ha;obtain⟨b,o,cs,_,_,_,⟨ms,ss,rfl,hx⟩,_⟩:=jA.at_ hk;exact hx.num);have Nk:=ah (fun(cj:dV ⟨m,l,z,acts⟩=Xe)v2 c2 a2 W(D:Below w w W)(h2:Mv W ⟨m,l,z,acts⟩ v2 c2 a2)=>gv9 m l z acts v2 v1 c2 (YG C1 nc wQ) a2 (YG D1 G tZ) W h2.1 (fg.to D (am _) D.size) h2.2.1 ((bA.below D (am _)).more D.size) h2.2.2 ((fu8 jA (λx hx=>by have:=Qj ((If cj).2.2.2.2 x hx);omega)).to xL.ab D (am _) D.size));rw[Nn.o]at M7 Gr Nk⊢
 have HN:=ah vQ;have fO:=ah gV;obtain⟨T,hT⟩:∃q,kK ⟨m,l,z,acts⟩=q:=⟨_,rfl⟩;rw[hT]at M7;obtain⟨q1,g1⟩:∃b,((bs T).toList==[])=b:=⟨_,rfl⟩;obtain⟨q2,g2⟩:∃b,WZ ((16384:Int)<((bs T).size:Int))=b:=⟨_,rfl⟩;obtain⟨q3,g3⟩:∃b,WZ ((100:Int)<((bs line).size:Int))=b:=⟨_,rfl⟩
 have H1:=ah (show q1=Xc->dV ⟨m,l,z,acts⟩=Xe from λh=>by
  rcases Bool.eq_false_or_eq_true (dV ⟨m,l,z,acts⟩)with h9|h9
  .exact h9
  .exfalso;have e:kK ⟨m,l,z,acts⟩=[]:=by unfold kK;rw[h9];rfl
   rw[<-hT,e,h,gK,eS]at g1;exact absurd g1 aF)
 have H2:=ah (show q2=Xc->T.length<=16384 from λh=>by rw[h,decide_eq_false_iff_not,dd]at g2;omega);have H3:=ah (show q3=Xc->line.length<=100 from λh=>by rw[h,decide_eq_false_iff_not,dd]at g3;omega);have HT:=ah hT;clear gv vQ bA jA fg cz bT ca cJ cS dG dH hG hT gV;go_enter func3,ntmps3;go_upto_region 1 with(fail)
 refine eG ?_;intro W1 ⟨cA,fT⟩;have bk:=ah cA;have JB:=ah fT;obtain⟨a0,X,a2,a3,a4,a5,a6,a7,a8,a9,ez,kC,mq,mr⟩:=jE fT;clear cA fT;go_upto_region 2 with(go_at_call 4;refine(M7.o _ bk.o).m ?_;rintro e w2 ⟨rfl,au⟩;have aU:=ah (ak bk.o au);have sP:=ah (aC JB.o au);clear au)
 clear a0 X a2 a3 a4 a5 a6 a7 a8 a9 ez kC mq mr;obtain⟨a0,X,a2,a3,a4,a5,a6,a7,a8,a9,ez,kC,mq,mr⟩:=jE sP.o;go_upto_region 3 with(go_at_call 5;refine(Gr.o _ aU.o).m ?_;rintro e w3 ⟨b0,rfl,Hh,aN⟩;have bx:=ah (ak aU.o aN);have qp:=ah (aC sP.o aN);have BT:=ah Hh;clear aN Hh;(cases b0;rotate_left;cases q1;cases q2;cases q3))
 all_goals first
  |(go_wp2_with(go_at_call 6;refine(QU.o _ (HG.o.g.step bx.o)).m ?_;rintro e w9 ⟨rfl,J⟩);go_ret;exact⟨rfl,ak bx.o J⟩)
  |skip
 have cj:=H1.o yK;have Tk:=H2.o yK;have qC:=H3.o yK;have S8:=BT.o yK;have ce9:(aE (cW ⟨m,l,z,acts⟩)).length<=16384:=by rw[<-fv2 cj,HT.o];exact Tk
 have eO:=ah cj;have Gt:=ah ce9;have Gf:=ah qC;have FU:=ah S8;have xw:(bs line).size<=100:=by rw[dd];exact qC
 have ha7:(bs T).size<=16384:=by rw[dd];exact Tk
 clear a0 X a2 a3 a4 a5 a6 a7 a8 a9 ez kC mq mr g1 g2 g3 cj Tk qC S8 ce9 H1 H2 H3 BT Gr M7;go_upto_region 5 with(fail)
 go_loopw [8] (λi wr=>∃k:Nat,k<=(bs line).size/\i=Xo XO k/\dt 10 (line.take k)/\Below w3 w3 wr) (λi _=>(bs line).size - (Xw i).toNat)
 case atStart=>exact⟨0,cb _,rfl,(λx hx=>by simp at hx),aj w3⟩
 case round=>
  obtain⟨k,hk,rfl,me,V⟩:=hrel;have mi:=ah me;have di:=ah V;have bm:=ah (ak bx.o V);clear me V;by_cases az:k<(bs line).size
  .have dh:(0:Int)<=k:=by omega
   have bF:(k:Int)<(bs line).size:=YN;have Y:=ah az;obtain⟨x,hx⟩:∃x,line[k]?=WX x:=⟨_,Xd (by rw[dd]at az;exact az)⟩;have Bf:(bs line).data.toList[k]?=WX x:=by rw[eS];exact hx
   have HX:=ah (Mk Bf az);have rm:=ah (show line.take (k+1)=line.take k++[x]by rw[XU,hx];rfl);clear hx Bf;by_cases dD:x=10
   .have dL:((((bs line)[k]'az).toNat:Int)==10)=true:=by rw[HX.o,dD];rfl
    clear dD;go_wp2_with(go_at_call 6;refine(QU.o _ (HG.o.g.step bm.o)).m ?_;rintro e w9 ⟨rfl,J⟩)
    go_ret;exact⟨rfl,ak bm.o J⟩
   .have dL:((((bs line)[k]'az).toNat:Int)==10)=false:=by
     rw[HX.o,beq_eq_false_iff_ne];intro e
     exact dD (by have:x.toNat=10:=by omega
                  exact UInt8.toNat_inj.1 this)
    have IY:=ah dD;clear dD;go_wp2_with fail
    refine⟨⟨k+1,Y.o,by go_num,λy hy=>?_,di.o⟩,by have:=Y.o;simp[Xw];omega⟩;rw[rm.o]at hy;rcases List.mem_append.1 hy with hy|hy
    .exact mi.o y hy
    .rw[List.mem_singleton.1 hy];exact IY.o
  .have bF:¬(k:Int)<(bs line).size:=by omega
   have Ai:=ah (show dt 10 line from by have h:=mi.o;rw[Xu (by rw[dd]at az;omega)]at h;exact h);clear hk az;go_upto_region 9 with(fail)
   clear bF mi;refine fe (λW=>Below w3 w3 W) di.o ?_;intro W4 aQ;have bB:=ah (ak bx.o aQ);have wL:=ah (aC qp.o aQ);clear di bm aQ;have yt:=ah (λW=>fh4 (bs T) W YN);have oe:=ah (show bL (bs T).data.toList=cW ⟨m,l,z,acts⟩from by rw[eS,<-HT.o];exact ft7 eO.o);rw[oe.o]at yt;have Q5:=ah (ft8 eO.o);have Ec:(cW ⟨m,l,z,acts⟩).length=(cU ⟨m,l,z,acts⟩).length+1+acts.length:=ft9 _;obtain⟨L,hL⟩:∃q,cW ⟨m,l,z,acts⟩=q:=⟨_,rfl⟩;obtain⟨c,hc⟩:∃q,(cU ⟨m,l,z,acts⟩).length=q:=⟨_,rfl⟩;have cd2:L.length<=16384:=by have h1:=bs4 (cW ⟨m,l,z,acts⟩);have h2:=Gt.o;rw[<-hL];omega
   rw[hL]at yt Q5 Ec;rw[hc]at Q5 Ec;have hf7:L.length=c+1+G:=by rw[Ec];have:=HN.o;omega
   have HL:=ah hL;have HC:=ah hc;clear Ec hL hc oe;have wE:=ah (λv W(hv:bp W W v L)=>fp3 v L W hv YN);rw[Q5.o]at wE;go_upto_region 10 with(go_at_call 7;refine(yt.o _).m ?_;rintro e w5 ⟨vL,rfl,EG,bf⟩;have ph:=ah (fu9 EG);obtain⟨LA,Ln,Lc,rfl⟩:=el EG;have bR:=ah (ak bB.o bf);have RR:=ah (aC wL.o bf);clear EG bf)
   obtain⟨LA',Ln',Lc',gh6,On,he2,_⟩:=ph.o.sk.form;cases gh6;go_upto_region 11 with(go_at_call 8;refine(wE.o _ _ ph.o).m ?_;rintro e w6 ⟨rfl,bJ⟩;have cI:=ah (ak bR.o bJ);have bo9:=ah (aC RR.o bJ);have Ah:=ah bJ;clear bJ)
   obtain⟨a0,X,a2,a3,a4,a5,a6,a7,a8,a9,ez,kC,mq,mr⟩:=jE bo9.o;have gk4:G<=40:=by have h1:=FU.o;have h2:=HN.o;omega
   obtain⟨Z,Eu⟩:∃q,at_%(G+1)=q:=⟨_,rfl⟩;have dG:Z<=G:=by have:=Nat.mod_lt at_ (show 0<G+1 by omega);omega
   have r1:(at_:Int)%((G:Int)+1)=(Z:Int):=by rw[<-Eu];exact(Int.natCast_emod at_ (G+1)).symm
   have r2:Int.tmod (at_:Int) ((G:Int)+1)=(Z:Int):=by rw[<-Eu];exact(Int.ofNat_tmod at_ (G+1)).symm
   have r3:¬(G:Int)+1=0:=YN;have r5:IntKind.i64.wrap (at_:Int)=(at_:Int):=XK _ (by have:=fO.o;omega);have gg0:=fO.o;clear Eu;go_upto_region 14 with(fail)
   clear a0 X a2 a3 a4 a5 a6 a7 a8 a9 ez kC mq mr r1 r2 r3 r5 gg0;obtain⟨A,jC⟩:∃q,c+1+Z=q:=⟨_,rfl⟩;have G9:(c:Int)+1+(Z:Int)=(A:Int):=YN;have Of:A<=(cW ⟨m,l,z,acts⟩).length:=by rw[HL.o];omega
   have Jl:=ah (fu2 ⟨m,l,z,acts⟩ A line);have uV:=ah (λi=>show(we ⟨m,l,z,acts⟩ A line i).length<=16485 from by have h1:=fu1 ⟨m,l,z,acts⟩ A line i;have h2:=Gt.o;have h3:=Gf.o;omega);have Ng:=ah (fu3 ⟨m,l,z,acts⟩ A line Of);have pf:=ah (λi x(hx:L[i]?=WX x)=>fu4 ⟨m,l,z,acts⟩ A line i x Of (by rw[HL.o];exact hx));have DF:=ah (fu5 ⟨m,l,z,acts⟩ A line Of);obtain⟨U,hU⟩:∃q,aE (gd ⟨m,l,z,acts⟩ A line)=q:=⟨_,rfl⟩;have HU:=ah (show aE (gd ⟨m,l,z,acts⟩ ((cU ⟨m,l,z,acts⟩).length+1+Z) line)=U from by rw[HC.o,jC];exact hU);rw[HL.o,hU]at DF;generalize aE ((gd ⟨m,l,z,acts⟩ A line).take (A+1))=Qk at Ng pf DF;generalize we ⟨m,l,z,acts⟩ A line=PP at Jl uV Ng pf DF;rw[On]at DF;have nV:A<=Ln:=YN;have lq:=ah (show A=c+1+Z from jC.symm);clear hU Of jC;rw[G9];go_loopw [12,13] (λs i wr=>∃j:Nat,j<=Ln+1/\i=Xo XO j/\s=Xp (bs (if j<=Ln then PP j else U))/\Below w6 w6 wr) (λ_ i _=>Ln+1 - (Xw i).toNat)
   case atStart=>exact⟨0,cb _,rfl,by rw[if_pos (cb _),Jl.o];rfl,aj w6⟩
   case round=>
    obtain⟨j,hj,rfl,rfl,V⟩:=hrel;have di:=ah V;have bm:=ah (ak cI.o V);have QW:=ah (ak Ah.o V);clear V;by_cases az:j<=Ln
    .rw[if_pos az];have qy:(0:Int)<=j:=by omega
     have dh:(j:Int)<=Ln:=YN;have Y:=ah az;have aZ:(bs (PP j)).size<=16485:=by rw[dd];exact uV.o j
     have y1:¬9223372036854775807<(bs line).size+1:=YN;by_cases lY:j=A
     .have py:((j:Int)==(A:Int))=true:=by simp;omega
      have HQ:=ah (show bs (PP j)++(bs line++⟨#[10]⟩)=bs Qk from by show _++(_++bs [10])=_;rw[eP,eP,lY,Ng.o]);have EU:(bs Qk).size<=16600:=by have h:=congrArg ByteArray.size HQ.o;rw[Yo,Yo]at h;have h1:(⟨#[10]⟩:ByteArray).size=1:=rfl;omega
      have hJ:=ah lY;by_cases xr:j<Ln
      .have yV:(j:Int)<Ln:=by omega
       obtain⟨x,hx⟩:∃x,L[j]?=WX x:=⟨_,Xd (by rw[On];exact xr)⟩;obtain⟨xb,xo,rfl,eL,iB⟩:=bp.cell ph.o hx;have ck:=kc QW.o iB;have hN:=pf.o j x hx;rw[if_pos lY]at hN;have ga:=ah (show bs (Qk)++(bs x++⟨#[10]⟩)=bs (PP (j+1))from by show _++(_++bs [10])=_;rw[eP,eP,hN]);have ij:(bs x).size<=16485:=by exact bs5
       have y3:¬9223372036854775807<(bs x).size+1:=YN;generalize bs x=sx at ck iB ga ij y3;have y2:¬9223372036854775807<(bs (PP j)).size+((bs line).size+1):=YN;have y4:¬9223372036854775807<(bs (PP j)).size+((bs line).size+1)+(sx.size+1):=YN;clear lY hx iB hN;go_wp2_with fail
       exact⟨⟨j+1,by have:=Y.o;omega,by go_num,by rw[if_pos YN,<-ga.o,<-HQ.o],di.o⟩,by have:=Y.o;simp[Xw];omega⟩
      .have yV:¬(j:Int)<Ln:=by omega
       have TZ:Ln=j:=YN;have ga:=ah (show Qk=U from by have h:=DF.o;rw[TZ,if_pos lY]at h;exact h);have y2:¬9223372036854775807<(bs (PP j)).size+((bs line).size+1):=YN;clear lY;go_wp2_with fail
       exact⟨⟨j+1,by have:=Y.o;omega,by go_num,by rw[if_neg YN,<-ga.o,<-HQ.o],di.o⟩,by have:=Y.o;simp[Xw];omega⟩
     .have py:((j:Int)==(A:Int))=false:=by simp;omega
      have hJ:=ah lY;by_cases xr:j<Ln
      .have yV:(j:Int)<Ln:=by omega
       obtain⟨x,hx⟩:∃x,L[j]?=WX x:=⟨_,Xd (by rw[On];exact xr)⟩;obtain⟨xb,xo,rfl,eL,iB⟩:=bp.cell ph.o hx;have ck:=kc QW.o iB;have hN:=pf.o j x hx;rw[if_neg lY]at hN;have ga:=ah (show bs (PP j)++(bs x++⟨#[10]⟩)=bs (PP (j+1))from by show _++(_++bs [10])=_;rw[eP,eP,hN]);have ij:(bs x).size<=16485:=by exact bs5
       have y3:¬9223372036854775807<(bs x).size+1:=YN;generalize bs x=sx at ck iB ga ij y3;have y4:¬9223372036854775807<(bs (PP j)).size+(sx.size+1):=YN;clear lY hx iB hN;go_wp2_with fail
       exact⟨⟨j+1,by have:=Y.o;omega,by go_num,by rw[if_pos YN,<-ga.o],di.o⟩,by have:=Y.o;simp[Xw];omega⟩
      .have yV:¬(j:Int)<Ln:=by omega
       have TZ:Ln=j:=YN;have ga:=ah (show PP j=U from by have h:=DF.o;rw[TZ,if_neg lY]at h;exact h);clear lY;go_wp2_with fail
       exact⟨⟨j+1,by have:=Y.o;omega,by go_num,by rw[if_neg YN,<-ga.o],di.o⟩,by have:=Y.o;simp[Xw];omega⟩
    .rw[if_neg az];have dh:¬(j:Int)<=Ln:=by omega
     go_upto_region 20 with(fail)
     clear dh az hj Jl uV Ng pf DF;have gf5:(bs U).size<=20000:=by rw[dd,<-HU.o,QK];have h1:=Gt.o;have h2:=Gf.o;omega
     refine fe (λW=>Below w6 w6 W) di.o ?_;intro W7 gD;have f':=ah (ak cI.o gD);have Gx:=ah (aC bo9.o gD);have mQ:=ah (ak Ah.o gD);clear gD di bm QW;have DD:=ah (fu7 eO.o rh.o Gt.o Z (by have:=HN.o;simp only;omega) FU.o line Ai.o Gf.o);rw[HU.o,HC.o]at DD;have rg:=ah (fu6 eO.o Gt.o);rw[HL.o,HC.o]at rg;have yC:=ah (λW(h:iu W)=>bs2 U W h);have va:=ah (λW(h:iu W)=>bs2 (aE (L.take c)) W h);rw[rg.o]at va;have DE:=ah (λW(h:cV W)=>fv0 (bs line) YN W h);have rm:=ah (λj=>show(bs (aE (L.take j))).size<=16384 from by rw[dd];have h1:=Mw L j;have h2:=Gt.o;rw[HL.o]at h2;omega);have yl:=ah (show A=c+1+Z from lq.o);clear rg Ai HU nV G9;generalize bs U=bu at yC gf5⊢
     have H5:(oN U= .ok ⟨m,l,z,acts⟩/\(((bs line).toList==[])=Xe\/(((bs line).toList==[])=Xc/\∃h:0<(bs line).size,((((bs line)[0]'h).toNat:Int)==35)=Xe)))\/(((bs line).toList==[])=Xc/\∃h:0<(bs line).size,((((bs line)[0]'h).toNat:Int)==35)=Xc/\((iX (cP (bs line))=WY/\oN U= .error (c+2+Z,3))\/∃y,(iX (cP (bs line))).isSome=Xe/\oN U= .ok ⟨m,l,z,acts.take Z++y::acts.drop Z⟩)):=by
      have hM:=DD.o
      match line,hM with
      |[],hM=>exact .inl ⟨by rw[hM,if_pos (.inl rfl)],.inl (by rw[gK,eS];rfl)⟩
      |x::r,hM=>
       have hz:0<(bs (x::r)).size:=by rw[dd];simp
       have oK:(bs (x::r)).data.toList[0]?=WX x:=by rw[eS];rfl
       have hg:=Mk oK hz;have he:((bs (x::r)).toList==[])=false:=by rw[gK,eS];rfl
       by_cases mE:x=35
       .exact .inl ⟨by rw[hM,if_pos (.inr (by rw[mE];rfl))],.inr ⟨he,hz,by rw[hg,mE];rfl⟩⟩
       .refine .inr ⟨he,hz,by
         rw[hg,beq_eq_false_iff_ne];intro e
         exact mE (by have:x.toNat=35:=by omega
                      exact UInt8.toNat_inj.1 this),?_⟩
        rw[if_neg (by
         rintro(h|h)
         .cases h
         .exact mE (by injection h))]at hM
        cases hp:iX (cP (bs (x::r)))with
        |none=>rw[hp]at hM;exact .inl ⟨rfl,hM⟩
        |some y=>rw[hp]at hM;exact .inr ⟨y,rfl,hM⟩
     rcases H5 with⟨hr,hq⟩|⟨qe,hz,gr3,⟨EJ,hr⟩|⟨yN,cm3,hr⟩⟩
     focus
      rw[hr]at yC;clear hr DD;go_upto_region 21 with(go_at_call 9;refine(yC.o _ (HG.o.step f'.o)).m ?_;rintro e w8 ⟨I,vx,cx,ax,rfl,xH,_⟩;have fp:=xH.1;obtain⟨⟨Sx,sx,qD,cz,bD⟩,⟨Fx,fx,cC,bT,cG⟩,⟨Rx,rx,ii,ca,cQ⟩,⟨Mx,mx,np,cJ,cD⟩,⟨Lx,lx,eK,cS,du⟩,⟨Ix,ix,AR,dG,ew⟩,⟨Ux,ux,zk,dH,dC⟩⟩:=fp.cells;have Ru:=ah (oy m qD cC ii np eK AR zk);obtain⟨Cax,Cnx,Ccx,rfl,_,_,_⟩:=xH.2.1.form;obtain⟨Aax,Anx,Acx,rfl,w_,_,_⟩:=xH.2.2.form;have Gy:=ah (Hx Ru.o (YG Cax Cnx Ccx) (Xo XO z) (YG Aax Anx Acx));rw[Gy.o];have Ju:=ah xH;clear fp xH qD cC ii np eK AR zk cz bD bT cG ca cQ cJ cD cS du dG ew dH dC;have ee:=ah (ak f'.o I);have BY:=ah (aC Gx.o I);have BN:=ah (ak mQ.o I);clear I)
      refine IJ ?_;intro wx ⟨Bg,O⟩;have B0:=ah Bg;have kA:=ah (ak ee.o O);have bo4:=ah (QM Ju.o O);have BZ:=ah (aC BY.o O);have yp:=ah (ak BN.o O);clear Bg O Ju BY ee BN;go_upto_region 24 with(go_at_call 10;refine(DE.o _ (HG.o.g.step kA.o)).m ?_;rintro e zZ ⟨yy,Am,nm,cm,At,nt,ct,g,rfl,eU,jB,C⟩;simp only[aS.cells_def];have Re:=ah eU;have Rf:=ah jB;have kR:=ah (ak kA.o C);have yD:=ah (aC B0.o C);have BX:=ah (aC BZ.o C);have tM:=ah (ak yp.o C);have yr:=ah C;clear eU jB C)
      refine IJ ?_;intro wz ⟨zm,F⟩;have sG:=ah (ak kR.o F);have JD:=ah (aC yD.o F);have JC:=ah (aC BX.o F);have ym:=ah (ak tM.o F);have Rq:=ah (ak yr.o F);obtain⟨a0,X,a2,a3,a4,a5,a6,a7,a8,a9,ez,kC,mq,mr⟩:=jE JC.o;obtain⟨b0,b1,b2,b3,b4,b5,b6,b7,b8,b9,ru,AC,AD,AE⟩:=jE JD.o;clear zm F kR yD BX tM yr;have RK:=ah (λW(V:Below wx wx W)(hw:Below w w W)=>Nk.o eO.o _ _ _ W hw (QM bo4.o V));rw[Gy.o]at RK;rcases hq with qe|⟨qe,hz,gr3⟩;all_goals
       try have z0:(0:Int)<(bs line).size:=YN
       go_upto_region 30 with(go_at_call 11;refine(RK.o _ Rq.o sG.o).m ?_;rintro e QF ⟨rfl,Kf⟩;have Aa:=ah Kf;clear Kf)
       clear a0 X a2 a3 a4 a5 a6 a7 a8 a9 ez kC mq mr b0 b1 b2 b3 b4 b5 b6 b7 b8 b9 ru AC AD AE;refine fe (λW=>Below wz wz W) Aa.o ?_;intro W9 J;have jD:=ah (ak sG.o J);have Gc:=ah (ak ym.o J);clear J B0 BZ kA yp RK
     rotate_left 2
     focus
      rw[hr]at yC;have z0:(0:Int)<(bs line).size:=YN;have HQ:=ah EJ;clear EJ hr DD;go_upto_region 21 with(go_at_call 9;refine(yC.o _ (HG.o.step f'.o)).m ?_;rintro e w8 ⟨I,rfl⟩;simp only[Qq];have ee:=ah (ak f'.o I);have BY:=ah (aC Gx.o I);have BN:=ah (ak mQ.o I);clear I)
      refine IJ ?_;intro wx ⟨Bg,O⟩;have B0:=ah Bg;have kA:=ah (ak ee.o O);have BZ:=ah (aC BY.o O);have yp:=ah (ak BN.o O);clear Bg O BY ee BN;go_upto_region 24 with(go_at_call 10;refine(DE.o _ (HG.o.g.step kA.o)).m ?_;rintro e zZ ⟨yy,Am,nm,cm,At,nt,ct,g,rfl,eU,jB,C⟩;simp only[aS.cells_def];have Re:=ah eU;have Rf:=ah jB;have kR:=ah (ak kA.o C);have yD:=ah (aC B0.o C);have BX:=ah (aC BZ.o C);have tM:=ah (ak yp.o C);have yr:=ah C;clear eU jB C)
      refine IJ ?_;intro wz ⟨zm,F⟩;have sG:=ah (ak kR.o F);have JD:=ah (aC yD.o F);have JC:=ah (aC BX.o F);have ym:=ah (ak tM.o F);have Rq:=ah (ak yr.o F);obtain⟨a0,X,a2,a3,a4,a5,a6,a7,a8,a9,ez,kC,mq,mr⟩:=jE JC.o;obtain⟨b0,b1,b2,b3,b4,b5,b6,b7,b8,b9,ru,AC,AD,AE⟩:=jE JD.o;clear zm F kR yD BX tM yr;have fW:g=3:=Re.o HQ.o;subst fW;have cj4:((c+2+Z:Nat):Int)=(A:Int)+1:=by have:=yl.o;omega
      have lH:IntKind.i64.wrap ((A:Int)+1)=(A:Int)+1:=XK _ (by have:=yl.o;omega);have gj6:(((c+2+Z:Nat):Int)!=(A:Int)+1)=false:=by rw[cj4];simp
      go_upto_region 30 with(fail)
      clear cj4 lH gj6;clear a0 X a2 a3 a4 a5 a6 a7 a8 a9 ez kC mq mr b0 b1 b2 b3 b4 b5 b6 b7 b8 b9 ru AC AD AE;refine fe (λW=>Below wz wz W) (aj wz) ?_;intro W9 J;have jD:=ah (ak sG.o J);have Gc:=ah (ak ym.o J);clear J B0 BZ kA yp
     rotate_left
     focus
      rw[hr]at yC;have z0:(0:Int)<(bs line).size:=YN;have HQ:=ah cm3;clear cm3 hr DD;go_upto_region 21 with(go_at_call 9;refine(yC.o _ (HG.o.step f'.o)).m ?_;rintro e w8 ⟨I,vx,cx,ax,rfl,xH,_⟩;have fp:=xH.1;obtain⟨⟨Sx,sx,qD,cz,bD⟩,⟨Fx,fx,cC,bT,cG⟩,⟨Rx,rx,ii,ca,cQ⟩,⟨Mx,mx,np,cJ,cD⟩,⟨Lx,lx,eK,cS,du⟩,⟨Ix,ix,AR,dG,ew⟩,⟨Ux,ux,zk,dH,dC⟩⟩:=fp.cells;have Ru:=ah (oy m qD cC ii np eK AR zk);obtain⟨Cax,Cnx,Ccx,rfl,_,_,_⟩:=xH.2.1.form;obtain⟨Aax,Anx,Acx,rfl,w_,_,_⟩:=xH.2.2.form;have Gy:=ah (Hx Ru.o (YG Cax Cnx Ccx) (Xo XO z) (YG Aax Anx Acx));rw[Gy.o];have Ju:=ah xH;clear fp xH qD cC ii np eK AR zk cz bD bT cG ca cQ cJ cD cS du dG ew dH dC;have ee:=ah (ak f'.o I);have BY:=ah (aC Gx.o I);have BN:=ah (ak mQ.o I);clear I)
      refine IJ ?_;intro wx ⟨Bg,O⟩;have B0:=ah Bg;have kA:=ah (ak ee.o O);have bo4:=ah (QM Ju.o O);have BZ:=ah (aC BY.o O);have yp:=ah (ak BN.o O);clear Bg O Ju BY ee BN;have cf8:(G:Int)+1=(Anx:Int):=by have h1:=HN.o;simp only[Xm,XV,XQ,XG]at w_;omega
      go_upto_region 24 with(go_at_call 10;refine(DE.o _ (HG.o.g.step kA.o)).m ?_;rintro e zZ ⟨yy,Am,nm,cm,At,nt,ct,g,rfl,eU,jB,C⟩;simp only[aS.cells_def];have Re:=ah eU;have Rf:=ah jB;have kR:=ah (ak kA.o C);have yD:=ah (aC B0.o C);have BX:=ah (aC BZ.o C);have tM:=ah (ak yp.o C);have yr:=ah C;clear eU jB C)
      refine IJ ?_;intro wz ⟨zm,F⟩;have sG:=ah (ak kR.o F);have JD:=ah (aC yD.o F);have JC:=ah (aC BX.o F);have ym:=ah (ak tM.o F);have Rq:=ah (ak yr.o F);obtain⟨a0,X,a2,a3,a4,a5,a6,a7,a8,a9,ez,kC,mq,mr⟩:=jE JC.o;obtain⟨b0,b1,b2,b3,b4,b5,b6,b7,b8,b9,ru,AC,AD,AE⟩:=jE JD.o;clear zm F kR yD BX tM yr;have fW:g=0:=Rf.o HQ.o;subst fW;have lH:IntKind.i64.wrap ((G:Int)+1)=(G:Int)+1:=XK _ YN;have gf8:((Anx:Int)!=(G:Int)+1)=false:=by rw[<-cf8];simp
      go_upto_region 30 with(fail)
      clear lH cf8 gf8;clear a0 X a2 a3 a4 a5 a6 a7 a8 a9 ez kC mq mr b0 b1 b2 b3 b4 b5 b6 b7 b8 b9 ru AC AD AE;refine fe (λW=>Below wz wz W) (aj wz) ?_;intro W9 J;have jD:=ah (ak sG.o J);have Gc:=ah (ak ym.o J);clear J B0 BZ kA yp
     all_goals
      go_upto_region 32 with(fail)
      go_loopw [19,20] (λs i wr=>∃j:Nat,j<=c/\i=Xo XO j/\s=Xp (bs (aE (L.take j)))/\Below W9 W9 wr) (λ_ i _=>c - (Xw i).toNat)
      case atStart=>exact⟨0,cb _,rfl,rfl,aj W9⟩
      case round=>
       obtain⟨j,hj,rfl,rfl,V⟩:=hrel;have di:=ah V;have bm:=ah (ak jD.o V);have BO:=ah (ak Gc.o V);have aZ:=rm.o j;clear V;by_cases az:j<c
       .have qy:(0:Int)<=j:=by omega
        have dh:(j:Int)<c:=YN;have bF:(j:Int)<Ln:=YN;have Y:=ah az;obtain⟨x,hx⟩:∃x,L[j]?=WX x:=⟨_,Xd (by rw[On];omega)⟩;obtain⟨xb,xo,rfl,eL,iB⟩:=bp.cell ph.o hx;have ck:=kc BO.o iB;have ga:=ah (show bs (aE (L.take (j+1)))=bs (aE (L.take j))++(bs x++⟨#[10]⟩)from by show _=_++(_++bs [10]);rw[eP,eP,fv1 hx]);have ij:(bs x).size<=16384:=by have h:=congrArg ByteArray.size ga.o;rw[Yo,Yo]at h;have h1:=rm.o (j+1);omega
        generalize bs x=sx at ck iB ga ij;have y3:¬9223372036854775807<sx.size+1:=YN;have y4:¬9223372036854775807<(bs (aE (L.take j))).size+(sx.size+1):=YN;clear hx iB;go_wp2_with fail
        exact⟨⟨j+1,by have:=Y.o;omega,by go_num,by rw[ga.o],di.o⟩,by have:=Y.o;simp[Xw];omega⟩
       .have dh:¬(j:Int)<c:=by omega
        have gj3:j=c:=YN;subst gj3;have gy7:((((j+1:Nat):Nat):Int)==(j:Int)+1)=true:=YQ;have up:IntKind.i64.wrap ((j:Int)+1)=(j:Int)+1:=XK _ YN
        go_wp2_with(first
         |(go_at_call 9;refine(va.o _ (HG.o.step bm.o)).m ?_;rintro e w8 ⟨I,rfl⟩;simp only[Qq];have ee:=ah (ak bm.o I);clear I)
         |(go_at_call 6;refine(QU.o _ (HG.o.g.step ee.o)).m ?_;rintro e w9 ⟨rfl,J⟩))
        go_ret;exact⟨rfl,ak ee.o J⟩
end
section
open Go Go.RowKit Go.ChangeShapes Go.WideShapes Go.ChangeAt Go.Proofs.Tryz
open Go.ChangeMaps (open_string shut_string)
section
variable {H:Type} {enc:Xv×Xb->H}
def ft0{a:Assume}{C:Checked}{os:Os}{f:FuncId}{fn:Func}{s:ChangeSpec}{conds:List PathCond}{apart fresh handsOn again:Bool}{X:Xa->Array Xb->Prop}
 (I:∀(w w':Xa)(args:Array Xb),w.heap=w'.heap->X w args->X w' args)
 (A:ownKnob C.prog.godebug=WY)(started:os.Started)(noInit:C.prog.inits.idxOf? f=WY)(F:C.prog.funcs[f]?=WX fn)
 (witness:∃(w:Xa)(tape:Tape)(i:Input),w.os=os/\(w.forCall tape i).Shaped C.prog/\i.vars=[]/\Input.okWide C.prog (w.forCall tape i) .any w f i/\
   ((s.pre enc C.prog fn conds apart (w.forCall tape i).memory i.args/\X (w.forCall tape i).memory i.args)/\sizedMet enc C.prog fn (Yu s) apart (w.forCall tape i).memory i.args)/\a.holds C.prog (lone (Frame.enter C.prog f i.args .normal) [] (w.forCall tape i)))
 (contract:∀(W:Xa)(base:Nat)(args:Array Xb)(ds z:List (DataW H))(before:List MemPlace),
   (∀(j:Nat)t v,fn.params[j]?=WX t->args[j]?=WX v->Value.okWide C.prog W .any base t v)->
   DataW.Whole enc C.prog fn.params.toList s.vars apart W args.toList ds z before->
   W.ShapedOpen C.prog->X W args->
   Xq C.prog f args W λe D=>∃v,e=Ya v/\s.post enc C.prog fn apart fresh handsOn again W args v D):
 ReturnsInHanded a C os f .any (λw args=>(s.pre enc C.prog fn conds apart w args/\X w args)/\sizedMet enc C.prog fn (Yu s) apart w args) (s.post enc C.prog fn apart fresh handsOn again):=by
 refine returnsInHanded_of_calls A started noInit witness ?_;intro w tape i _ U _ G c hholds;obtain⟨_,_,_,fn',gi1,_,_,_,_,uj⟩:=G;have e:fn'=fn:=XY (gi1.symm.trans F);subst e;obtain⟨⟨⟨ds,z,before,hw,hc⟩,hx⟩,hz⟩:=c;have y:=DataW.Whole.of_heap (w':=w.forCall tape i) b_ hw;refine(contract (w.forCall tape i) w i.args ds z before uj y U (I _ _ _ b_ hx)).mono λe D⟨v,J,O⟩=>?_;subst J;exact ChangeSpec.post_blind O
end
def ft1:Tryz.prog.globalNamed "internal/strconv.uint64pow10" =WX 1:=aI
def ft2:(Tryz.prog.globals[1]?).map (·.type)=WX 302:=aI
def bs9:Tryz.prog.globalNamed "strconv.ErrRange" =WX 6:=aI
def ft3:(Tryz.prog.globals[6]?).map (·.type)=WX 164:=aI
def bt0:Tryz.prog.globalNamed "strconv.ErrSyntax" =WX 5:=aI
def ft4:(Tryz.prog.globals[5]?).map (·.type)=WX 164:=aI
def ft5:Tryz.prog.globalNamed "strings.asciiSpace" =WX 4:=aI
def ga9:(Tryz.prog.globals[4]?).map (·.type)=WX 305:=aI
def bt1:Tryz.prog.cellsOf 9=1:=aI
def bt2:Tryz.prog.cellsOf 349=1:=aI
def gb0:Tryz.prog.cellsOf 270=1:=aI
def gb1:Tryz.prog.cellsOf 302=20:=aI
def gb2:Tryz.prog.cellsOf 5=1:=aI
def gb3:Tryz.prog.cellsOf 305=256:=aI
def bt3: "*" ++ "errors.errorString" = "*errors.errorString" :=aF
def bt4(u:Xv)(h:Tryz.prog.typeName? 3 u=WX "*errors.errorString"):u=347:=
 typeName_ptr_named (nm:= "errors.errorString") (by rw[bt3];kernel_rfl) aI aF u (by rw[bt3];exact h)
def gb4{W:Xa}(h:laidMetH Xn Rows.scenarioLinesRow.laid W)(G:W.ShapedOpen Xn):iu W:=by
 rw[MakeChecks.laidMetH_plain _ _ _ aI]at h;have j:=laidMet.tail (laidMet.tail h);have y:=laidMet.tail (laidMet.tail j);have z:=laidMet.tail y;have C:=laidMet.tail (laidMet.tail z);have F:Lib.TabIs Xn W "internal/strconv.uint64pow10" .u64 Lib.pow10Tab:=Lib.tabIs_of_head ft1 ft2 underlying302 underlying270 gb0 gb1 j;have D:Lib.TabIs Xn W "strings.asciiSpace" .u8 Lib.asciiSpaceTab:=Lib.tabIs_of_head ft5 ga9 underlying305 underlying5 gb2 gb3 C;obtain⟨a1,s1,fg,_⟩:=laid_sentinel y bs9 ft3 underlying164 bt4 underlying347 underlying349 rfl rfl X0 bt2 bt1;obtain⟨a2,s2,lG,_⟩:=laid_sentinel z bt0 ft4 underlying164 bt4 underlying347 underlying349 rfl rfl X0 bt2 bt1;have c:∃m,W.cell? ⟨0,0,WY⟩=WX (Xo XO m):=cell_of_shapedOpen_int G (by decide+kernel) (zero:= #[Xo XO 0]) (t:=3) aI rfl aI aI Xj;have A:9<W.heap.size:=by
  obtain⟨ps,⟨g,t,cs,fuel,p,q,hg,ht,hv,_⟩,_⟩:=laidMet.tail h;obtain rfl:=XY ((show Tryz.prog.globalNamed "math/bits.deBruijn64tab" =WX 9 by kernel_rfl).symm.trans hg);unfold World.var? at hv;rw[hg]at hv;simp only[Option.bind_some]at hv;rcases XN 9 W with h|h
  .exact h
  .rw[Array.getElem?_eq_none h]at hv;cases hv
 exact⟨⟨F,c,⟨_,_,by simpa using World.var?_cell bt0 lG 0⟩,⟨_,_,by simpa using World.var?_cell bs9 fg 0⟩,by have:=A;omega⟩,D⟩
def gb5:ownKnob Tryz.prog.godebug=none:=aI
def gb6(H:Type)(enc:Xv×Xb->H)(W:Xa)(base:Nat)(args:Array Xb)(ds J:List (DataW H))(before:List MemPlace)
 (G:∀(j:Nat)t v,Tryz.f3.params[j]?=WX t->args[j]?=WX v->Value.okWide Xn W .any base t v)
 (D:DataW.Whole enc Xn Tryz.f3.params.toList Rows.scenarioLinesSpec.vars Xc W args.toList ds J before)(U:laidMetH Xn Rows.scenarioLinesRow.laid W)(pO:W.ShapedOpen Xn):
 Xq Xn 3 args W λe z=>∃v,e=Ya v/\Rows.scenarioLinesSpec.post enc Xn Tryz.f3 Xc Xe Xc Xc W args v z:=by
 have y:∀(j:Nat)t v,Tryz.f3.params[j]?=WX t->args[j]?=WX v->Value.okWide Xn W .any base t v:=G;have c:=D;obtain⟨p,q,ge0,hV,rfl,_,_⟩:=D;have C:DataW.TrodAll enc Xn W 0 (λ_=>Xe) Xe Tryz.f3.params.toList args.toList ds p:=ge0;rw[Tryz.params3]at C y;obtain⟨v0,hn6,d0,gy4,p0,q0,cf9,rfl,rfl,h0,r0⟩:=trodAll_cons C;obtain⟨v1,hn7,d1,gy5,p1,q1,rfl,rfl,rfl,h1,r1⟩:=trodAll_cons r0;obtain⟨v2,hn8,d2,gy6,p2,q2,rfl,rfl,rfl,h2,r2⟩:=trodAll_cons r1;obtain⟨rfl,rfl,rfl⟩:=trodAll_nil r2;obtain rfl:args= #[v0,v1,v2]:=by cases args;simp_all
 obtain⟨rfl,rfl⟩:=trodVars_none hV;have I:=c.lt;have vH:=h2;obtain⟨s,rfl,rfl,rfl,hs⟩:=open_string X0 (y 2 9 v2 rfl rfl) vH;have ng:=h1;obtain⟨n,rfl,rfl,rfl,hn⟩:=open_int underlying5 (y 1 5 v1 rfl rfl) ng;obtain⟨m,l,cl,acts,mv,cv,av,rfl,hm,A,_,ha⟩:=fs9 (y 0 33 v0 rfl rfl) h0;have O:iu W:=gb4 U pO;obtain⟨t,rfl⟩:∃t,s=bs t:=⟨s.data.toList,(lv s).symm⟩;have X:=bounds_u8 hn;obtain⟨k,rfl⟩:∃k:Nat,n=(k:Int):=⟨n.toNat,by omega⟩;refine(fv3 m l cl acts mv cv av k YN t W O hm A ha).mono λe z⟨V,F⟩=>?_;subst V;have T:∀{t v d ps},DataW.Trod enc Xn W 0 (λ_=>Xe) Xe t v d ps->t<Tryz.prog.types.size->Tryz.prog.readableRec t=Xe->(∀x∈ps,x.block<W)->DataW.Trod enc Xn z 0 (λb=>WZ (b<W)) Xe t v d ps:=
  λh Z Y A=>Below.trod aI Y Z h F A
 exact⟨_,rfl,_,_,_,[],_,[],c,trodAll_mk1 (shut_bool underlying4 _),trodAll_cons_mk (T h0 (of_decide_eq_true aI) aI (λx hx=>I x AB)) (trodAll_cons_mk (T h1 (of_decide_eq_true aI) aI (λx hx=>by cases hx)) (trodAll_cons_mk (T h2 (of_decide_eq_true aI) aI (λx hx=>by cases hx)) trodAll_mk0)),rfl,F.frame _,λh=>by cases h⟩
def gb7(os:Os)(started:os.Started)(H:Type)(enc:Xv×Xb->H):
 ReturnsInHanded {} Tryz.checked os 3 .any (λw args=>(Rows.scenarioLinesSpec.pre enc Xn Tryz.f3 [] Xc w args/\laidMetH Xn Rows.scenarioLinesRow.laid w)/\sizedMet enc Xn Tryz.f3 (Yu Rows.scenarioLinesSpec) Xc w args)
  (Rows.scenarioLinesSpec.post enc Xn Tryz.f3 Xc Xe Xc Xc):=by
 refine ft0 (C:=Tryz.checked) (X:=λw _=>laidMetH Xn Rows.scenarioLinesRow.laid w) (λ_ _ _ A h=>h.of_heap A) gb5 started aI func3
  (ChangeSpec.witness_shaped (enc:=enc) (C:=Tryz.checked) (os:=os) (X:=λw _=>laidMetH Xn Rows.scenarioLinesRow.laid w) Xc (World.laidAll Xn os Rows.scenarioLinesRow.laid) #[YJ #[YG WY 0 0,YG WY 0 0,YG WY 0 0,YG WY 0 0,YG WY 0 0,YG WY 0 0,Xo XO 0,Xo XO 0,Xo XO 0,Xo XO 0,YG WY 0 0,YG WY 0 0,Xo XO 0,YG WY 0 0],.int .u8 0,Xp ⟨#[]⟩] 8 (World.laidAll_os _ _ _)
    (World.shaped_of_ZipB aI aI) aI aI aI
    (by rw[MakeChecks.laidMetH_plain _ _ _ aI];exact laidMet_laidAll _ aI aI)) ?_
 intro W base args ds j before c z D y;exact gb6 H enc W base args ds j before c z y D
end
end Go.Proofs.YtpfienbhhhgpkaaGreatDoor
