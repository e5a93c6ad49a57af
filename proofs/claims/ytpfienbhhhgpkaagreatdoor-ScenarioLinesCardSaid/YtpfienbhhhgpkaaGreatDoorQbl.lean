/- A part of the proof. -/
import Derived.Test.YtpfienbhhhgpkaaGreatDoorQbj
set_option linter.defProp false
set_option linter.unusedVariables false
set_option linter.unusedSimpArgs false
set_option maxRecDepth 100000
set_option maxHeartbeats 32000000
open Option renaming some->WX,none->WY
open Go renaming World->Xa,Value->Xb,Calls->Xq,TypeId->Xv,maxLen->XF
open Bool renaming false->Xc,true->Xe
open Go.RowKit renaming Hid->Xf
open And renaming intro->Xi
open Go.Proofs.Tryz renaming prog->Xn,underlying238->Yl
open Go.Value renaming int->Xo,string->Xp,slice->YG,bool->YH,agg->YJ
open Go.IntKind renaming i64->XO
open Go.Ending renaming returned->Ya
open Go.Obj renaming cells->YI
open Go.Operand renaming tmp->YL,const->YM
namespace Go.Proofs.YtpfienbhhhgpkaaGreatDoor
section
open Go Go.RowKit Go.Proofs.Tryz
def ep0(w:Xa)(pb B:Nat):sE w pb B (.func (.func 222) #[aq pb] #[]) .classes:=FJ (x:= .classes) (Xk func222 aI rfl) (λW B M p c j=>et8 pb B M p W c j) w B
def LV(F:Xa)(pb B:Nat):List Xb->List kF->Prop
 |[],[]=>True
 |u::us,x::l=>sE F pb B u x/\LV F pb B us l
 |_,_=>False
def LV.get{F:Xa}{pb B:Nat}:∀{us:List Xb}{l:List kF},LV F pb B us l->us.length=l.length/\∀(j:Nat)x,l[j]?=WX x->∃u,us[j]?=WX u/\sE F pb B u x
 |[],[],_=>⟨rfl,λj x h=>by simp at h⟩
 |[],_::_,h=>h.elim
 |_::_,[],h=>h.elim
 |u::us,y::l,h=>by
  obtain⟨h1,h2⟩:=LV.get h.2;refine⟨by simp[h1],λj x hx=>?_⟩;cases j with
  |zero=>simp at hx;subst hx;exact⟨u,rfl,h.1⟩
  |succ j=>simpa using h2 j x (by simpa using hx)
def pX{F:Xa}{pb B b n c:Nat}{us:List Xb}{l:List kF}{C:Array Xb}{t:Xv}(D:F.heap[b]?=WX (YI C t (0,0)))(A:∀(j:Nat)u,us[j]?=WX u->C[j]?=WX u)(h:LV F pb B us l)(I:n=l.length)(G:l.length<=c)(z:c<=XF)(J:pb<b)(y:b<B):LU F pb B (YG (WX (b 0 WY)) n c) l:=by obtain⟨h1,h2⟩:=h.get;subst I;refine⟨b,c,rfl,G,z,J,y,λj x hx=>?_⟩;obtain⟨u,h3,h4⟩:=h2 j x hx;exact⟨u,ap D (A j u h3),h4⟩
def tE{us:List Xb}(j:Nat)(u:Xb)(h:us[j]?=WX u):us.toArray[j]?=WX u:=yI
def Ip{w:Xa}{e:Xv}{us:List Xb}{n:Nat}(c:n=us.length)(h:us≠[])(hm:us.length<=1000):(w.alloc (YI us.toArray e)).ownsRow w e 1 (YG (WX (w 0 WY)) n n) n us:=by subst c;refine⟨by simp,.inr ⟨w.heap.size,us.length,us.toArray,rfl,am _,cN w _,am _,by simp[XF];omega,by simp,by simp⟩⟩
def ep1(w:Xa)(pb:Nat)(s:ar)(A:pb<w):
 Xq Xn 217 #[aq pb,bs s] w λe w'=>∃caps,e=Ya (.func (.func 283) #[] caps)/\sE w' pb w' (.func (.func 283) #[] caps) (.word s)/\Below w w w':=by
 refine(er5 pb s w).m ?_;rintro e w' ⟨rfl,rfl⟩;refine⟨_,rfl,⟨283,#[],#[aq w,aq (w+1)],rfl,Xk func283 aI rfl,λW B' M p _ j _ z=>?_⟩,ai (ai (aj w) _) _⟩;have y:=j.blk (jO (cN w _) (ai (aj _) _) YQ) bP YN;have c:=j.blk (cN (w.alloc (YI #[aq pb] 105)) (YI #[bs s] 9)) YQ bP;simp at c;exact er6 pb B' M p s _ _ W z (ap y rfl) (ap c rfl)
def PC{w:Xa}{base:Nat}{e:Xv}{v:Xb}{n:Nat}{xs:List Xb}(h:w.ownsRow base e 1 v n xs)(F:0<n):
 ∃g cap c,v=YG (WX ⟨g,0,WY⟩) n cap/\base<=g/\w.heap[g]?=WX (YI c e (0,0))/\n<=cap/\cap<=XF/\c.toList.take n=xs:=by
 rcases h.2 with⟨_,G⟩|⟨g,cap,c,j,y,z,A,C,_,D⟩
 .omega
 .exact⟨g,cap,c,j,y,z,A,C,by simpa using D⟩
def Y8{c:Array Xb}{n:Nat}{us:List Xb}(h:c.toList.take n=us)(j:Nat)(u:Xb)(y:us[j]?=WX u):c[j]?=WX u:=by
 subst h;rw[List.getElem?_take]at y;split at y
 .simpa using y
 .cases y
def PD(w:Xa)(a b c d:Obj):((((w.alloc a).alloc b).alloc c).alloc d).heap[w.heap.size]?=WX a/\((((w.alloc a).alloc b).alloc c).alloc d).heap[w.heap.size+1]?=WX b/\((((w.alloc a).alloc b).alloc c).alloc d).heap[w.heap.size+2]?=WX c/\((((w.alloc a).alloc b).alloc c).alloc d).heap[w.heap.size+3]?=WX d:=by
 refine⟨aC (aC (aC (cN w a) (ai (aj _) b)) (ai (aj _) c)) (ai (aj _) d),?_,?_,?_⟩
 .have h:=aC (aC (cN (w.alloc a) b) (ai (aj _) c)) (ai (aj _) d);simpa only[Yh]using h
 .have h:=aC (cN ((w.alloc a).alloc b) c) (ai (aj _) d);simpa only[Yh]using h
 .have h:=cN (((w.alloc a).alloc b).alloc c) d;simpa only[Yh]using h
def Y9(pb:Nat)(w:Xa)(mf:pb<w):
 Xq Xn 134 #[aq pb] w λe w'=>∃v,e=Ya v/\FI w' pb w' v/\Below w w w':=by
 obtain⟨i0,hi,cE,aZ,bh⟩:=YB (show(Tryz.prog.info? 181).map (λi=>(i.zero,i.size,i.bytes))=WX (WX .nilFunc,1,8)by kernel_rfl);have HW:=ah (λW s h=>ep1 W pb s h);unfold aq at HW;have Cx:=mf;simp only[aq];go_enter func134,ntmps134;go_wp2_with fail
 refine(HW.o _ lN kV).m ?_;rintro e w1 ⟨caps1,rfl,cl0,ay⟩;have bk:=ah (ak (aj w) ay);have hh6:=bk.o.size;have Al:=ah cl0;clear cl0 ay;go_wp2_with fail
 refine(HW.o _ lP kV).m ?_;rintro e w2 ⟨caps2,rfl,kr,au⟩;have aU:=ah (ak (aj w1) au);have hi6:=aU.o.size;have gR:=ah kr;clear kr au;go_wp2_with fail
 refine(HW.o _ lO kV).m ?_;rintro e I ⟨caps3,rfl,Hh,aN⟩;have bx:=ah (ak (aj w2) aN);have hi7:=bx.o.size;have BT:=ah Hh;clear Hh aN;go_wp2_with fail
 refine(HW.o _ nB kV).m ?_;rintro e w4 ⟨caps4,rfl,A_,aQ⟩;have fR:=aC (aC (aC (cN _ (YI ([.func (.func 283) #[] caps1,.func (.func 218) #[aq pb] #[],.func (.func 283) #[] caps2,.func (.func 218) #[aq pb] #[],.func (.func 283) #[] caps3,.func (.func 218) #[aq pb] #[]]:List Xb).toArray 181)) (ai (aj _) _)) (ai (aj _) _)) aQ;have Gb:=ah (show w4.heap[I.heap.size]?=WX (YI ([.func (.func 283) #[] caps1,.func (.func 218) #[aq pb] #[],.func (.func 283) #[] caps2,.func (.func 218) #[aq pb] #[],.func (.func 283) #[] caps3,.func (.func 218) #[aq pb] #[]]:List Xb).toArray 181 (0,0))from fR);clear fR;have jJ:=aC (aC (cN _ (YI ([.func (.func 219) #[aq pb] #[]]:List Xb).toArray 181)) (ai (aj _) _)) aQ;simp only[Yh]at jJ;have Jf:=ah (show w4.heap[(I.heap.size+1)]?=WX (YI ([.func (.func 219) #[aq pb] #[]]:List Xb).toArray 181 (0,0))from jJ);clear jJ;have gE:=aC (cN _ (YI ([.func (.func 219) #[aq pb] #[]]:List Xb).toArray 181)) aQ;simp only[Yh]at gE;have jo:=ah (show w4.heap[(I.heap.size+2)]?=WX (YI ([.func (.func 219) #[aq pb] #[]]:List Xb).toArray 181 (0,0))from gE);clear gE;have bB:=ah (ak (ai (ai (ai (aj I) _) _) _) aQ);have hi8:=bB.o.size;have ml:=ah A_;clear A_ aQ;go_wp2_with fail
 refine LW ?_;rintro e w5 ⟨caps5,rfl,Uu,bf⟩;have bR:=ah (ak (aj w4) bf);have hj0:=bR.o.size;have mp:=ah Uu;clear Uu bf;go_wp2_with fail
 refine(HW.o _ nB kV).m ?_;rintro e w6 ⟨caps6,rfl,cl8,bJ⟩;have qz:=aC (cN _ (YI ([.func (.func 219) #[aq pb] #[],.func (.func 283) #[] caps4,.func (.func 220) #[aq pb] #[],.func (.func 283) #[] caps5,.func (.func 220) #[aq pb] #[]]:List Xb).toArray 181)) bJ;have yn:=ah (show w6.heap[w5.heap.size]?=WX (YI ([.func (.func 219) #[aq pb] #[],.func (.func 283) #[] caps4,.func (.func 220) #[aq pb] #[],.func (.func 283) #[] caps5,.func (.func 220) #[aq pb] #[]]:List Xb).toArray 181 (0,0))from qz);clear qz;have cI:=ah (ak (ai (aj w5) _) bJ);have hj1:=cI.o.size;have RC:=ah cl8;clear cl8 bJ;go_wp2_with fail
 refine(HW.o _ vE kV).m ?_;rintro e w7 ⟨caps7,rfl,cl9,gD⟩;have f':=ah (ak (aj w6) gD);have hj2:=f'.o.size;have Jm:=ah cl9;clear cl9 gD;go_wp2_with fail
 refine LW ?_;rintro e w8 ⟨caps8,rfl,cm0,dF⟩;have Ex:=aC (aC (cN _ (YI ([.func (.func 219) #[aq pb] #[],.func (.func 283) #[] caps6,.func (.func 220) #[aq pb] #[],.func (.func 283) #[] caps7,.func (.func 218) #[aq pb] #[]]:List Xb).toArray 181)) (ai (aj _) _)) dF;have gH:=ah (show w8.heap[w7.heap.size]?=WX (YI ([.func (.func 219) #[aq pb] #[],.func (.func 283) #[] caps6,.func (.func 220) #[aq pb] #[],.func (.func 283) #[] caps7,.func (.func 218) #[aq pb] #[]]:List Xb).toArray 181 (0,0))from Ex);clear Ex;have kN:=aC (cN _ (YI ([.func (.func 220) #[aq pb] #[],.func (.func 220) #[aq pb] #[],.func (.func 218) #[aq pb] #[]]:List Xb).toArray 181)) dF;simp only[Yh]at kN;have gJ:=ah (show w8.heap[(w7.heap.size+1)]?=WX (YI ([.func (.func 220) #[aq pb] #[],.func (.func 220) #[aq pb] #[],.func (.func 218) #[aq pb] #[]]:List Xb).toArray 181 (0,0))from kN);clear kN;have ee:=ah (ak (ai (ai (aj w7) _) _) dF);have hj3:=ee.o.size;have da3:=ah cm0;clear cm0 dF;rename_i K hK;try simp only[XI,XZ,List.append_eq]at hK
 go_wp2_with(at_builtin;refine Yt _ rfl (YL 63) (YL 64) _ rfl w8.heap.size 181 i0 _ 1 8 underlying174 hi cE aZ bh rfl aF _ _ _ rfl (Ip (us:=[.func (.func 219) #[aq pb] #[],.func (.func 283) #[] caps8,.func (.func 221) #[aq pb] #[]]) rfl YQ YQ) (I 0 WY) 6 6 [.func (.func 283) #[] caps1,.func (.func 218) #[aq pb] #[],.func (.func 283) #[] caps2,.func (.func 218) #[aq pb] #[],.func (.func 283) #[] caps3,.func (.func 218) #[aq pb] #[]] rfl rfl (λj u hu=>World.news_of_block (aC (aC (aC (aC (aC Gb.o bR.o) cI.o) f'.o) ee.o) (ai (aj _) _)) j u hu) R9 pm YN YQ ?_;intro v9 w9 ck9 hgrow9 _;have jD:=ah (xR (Ip (us:=[.func (.func 219) #[aq pb] #[],.func (.func 283) #[] caps8,.func (.func 221) #[aq pb] #[]]) rfl YQ YQ) (ai (aj w8) _) (am _) hgrow9);have hj4:=jD.o.size;obtain⟨g9,cap9,cur9,rfl,hc5,ci3,cg7,cj8,cn8⟩:=PC ck9 aF;have Jb:=ah (Xi ci3 (Xi cg7 (Xi cj8 cn8)));clear ck9 hgrow9 ci3 cg7 cj8 cn8)
 go_wp2_with fail
 refine LW ?_;rintro e zZ ⟨caps10,rfl,cl1,gG⟩;have kR:=ah (ak (aj w9) gG);have hh7:=kR.o.size;have cz6:=ah cl1;clear cl1 gG;rename_i K hK;try simp only[XI,XZ,List.append_eq]at hK
 go_wp2_with(at_builtin;refine Yt _ rfl (YL 75) (YL 76) _ rfl zZ.heap.size 181 i0 _ 1 8 underlying174 hi cE aZ bh rfl aF _ _ _ rfl (Ip (us:=[.func (.func 219) #[aq pb] #[],.func (.func 218) #[aq pb] #[],.func (.func 283) #[] caps10,.func (.func 221) #[aq pb] #[]]) rfl YQ YQ) (I 0 WY) 6 6 [.func (.func 283) #[] caps1,.func (.func 218) #[aq pb] #[],.func (.func 283) #[] caps2,.func (.func 218) #[aq pb] #[],.func (.func 283) #[] caps3,.func (.func 218) #[aq pb] #[]] rfl rfl (λj u hu=>World.news_of_block (aC (aC (aC (aC (aC (aC (aC Gb.o bR.o) cI.o) f'.o) ee.o) jD.o) kR.o) (ai (aj _) _)) j u hu) R9 pm YN YQ ?_;intro qa n_ hown11 hgrow11 _;have sG:=ah (xR (Ip (us:=[.func (.func 219) #[aq pb] #[],.func (.func 218) #[aq pb] #[],.func (.func 283) #[] caps10,.func (.func 221) #[aq pb] #[]]) rfl YQ YQ) (ai (aj zZ) _) (am _) hgrow11);have hh8:=sG.o.size;obtain⟨JV,cap11,cur11,rfl,hc3,ci1,cg4,Ud,cn6⟩:=PC hown11 aF;have I8:=ah (Xi ci1 (Xi cg4 (Xi Ud cn6)));clear hown11 hgrow11 ci1 cg4 Ud cn6)
 go_wp2_with fail
 refine LW ?_;rintro e QF ⟨caps12,rfl,cl2,Kf⟩;have Aa:=ah (ak (aj n_) Kf);have hh9:=Aa.o.size;have cz7:=ah cl2;clear cl2 Kf;rename_i K hK;try simp only[XI,XZ,List.append_eq]at hK
 go_wp2_with(at_builtin;refine Yt _ rfl (YL 85) (YL 86) _ rfl QF.heap.size 181 i0 _ 1 8 underlying174 hi cE aZ bh rfl aF _ _ _ rfl (Ip (us:=[.func (.func 219) #[aq pb] #[],.func (.func 283) #[] caps12,.func (.func 220) #[aq pb] #[]]) rfl YQ YQ) (I 0 WY) 6 6 [.func (.func 283) #[] caps1,.func (.func 218) #[aq pb] #[],.func (.func 283) #[] caps2,.func (.func 218) #[aq pb] #[],.func (.func 283) #[] caps3,.func (.func 218) #[aq pb] #[]] rfl rfl (λj u hu=>World.news_of_block (aC (aC (aC (aC (aC (aC (aC (aC (aC Gb.o bR.o) cI.o) f'.o) ee.o) jD.o) kR.o) sG.o) Aa.o) (ai (aj _) _)) j u hu) R9 pm YN YQ ?_;intro qg cs0 hown13 hgrow13 _;have FW:=ah (xR (Ip (us:=[.func (.func 219) #[aq pb] #[],.func (.func 283) #[] caps12,.func (.func 220) #[aq pb] #[]]) rfl YQ YQ) (ai (aj QF) _) (am _) hgrow13);have hi0:=FW.o.size;obtain⟨GJ,cap13,cur13,rfl,hc4,ci2,cg5,cj7,cn7⟩:=PC hown13 aF;have I9:=ah (Xi ci2 (Xi cg5 (Xi cj7 cn7)));clear hown13 hgrow13 ci2 cg5 cj7 cn7)
 go_wp2_with fail
 refine(HW.o _ vG kV).m ?_;rintro e cs1 ⟨caps14,rfl,cl3,cg0⟩;have FX:=ah (ak (aj cs0) cg0);have hi1:=FX.o.size;have cz8:=ah cl3;clear cl3 cg0;go_wp2_with fail
 refine(HW.o _ vF kV).m ?_;rintro e O ⟨caps15,rfl,cl4,cg1⟩;have FY:=ah (ak (aj cs1) cg1);have hi2:=FY.o.size;have cz9:=ah cl4;clear cl4 cg1;go_wp2_with fail
 refine(HW.o _ vD kV).m ?_;rintro e X ⟨caps16,rfl,cl5,GT⟩;have G8:=aC (aC (aC (aC (cN _ (YI ([.func (.func 220) #[aq pb] #[],.func (.func 283) #[] caps14,.func (.func 218) #[aq pb] #[],.func (.func 283) #[] caps15,.func (.func 218) #[aq pb] #[]]:List Xb).toArray 181)) (ai (aj _) _)) (ai (aj _) _)) (ai (aj _) _)) GT;have Gc:=ah (show X.heap[O.heap.size]?=WX (YI ([.func (.func 220) #[aq pb] #[],.func (.func 283) #[] caps14,.func (.func 218) #[aq pb] #[],.func (.func 283) #[] caps15,.func (.func 218) #[aq pb] #[]]:List Xb).toArray 181 (0,0))from G8);clear G8;have Ew:=aC (aC (aC (cN _ (YI ([.func (.func 222) #[aq pb] #[]]:List Xb).toArray 181)) (ai (aj _) _)) (ai (aj _) _)) GT;simp only[Yh]at Ew;have tM:=ah (show X.heap[(O.heap.size+1)]?=WX (YI ([.func (.func 222) #[aq pb] #[]]:List Xb).toArray 181 (0,0))from Ew);clear Ew;have T1:=aC (aC (cN _ (YI ([.func (.func 220) #[aq pb] #[]]:List Xb).toArray 181)) (ai (aj _) _)) GT;simp only[Yh]at T1;have ym:=ah (show X.heap[(O.heap.size+2)]?=WX (YI ([.func (.func 220) #[aq pb] #[]]:List Xb).toArray 181 (0,0))from T1);clear T1;have T2:=aC (cN _ (YI ([.func (.func 220) #[aq pb] #[],.func (.func 218) #[aq pb] #[],.func (.func 223) #[aq pb] #[]]:List Xb).toArray 181)) GT;simp only[Yh]at T2;have bl5:=ah (show X.heap[(O.heap.size+3)]?=WX (YI ([.func (.func 220) #[aq pb] #[],.func (.func 218) #[aq pb] #[],.func (.func 223) #[aq pb] #[]]:List Xb).toArray 181 (0,0))from T2);clear T2;have FZ:=ah (ak (ai (ai (ai (ai (aj O) _) _) _) _) GT);have hi3:=FZ.o.size;have da0:=ah cl5;clear cl5 GT;go_wp2_with fail
 refine LW ?_;rintro e MJ ⟨caps17,rfl,cl6,Tl⟩;have ci9:=aC (cN _ (YI ([.func (.func 220) #[aq pb] #[],.func (.func 283) #[] caps16,.func (.func 224) #[aq pb] #[],.func (.func 218) #[aq pb] #[]]:List Xb).toArray 181)) Tl;have bl6:=ah (show MJ.heap[X.heap.size]?=WX (YI ([.func (.func 220) #[aq pb] #[],.func (.func 283) #[] caps16,.func (.func 224) #[aq pb] #[],.func (.func 218) #[aq pb] #[]]:List Xb).toArray 181 (0,0))from ci9);clear ci9;have Do:=ah (ak (ai (aj X) _) Tl);have hi4:=Do.o.size;have da1:=ah cl6;clear cl6 Tl;go_wp2_with fail
 refine(HW.o _ vC kV).m ?_;rintro e A ⟨caps18,rfl,cl7,Tm⟩;have cj0:=aC (cN _ (YI ([.func (.func 220) #[aq pb] #[],.func (.func 283) #[] caps17,.func (.func 221) #[aq pb] #[]]:List Xb).toArray 181)) Tm;have bl7:=ah (show A.heap[MJ.heap.size]?=WX (YI ([.func (.func 220) #[aq pb] #[],.func (.func 283) #[] caps17,.func (.func 221) #[aq pb] #[]]:List Xb).toArray 181 (0,0))from cj0);clear cj0;have QV:=ah (ak (ai (aj MJ) _) Tm);have hi5:=QV.o.size;have da2:=ah cl7;clear cl7 Tm;go_wp2_with fail
 go_ret;have Y:=λF(h:Below A A F)=>h;have key:∀F:Xa,Below A A F->F.heap[A.heap.size]?=WX (YI ([.func (.func 220) #[aq pb] #[],.func (.func 283) #[] caps18,.func (.func 220) #[aq pb] #[]]:List Xb).toArray 181 (0,0))->F.heap[(A.heap.size+1)]?=WX (YI ([.func (.func 218) #[aq pb] #[]]:List Xb).toArray 181 (0,0))->F.heap[(A.heap.size+2)]?=WX (YI ([.func (.func 220) #[aq pb] #[],.func (.func 218) #[aq pb] #[]]:List Xb).toArray 181 (0,0))->F.heap[(A.heap.size+3)]?=WX (YI ([Xp (bs j7),Xo XO 0,YG (WX ⟨(I.heap.size+1),0,WY⟩) 1 1,Xp (bs fU),Xo XO 1,YG (WX ⟨(I.heap.size+2),0,WY⟩) 1 1,Xp (bs fH),Xo XO 2,YG (WX (w5 0 WY)) 5 5,Xp (bs ox),Xo XO 3,YG (WX (w7 0 WY)) 5 5,Xp (bs ab9),Xo XO 4,YG (WX ⟨(w7.heap.size+1),0,WY⟩) 3 3,Xp (bs ab6),Xo XO 5,YG (WX (g9 0 WY)) 9 cap9,Xp (bs ac2),Xo XO 6,YG (WX (JV 0 WY)) 10 cap11,Xp (bs ab7),Xo XO 7,YG (WX (GJ 0 WY)) 9 cap13,Xp (bs ab3),Xo XO 8,YG (WX (O 0 WY)) 5 5,Xp (bs ab5),Xo XO 9,YG (WX ⟨(O.heap.size+1),0,WY⟩) 1 1,Xp (bs ac3),Xo XO 10,YG (WX ⟨(O.heap.size+2),0,WY⟩) 1 1,Xp (bs ab8),Xo XO 11,YG (WX ⟨(O.heap.size+3),0,WY⟩) 3 3,Xp (bs ac5),Xo XO 12,YG (WX (X 0 WY)) 4 4,Xp (bs ac0),Xo XO 13,YG (WX (MJ 0 WY)) 3 3,Xp (bs ac1),Xo XO 14,YG (WX (A 0 WY)) 3 3,Xp (bs ab4),Xo XO 15,YG (WX ⟨(A.heap.size+1),0,WY⟩) 1 1,Xp (bs ac4),Xo XO 16,YG (WX ⟨(A.heap.size+2),0,WY⟩) 2 2]:List Xb).toArray 176 (0,0))->FI F pb F (YG (WX ⟨(A.heap.size+3),0,WY⟩) 17 17):=by
  intro F Y cj1 Oe T3 y;have Z:=ak QV.o Y;have C:=ak Do.o Z;have MN:=ak FZ.o C;have MM:=ak FY.o MN;have QQ:=ak FX.o MM;have ML:=ak FW.o QQ;have QP:=ak Aa.o ML;have MK:=ak sG.o QP;have QR:=ak kR.o MK;have V:=ak jD.o QR;have MP:=ak ee.o V;have FT:=ak f'.o MP;have MO:=ak cI.o FT;have U:=ak bR.o MO;have G:=ak bB.o U;have D:=ak bx.o G;have J:=ak aU.o D;have gp6:=pX (l:=[.name]) (n:=1) (c:=1) (aC Jf.o U) tE ⟨FK F pb _,trivial⟩ rfl aF aF YN (blk_lt (aC Jf.o U));have gp7:=pX (l:=[.name]) (n:=1) (c:=1) (aC jo.o U) tE ⟨FK F pb _,trivial⟩ rfl aF aF YN (blk_lt (aC jo.o U));have gq5:=pX (l:=[.name,.word nB,.ref,.word gT,.ref]) (n:=5) (c:=5) (aC yn.o FT) tE ⟨FK F pb _,ml.o.keep (aK.of_below U (am _) U.size) U.size,tC F pb _,mp.o.keep (aK.of_below MO (am _) MO.size) MO.size,tC F pb _,trivial⟩ rfl aF aF YN (blk_lt (aC yn.o FT));have gq6:=pX (l:=[.name,.word nB,.ref,.word vE,.number]) (n:=5) (c:=5) (aC gH.o V) tE ⟨FK F pb _,RC.o.keep (aK.of_below FT (am _) FT.size) FT.size,tC F pb _,Jm.o.keep (aK.of_below MP (am _) MP.size) MP.size,oP F pb _,trivial⟩ rfl aF aF YN (blk_lt (aC gH.o V));have gq7:=pX (l:=[.ref,.ref,.number]) (n:=3) (c:=3) (aC gJ.o V) tE ⟨tC F pb _,tC F pb _,oP F pb _,trivial⟩ rfl aF aF YN (blk_lt (aC gJ.o V));have gq8:=pX (l:=[.name,.word gT,.list,.word lN,.number,.word lP,.number,.word lO,.number]) (n:=9) (c:=cap9) (aC Jb.o.1 QR) (Y8 Jb.o.2.2.2) ⟨FK F pb _,da3.o.keep (aK.of_below V (am _) V.size) V.size,Y6 F pb _,Al.o.keep (aK.of_below J (am _) J.size) J.size,oP F pb _,gR.o.keep (aK.of_below D (am _) D.size) D.size,oP F pb _,BT.o.keep (aK.of_below G (am _) G.size) G.size,oP F pb _,trivial⟩ rfl Jb.o.2.1 Jb.o.2.2.1 YN (blk_lt (aC Jb.o.1 QR));have gq9:=pX (l:=[.name,.number,.word gT,.list,.word lN,.number,.word lP,.number,.word lO,.number]) (n:=10) (c:=cap11) (aC I8.o.1 QP) (Y8 I8.o.2.2.2) ⟨FK F pb _,oP F pb _,cz6.o.keep (aK.of_below MK (am _) MK.size) MK.size,Y6 F pb _,Al.o.keep (aK.of_below J (am _) J.size) J.size,oP F pb _,gR.o.keep (aK.of_below D (am _) D.size) D.size,oP F pb _,BT.o.keep (aK.of_below G (am _) G.size) G.size,oP F pb _,trivial⟩ rfl I8.o.2.1 I8.o.2.2.1 YN (blk_lt (aC I8.o.1 QP));have gr0:=pX (l:=[.name,.word gT,.ref,.word lN,.number,.word lP,.number,.word lO,.number]) (n:=9) (c:=cap13) (aC I9.o.1 QQ) (Y8 I9.o.2.2.2) ⟨FK F pb _,cz7.o.keep (aK.of_below ML (am _) ML.size) ML.size,tC F pb _,Al.o.keep (aK.of_below J (am _) J.size) J.size,oP F pb _,gR.o.keep (aK.of_below D (am _) D.size) D.size,oP F pb _,BT.o.keep (aK.of_below G (am _) G.size) G.size,oP F pb _,trivial⟩ rfl I9.o.2.1 I9.o.2.2.1 YN (blk_lt (aC I9.o.1 QQ));have gr1:=pX (l:=[.ref,.word vG,.number,.word vF,.number]) (n:=5) (c:=5) (aC Gc.o C) tE ⟨tC F pb _,cz8.o.keep (aK.of_below MM (am _) MM.size) MM.size,oP F pb _,cz9.o.keep (aK.of_below MN (am _) MN.size) MN.size,oP F pb _,trivial⟩ rfl aF aF YN (blk_lt (aC Gc.o C));have gr2:=pX (l:=[.classes]) (n:=1) (c:=1) (aC tM.o C) tE ⟨ep0 F pb _,trivial⟩ rfl aF aF YN (blk_lt (aC tM.o C));have gp8:=pX (l:=[.ref]) (n:=1) (c:=1) (aC ym.o C) tE ⟨tC F pb _,trivial⟩ rfl aF aF YN (blk_lt (aC ym.o C));have gp9:=pX (l:=[.ref,.number,.alw]) (n:=3) (c:=3) (aC bl5.o C) tE ⟨tC F pb _,oP F pb _,es9 F pb _,trivial⟩ rfl aF aF YN (blk_lt (aC bl5.o C));have gq0:=pX (l:=[.ref,.word vD,.domain,.number]) (n:=4) (c:=4) (aC bl6.o Z) tE ⟨tC F pb _,da0.o.keep (aK.of_below C (am _) C.size) C.size,es8 F pb _,oP F pb _,trivial⟩ rfl aF aF YN (blk_lt (aC bl6.o Z));have gq1:=pX (l:=[.ref,.word gT,.list]) (n:=3) (c:=3) (aC bl7.o Y) tE ⟨tC F pb _,da1.o.keep (aK.of_below Z (am _) Z.size) Z.size,Y6 F pb _,trivial⟩ rfl aF aF YN (blk_lt (aC bl7.o Y));have gq2:=pX (l:=[.ref,.word vC,.ref]) (n:=3) (c:=3) cj1 tE ⟨tC F pb _,da2.o.keep (aK.of_below Y (am _) Y.size) Y.size,tC F pb _,trivial⟩ rfl aF (by decide) YN (blk_lt cj1);have gq3:=pX (l:=[.number]) (n:=1) (c:=1) Oe tE ⟨oP F pb _,trivial⟩ rfl (by decide) (by decide) YN (blk_lt Oe);have gq4:=pX (l:=[.ref,.number]) (n:=2) (c:=2) T3 tE ⟨tC F pb _,oP F pb _,trivial⟩ rfl (by decide) (by decide) YN (blk_lt T3);refine⟨(A.heap.size+3),rfl,by omega,blk_lt y,λi r z=>?_⟩
  match i,z with
  |0,z=>obtain rfl:=XY z;exact⟨_,ap y rfl,ap y rfl,ap y rfl,gp6⟩
  |1,z=>obtain rfl:=XY z;exact⟨_,ap y rfl,ap y rfl,ap y rfl,gp7⟩
  |2,z=>obtain rfl:=XY z;exact⟨_,ap y rfl,ap y rfl,ap y rfl,gq5⟩
  |3,z=>obtain rfl:=XY z;exact⟨_,ap y rfl,ap y rfl,ap y rfl,gq6⟩
  |4,z=>obtain rfl:=XY z;exact⟨_,ap y rfl,ap y rfl,ap y rfl,gq7⟩
  |5,z=>obtain rfl:=XY z;exact⟨_,ap y rfl,ap y rfl,ap y rfl,gq8⟩
  |6,z=>obtain rfl:=XY z;exact⟨_,ap y rfl,ap y rfl,ap y rfl,gq9⟩
  |7,z=>obtain rfl:=XY z;exact⟨_,ap y rfl,ap y rfl,ap y rfl,gr0⟩
  |8,z=>obtain rfl:=XY z;exact⟨_,ap y rfl,ap y rfl,ap y rfl,gr1⟩
  |9,z=>obtain rfl:=XY z;exact⟨_,ap y rfl,ap y rfl,ap y rfl,gr2⟩
  |10,z=>obtain rfl:=XY z;exact⟨_,ap y rfl,ap y rfl,ap y rfl,gp8⟩
  |11,z=>obtain rfl:=XY z;exact⟨_,ap y rfl,ap y rfl,ap y rfl,gp9⟩
  |12,z=>obtain rfl:=XY z;exact⟨_,ap y rfl,ap y rfl,ap y rfl,gq0⟩
  |13,z=>obtain rfl:=XY z;exact⟨_,ap y rfl,ap y rfl,ap y rfl,gq1⟩
  |14,z=>obtain rfl:=XY z;exact⟨_,ap y rfl,ap y rfl,ap y rfl,gq2⟩
  |15,z=>obtain rfl:=XY z;exact⟨_,ap y rfl,ap y rfl,ap y rfl,gq3⟩
  |16,z=>obtain rfl:=XY z;exact⟨_,ap y rfl,ap y rfl,ap y rfl,gq4⟩
  |i+17,z=>exact absurd (List.getElem?_eq_some_iff.1 z).1 (by simp[rules])
 refine⟨_,rfl,?_,ai (ai (ai (ai (ak (ak (ak (ak (ak (ak (ak (ak (ak (ak (ak (ak (ak (ak (ak (ak (ak bk.o aU.o) bx.o) bB.o) bR.o) cI.o) f'.o) ee.o) jD.o) kR.o) sG.o) Aa.o) FW.o) FX.o) FY.o) FZ.o) Do.o) QV.o) _) _) _) _⟩;refine key _ (ai (ai (ai (ai (aj A) _) _) _) _) ?_ ?_ ?_ ?_
 .exact(PD A _ _ _ _).1
 .exact(PD A _ _ _ _).2.1
 .exact(PD A _ _ _ _).2.2.1
 .exact(PD A _ _ _ _).2.2.2
end
section
open Go Go.RowKit Go.MapKept Go.Proofs.Tryz
def nN(pb:Nat)(k:Nat):Value:=
 match k with
 |0=>YJ #[Xp ⟨#[115,105,116,101]⟩,YH Xe,Xo XO 0,Xo XO 0,Xo XO 0,.func (.func 288) #[] #[],YH Xc,.func (.func 289) #[] #[]]
 |1=>YJ #[Xp ⟨#[102,101,101,100]⟩,YH Xe,Xo XO 0,Xo XO 0,Xo XO 0,.func (.func 288) #[] #[],YH Xc,.func (.func 289) #[] #[]]
 |2=>YJ #[Xp ⟨#[114,97,99,107]⟩,YH Xe,Xo XO 2,Xo XO 2,Xo XO 0,.func (.func 288) #[] #[],YH Xc,.func (.func 293) #[] #[]]
 |3=>YJ #[Xp ⟨#[109,97,99,104,105,110,101]⟩,YH Xe,Xo XO 1,Xo XO 1,Xo XO 1,.func (.func 288) #[] #[],YH Xc,.func (.func 294) #[] #[]]
 |4=>YJ #[Xp ⟨#[108,105,110,107]⟩,YH Xc,Xo XO 2,Xo XO 2,Xo XO 1,.func (.func 288) #[] #[],YH Xc,.func (.func 290) #[] #[]]
 |5=>YJ #[Xp ⟨#[103,114,111,117,112]⟩,YH Xe,Xo XO 1,Xo XO 16,Xo XO 3,.func (.func 288) #[] #[],YH Xc,.func (.func 295) #[] #[]]
 |6=>YJ #[Xp ⟨#[112,111,111,108]⟩,YH Xe,Xo XO 1,Xo XO 16,Xo XO 4,.func (.func 288) #[] #[],YH Xc,.func (.func 298) #[] #[]]
 |7=>YJ #[Xp ⟨#[106,111,98]⟩,YH Xe,Xo XO 1,Xo XO 1,Xo XO 3,.func (.func 288) #[] #[],YH Xc,.func (.func 299) #[] #[]]
 |8=>YJ #[Xp ⟨#[100,97,114,107]⟩,YH Xc,Xo XO 1,Xo XO 1,Xo XO 2,.func (.func 288) #[] #[],YH Xc,.func (.func 300) #[] #[]]
 |9=>YJ #[Xp ⟨#[102,97,105,108,117,114,101,115]⟩,YH Xc,Xo XO 0,Xo XO 0,Xo XO 0,.func (.func 301) #[] #[],YH Xc,.func (.func 302) #[] #[]]
 |10=>YJ #[Xp ⟨#[113,117,111,114,117,109]⟩,YH Xc,Xo XO 1,Xo XO 1,Xo XO 0,.func (.func 288) #[] #[],YH Xc,.func (.func 290) #[] #[]]
 |11=>YJ #[Xp ⟨#[107,101,101,112]⟩,YH Xc,Xo XO 1,Xo XO 1,Xo XO 1,.func (.func 288) #[] #[],YH Xe,.func (.func 304) #[] #[aq pb]]
 |12=>YJ #[Xp ⟨#[115,112,114,101,97,100]⟩,YH Xc,Xo XO 1,Xo XO 1,Xo XO 1,.func (.func 305) #[] #[],YH Xc,.func (.func 307) #[] #[]]
 |13=>YJ #[Xp ⟨#[111,110,108,121]⟩,YH Xc,Xo XO 2,Xo XO 17,Xo XO 0,.func (.func 288) #[] #[],YH Xc,.func (.func 308) #[] #[]]
 |14=>YJ #[Xp ⟨#[111,114,100,101,114]⟩,YH Xc,Xo XO 2,Xo XO 2,Xo XO 0,.func (.func 288) #[] #[],YH Xc,.func (.func 309) #[] #[]]
 |15=>YJ #[Xp ⟨#[100,105,115,116,117,114,98]⟩,YH Xc,Xo XO 0,Xo XO 0,Xo XO 1,.func (.func 288) #[] #[],YH Xc,.func (.func 290) #[] #[]]
 |16=>YJ #[Xp ⟨#[115,105,108,101,110,99,101]⟩,YH Xc,Xo XO 1,Xo XO 1,Xo XO 1,.func (.func 288) #[] #[],YH Xc,.func (.func 290) #[] #[]]
 |_=> .nilFunc
def BF(pb:Nat):Int->Option Value:=(aX (aX (aX (aX (aX (aX (aX (aX (aX (aX (aX (aX (aX (aX (aX (aX (aX (λ_=>WY) 0 (nN pb 0)) 1 (nN pb 1)) 2 (nN pb 2)) 3 (nN pb 3)) 4 (nN pb 4)) 5 (nN pb 5)) 6 (nN pb 6)) 7 (nN pb 7)) 8 (nN pb 8)) 9 (nN pb 9)) 10 (nN pb 10)) 11 (nN pb 11)) 12 (nN pb 12)) 13 (nN pb 13)) 14 (nN pb 14)) 15 (nN pb 15)) 16 (nN pb 16))
def ey9(pb:Nat){k:Nat}(h:k<=16):BF pb k=WX (nN pb k):=by rcases o9 h with rfl|rfl|rfl|rfl|rfl|rfl|rfl|rfl|rfl|rfl|rfl|rfl|rfl|rfl|rfl|rfl|rfl<;>rfl
def ez0(pb:Nat){k:Int}(h:¬(0<=k/\k<=16)):BF pb k=none:=by unfold BF aX;repeat rw[if_neg YN]
def bc9(w:Xa):
 Xq Xn 226 #[] w λe w'=>∃M pb,e=Ya (.map (WX M))/\dg iK w' M (BF pb)/\w.heap.size<=pb/\w'.heap[pb]?=WX (YI #[.func (.func 290) #[] #[]] 234 (0,0))/\Below w w w':=by
 refine uC λlZ=>?_;refine nL λnq=>?_;go_enter func226,ntmps226;go_upto_region 4 with(fail)
 refine fe (λW=>Below w w W/\W.heap[w.heap.size]?=WX (YI #[.func (.func 290) #[] #[]] 234 (0,0))) ⟨by first|exact cF (ai (aj w) _) (am _) _|exact ai (aj w) _,by first|exact(bc (X1 w _) _ _).trans rfl|exact X1 w _⟩ ?_;intro c ⟨aY,Z⟩;have j:=ap (o:=0) Z rfl;have hz:=blk_lt Z;have tH:=ah (show Below c c (c.alloc (.map #[] 0))from ai (aj c) _);have bo:=ah aY;have R0:=ah Z;clear aY Z;go_wp2_with first
  |(refine ea rfl (YL 4) (YM (Xo XO 0)) (YL 7) 238 (.inr rfl) 3 236 (.int XO) Yl Xj co c (λ_=>WY) rfl (dg.made iK c) 0 (YJ #[Xp ⟨#[115,105,116,101]⟩,YH Xe,Xo XO 0,Xo XO 0,Xo XO 0,.func (.func 288) #[] #[],YH Xc,.func (.func 289) #[] #[]]) rfl rfl ?_;intro w1 jw ep;have bk:=ah (ep.1 _ _ tH.o (am _));have q1:=kc bk.o j;clear ep)
  |(refine ea rfl (YL 4) (YM (Xo XO 1)) (YL 10) 238 (.inr rfl) 3 236 (.int XO) Yl Xj co c _ rfl jw 1 (YJ #[Xp ⟨#[102,101,101,100]⟩,YH Xe,Xo XO 0,Xo XO 0,Xo XO 0,.func (.func 288) #[] #[],YH Xc,.func (.func 289) #[] #[]]) rfl rfl ?_;intro w2 jx gO;have aU:=ah (gO.1 _ _ bk.o (am _));have q2:=kc aU.o j;clear gO jw)
  |(refine ea rfl (YL 4) (YM (Xo XO 2)) (YL 12) 238 (.inr rfl) 3 236 (.int XO) Yl Xj co c _ rfl jx 2 (YJ #[Xp ⟨#[114,97,99,107]⟩,YH Xe,Xo XO 2,Xo XO 2,Xo XO 0,.func (.func 288) #[] #[],YH Xc,.func (.func 293) #[] #[]]) rfl rfl ?_;intro w3 jy gP;have bx:=ah (gP.1 _ _ aU.o (am _));have q3:=kc bx.o j;clear gP jx)
  |(refine ea rfl (YL 4) (YM (Xo XO 3)) (YL 14) 238 (.inr rfl) 3 236 (.int XO) Yl Xj co c _ rfl jy 3 (YJ #[Xp ⟨#[109,97,99,104,105,110,101]⟩,YH Xe,Xo XO 1,Xo XO 1,Xo XO 1,.func (.func 288) #[] #[],YH Xc,.func (.func 294) #[] #[]]) rfl rfl ?_;intro w4 wR pI;have bB:=ah (pI.1 _ _ bx.o (am _));have q4:=kc bB.o j;clear pI jy)
  |(refine ea rfl (YL 4) (YM (Xo XO 4)) (YL 17) 238 (.inr rfl) 3 236 (.int XO) Yl Xj co c _ rfl wR 4 (YJ #[Xp ⟨#[108,105,110,107]⟩,YH Xc,Xo XO 2,Xo XO 2,Xo XO 1,.func (.func 288) #[] #[],YH Xc,.func (.func 290) #[] #[]]) rfl rfl ?_;intro w5 pF iZ;have bR:=ah (iZ.1 _ _ bB.o (am _));have q5:=kc bR.o j;clear iZ wR)
  |(refine ea rfl (YL 4) (YM (Xo XO 5)) (YL 19) 238 (.inr rfl) 3 236 (.int XO) Yl Xj co c _ rfl pF 5 (YJ #[Xp ⟨#[103,114,111,117,112]⟩,YH Xe,Xo XO 1,Xo XO 16,Xo XO 3,.func (.func 288) #[] #[],YH Xc,.func (.func 295) #[] #[]]) rfl rfl ?_;intro w6 Cg wX;have cI:=ah (wX.1 _ _ bR.o (am _));have q6:=kc cI.o j;clear wX pF)
  |(refine ea rfl (YL 4) (YM (Xo XO 6)) (YL 21) 238 (.inr rfl) 3 236 (.int XO) Yl Xj co c _ rfl Cg 6 (YJ #[Xp ⟨#[112,111,111,108]⟩,YH Xe,Xo XO 1,Xo XO 16,Xo XO 4,.func (.func 288) #[] #[],YH Xc,.func (.func 298) #[] #[]]) rfl rfl ?_;intro w7 pG kM;have f':=ah (kM.1 _ _ cI.o (am _));have q7:=kc f'.o j;clear kM Cg)
  |(refine ea rfl (YL 4) (YM (Xo XO 7)) (YL 23) 238 (.inr rfl) 3 236 (.int XO) Yl Xj co c _ rfl pG 7 (YJ #[Xp ⟨#[106,111,98]⟩,YH Xe,Xo XO 1,Xo XO 1,Xo XO 3,.func (.func 288) #[] #[],YH Xc,.func (.func 299) #[] #[]]) rfl rfl ?_;intro w8 J7 wY;have ee:=ah (wY.1 _ _ f'.o (am _));have q8:=kc ee.o j;clear wY pG)
  |(refine ea rfl (YL 4) (YM (Xo XO 8)) (YL 25) 238 (.inr rfl) 3 236 (.int XO) Yl Xj co c _ rfl J7 8 (YJ #[Xp ⟨#[100,97,114,107]⟩,YH Xc,Xo XO 1,Xo XO 1,Xo XO 2,.func (.func 288) #[] #[],YH Xc,.func (.func 300) #[] #[]]) rfl rfl ?_;intro w9 J8 nQ;have jD:=ah (nQ.1 _ _ ee.o (am _));have q9:=kc jD.o j;clear nQ J7)
  |(refine ea rfl (YL 4) (YM (Xo XO 9)) (YL 26) 238 (.inr rfl) 3 236 (.int XO) Yl Xj co c _ rfl J8 9 (YJ #[Xp ⟨#[102,97,105,108,117,114,101,115]⟩,YH Xc,Xo XO 0,Xo XO 0,Xo XO 0,.func (.func 301) #[] #[],YH Xc,.func (.func 302) #[] #[]]) rfl rfl ?_;intro zZ J6 wW;have kR:=ah (wW.1 _ _ jD.o (am _));have oU:=kc kR.o j;clear wW J8)
  |(refine ea rfl (YL 4) (YM (Xo XO 10)) (YL 29) 238 (.inr rfl) 3 236 (.int XO) Yl Xj co c _ rfl J6 10 (YJ #[Xp ⟨#[113,117,111,114,117,109]⟩,YH Xc,Xo XO 1,Xo XO 1,Xo XO 0,.func (.func 288) #[] #[],YH Xc,.func (.func 290) #[] #[]]) rfl rfl ?_;intro n_ y I;have sG:=ah (I.1 _ _ kR.o (am _));have uM:=kc sG.o j;clear I J6)
  |(refine ea rfl (YL 4) (YM (Xo XO 11)) (YL 32) 238 (.inr rfl) 3 236 (.int XO) Yl Xj co c _ rfl y 11 (YJ #[Xp ⟨#[107,101,101,112]⟩,YH Xc,Xo XO 1,Xo XO 1,Xo XO 1,.func (.func 288) #[] #[],YH Xe,.func (.func 304) #[] #[aq w]]) rfl rfl ?_;intro QF z J;have Aa:=ah (J.1 _ _ sG.o (am _));have uN:=kc Aa.o j;clear J y)
  |(refine ea rfl (YL 4) (YM (Xo XO 12)) (YL 33) 238 (.inr rfl) 3 236 (.int XO) Yl Xj co c _ rfl z 12 (YJ #[Xp ⟨#[115,112,114,101,97,100]⟩,YH Xc,Xo XO 1,Xo XO 1,Xo XO 1,.func (.func 305) #[] #[],YH Xc,.func (.func 307) #[] #[]]) rfl rfl ?_;intro cs0 A O;have FW:=ah (O.1 _ _ Aa.o (am _));have uO:=kc FW.o j;clear O z)
  |(refine ea rfl (YL 4) (YM (Xo XO 13)) (YL 35) 238 (.inr rfl) 3 236 (.int XO) Yl Xj co c _ rfl A 13 (YJ #[Xp ⟨#[111,110,108,121]⟩,YH Xc,Xo XO 2,Xo XO 17,Xo XO 0,.func (.func 288) #[] #[],YH Xc,.func (.func 308) #[] #[]]) rfl rfl ?_;intro cs1 C U;have FX:=ah (U.1 _ _ FW.o (am _));have hm9:=kc FX.o j;clear U A)
  |(refine ea rfl (YL 4) (YM (Xo XO 14)) (YL 37) 238 (.inr rfl) 3 236 (.int XO) Yl Xj co c _ rfl C 14 (YJ #[Xp ⟨#[111,114,100,101,114]⟩,YH Xc,Xo XO 2,Xo XO 2,Xo XO 0,.func (.func 288) #[] #[],YH Xc,.func (.func 309) #[] #[]]) rfl rfl ?_;intro z_ D V;have FY:=ah (V.1 _ _ FX.o (am _));have hn0:=kc FY.o j;clear V C)
  |(refine ea rfl (YL 4) (YM (Xo XO 15)) (YL 40) 238 (.inr rfl) 3 236 (.int XO) Yl Xj co c _ rfl D 15 (YJ #[Xp ⟨#[100,105,115,116,117,114,98]⟩,YH Xc,Xo XO 0,Xo XO 0,Xo XO 1,.func (.func 288) #[] #[],YH Xc,.func (.func 290) #[] #[]]) rfl rfl ?_;intro Dj F X;have FZ:=ah (X.1 _ _ FY.o (am _));have hn1:=kc FZ.o j;clear X D)
  |(refine ea rfl (YL 4) (YM (Xo XO 16)) (YL 43) 238 (.inr rfl) 3 236 (.int XO) Yl Xj co c _ rfl F 16 (YJ #[Xp ⟨#[115,105,108,101,110,99,101]⟩,YH Xc,Xo XO 1,Xo XO 1,Xo XO 1,.func (.func 288) #[] #[],YH Xc,.func (.func 290) #[] #[]]) rfl rfl ?_;intro MJ G Y;have Do:=ah (Y.1 _ _ FZ.o (am _));have hn2:=kc Do.o j;clear Y F;have cx1:=ah G;clear G)
 go_ret;exact⟨_,w.heap.size,rfl,cx1.o,am _,aC R0.o Do.o,ak bo.o Do.o⟩
end
end Go.Proofs.YtpfienbhhhgpkaaGreatDoor
