/- A part of the proof. -/
import Derived.Test.YtklfdkdebgfmiaaGreatDoorQbq
set_option linter.defProp false
set_option linter.unusedVariables false
set_option linter.unusedSimpArgs false
set_option maxRecDepth 100000
set_option maxHeartbeats 32000000
open Option renaming none->Wr,some->Ws
open Decidable renaming decide->Wt
open Go renaming World->Wu,Value->Wv,Calls->WJ,TypeId->WQ,maxLen->Xe,undef->XE,Ending->X0,Addr->X8
open Bool renaming false->Ww,true->Wz
open Go.RowKit renaming Hid->WA
open Go.Proofs renaming intOf->WS
open Go.Proofs.Tryz renaming prog->WH
open Go.Value renaming int->WK,string->WM,oneCell'->Xp,ownBlock->Xq,slice->Yb,bool->Yc,agg->Ye,pointer->Yf
open Go.Instr renaming lookup->WT
open Go.IntKind renaming i64->Xr
open Go.Ending renaming returned->Xz
open Go.Obj renaming cells->Yd
open Go.Operand renaming tmp->Yg,const->Yh
namespace Go.Proofs.YtklfdkdebgfmiaaGreatDoor
section
open Go Go.RowKit Go.MapKept Go.Proofs.Tryz
def fn1 (rb Mb:Nat) (t:cO) (d:au) (rv nv:Wv) (w:Wu) (hr:w.cell? rb=Ws (.map (Ws Mb))) (hM:de lV w Mb (ks t)) (fK:bG w w rv d.refs) (hv:bx d=Wz):
 aQ 47 #[aj rb,Ye #[d.kind,bs d.name,rv,nv,d.by_,Yc d.always]] w (WK Xr (ea t d)):=by
 have eB:=bP _ _ hr;have xO:=oU hv;have df4:=aa (λi (hi:i<d.refs.length)=>ff0 hv hi);have H_:=ff1 hv;obtain⟨RA,rn,rc,rfl,eP,p9,_⟩:=fK.sk.form;have gq3:rn<=17:=by have:=xO.2.2.1;omega
 have df3:=aa (λW (F:Below w w W)=>fe8 d (Yb RA rn rc) nv W ((fK.below F (ag _)).more F.size) (by have:=xO.2.2.1;omega) xO.2.1);rw[eP] at H_;have HR:=aa hr;have HM:=aa hM;have V:=aa fK;have HN:=aa eP;have Tr:=aa H_;have D_:=aa xO;simp only[aj];clear hr hM fK eP H_ xO hv;go_enter func47,ntmps47;go_upto_region 1 with (fail)
 refine bi5 ?_;intro W1 ⟨aU,cS⟩;obtain⟨x0,x1,x2,x3,x4,x5⟩:=jD cS;have aT:=aa aU;have lq:=aa cS;clear aU cS;go_wp2_with first
  |(go_at_call 138;refine(df3.out W1 aT.out).m ?_;rintro e w2 ⟨v,rfl,gA,am⟩;obtain⟨A2,c2,rfl⟩:=gA.form;have th:=aa gA;have aR:=aa am;rw[Tr.out];clear gA am)
 go_loopw [14] (λi wr=> ∃k:Nat,k<=rn/\i=WK Xr k/\kM t d 0 d.refs=kM t d k (d.refs.drop k)/\Below w2 w2 wr) (λi _=>rn - (WS i).toNat)
 case atStart=>exact⟨0,bU _,rfl,rfl,af _⟩
 case round=>
  obtain⟨k,hk,rfl,Vw,kR⟩:=hrel;have AN:=aa Vw;have jI:=aa kR;clear Vw kR;have bR:Hid (Below W1 W1 wr):=ai aR.out jI.out;have D:Hid (Below w w wr):=ai aT.out bR.out;have GJ:=aa (aq lq.out bR.out);have x0:wr.cell? w=Ws (WK Xr d.kind):=ah GJ.out rfl;have c2:wr.cell? (w 2 Wr)=Ws (Yb RA rn rc):=ah GJ.out rfl;have c0:wr.cell? rb=Ws (.map (Ws Mb)):=(D.out.cell (p:=rb) eB).trans HR.out;have jA:=aa (HM.out.later D.out);by_cases ar:k<rn
  .have dz:(0:Int)<=k:=by omega
   have bJ:(k:Int)<rn:=Yi;obtain⟨s,hs⟩: ∃s,d.refs[k]? =Ws s:=⟨_,Wy lU⟩;have CO:d.refs.drop k=s::d.refs.drop (k+1):=I_ hs;rw[CO] at AN;obtain⟨sb,so,rfl,jR,fW⟩:=bG.cell V.out hs;have cs:wr.cell? ⟨sb,so+k,Wr⟩=Ws (WM (bs s)):=(D.out.cell (p:=⟨sb,so+k,Wr⟩) jR).trans fW;obtain⟨o,ho,cr4⟩:=df4.out k lU;have df2:=aa cr4;obtain⟨us,bA,dw⟩:=th.out;obtain⟨u,hu⟩: ∃u,us[k]? =Ws u:=⟨_,Wy (by rw[bA.1,Tr.out];omega)⟩;have VQ:=dw k u o hu ho;obtain⟨A',c',O,_,_,mg⟩:=Sl.of_own bA;have cr0:us.length=rn:=by rw[bA.1,Tr.out];omega
   rw[cr0] at O;injection O with Lg xX wt;subst Lg wt;obtain⟨gb,go,rfl,Hi,Hg⟩:=mg (λe=>by rw[e] at hu;simp at hu);have cg:wr.cell? ⟨gb,go+k,Wr⟩=Ws u:=(jI.out.cell (p:=⟨gb,go+k,Wr⟩) Hi).trans (Hg k u hu);clear hs CO jR fW ho cr4 dw hu mg Hg cr0 bA;cases fJ:cY t s with
   |none=>
    have yW:=aa (show ks t s=Wr by unfold ks;rw[fJ];rfl);have HE:=aa (bi7 (AN.out.trans (ff2 fJ)) az);clear fJ;go_upto_region 4 with (fail)
    refine M8 λhS=> ?_;iterate 9 refine cI 16 20 ?_
    refine Ij (i:=9) (v:= .tuple #[Ye #[WK Xr 0,WK Xr 0],Yc Ww]) (Ws 29) rfl rfl rfl aC aC aC aC (λ_ _ _ h=>h) (Or.inl ⟨by rfl,?_⟩) hS ?_
    .intro wq il;try dsimp only at il
     have h:=qm (P:=WH) underlying108 Xw Do il.2.2.2.1 s Wz (zeroValue178 _);rw[yW.out] at h;have kU:(WT 108 (.map (Ws Mb)) (WM (bs s)) Wz).run WH wq= .ok (.tuple #[Ye #[WK Xr 0,WK Xr 0],Yc Ww]) wq:=h;clear h;go_simp;try with_reducible rfl
    refine aG ?_;refine ie 10 19 ?_;iterate 2 refine cI 16 19 ?_
    refine bF 13 λK hK=> ?_;go_simp;refine Ad λhS=> ?_;clear hK;refine aG ?_;refine bF 14 λK hK=> ?_;go_simp;refine Ad λhS=> ?_;clear hK;refine aG ?_;refine ie 15 8 ?_;refine gK ?_;go_wp2_with fail
    go_ret;exact⟨by rw[HE.out];rfl,ai D.out hS.2.2.2.2⟩
   |some x=>
    obtain⟨xa,xn⟩:=x;have yW:=aa (show ks t s=Ws (QD (xa,xn)) by unfold ks;rw[fJ];rfl);have I:=aa (λh=>bi7 (AN.out.trans (ff3 (i:=k) (d:=d) (r:=d.refs.drop (k+1)) fJ h)) az);have Y:=aa (λh=>AN.out.trans (ff4 (i:=k) (d:=d) (r:=d.refs.drop (k+1)) fJ h));clear fJ;obtain⟨bl,ir⟩: ∃b,fO d k xa=b:=⟨_,rfl⟩;have G:=aa ((df2.out xa).trans ir);rw[ir] at I Y;clear ir;cases o with
    |none=>
     have gr3:u= .func (.func 204) #[] #[]:=VQ;subst gr3;clear VQ;have G:Hid (Wt (bD xa=5)=bl):=G.out;cases bl with
     |false=>
      have HE:=aa (I.out rfl);clear I Y;go_upto_region 4 with (fail)
      refine M8 λhS=> ?_;iterate 9 refine cI 16 20 ?_
      refine Ij (i:=9) (v:= .tuple #[Ye #[WK Xr (xa:Nat),WK Xr (xn:Nat)],Yc Wz]) (Ws 29) rfl rfl rfl aC aC aC aC (λ_ _ _ h=>h) (Or.inl ⟨by rfl,?_⟩) hS ?_
      .exact RB
      refine aG ?_;refine ie 10 19 ?_;iterate 2 refine cI 16 19 ?_
      refine bF 13 λK hK=> ?_;go_simp;refine Ad λhS=> ?_;clear hK;refine aG ?_;refine bF 14 λK hK=> ?_;go_simp;refine Ad λhS=> ?_;clear hK;refine aG ?_;refine ie 15 8 ?_;refine gK ?_;go_wp2_with first
       |(go_at_call 204;refine(az9 xa _).m ?_;rintro e w5 ⟨rfl,g⟩;rw[G.out];have J:=aa (ai hS.2.2.2.2 g);clear g)
      go_ret;exact⟨by rw[HE.out];rfl,ai D.out J.out⟩
     |true=>
      have HE:=aa (Y.out rfl);clear I Y;go_upto_region 4 with (fail)
      refine M8 λhS=> ?_;iterate 9 refine cI 16 20 ?_
      refine Ij (i:=9) (v:= .tuple #[Ye #[WK Xr (xa:Nat),WK Xr (xn:Nat)],Yc Wz]) (Ws 29) rfl rfl rfl aC aC aC aC (λ_ _ _ h=>h) (Or.inl ⟨by rfl,?_⟩) hS ?_
      .exact RB
      refine aG ?_;refine ie 10 19 ?_;iterate 2 refine cI 16 19 ?_
      refine bF 13 λK hK=> ?_;go_simp;refine Ad λhS=> ?_;clear hK;refine aG ?_;refine bF 14 λK hK=> ?_;go_simp;refine Ad λhS=> ?_;clear hK;refine aG ?_;refine ie 15 8 ?_;refine gK ?_;go_wp2_with first
       |(go_at_call 204;refine(az9 xa _).m ?_;rintro e w5 ⟨rfl,g⟩;rw[G.out];have J:=aa (ai hS.2.2.2.2 g);clear g)
      exact⟨⟨k+1,by omega,by go_num,HE.out,ai jI.out J.out⟩,by simp[WS];omega⟩
    |some j=>
     obtain⟨xb,rfl,dx⟩:=VQ;have cs0:=aq dx jI.out;have bp0:=aa cs0;simp only[aj] at cg;clear dx cs0;have G:Hid (Wt (xa=j)=bl):=G.out;cases bl with
     |false=>
      have HE:=aa (I.out rfl);clear I Y;go_upto_region 4 with (fail)
      refine M8 λhS=> ?_;iterate 9 refine cI 16 20 ?_
      refine Ij (i:=9) (v:= .tuple #[Ye #[WK Xr (xa:Nat),WK Xr (xn:Nat)],Yc Wz]) (Ws 29) rfl rfl rfl aC aC aC aC (λ_ _ _ h=>h) (Or.inl ⟨by rfl,?_⟩) hS ?_
      .exact RB
      refine aG ?_;refine ie 10 19 ?_;iterate 2 refine cI 16 19 ?_
      refine bF 13 λK hK=> ?_;go_simp;refine Ad λhS=> ?_;clear hK;refine aG ?_;refine bF 14 λK hK=> ?_;go_simp;refine Ad λhS=> ?_;clear hK;refine aG ?_;refine ie 15 8 ?_;refine gK ?_;go_wp2_with first
       |(go_at_call 288;refine(az8 xb j xa _ (aq bp0.out hS.2.2.2.2)).m ?_;rintro e w5 ⟨rfl,g⟩;rw[G.out];have J:=aa (ai hS.2.2.2.2 g);clear g)
      go_ret;exact⟨by rw[HE.out];rfl,ai D.out J.out⟩
     |true=>
      have HE:=aa (Y.out rfl);clear I Y;go_upto_region 4 with (fail)
      refine M8 λhS=> ?_;iterate 9 refine cI 16 20 ?_
      refine Ij (i:=9) (v:= .tuple #[Ye #[WK Xr (xa:Nat),WK Xr (xn:Nat)],Yc Wz]) (Ws 29) rfl rfl rfl aC aC aC aC (λ_ _ _ h=>h) (Or.inl ⟨by rfl,?_⟩) hS ?_
      .exact RB
      refine aG ?_;refine ie 10 19 ?_;iterate 2 refine cI 16 19 ?_
      refine bF 13 λK hK=> ?_;go_simp;refine Ad λhS=> ?_;clear hK;refine aG ?_;refine bF 14 λK hK=> ?_;go_simp;refine Ad λhS=> ?_;clear hK;refine aG ?_;refine ie 15 8 ?_;refine gK ?_;go_wp2_with first
       |(go_at_call 288;refine(az8 xb j xa _ (aq bp0.out hS.2.2.2.2)).m ?_;rintro e w5 ⟨rfl,g⟩;rw[G.out];have J:=aa (ai hS.2.2.2.2 g);clear g)
      exact⟨⟨k+1,by omega,by go_num,HE.out,ai jI.out J.out⟩,by simp[WS];omega⟩
  .have hI: ¬(k:Int)<rn:=by omega
   have Cg:=aa (show kM t d 0 d.refs=0 by have h:=AN.out;rw[List.drop_eq_nil_of_le AY] at h;exact h);clear AN;go_upto_region 10 with (fail)
   go_cut [9] from 42 to 86 (λp wx=>bG wx wx p (jV d)/\Below wr wr wx)
   case first=>
    rcases Nat.eq_zero_or_pos rn with h0|h0
    .subst h0;have go1:min (1:Int) 0=0:=by decide
     have HL:=aa (show ∀(q:Wv) W,Below wr wr W->bG W W.heap.size (BN (Yb RA 0 rc) q d.kind) (jV d) from λq W F=>by
      have jF: ¬d.kind=13:=λe=>by have:=D_.out.2.2.2.2.2.2.2.2.2.2.2.1 e;have:=HN.out;omega
      exact bi9 jF V.out (ai D.out F))
     refine fC (S:=λw'=>w'.cell? w=Ws (WK Xr d.kind)/\w'.cell? (w 2 Wr)=Ws (Yb RA 0 rc)/\Below wr wr w') 20 20 (by exact⟨x0,c2,aX (af wr)⟩) λhS=> ?_;exact bf1
    .obtain⟨s0,Hw⟩: ∃s,d.refs[0]? =some s:=⟨_,List.getElem?_eq_getElem (by rw[HN.out];exact h0)⟩;obtain⟨sb,so,rfl,jR,fW⟩:=bG.cell V.out Hw;have go1:min (1:Int) (rn:Int)=1:=by omega
     have tq:(1:Int)<=(rn:Int):=Yi;by_cases gq0:rc=1
     .subst gq0
      have HL:=aa (show ∀(q:Wv) W,Below wr wr W->bG W W.heap.size (BN (Yb (Ws (sb so Wr)) rn 1) q d.kind) (jV d) from λq W F=>by
       have jF: ¬d.kind=13:=λe=>by have:=D_.out.2.2.2.2.2.2.2.2.2.2.2.1 e;have:=HN.out;omega
       exact bi9 jF V.out (ai D.out F))
      refine fC (S:=λw'=>w'.cell? w=Ws (WK Xr d.kind)/\w'.cell? (w 2 Wr)=Ws (Yb (Ws (sb so Wr)) rn 1)/\Below wr wr w') 20 20 (by exact⟨x0,c2,aX (af wr)⟩) λhS=> ?_;exact bf1
     .have HL:=aa (show ∀W,Below wr wr W->bG W W.heap.size (BN (.slice (some ⟨sb,so,none⟩) rn rc) (.slice (some ⟨sb,so+1,none⟩) (rn - 1) (rc - 1)) d.kind) (jV d) from λW F=>fd1 h0 HN.out V.out (ai D.out F));refine fC (S:=λw'=>w'.cell? ⟨w.heap.size,0,none⟩=some (.int .i64 d.kind)/\w'.cell? ⟨w.heap.size,2,none⟩=some (.slice (some ⟨sb,so,none⟩) rn rc)/\Below wr wr w') 20 20 (by exact⟨x0,c2,aX (af wr)⟩) λhS=> ?_;iterate 2 refine cI 21 42 ?_
      iterate 2 refine cI 22 41 ?_
      iterate 7 refine cI 23 40 ?_
      iterate 2 refine cI 25 39 ?_
      refine bF 0 λK hK=> ?_;refine bi8 (enc:=iO) rfl 187 rfl ?_;intro w0 uz KL;have jb:Below wr wr w0:=ai (aX (af wr)) KL;clear KL;refine hK.out _ _ (by exact⟨kc (jb) x0,kc (jb) c2,jb⟩) (λhS=> ?_);clear hK;refine aG ?_;refine uS (rs:=[3,6,14]) aC Yl ?_;refine eQ.cons1 rfl (λK hK=> ?_) (eQ.cons1 rfl (λK hK=> ?_) (eQ.cons1 rfl (λK hK=> ?_) (eQ.nil)))
      .refine oV rfl (.tmp 42) (.const (.int .i64 5)) (.tmp 44) 187 (.inr rfl) 3 23 (.int .i64) underlying187 underlying3 co _ _ rfl uz (5:Int) _ rfl rfl ?_;intro wa kB pW;have nN:=pW.1 _ _ jb (ag _);clear pW uz;refine IQ λhS=> ?_;clear hK;refine aG ?_;refine uS (rs:=[6,14]) (by kernel_rfl) (by simp) ?_;refine eQ.cons1 rfl (λK hK=> ?_) (eQ.cons1 rfl (λK hK=> ?_) (eQ.nil))
       .refine oV rfl (Yg 42) (Yh (WK Xr 6)) (Yg 46) 187 (.inr rfl) 3 23 (.int Xr) Xm WI co _ _ rfl kB (6:Int) _ rfl rfl ?_;intro wb kC im;have kA:=im.1 _ _ nN (ag _);clear im kB;refine xc λhS=> ?_;clear hK;refine aG ?_;refine bF 14 λK hK=> ?_;refine RC ?_;intro wc pS ip;have jQ:=ip.1 _ _ kA (ag _);clear ip kC;refine kz λhS=> ?_;clear hK;refine aG ?_;refine bF 15 λK hK=> ?_;go_simp;refine kz λhS=> ?_;clear hK;refine aG ?_;refine bF 18 λK hK=> ?_;refine bf2 ?_;exact IR
       .refine oV rfl (Yg 42) (Yh (WK Xr 13)) (Yg 53) 187 (.inr rfl) 3 23 (.int Xr) Xm WI co _ _ rfl kB (13:Int) _ rfl rfl ?_;intro wb kC im;have kA:=im.1 _ _ nN (ag _);clear im kB;refine xc λhS=> ?_;clear hK;refine aG ?_;refine bF 6 λK hK=> ?_;refine RD ?_;intro wc pS ip;have jQ:=ip.1 _ _ kA (ag _);clear ip kC;refine kz λhS=> ?_;clear hK;refine aG ?_;refine bF 15 λK hK=> ?_;go_simp;refine kz λhS=> ?_;clear hK;refine aG ?_;refine bF 18 λK hK=> ?_;refine bf3 ?_;exact IR
      .refine oV rfl (.tmp 42) (.const (.int .i64 6)) (.tmp 46) 187 (.inr rfl) 3 23 (.int .i64) underlying187 underlying3 co _ _ rfl uz (6:Int) _ rfl rfl ?_;intro wa kB pW;have nN:=pW.1 _ _ jb (ag _);clear pW uz;refine IQ λhS=> ?_;clear hK;refine aG ?_;refine uS (rs:=[3,14]) (by kernel_rfl) (by simp) ?_;refine eQ.cons1 rfl (λK hK=> ?_) (eQ.cons1 rfl (λK hK=> ?_) (eQ.nil))
       .refine oV rfl (Yg 42) (Yh (WK Xr 5)) (Yg 44) 187 (.inr rfl) 3 23 (.int Xr) Xm WI co _ _ rfl kB (5:Int) _ rfl rfl ?_;intro wb kC im;have kA:=im.1 _ _ nN (ag _);clear im kB;refine xc λhS=> ?_;clear hK;refine aG ?_;refine bF 14 λK hK=> ?_;refine RC ?_;intro wc pS ip;have jQ:=ip.1 _ _ kA (ag _);clear ip kC;refine kz λhS=> ?_;clear hK;refine aG ?_;refine bF 15 λK hK=> ?_;go_simp;refine kz λhS=> ?_;clear hK;refine aG ?_;refine bF 18 λK hK=> ?_;refine bf4 ?_;exact IR
       .refine oV rfl (Yg 42) (Yh (WK Xr 13)) (Yg 53) 187 (.inr rfl) 3 23 (.int Xr) Xm WI co _ _ rfl kB (13:Int) _ rfl rfl ?_;intro wb kC im;have kA:=im.1 _ _ nN (ag _);clear im kB;refine xc λhS=> ?_;clear hK;refine aG ?_;refine bF 3 λK hK=> ?_;refine RE ?_;intro wc pS ip;have jQ:=ip.1 _ _ kA (ag _);clear ip kC;refine kz λhS=> ?_;clear hK;refine aG ?_;refine bF 15 λK hK=> ?_;go_simp;refine kz λhS=> ?_;clear hK;refine aG ?_;refine bF 18 λK hK=> ?_;refine bf5 ?_;exact IR
      .refine oV rfl (.tmp 42) (.const (.int .i64 13)) (.tmp 53) 187 (.inr rfl) 3 23 (.int .i64) underlying187 underlying3 co _ _ rfl uz (13:Int) _ rfl rfl ?_;intro wa kB pW;have nN:=pW.1 _ _ jb (ag _);clear pW uz;refine IQ λhS=> ?_;clear hK;refine aG ?_;refine uS (rs:=[3,6]) (by kernel_rfl) (by simp) ?_;refine eQ.cons1 rfl (λK hK=> ?_) (eQ.cons1 rfl (λK hK=> ?_) (eQ.nil))
       .refine oV rfl (Yg 42) (Yh (WK Xr 5)) (Yg 44) 187 (.inr rfl) 3 23 (.int Xr) Xm WI co _ _ rfl kB (5:Int) _ rfl rfl ?_;intro wb kC im;have kA:=im.1 _ _ nN (ag _);clear im kB;refine xc λhS=> ?_;clear hK;refine aG ?_;refine bF 6 λK hK=> ?_;refine RD ?_;intro wc pS ip;have jQ:=ip.1 _ _ kA (ag _);clear ip kC;refine kz λhS=> ?_;clear hK;refine aG ?_;refine bF 15 λK hK=> ?_;go_simp;refine kz λhS=> ?_;clear hK;refine aG ?_;refine bF 18 λK hK=> ?_;refine bf6 ?_;exact IR
       .refine oV rfl (Yg 42) (Yh (WK Xr 6)) (Yg 46) 187 (.inr rfl) 3 23 (.int Xr) Xm WI co _ _ rfl kB (6:Int) _ rfl rfl ?_;intro wb kC im;have kA:=im.1 _ _ nN (ag _);clear im kB;refine xc λhS=> ?_;clear hK;refine aG ?_;refine bF 3 λK hK=> ?_;refine RE ?_;intro wc pS ip;have jQ:=ip.1 _ _ kA (ag _);clear ip kC;refine kz λhS=> ?_;clear hK;refine aG ?_;refine bF 15 λK hK=> ?_;go_simp;refine kz λhS=> ?_;clear hK;refine aG ?_;refine bF 18 λK hK=> ?_;refine bf7 ?_;exact IR
   case rest=>
   obtain⟨Bd,pf⟩:=hcut;obtain⟨LA,ln,lc,rfl,mi,_,_⟩:=Bd.sk.form;have hf9:ln<=17:=by have:=fl1 d;have:=HN.out;omega
   have kH:=aa pf;have vz:Hid (Below w w wc):=ai D.out pf;have bp1:=aa (aq GJ.out pf);have ta:=aa (λW Bs (h1:Bs<W.heap.size) (h2:W.cell? ⟨Bs,0,Wr⟩=Ws (Yb LA ln lc)) (h3:bG W W.heap.size (Yb LA ln lc) (jV d))=>fh0 Bs (Yb LA ln lc) ((jV d).map bs) (by rw[WF];omega) W h1 h2 h3);rw[fd2,WF,mi] at ta;have pr:=aa (fh5 (jV d));have Br:((jV d).mergeSort λx y=>Wt (x<=y)).length=ln:=by rw[List.length_mergeSort,mi]
   rw[mi] at pr;have bm6:=aa Br;generalize ((jV d).mergeSort λx y=>Wt (x<=y))=ms at ta pr bm6 Br;have Jo:=aa (λB v W (h:W.ownsRow B 9 1 v ln (ms.map Go.Proofs.encStr))=>fl2 B v ms W (by rw[bm6.out];exact h) Yi);have od:=aa Bd;clear Bd pf Br mi x0 c2 c0;generalize (Lib.compact ms).length=cl at pr Jo;by_cases uI:(jV d).Nodup
   .have gk6: ¬(cl:Int)<(ln:Int):=λh=>(pr.out.1 (by omega)) uI;have fB:=aa (λh=>ff6 Cg.out uI h);have SL:=aa (λh=>ff7 Cg.out uI h);by_cases C:d.kind=4\/d.kind=14
    .have Pa:rn=2:=by
      have:=HN.out;rcases C with C|C
      .have:=(D_.out.2.2.2.2.2.2.1 C).1;omega
      .have:=D_.out.2.2.2.2.2.2.2.2.2.2.2.2.1 C;omega
     subst Pa;obtain⟨s0,Hw⟩: ∃s,d.refs[0]? =Ws s:=⟨_,Wy (by rw[HN.out];decide)⟩;obtain⟨s1,dh⟩: ∃s,d.refs[1]? =Ws s:=⟨_,Wy (by rw[HN.out];decide)⟩;obtain⟨sb,so,rfl,jR,UI⟩:=bG.cell V.out Hw;have cj0:w.cell? (sb (so+1) Wr)=Ws (WM (bs s1)):=by obtain⟨b,o,e,_,h⟩:=bG.cell V.out dh;injection e with e;injection e with e1 e2;subst e1 e2;exact h
     rw[WR] at UI;have J3:=aa UI;have AO:=aa cj0
     have bk8:=aa (show ∀b:Bool,Wt (s0=s1)=b->ea t d=if b then 2 else 0 from λb hb=>by
      subst hb;by_cases O:s0=s1
      .rw[fB.out ⟨C,by rw[Hw,dh,O]⟩];simp[O]
      .rw[SL.out (λh=>O (by have:=h.2;rw[Hw,dh] at this;injection this))];simp[O])
     clear UI cj0 Hw dh fB SL;obtain⟨be,Lc⟩: ∃b,Wt (s0=s1)=b:=⟨_,rfl⟩;have HE:=aa (bk8.out be Lc);have iV:=aa Lc;clear bk8 Lc;by_cases ha5:d.kind=4
     .have e4:((d.kind:Int)==4)=true:=by simp;omega
      clear C
      go_upto_region 14 with (first
       |(go_at_call 140;refine(QP LA ln lc _).m ?_;rintro e w6 ⟨rfl,rfl⟩;simp only[bm,aj])
       |(go_at_call 139;refine RF ?_;rintro e Z ⟨v7,rfl,c,A⟩;have X:=aa (Jo.out _ _ _ c);obtain⟨SA,sn,xf,rfl⟩:=eH c;have U:Hid (Below wc wc Z):=ai (ae (af wc) _) A;clear c A)
       |(go_at_call 141;refine X.out.m ?_;rintro e w8 ⟨CA,cc,rfl,z⟩;have gW:Hid (Below wc wc w8):=U.out.trans (z.mono Yl);clear z))
      refine bf8 λyk y0 y2 RH RI=> ?_;clear yk;have hq:((bs s0).toList==(bs s1).toList)=be:=by rw[jr,jr,gI,gI,<-iV.out,WU];simp
      refine bf9 λhS=> ?_;iterate 4 refine cI 19 67 ?_
      iterate 3 refine rE 19 67 ?_
      iterate 12 refine cI 19 67 ?_
      refine gK ?_;cases be with
      |false=>exact M9
      |true=>exact M9
     .have e4:((d.kind:Int)==4)=false:=by simp;omega
      have mq:((d.kind:Int)==14)=true:=bI;clear C
      go_upto_region 14 with (first
       |(go_at_call 140;refine(QP LA ln lc _).m ?_;rintro e w6 ⟨rfl,rfl⟩;simp only[bm,aj])
       |(go_at_call 139;refine RF ?_;rintro e Z ⟨v7,rfl,c,A⟩;have X:=aa (Jo.out _ _ _ c);obtain⟨SA,sn,xf,rfl⟩:=eH c;have U:Hid (Below wc wc Z):=ai (ae (af wc) _) A;clear c A)
       |(go_at_call 141;refine X.out.m ?_;rintro e w8 ⟨CA,cc,rfl,z⟩;have gW:Hid (Below wc wc w8):=U.out.trans (z.mono Yl);clear z))
      refine bf8 λyk y0 y2 RH RI=> ?_;clear yk;have hq:((bs s0).toList==(bs s1).toList)=be:=by rw[jr,jr,gI,gI,<-iV.out,WU];simp
      refine bf9 λhS=> ?_;iterate 19 refine cI 19 67 ?_
      refine gK ?_;cases be with
      |false=>exact M9
      |true=>exact M9
    .have e4:((d.kind:Int)==4)=false:=by simp;omega
     have mq:((d.kind:Int)==14)=false:=bI;have HE:=aa (SL.out (λh=>C h.1));clear C
     go_upto_region 14 with (first
      |(go_at_call 140;refine(QP LA ln lc _).m ?_;rintro e w6 ⟨rfl,rfl⟩;simp only[bm,aj])
      |(go_at_call 139;refine RF ?_;rintro e Z ⟨v7,rfl,c,A⟩;have X:=aa (Jo.out _ _ _ c);obtain⟨SA,sn,xf,rfl⟩:=eH c;have U:Hid (Below wc wc Z):=ai (ae (af wc) _) A;clear c A)
      |(go_at_call 141;refine X.out.m ?_;rintro e w8 ⟨CA,cc,rfl,z⟩;have gW:Hid (Below wc wc w8):=U.out.trans (z.mono Yl);clear z))
     have y0:w8.cell? w=Ws (WK Xr d.kind):=ah (aq bp1.out gW.out) rfl;refine fC (S:=λw'=>w'.cell? w=Ws (WK Xr d.kind)) 19 19 (by exact y0) λhS=> ?_;iterate 9 refine cI 19 67 ?_
     iterate 9 refine rE 19 67 ?_
     refine ie 18 85 ?_;refine gK ?_;exact M9
   .have gk6:(cl:Int)<(ln:Int):=by have:=pr.out.2 uI;omega
    have HE:=aa (ff5 Cg.out uI);go_wp2_with first
     |(go_at_call 140;refine(QP LA ln lc _).m ?_;rintro e w6 ⟨rfl,rfl⟩;simp only[bm,aj])
     |(go_at_call 139;refine RF ?_;rintro e Z ⟨v7,rfl,c,A⟩;have X:=aa (Jo.out _ _ _ c);obtain⟨SA,sn,xf,rfl⟩:=eH c;have U:Hid (Below wc wc Z):=ai (ae (af wc) _) A;clear c A)
     |(go_at_call 141;refine X.out.m ?_;rintro e w8 ⟨CA,cc,rfl,z⟩;have gW:Hid (Below wc wc w8):=U.out.trans (z.mono Yl);clear z)
    go_ret;exact⟨by rw[HE.out];rfl,ai vz.out gW.out⟩
def fi8 (f:Fn) (a b:Array Wv) (w:Wu):(Go.binOp .neq 116 (.func f a b) .nilFunc).run WH w= .ok (Yc Wz) w:=aC
def fi9 (w:Wu):(Go.binOp .neq 116 .nilFunc .nilFunc).run WH w= .ok (Yc Ww) w:=aC
def Dw:Array Value:= #[Yb Wr 0 0,Yb Wr 0 0,Yb Wr 0 0,Yb Wr 0 0,Yb Wr 0 0,Yb Wr 0 0,WK Xr 0,WK Xr 0,WK Xr 0,WK Xr 0,Yb Wr 0 0]
def FI (w:Wu) (r:Except (Nat×Nat) aM) (e:X0) (w':Wu):Prop:=
 Below w w w'/\match r with
  | .error x=>e=Xz (.tuple #[Ye Dw,x.1,x.2])
  | .ok m=> ∃v,e=Xz (.tuple #[Ye (m.cells v),WK Xr 0,WK Xr 0])/\m.In w' w' v/\∃B M,w.heap.size<=B/\fG w' B M m v
def FI.err {w w':Wu} {r:Except (Nat×Nat) aM} {x:Nat×Nat} {e:X0} (h:r= .error x) (g:e=Xz (.tuple #[Ye Dw,x.1,x.2])) (c:Below w w w'):FI w r e w':=by subst h;exact⟨c,g⟩
def fj0 {W:Wu} {rt:Nat} {T:WQ} {u0 u1 u2 u3 u4 u5 u6 u7 u8 u9 u10:Wv} (J:W.heap[rt]? =Ws (Yd #[u0,u1,u2,u3,u4,u5,u6,u7,u8,u9,u10] T (0,0))) (g j y z A C D F G I c:Wv):
 (((((((((((W.setCell rt g).setCell (rt 1 Wr) j).setCell (rt 2 Wr) y).setCell (rt 3 Wr) z).setCell (rt 4 Wr) A).setCell (rt 5 Wr) C).setCell (rt 6 Wr) D).setCell (rt 7 Wr) F).setCell (rt 8 Wr) G).setCell (rt 9 Wr) I).setCell (rt 10 Wr) c).heap[rt]? =Ws (Yd #[g,j,y,z,A,C,D,F,G,I,c] T (0,0))/\aF W.heap.size rt W (((((((((((W.setCell rt g).setCell (rt 1 Wr) j).setCell (rt 2 Wr) y).setCell (rt 3 Wr) z).setCell (rt 4 Wr) A).setCell (rt 5 Wr) C).setCell (rt 6 Wr) D).setCell (rt 7 Wr) F).setCell (rt 8 Wr) G).setCell (rt 9 Wr) I).setCell (rt 10 Wr) c):=
 ⟨(aZ (aZ (aZ (aZ (aZ (aZ (aZ (aZ (aZ (aZ (aZ J 0 g) 1 j) 2 y) 3 z) 4 A) 5 C) 6 D) 7 F) 8 G) 9 I) 10 c).trans aC,(aF.set (aF.set (aF.set (aF.set (aF.set (aF.set (aF.set (aF.set (aF.set (aF.set (aF.set (aF.refl _ _ _) (.inl rfl) _) (.inl rfl) _) (.inl rfl) _) (.inl rfl) _) (.inl rfl) _) (.inl rfl) _) (.inl rfl) _) (.inl rfl) _) (.inl rfl) _) (.inl rfl) _) (.inl rfl) _)⟩
def fj1 {a:Act} {W:Wu} {rt:Nat} {T:WQ} {R:X0->Wu->Prop} {u0 u1 u2 u3 u4 u5 u6 u7 u8 u9 u10 g j y z A C D F G I c i e:Wv} (V:a.tmps.getD 2 XE=Yf (Ws rt)) (X:a.tmps.getD 3 XE=i) (h4:a.tmps.getD 4 XE=e) (hd:a.defers=[])
 (Z:W.heap[rt]? =Ws (Yd #[u0,u1,u2,u3,u4,u5,u6,u7,u8,u9,u10] T (0,0)))
 (Y: ∀J,aF W.heap.size rt W J->R (Xz (.tuple #[Ye #[g,j,y,z,A,C,D,F,G,I,c],i,e])) J):
 bodyPost WH Tryz.f19 R .ret a (((((((((((W.setCell rt g).setCell (rt 1 Wr) j).setCell (rt 2 Wr) y).setCell (rt 3 Wr) z).setCell (rt 4 Wr) A).setCell (rt 5 Wr) C).setCell (rt 6 Wr) D).setCell (rt 7 Wr) F).setCell (rt 8 Wr) G).setCell (rt 9 Wr) I).setCell (rt 10 Wr) c):=by
 obtain⟨g7,hK⟩:=fj0 Z g j y z A C D F G I c;generalize ((((((((((W.setCell rt g).setCell (rt 1 Wr) j).setCell (rt 2 Wr) y).setCell (rt 3 Wr) z).setCell (rt 4 Wr) A).setCell (rt 5 Wr) C).setCell (rt 6 Wr) D).setCell (rt 7 Wr) F).setCell (rt 8 Wr) G).setCell (rt 9 Wr) I).setCell (rt 10 Wr) c=J at g7 hK⊢
 obtain⟨f0,f1,f2,f3,f4,f5,f6,f7,f8,f9,f10⟩:=eR g7;refine bodyPost_ret (v:= .tuple #[Ye #[g,j,y,z,A,C,D,F,G,I,c],i,e]) ?_ hd (Y J hK);have zy:a.tmps[2]?.getD XE=Yf (Ws rt):=by simpa using V
 have O:a.tmps[3]?.getD XE=i:=by simpa using X
 have U:a.tmps[4]?.getD XE=e:=oh;simp[results,Tryz.f19,go_sem,zy,O,U,f0,f1,f2,f3,f4,f5,f6,f7,f8,f9,f10]
def fj2 (v:Wv) (l:List au) (w:Wu) (hG:fD w) (hv:bW 6 oD w w v l) (hl:l.length<=100000):WJ WH 19 #[v] w (FI w (nE l)):=by
 obtain⟨A,n,c,rfl,hn,hc,iG⟩:=hv.form;have go8:=λf a b w=>fi8 f a b w;have hh1:=λw=>fi9 w;refine tP λlM=> ?_;have HG:=aa hG;have HV:=aa hv;have HN:=aa hn;have pk:=hG.g.size;clear hG hv hn;go_enter func19,ntmps19;go_upto_region 2 with (fail)
 refine cP (λW=>Below w w W/\W.heap[w.heap.size]? =Ws (Yd Dw 30 (0,0))/\de lV W (w.heap.size+1) (λ_=>Wr)/\W.heap[w.heap.size+2]? =Ws (Yd (mZ (w.heap.size+1) {} ⟨Yb Wr 0 0,Yb Wr 0 0,Yb Wr 0 0,Yb Wr 0 0,Yb Wr 0 0,Yb Wr 0 0,Yb Wr 0 0⟩) 110 (0,0))) ?_ ?_
 .refine⟨ae (ae (ae (af w) _) _) _,aq (aq (bQ w _) (ae (af _) _)) (ae (af _) _),?_,?_⟩
  .have h:=de.made lV (w.alloc (Yd Dw 30 (0,0)));rw[XL] at h;exact h.later (ae (af _) _)
  .have h:=bQ ((w.alloc (Yd Dw 30 (0,0))).alloc (.map #[] 0)) (Yd (mZ (w.heap.size+1) {} ⟨Yb Wr 0 0,Yb Wr 0 0,Yb Wr 0 0,Yb Wr 0 0,Yb Wr 0 0,Yb Wr 0 0,Yb Wr 0 0⟩) 110 (0,0));rw[XL,XL] at h;exact h
 intro W1 ⟨aU,Uo,Ui,K8⟩;obtain⟨rt,si⟩: ∃b,b=w.heap.size:=⟨_,rfl⟩;obtain⟨Mb,Be⟩: ∃b,b=w.heap.size+1:=⟨_,rfl⟩;obtain⟨rb,bc⟩: ∃b,b=w.heap.size+2:=⟨_,rfl⟩;rw[<-si] at Uo;rw[<-Be] at Ui;rw[<-Be,<-bc] at K8;rw[<-bc,<-Be,<-si];have Pl:=aU.size;have VU:=blk_lt K8;have cp9:W1.cell? rb=Ws (.map (Ws Mb)):=ah K8 rfl;have Jn:=ex1 rb Mb (Yb A n c) l W1 (HG.out.step aU) Yi cp9 (Ui.of_eq (λk=>rfl)) (HV.out.to oD.ab aU (ag _) aU.size) hl;have aT:=aa aU;have N3:=aa Uo;have Ch:=aa K8;have dh0:=aa VU;have dh1:=aa Pl;have bn9:=aa si;have bm7:=aa Be;have bo0:=aa bc;have Vz: ¬rt=Mb:=Yi;have cp8: ¬rb=Mb:=Yi;have gq4: ¬rt=rb:=Yi;simp only[aj] at Jn;clear aU Uo Ui K8 cp9;cases hcol:iN [] [] l with
 |error x=>
  have HE:=aa (be7 hcol);have X:=ZJ l [] [] x hcol;have AH:=aa (Jn.mono (R':=λe w'=>aF W1.heap.size Mb W1 w'/\e=Xz (.tuple #[x.1,x.2])) (λe w' h=>⟨h.1,by have h2:=h.2;rw[hcol] at h2;exact h2⟩));clear Jn hcol si Be bc;obtain⟨x1,x2⟩:=x;have gs0:x2=1\/x2=5:=X;clear X;rcases gs0 with rfl|rfl
  .exact bg0
  .exact bg0
 |ok t=>
  have jq:=aa (ZK l [] [] t hcol);have NW:=aa (fm8 hcol Yi);have SI:=aa hcol;have AH:=aa (Jn.mono (R':=λe w'=>aF W1.heap.size Mb W1 w'/\e=Xz (.tuple #[WK Xr 0,WK Xr 0])/\de lV w' Mb (ks t)) (λe w' h=>⟨h.1,by have h2:=h.2;rw[hcol] at h2;exact h2⟩));clear Jn hcol si Be bc;have mG:=aa (λW=>ey0 rb W);simp only[aj] at mG
  go_upto_region 6 with (first
   |(go_at_call 45;refine AH.out.m ?_;rintro e w2 ⟨d',rfl,ce4⟩;have gH:=aa d';have Gj:=aa ce4;clear d' ce4)
   |(go_at_call 46;refine(mG.out _).m ?_;rintro e w3 ⟨D,qb,mb,rfl,cd1,uM,lP,gp7,cp4,cp5,aL⟩;have Jh:=aa cd1;have bn5:=aa cp4;have bn6:=aa cp5;have bg:=aa aL;clear cd1 cp4 cp5 aL))
  have vV:=aa (aq (gH.out.blk N3.out (blk_lt N3.out) Vz) bg.out);have xI:=aq (gH.out.blk Ch.out (blk_lt Ch.out) cp8) bg.out;have cw6:=aa (Gj.out.later bg.out);have si:=bn9.out;have Be:=bm7.out;have bc:=bo0.out;have bd:=gH.out.size;have jU:=bg.out.size;have gt1:=Jh.out.lt;have gt2:=blk_lt bn5.out;have gs7:=blk_lt bn6.out;obtain⟨B,hB⟩: ∃b,b=w3.heap.size:=⟨_,rfl⟩;have cz2:Hid (kQ w3 rb B 0 Mb {}):=⟨by omega,by omega,_,xI,fG.nil_ _ _⟩;have cv2:Hid (Below w w w3):=(aT.out.trans ((gH.out.below Yi).mono Yi)).trans (bg.out.mono Yi);have HZ:=aa (show rb<B/\Mb<B/\D<B/\qb<B/\mb<B/\rt<B/\w.heap.size<=rt/\rt<rb/\rt<Mb/\Mb<rb/\rb<qb/\rb<mb/\rb<D/\B=w3.heap.size from by omega);clear xI bd jU gt1 gt2 gs7 hB uM lP gp7 Vz cp8 gq4 Pl VU si Be bc;go_wp2_with fail
  go_loopw [9,32] (λZ i wr=> ∃(k:Nat) (m:aM),k<=n/\i=WK Xr k/\Z=Yc ((l.take k).any λd=>Wt (d.kind=8))/\mV t 0 {} l=mV t k m (l.drop k)/\kQ wr rb B k Mb m/\aF B rb w3 wr) (λ_ i _=>n - (WS i).toNat)
  case atStart=>exact⟨0,{},bU _,rfl,rfl,rfl,cz2.out,aF.refl _ _ _⟩
  case round=>
   obtain⟨k,m,hk,rfl,rfl,VD,Ov,nd⟩:=hrel;obtain⟨Z,Lf⟩: ∃b,((l.take k).any λd=>Wt (d.kind=8))=b:=⟨_,rfl⟩;rw[Lf];have vQ:=aa VD;have gG:=aa Ov;have mK:=aa nd;have DM:=aa Lf;have cv4:Hid (Below rb w3 wr):=nd.below (eJ HZ.out.1);have V:Hid (Below w w wr):=cv2.out.trans (cv4.out.mono v_);have pz:Hid (wr.heap[rt]? =_):=nd.blk vV.out HZ.out.2.2.2.2.2.1 v_;have Gk:=aa (cw6.out.blk (nd.block Mb HZ.out.2.1 v_));have dc4:=aa (nd.blk bn5.out HZ.out.2.2.2.1 v_);have jA:=aa (nd.blk bn6.out HZ.out.2.2.2.2.1 v_);have F_:=aa (Jh.out.blk (nd.block D HZ.out.2.2.1 v_));clear VD Ov nd Lf;by_cases ar:k<n
   .have dz:(0:Int)<=k:=by omega
    have bJ:(k:Int)<n:=Yi;obtain⟨d,hd⟩: ∃d,l[k]? =Ws d:=⟨_,Wy lU⟩;have CO:l.drop k=d::l.drop (k+1):=I_ hd;have EZ:l.take (k+1)=l.take k++[d]:=by rw[XJ,hd];rfl
    rw[CO] at vQ;have yh:=jq.out d (eD hd);have D':=aa yh;have bk7:=aa (show((l.take (k+1)).any λd=>Wt (d.kind=8))=(Z||Wt (d.kind=8)) by rw[EZ,List.any_append,DM.out];simp);have Tq:Hid (bW 6 oD wr w (Yb A n c) l):=HV.out.below oD.ab V.out (ag _);obtain⟨b,o,cs,rfl,gP,UG,hR,bk⟩:=Tq.out.at_ hd;obtain⟨rv,nv,rfl,mE,By,ap,am⟩:=hR;obtain⟨RA,rn,rc,rfl,_,_,_⟩:=mE.sk.form;obtain⟨NA,nn,nc,rfl,_,_,_⟩:=By.sk.form;have vT:=aa mE;have AR:=aa By;refine Dd λh0 h1 h2=> ?_;have h3:=bk 3 _ rfl;have h4:=bk 4 _ rfl;have h5:=bk 5 _ rfl;simp only[WR] at h0;clear bk UG mE By hd CO EZ yh;go_upto_region 10 with (fail)
    refine cP (λW=>Below wr wr W/\W.heap[wr.heap.size]? =Ws (Yd #[WK Xr d.kind,bs d.name,Yb RA rn rc,Yb NA nn nc,WK Xr d.by_,Yc d.always] 96 (0,0))) ⟨by first|exact cF (ae (af wr) _) (ag _) _|exact ae (af wr) _,by first|exact Xn wr _|exact(aZ (aZ (aZ (aZ (aZ (aZ (Xn wr _) _ _) _ _) _ _) _ _) _ _) _ _).trans rfl⟩ ?_;intro W2 ⟨aV,X⟩;obtain⟨xb,dx⟩: ∃b,wr.heap.size=b:=⟨_,rfl⟩;have gF:=blk_lt X;simp only[dx] at X gF⊢
    obtain⟨up,rT,uq,ur,ut,uu⟩:=jD X;have AS:=aa dx;have aR:=aa aV;have qN:=aa X;have cs6:=gG.out.2.1;have cp7:W2.cell? rb=Ws (.map (Ws Mb)):=by obtain⟨v,hv,_⟩:=gG.out.2.2;exact ah (aq hv aV) rfl
    have Y:=V.out.size;have gr9:=aV.size;have DH:=aa (fn1 rb Mb t d (Yb RA rn rc) (Yb NA nn nc) W2 cp7 (Gk.out.later aV) ((vT.out.below aV Y).more Yi) D'.out);simp only[aj] at DH;clear aV X h0 h1 h2 h3 h4 h5 dx cp7;by_cases Le:ea t d=0
    .have ta:=aa (vQ.out.trans (Rz Le));have cw0:=aa (DH.out.mono (R':=λe w'=>e= .returned (.int .i64 0)/\Below W2 W2 w') (λe w' h=>⟨by rw[h.1,Le];rfl,h.2⟩));clear DH Le
     go_upto_region 13 with (first
      |(go_at_call 47;refine cw0.out.m ?_;rintro e w5 ⟨rfl,F⟩;have bY:Hid (Below wr wr w5):=aR.out.trans (F.mono gr9);have Ea:=aa (aq qN.out F);clear F))
     obtain⟨zn,oo,mO,mP,zo,pF⟩:=jD Ea.out;obtain⟨k8b,uG⟩: ∃b,Wt (d.kind=8)=b:=⟨_,rfl⟩;go_cut [9] from 45 to 78 (λp wx=>p=Yc (Z||k8b)/\w5=wx)
     case first=>
      cases Z with
      |true=>
       go_wp2_with fail
       go_meet;exact⟨rfl,rfl⟩
      |false=>
       cases k8b with
       |true=>
        have e8:((d.kind:Int)==8)=true:=by have:=of_decide_eq_true uG;simp;omega
        clear uG;go_wp2_with fail
        go_meet;exact⟨rfl,rfl⟩
       |false=>
        have e8:((d.kind:Int)==8)=false:=by have:=of_decide_eq_false uG;simp;omega
        clear uG;go_wp2_with fail
        go_meet;exact⟨rfl,rfl⟩
     case rest=>
     obtain⟨rfl,rfl⟩:=hcut;have DK:=aa uG;have VX:=bY.out.size;have Ov:=gG.out;obtain⟨Hv,Bc,v,fK,rV⟩:=Ov;have HOr:=aa rV;have U:=aa (aq fK bY.out);have NX:=aa (rV.gp (gi.of_below bY.out) Hv);have SN:=aa (Gk.out.later bY.out);have dc3:=aa (aq dc4.out bY.out);have cz3:=aa (aq jA.out bY.out);have mf:aK d.by_:=qx Yi;have sV:=aa (λW (y:Below w5 w5 W)=>Z0 rb Mb t (Yb RA rn rc) d.refs W ((y.cell (p:=rb) (blk_lt U.out)).trans (ah U.out rfl)) (SN.out.later y) (((vT.out.below bY.out Y).below y Yi).more (by have:=y.size;omega)) (by have:=(oU D'.out).2.2.1;omega));have S4:Hid (aF B rb w3 w5):=mK.out.trans (aF.of_below bY.out Bc VX);have cu7:=aa (show ∀W Bu u,Below w5 w5 W->W.ownsRow Bu 3 1 u d.refs.length ((d.refs.map (bC t)).map (WK .i64))->oW W rb B k Mb qb mb Bu t d m (Yb RA rn rc) (Yb NA nn nc) u from λW Bu u y hu=>⟨⟨Hv,by have:=y.size;omega,v,aq U.out y,NX.out.gp (gi.of_below y) Hv⟩,aq dc3.out y,aq cz3.out y,HZ.out.2.2.2.1,HZ.out.2.2.2.2.1,by have:=HZ.out;omega,SN.out.later y,((vT.out.below bY.out Y).below y Yi).more v_,((AR.out.below bY.out Y).below y Yi).more v_,hu,D'.out,by have:=HN.out;omega,NW.out,mf⟩);have cm3: ∀u,addF qb mb (d.kind:Int)=u->(WT 113 (.map (Ws D)) (WK Xr d.kind) Ww).run WH w5= .ok (u.getD .nilFunc) w5:=λu hu=>by have h:=qm (P:=WH) underlying113 WI co (F_.out.later bY.out) (d.kind:Int) Ww (zeroValue116 _);rw[hu] at h;exact h
     have I:=aa cm3;simp only[aj] at sV;clear fK rV cm3 uG;by_cases g:d.kind=0
     .have z:=aa g;have O:(Instr.lookup 113 (.map (some D)) (.int .i64 d.kind) false).run prog w5= .ok (.func (.func 127) #[] #[.pointer (some ⟨mb,0,none⟩)]) w5:=I.out (some (.func (.func 127) #[] #[.pointer (some ⟨mb,0,none⟩)])) (by rw[g];rfl);clear g;go_upto_region 16 with (fail)
      refine Ae λhS=> ?_;iterate 5 refine pK 7 57 ?_
      refine bF 5 λK hK=> ?_;go_simp;refine Af ?_;rintro e w6 ⟨u,rfl,hu,bM⟩;refine Ag λcK HH=> ?_;obtain⟨UA,um,uc,rfl⟩:=eH hu;clear hu bM;try go_simp
      clear hS;refine Ah λhS=> ?_;clear hK;refine aG ?_;refine eC 6 λK hK=> ?_;go_simp;refine(fl6 HH.out z.out).mono ?_;exact Ai
     by_cases g:d.kind=1
     .have z:=aa g;have O:(Instr.lookup 113 (.map (some D)) (.int .i64 d.kind) false).run prog w5= .ok (.func (.func 128) #[] #[.pointer (some ⟨mb,0,none⟩)]) w5:=I.out (some (.func (.func 128) #[] #[.pointer (some ⟨mb,0,none⟩)])) (by rw[g];rfl);clear g;go_upto_region 16 with (fail)
      refine Ae λhS=> ?_;iterate 5 refine pK 7 57 ?_
      refine bF 5 λK hK=> ?_;go_simp;refine Af ?_;rintro e w6 ⟨u,rfl,hu,bM⟩;refine Ag λcK HH=> ?_;obtain⟨UA,um,uc,rfl⟩:=eH hu;clear hu bM;try go_simp
      clear hS;refine Ah λhS=> ?_;clear hK;refine aG ?_;refine eC 6 λK hK=> ?_;go_simp;refine(fl7 HH.out z.out).mono ?_;exact Ai
     by_cases g:d.kind=2
     .have z:=aa g;have O:(Instr.lookup 113 (.map (some D)) (.int .i64 d.kind) false).run prog w5= .ok (.func (.func 129) #[] #[.pointer (some ⟨mb,0,none⟩)]) w5:=I.out (some (.func (.func 129) #[] #[.pointer (some ⟨mb,0,none⟩)])) (by rw[g];rfl);clear g;go_upto_region 16 with (fail)
      refine Ae λhS=> ?_;iterate 5 refine pK 7 57 ?_
      refine bF 5 λK hK=> ?_;go_simp;refine Af ?_;rintro e w6 ⟨u,rfl,hu,bM⟩;refine Ag λcK HH=> ?_;obtain⟨UA,um,uc,rfl⟩:=eH hu;clear hu bM;try go_simp
      clear hS;refine Ah λhS=> ?_;clear hK;refine aG ?_;refine eC 6 λK hK=> ?_;go_simp;refine(fl8 HH.out z.out).mono ?_;exact Ai
     by_cases g:d.kind=3
     .have z:=aa g;have O:(Instr.lookup 113 (.map (some D)) (.int .i64 d.kind) false).run prog w5= .ok (.func (.func 130) #[] #[.pointer (some ⟨mb,0,none⟩)]) w5:=I.out (some (.func (.func 130) #[] #[.pointer (some ⟨mb,0,none⟩)])) (by rw[g];rfl);clear g;go_upto_region 16 with (fail)
      refine Ae λhS=> ?_;iterate 5 refine pK 7 57 ?_
      refine bF 5 λK hK=> ?_;go_simp;refine Af ?_;rintro e w6 ⟨u,rfl,hu,bM⟩;refine Ag λcK HH=> ?_;obtain⟨UA,um,uc,rfl⟩:=eH hu;clear hu bM;try go_simp
      clear hS;refine Ah λhS=> ?_;clear hK;refine aG ?_;refine eC 6 λK hK=> ?_;go_simp;refine(fl9 HH.out z.out).mono ?_;exact Ai
     by_cases g:d.kind=4
     .have z:=aa g;have O:(Instr.lookup 113 (.map (some D)) (.int .i64 d.kind) false).run prog w5= .ok (.func (.func 131) #[] #[.pointer (some ⟨mb,0,none⟩)]) w5:=I.out (some (.func (.func 131) #[] #[.pointer (some ⟨mb,0,none⟩)])) (by rw[g];rfl);clear g;go_upto_region 16 with (fail)
      refine Ae λhS=> ?_;iterate 5 refine pK 7 57 ?_
      refine bF 5 λK hK=> ?_;go_simp;refine Af ?_;rintro e w6 ⟨u,rfl,hu,bM⟩;refine Ag λcK HH=> ?_;obtain⟨UA,um,uc,rfl⟩:=eH hu;clear hu bM;try go_simp
      clear hS;refine Ah λhS=> ?_;clear hK;refine aG ?_;refine eC 6 λK hK=> ?_;go_simp;refine(fm1 HH.out z.out).mono ?_;exact Ai
     by_cases g:d.kind=5
     .have z:=aa g;have O:(Instr.lookup 113 (.map (some D)) (.int .i64 d.kind) false).run prog w5= .ok (.func (.func 132) #[] #[.pointer (some ⟨mb,0,none⟩),.pointer (some ⟨qb,0,none⟩)]) w5:=I.out (some (.func (.func 132) #[] #[.pointer (some ⟨mb,0,none⟩),.pointer (some ⟨qb,0,none⟩)])) (by rw[g];rfl);clear g;go_upto_region 16 with (fail)
      refine Ae λhS=> ?_;iterate 5 refine pK 7 57 ?_
      refine bF 5 λK hK=> ?_;go_simp;refine Af ?_;rintro e w6 ⟨u,rfl,hu,bM⟩;refine Ag λcK HH=> ?_;obtain⟨UA,um,uc,rfl⟩:=eH hu;clear hu bM;try go_simp
      clear hS;refine Ah λhS=> ?_;clear hK;refine aG ?_;refine eC 6 λK hK=> ?_;go_simp;refine(fm3 HH.out z.out).mono ?_;exact Ai
     by_cases g:d.kind=6
     .have z:=aa g;have O:(Instr.lookup 113 (.map (some D)) (.int .i64 d.kind) false).run prog w5= .ok (.func (.func 134) #[] #[.pointer (some ⟨mb,0,none⟩),.pointer (some ⟨qb,0,none⟩)]) w5:=I.out (some (.func (.func 134) #[] #[.pointer (some ⟨mb,0,none⟩),.pointer (some ⟨qb,0,none⟩)])) (by rw[g];rfl);clear g;go_upto_region 16 with (fail)
      refine Ae λhS=> ?_;iterate 5 refine pK 7 57 ?_
      refine bF 5 λK hK=> ?_;go_simp;refine Af ?_;rintro e w6 ⟨u,rfl,hu,bM⟩;refine Ag λcK HH=> ?_;obtain⟨UA,um,uc,rfl⟩:=eH hu;clear hu bM;try go_simp
      clear hS;refine Ah λhS=> ?_;clear hK;refine aG ?_;refine eC 6 λK hK=> ?_;go_simp;refine(fm4 HH.out z.out).mono ?_;exact Ai
     by_cases g:d.kind=7
     .have z:=aa g;have O:(Instr.lookup 113 (.map (some D)) (.int .i64 d.kind) false).run prog w5= .ok (.func (.func 135) #[] #[.pointer (some ⟨mb,0,none⟩),.pointer (some ⟨qb,0,none⟩)]) w5:=I.out (some (.func (.func 135) #[] #[.pointer (some ⟨mb,0,none⟩),.pointer (some ⟨qb,0,none⟩)])) (by rw[g];rfl);clear g;go_upto_region 16 with (fail)
      refine Ae λhS=> ?_;iterate 5 refine pK 7 57 ?_
      refine bF 5 λK hK=> ?_;go_simp;refine Af ?_;rintro e w6 ⟨u,rfl,hu,bM⟩;refine Ag λcK HH=> ?_;obtain⟨UA,um,uc,rfl⟩:=eH hu;clear hu bM;try go_simp
      clear hS;refine Ah λhS=> ?_;clear hK;refine aG ?_;refine eC 6 λK hK=> ?_;go_simp;refine(fm5 HH.out z.out).mono ?_;exact Ai
     by_cases g:d.kind=8
     .have z:=aa g;have O:(Instr.lookup 113 (.map (some D)) (.int .i64 d.kind) false).run prog w5= .ok (.func (.func 136) #[] #[.pointer (some ⟨mb,0,none⟩)]) w5:=I.out (some (.func (.func 136) #[] #[.pointer (some ⟨mb,0,none⟩)])) (by rw[g];rfl);clear g;go_upto_region 16 with (fail)
      refine Ae λhS=> ?_;iterate 5 refine pK 7 57 ?_
      refine bF 5 λK hK=> ?_;go_simp;refine Af ?_;rintro e w6 ⟨u,rfl,hu,bM⟩;refine Ag λcK HH=> ?_;obtain⟨UA,um,uc,rfl⟩:=eH hu;clear hu bM;try go_simp
      clear hS;refine Ah λhS=> ?_;clear hK;refine aG ?_;refine eC 6 λK hK=> ?_;go_simp;refine(fm6 HH.out z.out (show B<=w5.heap.size from bo gG.out.2.1 VX)).mono ?_;exact Ai
     by_cases g:d.kind=9
     .have z:=aa g;have O:(Instr.lookup 113 (.map (some D)) (.int .i64 d.kind) false).run prog w5= .ok (.func (.func 137) #[] #[.pointer (some ⟨mb,0,none⟩)]) w5:=I.out (some (.func (.func 137) #[] #[.pointer (some ⟨mb,0,none⟩)])) (by rw[g];rfl);clear g;go_upto_region 16 with (fail)
      refine Ae λhS=> ?_;iterate 5 refine pK 7 57 ?_
      refine bF 5 λK hK=> ?_;go_simp;refine Af ?_;rintro e w6 ⟨u,rfl,hu,bM⟩;refine Ag λcK HH=> ?_;obtain⟨UA,um,uc,rfl⟩:=eH hu;clear hu bM;try go_simp
      clear hS;refine Ah λhS=> ?_;clear hK;refine aG ?_;refine eC 6 λK hK=> ?_;go_simp;refine(fm7 HH.out z.out).mono ?_;exact Ai
     have EK:10<=d.kind:=Yi;obtain⟨i0,hi,cJ,ba,bd⟩:=XU (show(Tryz.prog.info? 119).map (λi=>(i.zero,i.size,i.bytes))=Ws (Ws (Ye #[WK Xr 0,WK Xr 0,WK Xr 0,WK Xr 0,WK Xr 0,Yc Ww,Yb Wr 0 0]),7,72) by kernel_rfl);have O:(WT 113 (.map (Ws D)) (WK Xr d.kind) Ww).run WH w5= .ok .nilFunc w5:=I.out Wr (ex9 qb mb Yi);have bj7:=aa (fn0 (t:=t) (m:=m) EK);have rM:=aa (fm9 D'.out NW.out mf);have Tg:=aa (λW (y:Below w5 w5 W)=>fl4 rb Mb t d (Yb RA rn rc) (Yb NA nn nc) W ((y.cell (p:=rb) (blk_lt U.out)).trans (ah U.out rfl)) (SN.out.later y) (((vT.out.below bY.out Y).below y Yi).more (by have:=y.size;omega)) (((AR.out.below bY.out Y).below y Yi).more (by have:=y.size;omega)) D'.out EK);have HU:=aa (λo=>cC.vals_def (mt t d) o);simp only[aj] at Tg;generalize mt t d=rl at bj7 rM Tg HU;obtain⟨rows,pn,hX⟩:=HOr.out.u_;have O9:=WL pn;have iU:v.u.ownBlock≠Ws rb:=λe=>by have:=(O9 rb e).1;omega
     have ee:v.u.ownBlock≠Ws xb:=λe=>by have:=(O9 xb e).2;have:=AS.out;omega
     have bo1:=aa (fS pn bY.out);have df7:=aa (hX.gp (rb:=rb) (ob:=Wr) (gi.of_below bY.out) Hv (λ_ _ _ _ _ _ e=>by cases e));have KG:w5.cell? (rb 11 Wr)=Ws v.u:=ah U.out rfl;have oN:=aa O9;have CX:m.rules.length<=100000:=by have:=HOr.out.len;have:=HN.out;omega
     clear pn hX O9;go_upto_region 17 with (fail)
     refine fC (S:=λw'=>w'.cell? xb=Ws (WK Xr d.kind)/\w'.cell? (xb 1 Wr)=Ws (WM (bs d.name))/\w'.cell? (xb 2 Wr)=Ws (Yb RA rn rc)/\w'.cell? (xb 3 Wr)=Ws (Yb NA nn nc)/\w'.cell? (xb 4 Wr)=Ws (WK Xr d.by_)/\w'.cell? (xb 5 Wr)=Ws (Yc d.always)/\w'.cell? (rb 11 Wr)=Ws (v.u)) 11 15 (by exact⟨zn,oo,mO,mP,zo,pF,KG⟩) λhS=> ?_;iterate 8 refine cI 15 64 ?_
     refine bF 8 λK hK=> ?_;go_simp;refine(Tg.out _ (aX (af w5))).m ?_;rintro e w6 ⟨o,rfl,ho,bM⟩;obtain⟨OA,om,oc,rfl⟩:=eH ho;have cK:Hid (Below w5 w5 w6):=ai (aX (af w5)) bM;have qK:=aa ho;have da8:=aa (fS bo1.out cK.out);rw[HU.out];clear ho bM;try go_simp
     clear hS;refine hK.out _ _ (by exact⟨kc (cK.out) zn,kc (cK.out) oo,kc (cK.out) mO,kc (cK.out) mP,kc (cK.out) zo,kc (cK.out) pF,kc (cK.out) KG⟩) (λhS=> ?_);clear hK;refine aG ?_;refine bF 9 λK hK=> ?_;go_simp;refine hK.out _ _ (by exact⟨((ae (af _) _).cell (p:=xb) (bP _ _ (hS.1))).trans (hS.1),((ae (af _) _).cell (p:=xb 1 Wr) (bP _ _ (hS.2.1))).trans (hS.2.1),((ae (af _) _).cell (p:=xb 2 Wr) (bP _ _ (hS.2.2.1))).trans (hS.2.2.1),((ae (af _) _).cell (p:=xb 3 Wr) (bP _ _ (hS.2.2.2.1))).trans (hS.2.2.2.1),((ae (af _) _).cell (p:=xb 4 Wr) (bP _ _ (hS.2.2.2.2.1))).trans (hS.2.2.2.2.1),((ae (af _) _).cell (p:=xb 5 Wr) (bP _ _ (hS.2.2.2.2.2.1))).trans (hS.2.2.2.2.2.1),((ae (af _) _).cell (p:=rb 11 Wr) (bP _ _ (hS.2.2.2.2.2.2))).trans (hS.2.2.2.2.2.2)⟩) (λhS=> ?_);clear hK;refine aG ?_;refine bF 10 λK hK=> ?_;refine step_append_lies _ cA _ _ _ cA B 119 i0 _ 7 72 underlying28 hi cJ ba bd rfl Yi _ _ _ cA ((da8.out).alloc _) ⟨_,0,Wr⟩ 1 1 (BJ rl (Yb OA om oc)) cA cA (mw rfl) (by simp[BJ,Xp]) Yi ul lr (by have:=cK.out.size;first|omega|(simp;omega)) _ rfl ?_;intro gg cap w7 jo J iq ar;refine hK.out _ _ (by exact⟨(eZ J (bP _ _ (hS.1)) ee).trans (hS.1),(eZ J (bP _ _ (hS.2.1)) ee).trans (hS.2.1),(eZ J (bP _ _ (hS.2.2.1)) ee).trans (hS.2.2.1),(eZ J (bP _ _ (hS.2.2.2.1)) ee).trans (hS.2.2.2.1),(eZ J (bP _ _ (hS.2.2.2.2.1)) ee).trans (hS.2.2.2.2.1),(eZ J (bP _ _ (hS.2.2.2.2.2.1)) ee).trans (hS.2.2.2.2.2.1),(eZ J (bP _ _ (hS.2.2.2.2.2.2)) iU).trans (hS.2.2.2.2.2.2)⟩) (λhS=> ?_);clear hK;refine aG ?_;refine eC 11 λK hK=> ?_;go_simp;refine iZ ?_;clear hK;refine aG ?_;refine eC 12 λK hK=> ?_;go_simp;refine iZ ?_;clear hK;refine aG ?_;refine eC 13 λK hK=> ?_;go_simp;refine iZ ?_;clear hK;refine aG ?_;have f1:w7.frozen? (rb 11 Wr)=false:=cd (iY (aq (aq U.out cK.out) (ae (af _) _)) J (λj hj e=>iU Co)) 11;refine eC 14 λK hK=> ?_;go_simp;refine iZ ?_;clear hK;refine aG ?_;refine gK ?_;go_wp2_with fail
     have pp:=cK.out.size;have cd7:B<=w5.heap.size:=bo gG.out.2.1 VX;have hp:=nK.mk' (w:=w5) (T:=110) (C:=mZ Mb m v) (off:=11) (aq (aq U.out cK.out) (ae (af _) _)) (ai cK.out (ae (af _) _)) J iU jo iq lr (iq.elim (λh e=>iU (by rw[h,e])) (λh e=>by simp at h;omega));have ER:=qK.out;have zG:=WL ER;have C':w5.drew.heap.size=w5.heap.size:=rfl;rw[C'] at zG ER;have Bv:=mu (p:=rb) (QQ (World.ownsRow.kept (fS ER (ae (af w6) (Yd (BJ rl (Yb OA om oc)).toArray 119))) J (by
      cases hq:Xq (Yb OA om oc) with
      |none=>exact .inl rfl
      |some j=>exact .inr (λe=>by have:=zG j hq;have:=oN.out j e.symm;omega))) cd7) (λj hj e=>by have:=zG j hj;omega) 11 (Yb (Ws (gg 0 Wr)) (m.rules.length+1) cap)
     obtain⟨KK,wl⟩:=kQ.addU Hv cd7 NX.out bo1.out df7.out hp Bv rM.out.2 rM.out.1;rw[<-bj7.out] at KK;refine⟨⟨k+1,eA t m d,by omega,by go_num,by rw[bk7.out,DK.out],ta.out,KK,S4.out.trans wl⟩,by simp[WS];omega⟩
    .have HE:=aa (be8 SI.out (vQ.out.trans (Rw Le)));have gk9:((ea t d:Int)==0)=false:=by simp;omega
     generalize ea t d=ce at DH HE gk9;clear Le
     go_upto_region 12 with (first
      |(go_at_call 47;refine DH.out.m ?_;rintro e w5 ⟨rfl,F⟩;have bY:=aa F;clear F))
     have nk:w5.heap[rt]? =Ws (Yd #[Yb Wr 0 0,Yb Wr 0 0,Yb Wr 0 0,Yb Wr 0 0,Yb Wr 0 0,Yb Wr 0 0,WK Xr 0,WK Xr 0,WK Xr 0,WK Xr 0,Yb Wr 0 0] 30 (0,0)):=aq (aq pz.out aR.out) bY.out;obtain⟨q0,q1,q2,q3,q4,q5,q6,q7,q8,q9,pq⟩:=eR nk;obtain⟨z0,z1,z2,z3,z4,z5,z6,z7,z8,z9,qC⟩:=Mk nk;have te:=aa nk;go_wp2_with fail
     refine M_ λW7 lF=> ?_;exact FI.err HE.out rfl ((V.out.trans ((aR.out.mono Y).trans (bY.out.mono Yi))).trans ((lF.below (by have:=HZ.out;have:=bY.out.size;omega)).mono v_))
   .have hI: ¬(k:Int)<n:=by omega
    have ui:=aa (show mV t 0 {} l= .ok m from by have h:=vQ.out;rw[List.drop_eq_nil_of_le AY] at h;exact h);have uf:=aa (show(l.any λd=>Wt (d.kind=8))=Z from by have h:=DM.out;rw[WY AY] at h;exact h);clear vQ DM;cases Z with
    |false=>
     have HE:=aa (be9 SI.out ui.out uf.out);go_upto_region 20 with (fail)
     have nk:wr.heap[rt]? =Ws (Yd #[Yb Wr 0 0,Yb Wr 0 0,Yb Wr 0 0,Yb Wr 0 0,Yb Wr 0 0,Yb Wr 0 0,WK Xr 0,WK Xr 0,WK Xr 0,WK Xr 0,Yb Wr 0 0] 30 (0,0)):=pz.out;obtain⟨q0,q1,q2,q3,q4,q5,q6,q7,q8,q9,pq⟩:=eR nk;obtain⟨z0,z1,z2,z3,z4,z5,z6,z7,z8,z9,qC⟩:=Mk nk;have te:=aa nk;go_wp2_with fail
     refine M_ λW7 lF=> ?_;exact FI.err HE.out (by show _=Xz (.tuple #[Ye Dw,WK Xr (l.length:Nat),WK Xr 6]);rw[HN.out];rfl) (V.out.trans ((lF.below (by have:=HZ.out;have:=gG.out.2.1;omega)).mono v_))
    |true=>
     have HE:=aa (bf0 SI.out ui.out uf.out);obtain⟨Hv,Bc,⟨vs,vf,vr,vm,vl,vi,vu⟩,fK,rV⟩:=gG.out;have o1:wr.ownsRow B _ _ vs _ _:=rV.s_;have o2:wr.ownsRow B _ _ vf _ _:=rV.f_;have o3:wr.ownsRow B _ _ vr _ _:=rV.r_;have o4:wr.ownsRow B _ _ vm _ _:=rV.m_;have o5:wr.ownsRow B _ _ vl _ _:=rV.l_;obtain⟨rowsI,o6,_⟩:=rV.i_;obtain⟨rowsU,o7,_⟩:=rV.u_;have o6:wr.ownsRow B _ _ vi _ _:=o6;have o7:wr.ownsRow B _ _ vu _ _:=o7;obtain⟨A1,n1,c1,rfl⟩:=eH o1;obtain⟨A2,n2,c2,rfl⟩:=eH o2;obtain⟨A3,n3,c3,rfl⟩:=eH o3;obtain⟨A4,n4,c4,rfl⟩:=eH o4;obtain⟨A5,n5,c5,rfl⟩:=eH o5;obtain⟨A6,n6,c6,rfl⟩:=eH o6;obtain⟨A7,n7,c7,rfl⟩:=eH o7;clear o1 o2 o3 o4 o5 o6 o7;obtain⟨v,Ph⟩: ∃v:MV,v=⟨Yb A1 n1 c1,Yb A2 n2 c2,Yb A3 n3 c3,Yb A4 n4 c4,Yb A5 n5 c5,Yb A6 n6 c6,Yb A7 n7 c7⟩:=⟨_,rfl⟩;rw[<-Ph] at rV;have gx4:=aa Ph;have NJ:=aa (Y_ m v wr (HG.out.below V.out pk) rV.in_);have py:=aa (show m.cells v= #[Yb A1 n1 c1,Yb A2 n2 c2,Yb A3 n3 c3,Yb A4 n4 c4,Yb A5 n5 c5,Yb A6 n6 c6,WK Xr m.dark,WK Xr m.slots,WK Xr m.reserve,WK Xr m.failures,Yb A7 n7 c7] from by rw[Ph];rfl);clear Ph;rw[py.out] at NJ;have NX:=aa rV;have U:=aa fK;have r0:wr.cell? (rb 1 Wr)=Ws (Yb A1 n1 c1):=ah fK rfl;have r1:wr.cell? (rb 2 Wr)=Ws (Yb A2 n2 c2):=ah fK rfl;have r2:wr.cell? (rb 3 Wr)=Ws (Yb A3 n3 c3):=ah fK rfl;have r3:wr.cell? (rb 4 Wr)=Ws (Yb A4 n4 c4):=ah fK rfl;have r4:wr.cell? (rb 5 Wr)=Ws (Yb A5 n5 c5):=ah fK rfl;have r5:wr.cell? (rb 6 Wr)=Ws (Yb A6 n6 c6):=ah fK rfl;have r6:wr.cell? (rb 7 Wr)=Ws (WK Xr m.dark):=ah fK rfl;have r7:wr.cell? (rb 8 Wr)=Ws (WK Xr m.slots):=ah fK rfl;have r8:wr.cell? (rb 9 Wr)=Ws (WK Xr m.reserve):=ah fK rfl;have r9:wr.cell? (rb 10 Wr)=Ws (WK Xr m.failures):=ah fK rfl;have ct0:wr.cell? (rb 11 Wr)=Ws (Yb A7 n7 c7):=ah fK rfl;clear fK rV;obtain⟨mo,Hr⟩: ∃b,dZ m=b:=⟨_,rfl⟩;rw[Hr] at NJ HE;cases mo with
     |false=>
      go_upto_region 22 with (first
       |(go_at_call 50;refine NJ.out.m ?_;rintro e w5 ⟨rfl,F⟩;have bY:=aa F;clear F))
      clear r0 r1 r2 r3 r4 r5 r6 r7 r8 r9 ct0;refine bg1 λnk=> ?_;obtain⟨q0,q1,q2,q3,q4,q5,q6,q7,q8,q9,pq⟩:=eR nk;obtain⟨z0,z1,z2,z3,z4,z5,z6,z7,z8,z9,qC⟩:=Mk nk;have te:=aa nk;go_wp2_with fail
      refine M_ λW7 lF=> ?_;exact FI.err HE.out (by show _=Xz (.tuple #[Ye Dw,WK Xr (l.length:Nat),WK Xr 2]);rw[HN.out];rfl) ((V.out.trans (bY.out.mono (by have:=V.out.size;omega))).trans ((lF.below (by have:=HZ.out;have:=gG.out.2.1;have:=bY.out.size;omega)).mono v_))
     |true=>
      go_upto_region 23 with (first
       |(go_at_call 50;refine NJ.out.m ?_;rintro e w5 ⟨rfl,F⟩;have bY:=aa F;clear F))
      clear r0 r1 r2 r3 r4 r5 r6 r7 r8 r9 ct0;refine bg1 λnk=> ?_;have G:=aq U.out bY.out;have s0:w5.cell? (rb 1 Wr)=Ws (Yb A1 n1 c1):=ah G rfl;have s1:w5.cell? (rb 2 Wr)=Ws (Yb A2 n2 c2):=ah G rfl;have s2:w5.cell? (rb 3 Wr)=Ws (Yb A3 n3 c3):=ah G rfl;have s3:w5.cell? (rb 4 Wr)=Ws (Yb A4 n4 c4):=ah G rfl;have s4:w5.cell? (rb 5 Wr)=Ws (Yb A5 n5 c5):=ah G rfl;have s5:w5.cell? (rb 6 Wr)=Ws (Yb A6 n6 c6):=ah G rfl;have s6:w5.cell? (rb 7 Wr)=Ws (WK Xr m.dark):=ah G rfl;have s7:w5.cell? (rb 8 Wr)=Ws (WK Xr m.slots):=ah G rfl;have s8:w5.cell? (rb 9 Wr)=Ws (WK Xr m.reserve):=ah G rfl;have s9:w5.cell? (rb 10 Wr)=Ws (WK Xr m.failures):=ah G rfl;have hn9:w5.cell? (rb 11 Wr)=Ws (Yb A7 n7 c7):=ah G rfl;clear G;obtain⟨q0,q1,q2,q3,q4,q5,q6,q7,q8,q9,pq⟩:=eR nk;obtain⟨z0,z1,z2,z3,z4,z5,z6,z7,z8,z9,qC⟩:=Mk nk;have te:=aa nk;go_wp2_with fail
      refine M_ λW7 lF=> ?_;have hz:=HZ.out;have KZ:=(NX.out.gp (rb:=rt) (gi.of_below bY.out) Yi).gp (gi.of_kp lF) Yi;rw[HE.out,if_pos trivial];exact⟨(V.out.trans (bY.out.mono (by have:=V.out.size;omega))).trans ((lF.below (by have:=bY.out.size;omega)).mono Yi),v,by rw[py.out];rfl,KZ.in_,_,_,by omega,KZ⟩
end
end Go.Proofs.YtklfdkdebgfmiaaGreatDoor
