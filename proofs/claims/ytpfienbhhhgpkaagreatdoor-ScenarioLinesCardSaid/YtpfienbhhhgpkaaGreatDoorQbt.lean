/- A part of the proof. -/
import Derived.Test.YtpfienbhhhgpkaaGreatDoorQbp
set_option linter.defProp false
set_option linter.unusedVariables false
set_option linter.unusedSimpArgs false
set_option maxRecDepth 100000
set_option maxHeartbeats 32000000
open Option renaming some->WX,none->WY
open Decidable renaming decide->WZ
open Go renaming World->Xa,Value->Xb,Addr->Yy
open Bool renaming false->Xc,true->Xe
open Go.RowKit renaming Hid->Xf
open Go.Lib renaming itoa->Xg
open Go.Proofs.Tryz renaming prog->Xn,underlying193->X7
open Go.Proofs renaming intOf->Xw
open Go.Value renaming int->Xo,string->Xp,slice->YG,bool->YH,agg->YJ
open Go.Instr renaming lookup->XB
open Go.IntKind renaming i64->XO
open Go.Operand renaming tmp->YL,const->YM
namespace Go.Proofs.YtpfienbhhhgpkaaGreatDoor
section
open Go Go.RowKit Go.MapKept Go.Proofs.Tryz
def fa0(rb Mb:Nat)(t:df)(d:aH)(rv nv:Xb)(w:Xa)(hr:w.cell? rb=WX (.map (WX Mb)))(hM:dg ly w Mb (j_ t))(eW:bp w w rv d.refs)(hv:bS d=Xe):
 aR 57 #[aq rb,YJ #[d.kind,bs d.name,rv,nv,d.by_,YH d.always]] w (Xo XO (fy t d)):=by
 have iP:=bK _ _ hr;have wZ:=qx hv;have dd6:=ah (λi(hi:i<d.refs.length)=>fe1 hv hi);have UT:=fe2 hv;obtain⟨RA,rn,rc,rfl,dM,jj,_⟩:=eW.sk.form;have gm2:rn<=17:=by have:=wZ.2.2.1;omega
 have dd5:=ah (λW(G:Below w w W)=>fd9 d (YG RA rn rc) nv W ((eW.below G (am _)).more G.size) (by have:=wZ.2.2.1;omega) wZ.2.1);rw[dM]at UT;have HR:=ah hr;have HM:=ah hM;have X:=ah eW;have HN:=ah dM;have RQ:=ah UT;have DS:=ah wZ;simp only[aq];clear hr hM eW dM UT wZ hv;go_enter func57,ntmps57;go_upto_region 1 with(fail)
 refine eG ?_;intro W1 ⟨aY,cO⟩;obtain⟨x0,x1,x2,x3,x4,x5⟩:=dW cO;have bo:=ah aY;have lr:=ah cO;clear aY cO;go_wp2_with first
  |(go_at_call 155;refine(dd5.o W1 bo.o).m ?_;rintro e w2 ⟨v,rfl,gq,au⟩;obtain⟨A2,c2,rfl⟩:=gq.form;have sO:=ah gq;have aU:=ah au;rw[RQ.o];clear gq au)
 go_loopw [14] (λi wr=>∃k:Nat,k<=rn/\i=Xo XO k/\mu t d 0 d.refs=mu t d k (d.refs.drop k)/\Below w2 w2 wr) (λi _=>rn - (Xw i).toNat)
 case atStart=>exact⟨0,cb _,rfl,rfl,aj _⟩
 case round=>
  obtain⟨k,hk,rfl,UB,jv⟩:=hrel;have Gp:=ah UB;have fG:=ah jv;clear UB jv;have di:Hid (Below W1 W1 wr):=ak aU.o fG.o;have F:Hid (Below w w wr):=ak bo.o di.o;have RS:=ah (aC lr.o di.o);have x0:=ap (o:=0) RS.o rfl;have c2:=ap (o:=2) RS.o rfl;have c0:wr.cell? rb=WX (.map (WX Mb)):=(F.o.cell (p:=rb) iP).trans HR.o;have re:=ah (HM.o.later F.o);by_cases az:k<rn
  .have dh:(0:Int)<=k:=by omega
   have bF:(k:Int)<rn:=YN;obtain⟨s,hs⟩:∃s,d.refs[k]?=WX s:=⟨_,Xd kB⟩;have Ci:d.refs.drop k=s::d.refs.drop (k+1):=FM hs;rw[Ci]at Gp;obtain⟨sb,so,rfl,nw,eh⟩:=bp.cell X.o hs;have cs:=kc F.o eh;obtain⟨o,ho,co6⟩:=dd6.o k kB;have dd4:=ah co6;obtain⟨us,bN,dE⟩:=sO.o;obtain⟨u,hu⟩:∃u,us[k]?=WX u:=⟨_,Xd (by rw[bN.1,RQ.o];omega)⟩;have UU:=dE k u o hu ho;obtain⟨A',c',V,_,_,lB⟩:=Sl.of_own bN;have co3:us.length=rn:=by rw[bN.1,RQ.o];omega
   rw[co3]at V;injection V with Ko xj vM;subst Ko vM;obtain⟨gb,go,rfl,G5,GY⟩:=lB (λe=>by rw[e]at hu;simp at hu);have cg:wr.cell? ⟨gb,go+k,WY⟩=WX u:=(fG.o.cell (p:=⟨gb,go+k,WY⟩) G5).trans (GY k u hu);clear hs Ci nw eh ho co6 dE hu lB GY co3 bN;cases fE:dQ t s with
   |none=>
    have BP:=ah (show j_ t s=WY by unfold j_;rw[fE];rfl);have HE:=ah (bb3 (Gp.o.trans (fe3 fE)) aF);clear fE;go_upto_region 4 with(fail)
    refine Mf λhS=>?_;iterate 9 refine cL 16 20 ?_
    refine Ig (i:=9) (v:= .tuple #[YJ #[Xo XO 0,Xo XO 0],YH Xc]) (WX 29) rfl rfl rfl aI aI aI aI (λ_ _ _ h=>h) (Or.inl ⟨by rfl,?_⟩) hS ?_
    .intro wq hZ;try dsimp only at hZ
     have h:=sB (P:=Xn) underlying117 X0 Da hZ.2.2.2.1 s Xe (zeroValue185 _);rw[BP.o]at h;have jJ:(XB 117 (.map (WX Mb)) (Xp (bs s)) Xe).run Xn wq= .ok (.tuple #[YJ #[Xo XO 0,Xo XO 0],YH Xc]) wq:=h;clear h;go_simp;try with_reducible rfl
    refine aO ?_;refine iw 10 19 ?_;iterate 2 refine cL 16 19 ?_
    refine bC 13 λK hK=>?_;go_simp;refine zH λhS=>?_;clear hK;refine aO ?_;refine bC 14 λK hK=>?_;go_simp;refine zH λhS=>?_;clear hK;refine aO ?_;refine iw 15 8 ?_;refine gA ?_;go_wp2_with fail
    go_ret;exact⟨by rw[HE.o];rfl,ak F.o hS.2.2.2.2⟩
   |some x=>
    obtain⟨xa,xn⟩:=x;have BP:=ah (show j_ t s=WX (PH (xa,xn))by unfold j_;rw[fE];rfl);have J:=ah (λh=>bb3 (Gp.o.trans (fe4 (i:=k) (d:=d) (r:=d.refs.drop (k+1)) fE h)) aF);have Z:=ah (λh=>Gp.o.trans (fe5 (i:=k) (d:=d) (r:=d.refs.drop (k+1)) fE h));clear fE;obtain⟨bl,ig⟩:∃b,iJ d k xa=b:=⟨_,rfl⟩;have I:=ah ((dd4.o xa).trans ig);rw[ig]at J Z;clear ig;cases o with
    |none=>
     have gn5:u= .func (.func 231) #[] #[]:=UU;subst gn5;clear UU;have I:Hid (WZ (bZ xa=5)=bl):=I.o;cases bl with
     |false=>
      have HE:=ah (J.o rfl);clear J Z;go_upto_region 4 with(fail)
      refine Mf λhS=>?_;iterate 9 refine cL 16 20 ?_
      refine Ig (i:=9) (v:= .tuple #[YJ #[Xo XO (xa:Nat),Xo XO (xn:Nat)],YH Xe]) (WX 29) rfl rfl rfl aI aI aI aI (λ_ _ _ h=>h) (Or.inl ⟨by rfl,?_⟩) hS ?_
      .exact Qw
      refine aO ?_;refine iw 10 19 ?_;iterate 2 refine cL 16 19 ?_
      refine bC 13 λK hK=>?_;go_simp;refine zH λhS=>?_;clear hK;refine aO ?_;refine bC 14 λK hK=>?_;go_simp;refine zH λhS=>?_;clear hK;refine aO ?_;refine iw 15 8 ?_;refine gA ?_;go_wp2_with first
       |(go_at_call 231;refine(at5 xa _).m ?_;rintro e w5 ⟨rfl,z⟩;rw[I.o];have O:=ah (ak hS.2.2.2.2 z);clear z)
      go_ret;exact⟨by rw[HE.o];rfl,ak F.o O.o⟩
     |true=>
      have HE:=ah (Z.o rfl);clear J Z;go_upto_region 4 with(fail)
      refine Mf λhS=>?_;iterate 9 refine cL 16 20 ?_
      refine Ig (i:=9) (v:= .tuple #[YJ #[Xo XO (xa:Nat),Xo XO (xn:Nat)],YH Xe]) (WX 29) rfl rfl rfl aI aI aI aI (λ_ _ _ h=>h) (Or.inl ⟨by rfl,?_⟩) hS ?_
      .exact Qw
      refine aO ?_;refine iw 10 19 ?_;iterate 2 refine cL 16 19 ?_
      refine bC 13 λK hK=>?_;go_simp;refine zH λhS=>?_;clear hK;refine aO ?_;refine bC 14 λK hK=>?_;go_simp;refine zH λhS=>?_;clear hK;refine aO ?_;refine iw 15 8 ?_;refine gA ?_;go_wp2_with first
       |(go_at_call 231;refine(at5 xa _).m ?_;rintro e w5 ⟨rfl,z⟩;rw[I.o];have O:=ah (ak hS.2.2.2.2 z);clear z)
      exact⟨⟨k+1,by omega,by go_num,HE.o,ak fG.o O.o⟩,by simp[Xw];omega⟩
    |some j=>
     obtain⟨xb,rfl,eL⟩:=UU;have cp0:=aC eL fG.o;have bp0:=ah cp0;simp only[aq]at cg;clear eL cp0;have I:Hid (WZ (xa=j)=bl):=I.o;cases bl with
     |false=>
      have HE:=ah (J.o rfl);clear J Z;go_upto_region 4 with(fail)
      refine Mf λhS=>?_;iterate 9 refine cL 16 20 ?_
      refine Ig (i:=9) (v:= .tuple #[YJ #[Xo XO (xa:Nat),Xo XO (xn:Nat)],YH Xe]) (WX 29) rfl rfl rfl aI aI aI aI (λ_ _ _ h=>h) (Or.inl ⟨by rfl,?_⟩) hS ?_
      .exact Qw
      refine aO ?_;refine iw 10 19 ?_;iterate 2 refine cL 16 19 ?_
      refine bC 13 λK hK=>?_;go_simp;refine zH λhS=>?_;clear hK;refine aO ?_;refine bC 14 λK hK=>?_;go_simp;refine zH λhS=>?_;clear hK;refine aO ?_;refine iw 15 8 ?_;refine gA ?_;go_wp2_with first
       |(go_at_call 310;refine(at4 xb j xa _ (aC bp0.o hS.2.2.2.2)).m ?_;rintro e w5 ⟨rfl,z⟩;rw[I.o];have O:=ah (ak hS.2.2.2.2 z);clear z)
      go_ret;exact⟨by rw[HE.o];rfl,ak F.o O.o⟩
     |true=>
      have HE:=ah (Z.o rfl);clear J Z;go_upto_region 4 with(fail)
      refine Mf λhS=>?_;iterate 9 refine cL 16 20 ?_
      refine Ig (i:=9) (v:= .tuple #[YJ #[Xo XO (xa:Nat),Xo XO (xn:Nat)],YH Xe]) (WX 29) rfl rfl rfl aI aI aI aI (λ_ _ _ h=>h) (Or.inl ⟨by rfl,?_⟩) hS ?_
      .exact Qw
      refine aO ?_;refine iw 10 19 ?_;iterate 2 refine cL 16 19 ?_
      refine bC 13 λK hK=>?_;go_simp;refine zH λhS=>?_;clear hK;refine aO ?_;refine bC 14 λK hK=>?_;go_simp;refine zH λhS=>?_;clear hK;refine aO ?_;refine iw 15 8 ?_;refine gA ?_;go_wp2_with first
       |(go_at_call 310;refine(at4 xb j xa _ (aC bp0.o hS.2.2.2.2)).m ?_;rintro e w5 ⟨rfl,z⟩;rw[I.o];have O:=ah (ak hS.2.2.2.2 z);clear z)
      exact⟨⟨k+1,by omega,by go_num,HE.o,ak fG.o O.o⟩,by simp[Xw];omega⟩
  .have hI:¬(k:Int)<rn:=by omega
   have Jq:=ah (show mu t d 0 d.refs=0 by have h:=Gp.o;rw[List.drop_eq_nil_of_le sR]at h;exact h);clear Gp;go_upto_region 10 with(fail)
   go_cut [9]from 42 to 86 (λp wx=>bp wx wx p (jM d)/\Below wr wr wx)
   case first=>
    rcases Nat.eq_zero_or_pos rn with h0|h0
    .subst h0;have gk1:min (1:Int) 0=0:=by decide
     have HL:=ah (show ∀(q:Xb)W,Below wr wr W->bp W W.heap.size (BG (YG RA 0 rc) q d.kind) (jM d)from λq W G=>by
      have kL:¬d.kind=13:=λe=>by have:=DS.o.2.2.2.2.2.2.2.2.2.2.2.1 e;have:=HN.o;omega
      exact bb5 kL X.o (ak F.o G))
     refine gx (S:=λw'=>w'.cell? w=WX (Xo XO d.kind)/\w'.cell? (w 2 WY)=WX (YG RA 0 rc)/\Below wr wr w') 20 20 (by exact⟨x0,c2,a_ (aj wr)⟩) λhS=>?_;exact bc1
    .obtain⟨s0,mK⟩:∃s,d.refs[0]?=some s:=⟨_,List.getElem?_eq_getElem (by rw[HN.o];exact h0)⟩;obtain⟨sb,so,rfl,nw,eh⟩:=bp.cell X.o mK;have gk1:min (1:Int) (rn:Int)=1:=by omega
     have qy:(1:Int)<=(rn:Int):=YN;by_cases gl9:rc=1
     .subst gl9
      have HL:=ah (show ∀(q:Xb)W,Below wr wr W->bp W W.heap.size (BG (YG (WX (sb so WY)) rn 1) q d.kind) (jM d)from λq W G=>by
       have kL:¬d.kind=13:=λe=>by have:=DS.o.2.2.2.2.2.2.2.2.2.2.2.1 e;have:=HN.o;omega
       exact bb5 kL X.o (ak F.o G))
      refine gx (S:=λw'=>w'.cell? w=WX (Xo XO d.kind)/\w'.cell? (w 2 WY)=WX (YG (WX (sb so WY)) rn 1)/\Below wr wr w') 20 20 (by exact⟨x0,c2,a_ (aj wr)⟩) λhS=>?_;exact bc1
     .have HL:=ah (show ∀W,Below wr wr W->bp W W.heap.size (BG (.slice (some ⟨sb,so,none⟩) rn rc) (.slice (some ⟨sb,so+1,none⟩) (rn - 1) (rc - 1)) d.kind) (jM d)from λW G=>ff6 h0 HN.o X.o (ak F.o G));refine gx (S:=λw'=>w'.cell? ⟨w,0,none⟩=some (.int .i64 d.kind)/\w'.cell? ⟨w,2,none⟩=some (.slice (some ⟨sb,so,none⟩) rn rc)/\Below wr wr w') 20 20 (by exact⟨x0,c2,a_ (aj wr)⟩) λhS=>?_;iterate 2 refine cL 21 42 ?_
      iterate 2 refine cL 22 41 ?_
      iterate 7 refine cL 23 40 ?_
      iterate 2 refine cL 25 39 ?_
      refine bC 0 λK hK=>?_;refine bb4 (enc:=iK) rfl 193 rfl ?_;intro w0 t7 JZ;have ju:Below wr wr w0:=ak (a_ (aj wr)) JZ;clear JZ;refine hK.o _ _ (by exact⟨kc (ju) x0,kc (ju) c2,ju⟩) (λhS=>?_);clear hK;refine aO ?_;refine qw (rs:=[3,6,14]) aI YQ ?_;refine dT.cons1 rfl (λK hK=>?_) (dT.cons1 rfl (λK hK=>?_) (dT.cons1 rfl (λK hK=>?_) (dT.nil)))
      .refine oR rfl (.tmp 42) (.const (.int .i64 5)) (.tmp 44) 193 (.inr rfl) 3 22 (.int .i64) underlying193 underlying3 co _ _ rfl t7 (5:Int) _ rfl rfl ?_;intro wa ke pJ;have nh:=pJ.1 _ _ ju (am _);clear pJ t7;refine Iz λhS=>?_;clear hK;refine aO ?_;refine qw (rs:=[6,14]) (by kernel_rfl) (by simp) ?_;refine dT.cons1 rfl (λK hK=>?_) (dT.cons1 rfl (λK hK=>?_) (dT.nil))
       .refine oR rfl (YL 42) (YM (Xo XO 6)) (YL 46) 193 (.inr rfl) 3 22 (.int XO) X7 Xj co _ _ rfl ke (6:Int) _ rfl rfl ?_;intro wb kf h_;have kb:=h_.1 _ _ nh (am _);clear h_ ke;refine wn λhS=>?_;clear hK;refine aO ?_;refine bC 14 λK hK=>?_;refine Qx ?_;intro wc pE ie;have jH:=ie.1 _ _ kb (am _);clear ie kf;refine j' λhS=>?_;clear hK;refine aO ?_;refine bC 15 λK hK=>?_;go_simp;refine j' λhS=>?_;clear hK;refine aO ?_;refine bC 18 λK hK=>?_;refine bc2 ?_;exact IA
       .refine oR rfl (YL 42) (YM (Xo XO 13)) (YL 53) 193 (.inr rfl) 3 22 (.int XO) X7 Xj co _ _ rfl ke (13:Int) _ rfl rfl ?_;intro wb kf h_;have kb:=h_.1 _ _ nh (am _);clear h_ ke;refine wn λhS=>?_;clear hK;refine aO ?_;refine bC 6 λK hK=>?_;refine Qy ?_;intro wc pE ie;have jH:=ie.1 _ _ kb (am _);clear ie kf;refine j' λhS=>?_;clear hK;refine aO ?_;refine bC 15 λK hK=>?_;go_simp;refine j' λhS=>?_;clear hK;refine aO ?_;refine bC 18 λK hK=>?_;refine bc3 ?_;exact IA
      .refine oR rfl (.tmp 42) (.const (.int .i64 6)) (.tmp 46) 193 (.inr rfl) 3 22 (.int .i64) underlying193 underlying3 co _ _ rfl t7 (6:Int) _ rfl rfl ?_;intro wa ke pJ;have nh:=pJ.1 _ _ ju (am _);clear pJ t7;refine Iz λhS=>?_;clear hK;refine aO ?_;refine qw (rs:=[3,14]) (by kernel_rfl) (by simp) ?_;refine dT.cons1 rfl (λK hK=>?_) (dT.cons1 rfl (λK hK=>?_) (dT.nil))
       .refine oR rfl (YL 42) (YM (Xo XO 5)) (YL 44) 193 (.inr rfl) 3 22 (.int XO) X7 Xj co _ _ rfl ke (5:Int) _ rfl rfl ?_;intro wb kf h_;have kb:=h_.1 _ _ nh (am _);clear h_ ke;refine wn λhS=>?_;clear hK;refine aO ?_;refine bC 14 λK hK=>?_;refine Qx ?_;intro wc pE ie;have jH:=ie.1 _ _ kb (am _);clear ie kf;refine j' λhS=>?_;clear hK;refine aO ?_;refine bC 15 λK hK=>?_;go_simp;refine j' λhS=>?_;clear hK;refine aO ?_;refine bC 18 λK hK=>?_;refine az0 ?_;exact IA
       .refine oR rfl (YL 42) (YM (Xo XO 13)) (YL 53) 193 (.inr rfl) 3 22 (.int XO) X7 Xj co _ _ rfl ke (13:Int) _ rfl rfl ?_;intro wb kf h_;have kb:=h_.1 _ _ nh (am _);clear h_ ke;refine wn λhS=>?_;clear hK;refine aO ?_;refine bC 3 λK hK=>?_;refine Qz ?_;intro wc pE ie;have jH:=ie.1 _ _ kb (am _);clear ie kf;refine j' λhS=>?_;clear hK;refine aO ?_;refine bC 15 λK hK=>?_;go_simp;refine j' λhS=>?_;clear hK;refine aO ?_;refine bC 18 λK hK=>?_;refine az1 ?_;exact IA
      .refine oR rfl (.tmp 42) (.const (.int .i64 13)) (.tmp 53) 193 (.inr rfl) 3 22 (.int .i64) underlying193 underlying3 co _ _ rfl t7 (13:Int) _ rfl rfl ?_;intro wa ke pJ;have nh:=pJ.1 _ _ ju (am _);clear pJ t7;refine Iz λhS=>?_;clear hK;refine aO ?_;refine qw (rs:=[3,6]) (by kernel_rfl) (by simp) ?_;refine dT.cons1 rfl (λK hK=>?_) (dT.cons1 rfl (λK hK=>?_) (dT.nil))
       .refine oR rfl (YL 42) (YM (Xo XO 5)) (YL 44) 193 (.inr rfl) 3 22 (.int XO) X7 Xj co _ _ rfl ke (5:Int) _ rfl rfl ?_;intro wb kf h_;have kb:=h_.1 _ _ nh (am _);clear h_ ke;refine wn λhS=>?_;clear hK;refine aO ?_;refine bC 6 λK hK=>?_;refine Qy ?_;intro wc pE ie;have jH:=ie.1 _ _ kb (am _);clear ie kf;refine j' λhS=>?_;clear hK;refine aO ?_;refine bC 15 λK hK=>?_;go_simp;refine j' λhS=>?_;clear hK;refine aO ?_;refine bC 18 λK hK=>?_;refine az2 ?_;exact IA
       .refine oR rfl (YL 42) (YM (Xo XO 6)) (YL 46) 193 (.inr rfl) 3 22 (.int XO) X7 Xj co _ _ rfl ke (6:Int) _ rfl rfl ?_;intro wb kf h_;have kb:=h_.1 _ _ nh (am _);clear h_ ke;refine wn λhS=>?_;clear hK;refine aO ?_;refine bC 3 λK hK=>?_;refine Qz ?_;intro wc pE ie;have jH:=ie.1 _ _ kb (am _);clear ie kf;refine j' λhS=>?_;clear hK;refine aO ?_;refine bC 15 λK hK=>?_;go_simp;refine j' λhS=>?_;clear hK;refine aO ?_;refine bC 18 λK hK=>?_;refine az3 ?_;exact IA
   case rest=>
   obtain⟨AK,oB⟩:=hcut;obtain⟨LA,ln,lc,rfl,ta,_,_⟩:=AK.sk.form;have he7:ln<=17:=by have:=fa9 d;have:=HN.o;omega
   have kA:=ah oB;have uR:Hid (Below w w wc):=ak F.o oB;have Nn:=ah (aC RS.o oB);have sK:=ah (λW Bs(h1:Bs<W.heap.size)(h2:W.cell? ⟨Bs,0,WY⟩=WX (YG LA ln lc))(h3:bp W W.heap.size (YG LA ln lc) (jM d))=>ew5 Bs (YG LA ln lc) ((jM d).map bs) (by rw[Xl];omega) W h1 h2 h3);rw[fa8,Xl,ta]at sK;have oY:=ah (ex0 (jM d));have AX:((jM d).mergeSort λx y=>WZ (x<=y)).length=ln:=by rw[List.length_mergeSort,ta]
   rw[ta]at oY;have bm1:=ah AX;generalize ((jM d).mergeSort λx y=>WZ (x<=y))=ms at sK oY bm1 AX;have I4:=ah (λB v W(h:W.ownsRow B 9 1 v ln (ms.map Go.Proofs.encStr))=>fb0 B v ms W (by rw[bm1.o];exact h) YN);have pe:=ah AK;clear AK oB AX ta x0 c2 c0;generalize (Lib.compact ms).length=cl at oY I4;by_cases ud:(jM d).Nodup
   .have gg8:¬(cl:Int)<(ln:Int):=λh=>(oY.o.1 (by omega)) ud;have fh:=ah (λh=>fe7 Jq.o ud h);have Q9:=ah (λh=>fe8 Jq.o ud h);by_cases D:d.kind=4\/d.kind=14
    .have Ow:rn=2:=by
      have:=HN.o;rcases D with D|D
      .have:=(DS.o.2.2.2.2.2.2.1 D).1;omega
      .have:=DS.o.2.2.2.2.2.2.2.2.2.2.2.2.1 D;omega
     subst Ow;obtain⟨s0,mK⟩:∃s,d.refs[0]?=WX s:=⟨_,Xd (by rw[HN.o];decide)⟩;obtain⟨s1,cz⟩:∃s,d.refs[1]?=WX s:=⟨_,Xd (by rw[HN.o];decide)⟩;obtain⟨sb,so,rfl,nw,Tw⟩:=bp.cell X.o mK;have ch1:w.cell? (sb (so+1) WY)=WX (Xp (bs s1)):=by obtain⟨b,o,e,_,h⟩:=bp.cell X.o cz;injection e with e;injection e with e1 e2;subst e1 e2;exact h
     rw[Xt]at Tw;have Js:=ah Tw;have Jt:=ah ch1
     have bk6:=ah (show ∀b:Bool,WZ (s0=s1)=b->fy t d=if b then 2 else 0 from λb hb=>by
      subst hb;by_cases V:s0=s1
      .rw[fh.o ⟨D,by rw[mK,cz,V]⟩];simp[V]
      .rw[Q9.o (λh=>V (by have:=h.2;rw[mK,cz]at this;injection this))];simp[V])
     clear Tw ch1 mK cz fh Q9;obtain⟨be,Ki⟩:∃b,WZ (s0=s1)=b:=⟨_,rfl⟩;have HE:=ah (bk6.o be Ki);have nz:=ah Ki;clear bk6 Ki;by_cases S8:d.kind=4
     .have e4:((d.kind:Int)==4)=true:=by simp;omega
      clear D
      go_upto_region 14 with(first
       |(go_at_call 157;refine(PO LA ln lc _).m ?_;rintro e w6 ⟨rfl,rfl⟩;simp only[bq,aq])
       |(go_at_call 156;refine QA ?_;rintro e w7 ⟨v7,rfl,c,C⟩;have Y:=ah (I4.o _ _ _ c);obtain⟨SA,sn,wy,rfl⟩:=el c;have U:Hid (Below wc wc w7):=ak (ai (aj wc) _) C;clear c C)
       |(go_at_call 158;refine Y.o.m ?_;rintro e w8 ⟨CA,cc,rfl,A⟩;have ee:Hid (Below wc wc w8):=U.o.trans (A.mono YQ);clear A))
      refine az4 λxI y0 y2 QG QH=>?_;clear xI;have hq:((bs s0).toList==(bs s1).toList)=be:=by rw[gK,gK,eS,eS,<-nz.o,Xz];simp
      refine az5 λhS=>?_;iterate 4 refine cL 19 67 ?_
      iterate 3 refine qY 19 67 ?_
      iterate 12 refine cL 19 67 ?_
      refine gA ?_;cases be with
      |false=>exact Mg
      |true=>exact Mg
     .have e4:((d.kind:Int)==4)=false:=by simp;omega
      have mV:((d.kind:Int)==14)=true:=bP;clear D
      go_upto_region 14 with(first
       |(go_at_call 157;refine(PO LA ln lc _).m ?_;rintro e w6 ⟨rfl,rfl⟩;simp only[bq,aq])
       |(go_at_call 156;refine QA ?_;rintro e w7 ⟨v7,rfl,c,C⟩;have Y:=ah (I4.o _ _ _ c);obtain⟨SA,sn,wy,rfl⟩:=el c;have U:Hid (Below wc wc w7):=ak (ai (aj wc) _) C;clear c C)
       |(go_at_call 158;refine Y.o.m ?_;rintro e w8 ⟨CA,cc,rfl,A⟩;have ee:Hid (Below wc wc w8):=U.o.trans (A.mono YQ);clear A))
      refine az4 λxI y0 y2 QG QH=>?_;clear xI;have hq:((bs s0).toList==(bs s1).toList)=be:=by rw[gK,gK,eS,eS,<-nz.o,Xz];simp
      refine az5 λhS=>?_;iterate 19 refine cL 19 67 ?_
      refine gA ?_;cases be with
      |false=>exact Mg
      |true=>exact Mg
    .have e4:((d.kind:Int)==4)=false:=by simp;omega
     have mV:((d.kind:Int)==14)=false:=bP;have HE:=ah (Q9.o (λh=>D h.1));clear D
     go_upto_region 14 with(first
      |(go_at_call 157;refine(PO LA ln lc _).m ?_;rintro e w6 ⟨rfl,rfl⟩;simp only[bq,aq])
      |(go_at_call 156;refine QA ?_;rintro e w7 ⟨v7,rfl,c,C⟩;have Y:=ah (I4.o _ _ _ c);obtain⟨SA,sn,wy,rfl⟩:=el c;have U:Hid (Below wc wc w7):=ak (ai (aj wc) _) C;clear c C)
      |(go_at_call 158;refine Y.o.m ?_;rintro e w8 ⟨CA,cc,rfl,A⟩;have ee:Hid (Below wc wc w8):=U.o.trans (A.mono YQ);clear A))
     have y0:=ap (o:=0) (aC Nn.o ee.o) rfl;refine gx (S:=λw'=>w'.cell? w=WX (Xo XO d.kind)) 19 19 (by exact y0) λhS=>?_;iterate 9 refine cL 19 67 ?_
     iterate 9 refine qY 19 67 ?_
     refine iw 18 85 ?_;refine gA ?_;exact Mg
   .have gg8:(cl:Int)<(ln:Int):=by have:=oY.o.2 ud;omega
    have HE:=ah (fe6 Jq.o ud);go_wp2_with first
     |(go_at_call 157;refine(PO LA ln lc _).m ?_;rintro e w6 ⟨rfl,rfl⟩;simp only[bq,aq])
     |(go_at_call 156;refine QA ?_;rintro e w7 ⟨v7,rfl,c,C⟩;have Y:=ah (I4.o _ _ _ c);obtain⟨SA,sn,wy,rfl⟩:=el c;have U:Hid (Below wc wc w7):=ak (ai (aj wc) _) C;clear c C)
     |(go_at_call 158;refine Y.o.m ?_;rintro e w8 ⟨CA,cc,rfl,A⟩;have ee:Hid (Below wc wc w8):=U.o.trans (A.mono YQ);clear A)
    go_ret;exact⟨by rw[HE.o];rfl,ak uR.o ee.o⟩
def ya(l:List ar):Int:=match l.findIdx? ir with|some i=>(i:Int)|none=> -1
def bh7{l:List ar}{k:Nat}{s:ar}(h:∀x∈l.take k,ir x=Xc)(j:l[k]?=WX s)(z:ir s=Xe):ya l=k:=by
 have A:=(List.getElem?_eq_some_iff.1 j).1;have e:l=l.take k++s::l.drop (k+1):=by rw[<-FM j,List.take_append_drop]
 have c:=VG (l.take k) s (l.drop (k+1)) h z;rw[<-e,XQ,Nat.min_eq_left (eX A)]at c;unfold ya;have y:l.findIdx? ir=WX k:=c;rw[y]
def fk4{l:List ar}(h:∀x∈l,ir x=Xc):ya l= -1:=by
 unfold ya;have:l.findIdx? ir=none:=by rw[List.findIdx?_eq_none_iff];exact h
 rw[this]
def fk5(s:ar)(k:Nat):((bs s).extract 0 k).toList=s.take k:=by rw[gK];simp[ByteArray.data_extract,eS,Array.toList_extract]
def fk6(s:ar):(s.take 8==[99,111,110,116,114,111,108,32])=ir s:=by rw[Xz,beq_iff_eq];unfold ir;rw[List.isPrefixOf_iff_prefix,List.prefix_iff_eq_take];exact⟨λh=>h.symm,λh=>h.symm⟩
def fg4{s:ar}(h:s.length<8):ir s=false:=by rw[Bool.eq_false_iff];intro c;unfold ir at c;rw[List.isPrefixOf_iff_prefix]at c;have:=c.length_le;simp[pT]at this;omega
def ZM(j:ar):∀(l:List ar)(a:ar),l≠[]->iG j (l++[a])=iG j l++j++a
 |[],a,h=>absurd rfl h
 |[b],a,h=>rfl
 |b::c::l,a,h=>by have y:=ZM j (c::l) a YQ;show b++j++iG j (c::l++[a])=_;rw[y];show _=b++j++iG j (c::l)++j++a;simp
def tq(l:List Int):ar:=pT++iG [44,32] (l.map Xg)
def fg5{l:List Int}(h:∀x∈l,aP x)(j:l.length<=10):(tq l).length<=1000:=by have c:=Hy 20 (l.map Xg) (λx hx=>by obtain⟨y,hy,rfl⟩:=List.mem_map.1 hx;exact Wo (h y hy));rw[Xl]at c;unfold tq;rw[Xm];have:pT.length=8:=rfl;omega
end
end Go.Proofs.YtpfienbhhhgpkaaGreatDoor
