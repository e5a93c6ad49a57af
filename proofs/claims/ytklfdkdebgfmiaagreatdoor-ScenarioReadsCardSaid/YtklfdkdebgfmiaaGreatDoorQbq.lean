/- A part of the proof. -/
import Derived.Test.YtklfdkdebgfmiaaGreatDoorQbo
set_option linter.defProp false
set_option linter.unusedVariables false
set_option linter.unusedSimpArgs false
set_option maxRecDepth 100000
set_option maxHeartbeats 32000000
open Option renaming none->Wr,some->Ws
open Decidable renaming decide->Wt
open Go renaming World->Wu,Value->Wv,Calls->WJ,TypeId->WQ,Ending->X0,Addr->X8
open Bool renaming false->Ww,true->Wz
open Go.RowKit renaming Hid->WA
open Go.Proofs renaming intOf->WS
open Go.Proofs.Tryz renaming prog->WH
open Go.Value renaming int->WK,string->WM,slice->Yb,bool->Yc,agg->Ye
open Go.Instr renaming lookup->WT
open Go.IntKind renaming i64->Xr
open Go.Ending renaming returned->Xz
open Go.Obj renaming cells->Yd
open Go.Operand renaming tmp->Yg,const->Yh
namespace Go.Proofs.YtklfdkdebgfmiaaGreatDoor
section
open Go Go.RowKit Go.MapKept Go.Proofs.Tryz
def aF.turnB {B pb p:Nat} {w w':Wu} (h:jv w w' p) (j:B<=p):aF B pb w w':=by have c:=h.1 0 w ((af w).mono (bU _)) (bU _);exact⟨c.os,c.tape,c.output,by rw[h.2.1];exact ag _,λi g _=>h.2.2 i Yi⟩
def ex0 (w:Wu) (Mb:Nat) (r:Except (Nat×Nat) cO):X0->Wu->Prop:=λe w'=>
 aF w.heap.size Mb w w'/\match r with
  | .error x=>e=Xz (.tuple #[x.1,x.2])
  | .ok t=>e=Xz (.tuple #[WK Xr 0,WK Xr 0])/\de lV w' Mb (ks t)
def ex1 (rb Mb:Nat) (v:Wv) (l:List au) (w:Wu) (hG:fD w) (gi7:8<=Mb) (F:w.cell? rb=Ws (.map (Ws Mb))) (hM:de lV w Mb (ks [])) (hv:bW 6 oD w w v l) (hl:l.length<=100000):
 WJ WH 45 #[aj rb,v] w (ex0 w Mb (iN [] [] l)):=by
 have eB:=bP _ _ F;have p8:=ez3 hM;have aO: ¬rb=Mb:=λe=>by rw[e] at F;rw[p8] at F;cases F
 have gs6:=hM.lt;obtain⟨A,n,c,rfl,hn,hc,iG⟩:=hv.form;refine tP λlM=> ?_;have HG:=aa hG;have HR:=aa F;have HM:=aa hM;have HV:=aa hv;have HN:=aa hn;have da0:=aa p8;simp only[aj];rw[hn] at hl;clear hG F hM hv hn p8;go_enter func45,ntmps45;go_upto_region 2 with (fail)
 refine cP (λW=>Below w w W/\de iO W w (BK [])/\de iO W (w.heap.size+1) (BL [])) ⟨ae (ae (af w) _) _,((de.made iO w).later (ae (af _) _)).of_eq (λk=>by unfold BK;rw[if_neg];intro h;exact h.2 rfl),by have h:=(de.made iO (w.alloc (.map #[] 0))).of_eq (g:=BL []) (λk=>by unfold BL;rw[if_neg];intro h;exact absurd h.2 (by simp[kh]));rw[XL] at h;exact h⟩ ?_;intro W1 ⟨aU,J,O⟩;have aT:=aa aU;have dh8:=aa J;have di9:=aa O;clear aU J O;go_wp2_with fail
 go_loopw [17] (λi wr=> ∃(k:Nat) (t:cO),k<=n/\i=WK Xr k/\iN [] [] l=iN (l.take k) t (l.drop k)/\de lV wr Mb (ks t)/\de iO wr w (BK (l.take k))/\de iO wr (w.heap.size+1) (BL (l.take k))/\aF w.heap.size Mb w wr) (λi _=>n - (WS i).toNat)
 case atStart=>exact⟨0,[],bU _,rfl,rfl,HM.out.later aT.out,dh8.out,di9.out,aF.of_below aT.out (ag _) aT.out.size⟩
 case round=>
  obtain⟨k,t,hk,rfl,xV,KX,ce0,cg1,nd⟩:=hrel;obtain⟨j,rfl⟩: ∃j:Wu,j=wr:=⟨_,rfl⟩;have G:=aa xV;have Cf:=aa KX;have DH:=aa ce0;have gY:=aa cg1;have mK:=aa nd;clear xV KX ce0 cg1 nd;by_cases ar:k<n
  .have dz:(0:Int)<=k:=by omega
   have bJ:(k:Int)<n:=Yi;obtain⟨d,hd⟩: ∃d,l[k]? =Ws d:=⟨_,Wy lU⟩;have CO:l.drop k=d::l.drop (k+1):=by rw[List.drop_eq_getElem_cons lU];congr 1;rw[Wy lU] at hd;injection hd
   have X:l.take (k+1)=l.take k++[d]:=by rw[XJ,hd];rfl
   have fJ:(l.take k).length=k:=by rw[XW,HN.out];omega
   rw[CO] at G;have dC:=aa (λh=>G.out.trans (ba7 (b:=l.take k) (r:=l.drop (k+1)) (t:=t) (d:=d) h));have Cd:=aa (λh h2=>G.out.trans (ba8 (b:=l.take k) (r:=l.drop (k+1)) (t:=t) (d:=d) h h2));have vC:=aa (λh h2=>G.out.trans (ba9 (b:=l.take k) (r:=l.drop (k+1)) (t:=t) (d:=d) h h2));rw[fJ] at dC Cd;rw[<-X] at vC;have pr:=aa (λx=>ey9 (l.take k) d x);have bn2:=aa (λx=>ez0 (l.take k) d x);rw[<-X] at pr bn2;have D:=aa (ba5 (l.take k) (bD d.kind));have bn1:=aa (ey8 (l.take k) d.kind);have NI:=aa (ba5 (l.take (k+1)) (bD d.kind));have fW:gv (l.take (k+1)) (bD d.kind)=gv (l.take k) (bD d.kind)+1:=by rw[X,QE,if_pos rfl]
   have eF:gv (l.take k) (bD d.kind)<=k:=by have:=List.length_filter_le (λx:au=>Wt (bD x.kind=bD d.kind)) (l.take k);unfold gv;omega
   have mj:=aa (show FB t (l.take k) d=((!Wt (d.name=[])&&(cY t d.name).isSome)||((Wt (d.kind=8)||Wt (d.kind=9))&&kh (l.take k) d.kind)) from rfl);have Tq:Hid (bW 6 oD j w (Yb A n c) l):=DeclS.kp HV.out mK.out (ag _) da0.out;obtain⟨b,o,cs,rfl,gP,UG,hR,bk⟩:=Tq.out.at_ hd;obtain⟨rv,nv,rfl,mE,By,ap,am⟩:=hR;obtain⟨RA,rn,rc,rfl,_,_,_⟩:=mE.sk.form;obtain⟨NA,nn,nc,rfl,_,_,_⟩:=By.sk.form;have vT:=aa mE;have AR:=aa By;refine Dd λh0 h1 h2=> ?_;have h3:=bk 3 _ rfl;have h4:=bk 4 _ rfl;have h5:=bk 5 _ rfl;simp only[WR] at h0;have wB:j.cell? rb=Ws (.map (Ws Mb)):=(mK.out.cell 0 eB aO).trans HR.out;have BC:=mK.out.size;have qG:Hid (fD j):=HG.out.below (mK.out.below (eJ gs6)) gi7;clear bk UG mE By hd CO X fJ;go_upto_region 5 with (fail)
   refine cP (λW=>Below j j W/\W.heap[j.heap.size]? =Ws (Yd #[WK Xr d.kind,bs d.name,Yb RA rn rc,Yb NA nn nc,WK Xr d.by_,Yc d.always] 96 (0,0))) ⟨by first|exact cF (ae (af j) _) (ag _) _|exact ae (af j) _,by first|exact Xn j _|exact(aZ (aZ (aZ (aZ (aZ (aZ (Xn j _) _ _) _ _) _ _) _ _) _ _) _ _).trans rfl⟩ ?_;intro z ⟨aV,I⟩;have gF:=blk_lt I;have Z:z.cell? rb=Ws (.map (Ws Mb)):=(aV.cell (p:=rb) (bq eB BC)).trans wB;obtain⟨xb,dx⟩: ∃b,j.heap.size=b:=⟨_,rfl⟩;simp only[dx] at I gF⊢
   obtain⟨up,rT,uq,ur,ut,uu⟩:=jD I;have AS:=aa dx;have C:=aa aV;have qN:=aa I;clear aV I h0 h1 h2 h3 h4 h5 wB dx;have jq:=aa (λW (U:Below z z W)=>bb6 d (Yb RA rn rc) (Yb NA nn nc) W ((qG.out.step C.out).step U) ((vT.out.below (ai C.out U) BC).more (bo BC (bo C.out.size U.size))) ((AR.out.below (ai C.out U) BC).more (bo BC (bo C.out.size U.size))));have vQ:=aa (λW=>az6 d.kind W);obtain⟨V,cq3⟩: ∃V,(Wt (d.kind=8)||Wt (d.kind=9))=V:=⟨_,rfl⟩;obtain⟨us,H6⟩: ∃us,(cY t d.name).isSome=us:=⟨_,rfl⟩;have Y:=aa cq3;have D9:=aa H6;clear cq3 H6;go_cut [10] from 18 to 86 (λp wx=>p=Yc V/\z=wx)
   case first=>
    by_cases k8:d.kind=8
    .have e8:((d.kind:Int)==8)=true:=by simp;omega
     go_wp2_with fail
     go_meet;exact⟨by rw[<-Y.out,k8];rfl,rfl⟩
    .have e8:((d.kind:Int)==8)=false:=by simp;omega
     by_cases k9:d.kind=9
     .have e9:((d.kind:Int)==9)=true:=by simp;omega
      go_wp2_with fail
      go_meet;exact⟨by rw[<-Y.out,k9];rfl,rfl⟩
     .have e9:((d.kind:Int)==9)=false:=by simp;omega
      go_wp2_with fail
      go_meet;exact⟨by rw[<-Y.out,decide_eq_false k8,decide_eq_false k9];rfl,rfl⟩
   case rest=>
   obtain⟨rfl,rfl⟩:=hcut;go_upto_region 6 with (fail)
   obtain⟨kq,Ln⟩:=ba0 t d.name;have qH:=aa Ln;have de9:=aa (show(ks t d.name).isSome=us by rw[<-D9.out];unfold ks;cases cY t d.name<;>rfl);have JO:=aa (Cf.out.later C.out);clear Ln;go_cut [11,12] from 18 to 86 (λ_ q wx=>q=Yc us/\Below z z wx)
   case first=>
    refine pE (S:=λw'=>w'.cell? rb=Ws (.map (Ws Mb))/\w'.cell? (xb 1 Wr)=Ws (WM (bs d.name))/\de lV w' Mb (ks t)/\Below z z w') 13 (by exact⟨Z,rT,JO.out,aX (af z)⟩) λhS=> ?_;iterate 6 refine mC 13 31 ?_
    refine aw5 (i:=6) (v:= .tuple #[Ye #[kq,WK Xr (bC t d.name)],Yc us]) (Ws 37) rfl rfl aC aC aC (λ_ _ _ h=>h) (Or.inl ⟨by rfl,?_⟩) hS ?_
    .intro wq il;try dsimp only at il
     have h:=qm (P:=WH) underlying108 Xw Do il.2.2.1 d.name Wz (zeroValue178 _);rw[qH.out,de9.out] at h;have kU:(WT 108 (.map (Ws Mb)) (WM (bs d.name)) Wz).run WH wq= .ok (.tuple #[Ye #[kq,WK Xr (bC t d.name)],Yc us]) wq:=h;clear h;go_simp;try with_reducible rfl
    refine aG ?_;refine cb 7 30 ?_;iterate 2 refine mC 13 30 ?_
    refine dY 10 λK hK=> ?_;go_simp;refine hK.out _ _ (by exact⟨kc (ae (af _) _) hS.1,kc (ae (af _) _) hS.2.1,hS.2.2.1.later (ae (af _) _),ai hS.2.2.2 (ae (af _) _)⟩) (λhS=> ?_);clear hK;refine aG ?_;refine dY 11 λK hK=> ?_;go_simp;refine hK.out _ _ (by refine(λhb=>⟨kc hb Z,(hb.cell (p:=xb 1 Wr) gF).trans rT,JO.out.later hb,hb⟩) ?_;first|exact aX (ae (af z) _)|exact ae (aX (af z)) _) (λhS=> ?_);clear hK;refine aG ?_;refine cb 12 12 ?_;refine oQ ?_;go_wp2_with fail
    go_meet;exact⟨rfl,by first|exact aX (ae (af z) _)|exact ae (aX (af z)) _⟩
   case rest=>
   obtain⟨rfl,jQ⟩:=hcut;have jH:=aa jQ;have AV:=aa (aq qN.out jQ);obtain⟨wg,qP,pG,pH,zp,zq⟩:=jD AV.out;have p9:=kc jQ Z;have Pk:=blk_lt AV.out;have SE:Hid (Below j j wc):=ai C.out jQ;have cn2: ¬xb=w.heap.size+1:=by have:=gY.out.lt;have:=AS.out;omega
   have cn1: ¬xb=w.heap.size:=by have:=gY.out.lt;have:=AS.out;omega
   have gp2: ¬rb=w.heap.size+1:=Yi;have gp1: ¬rb=w.heap.size:=Yi;have gp0: ¬Mb=w.heap.size+1:=Yi;have go9: ¬Mb=w.heap.size:=Yi;have cn3: ¬xb=Mb:=by have:=AS.out;omega
   have S4:Hid (aF w.heap.size Mb w wc):=mK.out.trans (aF.of_below SE.out BC SE.out.size);have xr:=aa (show(bs d.name).toList.isEmpty=Wt (d.name=[]) from by rw[jr,gI];cases d.name<;>rfl);obtain⟨ne,Vj⟩: ∃b,Wt (d.name=[])=b:=⟨_,rfl⟩;obtain⟨vd,H9⟩: ∃b,bx d=b:=⟨_,rfl⟩;obtain⟨on,CV⟩: ∃b,kh (l.take k) d.kind=b:=⟨_,rfl⟩;obtain⟨cn,Bi⟩: ∃m,gv (l.take k) (bD d.kind)=m:=⟨_,rfl⟩;obtain⟨sc,LD⟩: ∃m,bD d.kind=m:=⟨_,rfl⟩;have ci8:cn<=100000:=Yi;rw[Vj] at xr mj;rw[H9] at jq;rw[CV] at bn1 mj;rw[Y.out,D9.out] at mj;rw[Bi] at D pr;rw[fW,Bi] at NI vC;rw[show((cn+1:Nat):Int)=(cn:Int)+1 from rfl] at NI;rw[LD] at vQ D pr NI;have oe:=aa Vj;have J7:=aa H9;clear jQ up rT uq ur ut uu Z Vj H9 CV Bi LD fW eF;cases vd with
   |false=>
    go_wp2_with first
     |(go_at_call 125;refine(jq.out _ jH.out).m ?_;rintro e w4 ⟨rfl,aS⟩;refine FC λb0 b1 ke bE qJ xl mp eN=> ?_;have fJ:(Instr.lookup 176 (.map (some (w.heap.size+1))) (.int .i64 d.kind) false).run prog w4= .ok (.bool on) w4:=by exact FD
       clear aS wg qP pG pH zp zq p9)
    go_ret2
    refine⟨eN.out,?_⟩;rw[dC.out J7.out];exact rfl
   |true=>
    cases ne with
    |false=>
     have kn:=xr.out;cases us with
     |true=>
      go_wp2_with first
       |(go_at_call 125;refine(jq.out _ jH.out).m ?_;rintro e w4 ⟨rfl,aS⟩;refine FC λb0 b1 ke bE qJ xl mp eN=> ?_;have fJ:(Instr.lookup 176 (.map (some (w.heap.size+1))) (.int .i64 d.kind) false).run prog w4= .ok (.bool on) w4:=by exact FD
         clear aS wg qP pG pH zp zq p9)
      go_ret2
      refine⟨eN.out,?_⟩;rw[Cd.out J7.out (by rw[mj.out];rfl)];exact rfl
     |false=>
      cases V with
      |true=>
       cases on with
       |true=>exact bb7
       |false=>
        go_wp2_with first
         |(go_at_call 125;refine(jq.out _ jH.out).m ?_;rintro e w4 ⟨rfl,aS⟩;refine FC λb0 b1 ke bE qJ xl mp eN=> ?_;have fJ:(Instr.lookup 176 (.map (some (w.heap.size+1))) (.int .i64 d.kind) false).run prog w4= .ok (.bool false) w4:=by exact FD
           clear aS wg qP pG pH zp zq p9)
         |(refine ev rfl (Yg 60) (Yg 62) (Yh (Yc Wz)) 176 (.inl rfl) 3 4 (.int Xr) underlying176 WI co (w.heap.size+1) _ rfl mp.out (d.kind:Int) (Yc Wz) rfl rfl ?_;intro w5 pT jm;refine QM λc0 c1 tz yY Cc og eI=> ?_;clear pT jm b0 b1 ke)
         |(go_at_call 126;refine(vQ.out _).m ?_;rintro e w6 ⟨rfl,bM⟩;refine QN λd0 d1 zK Gx rJ qK oM=> ?_;clear bM c0 c1 tz)
         |(at_lookup;refine B3 rfl (.tmp 63) (.tmp 66) 175 false rfl 3 3 (.int .i64) underlying175 underlying3 co w.heap.size _ rfl rJ.out (sc:Int) (.int .i64 0) rfl (zeroValue3 _) ?_
           rw[D.out];simp only[WW,if_false])
         |(refine ev rfl (Yg 63) (Yg 66) (Yg 68) 175 (.inl rfl) 3 3 (.int Xr) underlying175 WI co w.heap.size _ rfl rJ.out (sc:Int) (WK Xr ((cn:Int)+1)) rfl (by go_num) ?_;intro w7 pU kS;refine QO λe0 e1 pm DU vG qE lj=> ?_;clear pU kS d0 d1 zK)
        exact bb8
      |false=>
       go_wp2_with first
        |(go_at_call 125;refine(jq.out _ jH.out).m ?_;rintro e w4 ⟨rfl,aS⟩;refine FC λb0 b1 ke bE qJ xl mp eN=> ?_;have fJ:(Instr.lookup 176 (.map (some (w.heap.size+1))) (.int .i64 d.kind) false).run prog w4= .ok (.bool on) w4:=by exact FD
          clear aS wg qP pG pH zp zq p9)
        |(refine ev rfl (Yg 60) (Yg 62) (Yh (Yc Wz)) 176 (.inl rfl) 3 4 (.int Xr) underlying176 WI co (w.heap.size+1) _ rfl mp.out (d.kind:Int) (Yc Wz) rfl rfl ?_;intro w5 pT jm;refine QM λc0 c1 tz yY Cc og eI=> ?_;clear pT jm b0 b1 ke)
        |(go_at_call 126;refine(vQ.out _).m ?_;rintro e w6 ⟨rfl,bM⟩;refine QN λd0 d1 zK Gx rJ qK oM=> ?_;clear bM c0 c1 tz)
        |(at_lookup;refine B3 rfl (.tmp 63) (.tmp 66) 175 false rfl 3 3 (.int .i64) underlying175 underlying3 co w.heap.size _ rfl rJ.out (sc:Int) (.int .i64 0) rfl (zeroValue3 _) ?_
          rw[D.out];simp only[WW,if_false])
        |(refine ev rfl (Yg 63) (Yg 66) (Yg 68) 175 (.inl rfl) 3 3 (.int Xr) underlying175 WI co w.heap.size _ rfl rJ.out (sc:Int) (WK Xr ((cn:Int)+1)) rfl (by go_num) ?_;intro w7 pU kS;refine QO λe0 e1 pm DU vG qE lj=> ?_;clear pU kS d0 d1 zK)
       exact bb8
    |true=>
     have kn:=xr.out;cases V with
     |true=>
      cases on with
      |true=>exact bb7
      |false=>
       go_wp2_with first
        |(go_at_call 125;refine(jq.out _ jH.out).m ?_;rintro e w4 ⟨rfl,aS⟩;refine FC λb0 b1 ke bE qJ xl mp eN=> ?_;have fJ:(Instr.lookup 176 (.map (some (w.heap.size+1))) (.int .i64 d.kind) false).run prog w4= .ok (.bool false) w4:=by exact FD
          clear aS wg qP pG pH zp zq p9)
        |(refine ev rfl (Yg 60) (Yg 62) (Yh (Yc Wz)) 176 (.inl rfl) 3 4 (.int Xr) underlying176 WI co (w.heap.size+1) _ rfl mp.out (d.kind:Int) (Yc Wz) rfl rfl ?_;intro w5 pT jm;refine QM λc0 c1 tz yY Cc og eI=> ?_;clear pT jm b0 b1 ke)
        |(go_at_call 126;refine(vQ.out _).m ?_;rintro e w6 ⟨rfl,bM⟩;refine QN λd0 d1 zK Gx rJ qK oM=> ?_;clear bM c0 c1 tz)
        |(at_lookup;refine B3 rfl (.tmp 63) (.tmp 66) 175 false rfl 3 3 (.int .i64) underlying175 underlying3 co w.heap.size _ rfl rJ.out (sc:Int) (.int .i64 0) rfl (zeroValue3 _) ?_
          rw[D.out];simp only[WW,if_false])
        |(refine ev rfl (Yg 63) (Yg 66) (Yg 68) 175 (.inl rfl) 3 3 (.int Xr) underlying175 WI co w.heap.size _ rfl rJ.out (sc:Int) (WK Xr ((cn:Int)+1)) rfl (by go_num) ?_;intro w7 pU kS;refine QO λe0 e1 pm DU vG qE lj=> ?_;clear pU kS d0 d1 zK)
       exact ay5
     |false=>
      go_wp2_with first
       |(go_at_call 125;refine(jq.out _ jH.out).m ?_;rintro e w4 ⟨rfl,aS⟩;refine FC λb0 b1 ke bE qJ xl mp eN=> ?_;have fJ:(Instr.lookup 176 (.map (some (w.heap.size+1))) (.int .i64 d.kind) false).run prog w4= .ok (.bool on) w4:=by exact FD
         clear aS wg qP pG pH zp zq p9)
       |(refine ev rfl (Yg 60) (Yg 62) (Yh (Yc Wz)) 176 (.inl rfl) 3 4 (.int Xr) underlying176 WI co (w.heap.size+1) _ rfl mp.out (d.kind:Int) (Yc Wz) rfl rfl ?_;intro w5 pT jm;refine QM λc0 c1 tz yY Cc og eI=> ?_;clear pT jm b0 b1 ke)
       |(go_at_call 126;refine(vQ.out _).m ?_;rintro e w6 ⟨rfl,bM⟩;refine QN λd0 d1 zK Gx rJ qK oM=> ?_;clear bM c0 c1 tz)
       |(at_lookup;refine B3 rfl (.tmp 63) (.tmp 66) 175 false rfl 3 3 (.int .i64) underlying175 underlying3 co w.heap.size _ rfl rJ.out (sc:Int) (.int .i64 0) rfl (zeroValue3 _) ?_
         rw[D.out];simp only[WW,if_false])
       |(refine ev rfl (Yg 63) (Yg 66) (Yg 68) 175 (.inl rfl) 3 3 (.int Xr) underlying175 WI co w.heap.size _ rfl rJ.out (sc:Int) (WK Xr ((cn:Int)+1)) rfl (by go_num) ?_;intro w7 pU kS;refine QO λe0 e1 pm DU vG qE lj=> ?_;clear pU kS d0 d1 zK)
      exact ay5
  .have qX:k=n:=by omega
   subst qX;have gl9:iN [] [] l= .ok t:=by rw[G.out,List.drop_of_length_le (by rw[HN.out];exact ag _)];exact QF
   go_wp2_with fail
   go_ret2
   refine⟨mK.out,?_⟩;rw[gl9];exact⟨rfl,Cf.out⟩
def fV (m:aM) (k:Int) (b:List Int):Bool:=aH k m.machs.length&&(match b.getLast? with|none=>Wz|some p=>Wt (p<k))&& !Wt (qj m k=m.dark)
def be2 (m:aM) (l:List Int) (c:Int) (acts:List aP):jK ⟨m,l,c,acts⟩=(ep (fl (fV m) [] l) l.length&&(Wt (l.length=1)||Wt (l.length=3)||Wt (l.length=5))):=by rw[<-wY];rfl
def be3 {l:List Int} {k:Nat} {p:Int} (g:0<k) (h:l[k - 1]? =Ws p):(l.take k).getLast?=Ws p:=by obtain⟨j,rfl⟩: ∃j,k=j+1:=⟨k - 1,by omega⟩;have c:l[j]? =Ws p:=h;rw[XJ,c];simp
def be4 {m:aM} {x:Int} {y:ri} {z:mU} {j c:Nat} (g:(x - 1).toNat=j) (h:m.machs[j]? =Ws y) (C:(y.rack - 1).toNat=c) (A:m.racks[c]? =Ws z):qj m x=z.site:=by unfold qj;rw[g,h];show((m.racks[(y.rack - 1).toNat]?).map (·.site)).getD 0=_;rw[C,A];rfl
def fq5 (m:aM) (v:MV) (l:List Int) (g:Int) (acts:List aP) (cv D:Wv) (w:Wu) (X:m.In w w v) (hc:aW w w cv l) (hl:l.length<=100000)
 (G: ∀x∈m.machs,aH x.rack m.racks.length=Wz):
 aQ 55 #[Ye (m.cells v++ #[cv,WK Xr g,D])] w (Yc (jK ⟨m,l,g,acts⟩)):=by
 obtain⟨⟨Sa,sc,hs,dh,bS⟩,⟨Fa,fc,cB,cr,cL⟩,⟨Ra,rc,hr,cM,cV⟩,⟨Ma,mc,hm,dd,cz⟩,⟨La,lc,eX,dt,di⟩,⟨Ia,ic,hi,ed,ez⟩,⟨Ua,uc,hu,dP,dq⟩⟩:=X.cells;obtain⟨A,n,c,rfl,hn,Bi,iG⟩:=hc.form;have HS:=aa (show m.cells v++ #[Yb A n c,WK Xr g,D]= #[Yb Sa m.sites.length sc,Yb Fa m.feeds.length fc,Yb Ra m.racks.length rc,Yb Ma m.machs.length mc,Yb La m.links.length lc,Yb Ia m.items.length ic,WK Xr m.dark,WK Xr m.slots,WK Xr m.reserve,WK Xr m.failures,Yb Ua m.rules.length uc,Yb A n c,WK Xr g,D] from by rw[aM.cells_def,hs,cB,hr,hm,eX,hi,hu];rfl);have hR:=X.ms;rw[hm] at hR;have ll:=aa hR;have Eu:=X.rs;rw[hr] at Eu;have vO:=aa Eu;have HV:=aa hc;have HN:=aa hn;have vH:=aa G;rw[hn] at hl;clear hR Eu hc hn G;rw[HS.out];clear X hs cB hr hm eX hi hu;have HO:=aa (be2 m l g acts);obtain⟨r,wB⟩: ∃r,jK ⟨m,l,g,acts⟩=r:=⟨_,rfl⟩;rw[wB] at HO⊢
 clear wB;have gG:=aa (λk x (h:l[k]? =Ws x)=>(E8 (c:=fV m) (b:=[]) h));obtain⟨F,hF⟩: ∃F,fl (fV m) [] l=F:=⟨_,rfl⟩;rw[hF] at HO gG;clear hF;obtain⟨P,hP⟩: ∃P,ep F l.length=P:=⟨_,rfl⟩;have DY:=aa hP.symm;rw[hP] at HO;clear hP;go_enter func55,ntmps55;go_upto_region 2 with (fail)
 refine cP (λW=>Below w w W/\W.heap[w.heap.size]? =Ws (Yd #[Yb Sa m.sites.length sc,Yb Fa m.feeds.length fc,Yb Ra m.racks.length rc,Yb Ma m.machs.length mc,Yb La m.links.length lc,Yb Ia m.items.length ic,m.dark,m.slots,m.reserve,m.failures,Yb Ua m.rules.length uc,Yb A n c,g,D] 34 (0,0))/\W.heap[w.heap.size+1]? =Ws (Yd #[Yb Sa m.sites.length sc,Yb Fa m.feeds.length fc,Yb Ra m.racks.length rc,Yb Ma m.machs.length mc,Yb La m.links.length lc,Yb Ia m.items.length ic,m.dark,m.slots,m.reserve,m.failures,Yb Ua m.rules.length uc] 30 (0,0))) ⟨ae (ae (af w) _) _,?_,?_⟩ ?_
 .exact aq (bQ w _) (ae (af _) _)
 .have:=bQ (w.alloc (Yd #[Yb Sa m.sites.length sc,Yb Fa m.feeds.length fc,Yb Ra m.racks.length rc,Yb Ma m.machs.length mc,Yb La m.links.length lc,Yb Ia m.items.length ic,m.dark,m.slots,m.reserve,m.failures,Yb Ua m.rules.length uc,Yb A n c,g,D] 34)) (Yd #[Yb Sa m.sites.length sc,Yb Fa m.feeds.length fc,Yb Ra m.racks.length rc,Yb Ma m.machs.length mc,Yb La m.links.length lc,Yb Ia m.items.length ic,m.dark,m.slots,m.reserve,m.failures,Yb Ua m.rules.length uc] 30);simpa using this
 intro U ⟨aU,Z,dm⟩;have aT:=aa aU;have Ec:=aa Z;have g_:=aa dm;have gt3:=blk_lt Z;have tE:=blk_lt dm;have rS:U.cell? (w 11 Wr)=Ws (Yb A n c):=ah Z rfl;clear aU Z dm;go_wp2_with fail
 go_loopw [11] (λi wr=> ∃k:Nat,k<=n/\i=WK Xr k/\(∀j,j<k->F j=Wz)/\Below U U wr) (λi _=>n - (WS i).toNat)
 case atStart=>exact⟨0,bU _,rfl,λj C=>by omega,af U⟩
 case round=>
  obtain⟨k,hk,rfl,G,hB⟩:=hrel;have gY:=aa G;have HB:=aa hB;have mE:=aq Ec.out hB;have V:=aq g_.out hB;refine oX λbH=> ?_;have KG:wr.cell? (w 11 Wr)=Ws (Yb A n c):=ah mE rfl;have c2:wr.cell? ⟨w.heap.size+1,2,Wr⟩=Ws (Yb Ra m.racks.length rc):=ah V rfl;have c3:wr.cell? ⟨w.heap.size+1,3,Wr⟩=Ws (Yb Ma m.machs.length mc):=ah V rfl;have c6:wr.cell? ⟨w.heap.size+1,6,Wr⟩=Ws (WK Xr m.dark):=ah V rfl;have eB:w.heap.size<wr.heap.size:=bq gt3 hB.size;clear G hB mE V;by_cases ar:k<n
  .have dz:(0:Int)<=k:=by omega
   have bJ:(k:Int)<n:=Yi;obtain⟨x,hx⟩: ∃x,l[k]? =Ws x:=⟨_,Wy lU⟩;obtain⟨b,o,rfl,gP,bk⟩:=aW.cell HV.out hx;have cx:wr.cell? ⟨b,o+k,Wr⟩=Ws (WK Xr x):=(bH.out.cell (p:=⟨b,o+k,Wr⟩) gP).trans bk;have Ug:aK x:=HV.out.2 x (eD hx);have UY:=Ug.1;have UZ:=Ug.2;have HF:=aa (gG.out k x hx);have HX:=aa hx;clear bk Ug hx;by_cases q1:x<1
   .have hF:F k=false:=by rw[HF.out];unfold fV aH aD;simp;omega
    have d1:Wt (x<1)=true:=bI;clear UY UZ;exact Q6
   .by_cases q2:(m.machs.length:Int)<x
    .have hF:F k=false:=by rw[HF.out];unfold fV aH aD;simp;omega
     have d1:Wt (x<1)=false:=bI;have d2:Wt ((m.machs.length:Int)<x)=true:=bI;clear UY UZ;exact Q6
    .have C: ∃j:Nat,(x - 1).toNat=j:=⟨_,rfl⟩;obtain⟨j,C⟩:=C;have Bl:j<m.machs.length:=by omega
     obtain⟨y,hy⟩: ∃y,m.machs[j]? =Ws y:=⟨_,Wy Bl⟩;have I:=vH.out y (eD hy);have gs2:1<=y.rack/\y.rack<=m.racks.length:=by simpa[aH,aD] using I
     obtain⟨wJ,zQ⟩:=gs2;obtain⟨J,rZ⟩: ∃J:Nat,(y.rack - 1).toNat=J:=⟨_,rfl⟩;have gn2:J<m.racks.length:=Yi;obtain⟨z,hz⟩: ∃z,m.racks[J]? =Ws z:=⟨_,Wy gn2⟩;have oO:=aa (be4 C hy rZ hz);obtain⟨mb,mo,mcs,rfl,eM,_,⟨rfl,Vd⟩,hmcell⟩:=ll.out.at_ hy;have e1:=(bH.out.cell (p:=⟨mb,mo+j*3+1,Wr⟩) eM).trans (hmcell 1 _ rfl);obtain⟨rb,ro,rcs,rfl,bc,_,⟨rfl,gq2⟩,hrcell⟩:=vO.out.at_ hz;have e2:=(bH.out.cell (p:=⟨rb,ro+J*3+1,Wr⟩) bc).trans (hrcell 1 _ rfl);have i1:IntKind.i64.wrap (x - 1)=x - 1:=Xf _ Yi;have i2:(0:Int)<=x - 1:=Yi;have i3:x - 1<(m.machs.length:Int):=Yi;have i4:IntKind.i64.wrap (y.rack - 1)=y.rack - 1:=Xf _ (by have:=Vd.1.1;have:=Vd.1.2;omega);have i5:(0:Int)<=y.rack - 1:=Yi;have i6:y.rack - 1<(m.racks.length:Int):=Yi;have HE:=aa (show aH x m.machs.length=Wz by simp[aH,aD];omega);have d1:Wt (x<1)=false:=bI;have d2:Wt ((m.machs.length:Int)<x)=false:=bI;clear I hmcell hrcell Vd gq2 hy hz UY UZ;by_cases k0:0<k
     .have kd:decide (0<k)=true:=by simp;omega
      obtain⟨p,hp⟩: ∃p,l[k - 1]? =Ws p:=⟨_,Wy AY⟩;obtain⟨b2,o2,O,_,hcell2⟩:=aW.cell HV.out hp;injection O with O;injection O with O wt;subst O wt;have cp:wr.cell? ⟨b,o+(k - 1),Wr⟩=Ws (WK Xr p):=(bH.out.cell (p:=⟨b,o+(k - 1),Wr⟩) gP).trans hcell2;have i7:IntKind.i64.wrap ((k:Int) - 1)=(k:Int) - 1:=Xf _ Yi;have i8:((k:Int) - 1).toNat=k - 1:=Yi;have i9:(0:Int)<=(k:Int) - 1:=Yi;have hn0:(k:Int) - 1<(n:Int):=Yi;have Y:=aa (be3 k0 hp);clear hcell2 hp;by_cases q3:x<=p
      .have d3:decide (x<=p)=true:=by simp;omega
       have hF:F k=false:=by rw[HF.out];unfold fV;rw[Xl,Y.out];have:Wt (p<x)=false:=bI;simp[this]
       clear q1 q2 q3 k0;exact Q6
      .have rP:=aa (show decide (p<x)=true by simp;omega);have d3:decide (x<=p)=false:=by simp;omega
       by_cases q4:z.site=m.dark
       .exact be5
       .have hF:F k=true:=by
         rw[HF.out];unfold fV;rw[Xl,Y.out,oO.out,HE.out];show(Wz&&Wt (p<x)&& !Wt (z.site=m.dark))=Wz;rw[rP.out];simp[q4]
        have kg:=aa hF;have q5:(z.site==m.dark)=false:=by simpa using q4
        clear q1 q2 q3 q4 k0 hF;exact be6
     .have fY:k=0:=by omega
      have kd:Wt (0<k)=false:=bI;have Y:=aa (show(l.take k).getLast?=Wr by rw[fY];simp);clear fY;by_cases q4:z.site=m.dark
      .exact be5
      .have hF:F k=true:=by
        rw[HF.out];unfold fV;rw[Xl,Y.out,oO.out,HE.out];simp[q4]
       have kg:=aa hF;have q5:(z.site==m.dark)=false:=by simpa using q4
       clear q1 q2 q4 k0 hF;exact be6
  .have bJ: ¬(k:Int)<n:=by omega
   have dc1:=aa (show P=Wz by rw[DY.out];exact zU λj C=>gY.out j (by rw[HN.out] at C;omega));have HC:=aa (λW B u (h:aW W B u [1,3,5])=>P0 u [1,3,5] (n:Int) W B h);go_wp2_with(go_at_call 157;refine(HC.out _ _ _ (aW.lits _ [1,3,5] Eh Yl _)).m ?_;rintro e w3 ⟨rfl,rfl⟩)
   go_ret;refine⟨?_,ae bH.out _⟩;rw[HO.out,dc1.out,HN.out];have e:(Wt ((n:Int)=1)||(Wt ((n:Int)=3)||Wt ((n:Int)=5)))=(Wz&&(Wt (n=1)||Wt (n=3)||Wt (n=5))):=by have z1:Wt ((n:Int)=1)=Wt (n=1):=TI;have z3:Wt ((n:Int)=3)=Wt (n=3):=TI;have z5:Wt ((n:Int)=5)=Wt (n=5):=TI;rw[z1,z3,z5,Bool.true_and,Bool.or_assoc]
   exact congrArg (λq=>Xz (Yc q)) e
def fw4 {m:aM} {k:Nat} {x:tO} (h:m.links[k]? =Ws x):fl (ji m) [] m.links k=(Wt (1<=x.a)&&Wt (x.a<x.b)&&Wt (x.b<=m.sites.length)&&aD x.cap 0 1048576&& !(m.links.take k).any λy=>Wt (y.a=x.a)&&Wt (y.b=x.b)):=Kg
def fw5 (m:aM) (v:MV) (w:Wu) (hv:m.In w w v):
 aQ 267 #[Ye (m.cells v)] w (Yc (dN (ji m) [] m.links)):=by
 refine rz λSa sc hs dh bS Fa fc cB cr cL Ra rc hr cM cV Ma mc hm dd cz La lc hl dt di Ia ic hi ed ez Ua uc hu dP dq HS=> ?_;have hR:=hv.ls;rw[hl] at hR;have vO:=aa hR;have jd:=aa (wY (ji m) m.links []);have gG:=aa (λk x (h:m.links[k]? =Ws x)=>fw4 h);generalize dN (ji m) [] m.links=res at jd;generalize fl (ji m) [] m.links=F at jd gG;have hn:m.links.length<=9223372036854775807:=bo dt di;clear hR;rw[HS.out];clear hv hs cB hr hm hl hi hu;go_enter func267,ntmps267;go_upto_region 1 with (fail)
 refine zX ?_;intro X ⟨aU,dm⟩;have aT:=aa aU;have g_:=aa dm;have tE:=blk_lt dm;clear aU dm;go_wp2_with fail
 go_loopw [3] (λi wr=> ∃k:Nat,k<=m.links.length/\i=WK Xr k/\(∀j,j<k->F j=Wz)/\Below X X wr) (λi _=>m.links.length - (WS i).toNat)
 case atStart=>exact⟨0,bU _,rfl,λj hj=>by omega,af X⟩
 case round=>
  obtain⟨k,hk,rfl,bN,hB⟩:=hrel;have gY:=aa bN;have HB:=aa hB;have U:=aq g_.out hB;have jA:=aa U;have c0:wr.cell? w=Ws (Yb Sa m.sites.length sc):=ah U rfl;have c1:wr.cell? (w 1 Wr)=Ws (Yb Fa m.feeds.length fc):=ah U rfl;have c2:wr.cell? (w 4 Wr)=Ws (Yb La m.links.length lc):=ah U rfl;refine oX λbH=> ?_;clear bN hB U;by_cases G:k<m.links.length
  .have dz:(0:Int)<=k:=by omega
   have bJ:(k:Int)<m.links.length:=Yi;obtain⟨x,hx⟩: ∃x,m.links[k]? =Ws x:=⟨_,Wy G⟩;have A:=aa (gG.out k x hx);obtain⟨b,o,cs,rfl,hb,_,⟨rfl,E4⟩,bk⟩:=vO.out.at_ hx;have e0:=(bH.out.cell (p:=⟨b,o+k*3+0,Wr⟩) hb).trans (bk 0 _ rfl);refine Sb λe1 e2=> ?_;simp only[WR] at e0;clear bk;obtain⟨xb,dx⟩: ∃xb,wr.heap.size=xb:=⟨_,rfl⟩;have AS:=aa dx;obtain⟨b4,aS⟩: ∃q,aD x.cap 0 1048576=q:=⟨_,rfl⟩;rw[aS] at A;have sS:=aa aS;clear aS dx hx E4;go_upto_region 5 with (fail)
   refine cP (λW=>Below wr wr W/\W.heap[wr.heap.size]? =Ws (Yd #[WK Xr x.a,WK Xr x.b,WK Xr x.cap] 136 (0,0))) ⟨by first|exact cF (ae (af wr) _) (ag _) _|exact ae (af wr) _,by first|exact Xn wr _|exact(aZ (aZ (aZ (Xn wr _) _ _) _ _) _ _).trans rfl⟩ ?_;intro Y ⟨J,Z⟩;rw[AS.out] at Z⊢
   have d0:=kc J c0;have d1:=kc J c1;have d2:=kc J c2;obtain⟨Ej,Ek,G5⟩:=Mi Z;have aR:=aa J;clear J Z c0 c1 c2 e0 e1 e2;by_cases q1:x.a<1
   .have C:decide (1<=x.a)=false:=by simp;omega
    have HR:=aa (BR jd.out G (by rw[A.out];rw[C];rfl));clear C;exact Rc
   .by_cases q2:x.b<=x.a
    .have C:decide (x.a<x.b)=false:=by simp;omega
     have HR:=aa (BR jd.out G (by rw[A.out];rw[C];simp));clear C;exact Rc
    .by_cases q3:(m.sites.length:Int)<x.b
     .have C:decide (x.b<=(m.sites.length:Int))=false:=by simp;omega
      have HR:=aa (BR jd.out G (by rw[A.out];rw[C];simp));clear C;exact Rc
     .cases b4 with
      |false=>have HR:=aa (BR jd.out G (by rw[A.out];simp));exact Rc
      |true=>
       have EC:Wt (1<=x.a)=true:=bI;have ws:Wt (x.a<x.b)=true:=bI;have O:Wt (x.b<=(m.sites.length:Int))=true:=bI
       rw[EC,ws,O] at A;clear EC ws O;go_wp2_with first
        |(go_at_call 265;refine(Q' _ _).m ?_;rintro e w4 ⟨rfl,hw⟩;obtain rfl:=hw.symm;rw[sS.out])
       go_loopw [5] (λi wx=> ∃j:Nat,j<=k/\i=WK Xr j/\(∀q y,q<j->m.links[q]? =Ws y->(Wt (y.a=x.a)&&Wt (y.b=x.b))=Ww)/\Below Y Y wx) (λi _=>k - (WS i).toNat)
       case atStart=>exact⟨0,bU _,rfl,λq y hq=>by omega,af Y⟩
       case round=>
        obtain⟨j,hj,rfl,Lt,pf⟩:=hrel;have kH:=aa pf;have d2:=kc pf d2;have Ej:=kc pf Ej;have Ek:=kc pf Ek;have vz:Hid (Below w w wr):=ai (ai bH.out aR.out) pf;clear pf;have Gy:=aa Lt;clear Lt;by_cases zF:j<k
        .have OC:(0:Int)<=j:=by omega
         have G_:(j:Int)<k:=Yi;have Uh:(j:Int)<m.links.length:=Yi;obtain⟨y,hy⟩: ∃y,m.links[j]? =Ws y:=⟨_,Wy Yi⟩;obtain⟨yb,yo,cs,V,_,_,⟨rfl,_⟩,EA⟩:=vO.out.at_ hy;injection V with V;injection V with wJ zQ _;subst wJ zQ;have y1:wr.cell? ⟨b,o+j*3,Wr⟩=Ws (WK Xr y.a):=(vz.out.cell (p:=⟨b,o+j*3,Wr⟩) hb).trans (EA 0 _ rfl);have y2:wr.cell? ⟨b,o+j*3+1,Wr⟩=Ws (WK Xr y.b):=(vz.out.cell (p:=⟨b,o+j*3+1,Wr⟩) hb).trans (EA 1 _ rfl);clear EA;by_cases D:y.a=x.a
         .have ef:(y.a==x.a)=true:=by simp[D]
          by_cases I:y.b=x.b
          .have es:(y.b==x.b)=true:=by simp[I]
           have HR:=aa (BR jd.out G (by rw[A.out];have:((m.links.take k).any λy=>Wt (y.a=x.a)&&Wt (y.b=x.b))=true:=List.any_eq_true.2 ⟨y,eD (by rw[List.getElem?_take,if_pos zF];exact hy),by simp[D,I]⟩;rw[this];rfl));clear D I hy;go_upto_region 10 with (fail)
           refine Se λhS=> ?_;iterate 20 refine cI 20 47 ?_
           refine gK ?_;go_wp2_with fail
           go_ret;exact⟨by rw[HR.out];rfl,aX vz.out⟩
          .have es:(y.b==x.b)=false:=by simp[I]
           have rQ:=aa (show ∀q z,q<j+1->m.links[q]? =Ws z->(Wt (z.a=x.a)&&Wt (z.b=x.b))=Ww from λq z hq g=>by
            rcases Xk q j with h|h
            .exact Gy.out q z h g
            .have:q=j:=by omega
             subst this;rw[hy] at g;injection g with g;subst g;simp[I])
           clear D I hy;go_upto_region 10 with (fail)
           refine Se λhS=> ?_;iterate 20 refine cI 20 47 ?_
           exact Rb
         .have ef:(y.a==x.a)=false:=by simp[D]
          have rQ:=aa (show ∀q z,q<j+1->m.links[q]? =Ws z->(Wt (z.a=x.a)&&Wt (z.b=x.b))=Ww from λq z hq g=>by
           rcases Xk q j with h|h
           .exact Gy.out q z h g
           .have:q=j:=by omega
            subst this;rw[hy] at g;injection g with g;subst g;simp[D])
          clear D hy;go_upto_region 10 with (fail)
          refine Se λhS=> ?_;iterate 10 refine cI 20 47 ?_
          iterate 9 refine rE 20 47 ?_
          refine ie 19 66 ?_;exact Rb
        .have G_: ¬(j:Int)<k:=by omega
         have kg:=aa (show F k=Wz from by
          rw[A.out];have:((m.links.take k).any λy=>Wt (y.a=x.a)&&Wt (y.b=x.b))=false:=by exact bx2
          rw[this];rfl)
         exact bx3
  .have bJ: ¬(k:Int)<m.links.length:=by omega
   exact Sd
end
end Go.Proofs.YtklfdkdebgfmiaaGreatDoor
