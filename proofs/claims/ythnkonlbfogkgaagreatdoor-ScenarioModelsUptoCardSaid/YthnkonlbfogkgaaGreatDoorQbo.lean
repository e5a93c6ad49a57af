/- A part of the proof. -/
import Derived.Test.YthnkonlbfogkgaaGreatDoorQbn
set_option linter.unusedVariables false
set_option linter.unusedSimpArgs false
set_option maxRecDepth 100000
set_option maxHeartbeats 32000000
namespace Go.Proofs.YthnkonlbfogkgaaGreatDoor
section
open Go Go.RowKit Go.MapKept Tryz
theorem KP.turnB {B pb p:Nat} {w w':World} (h:cM w w' p) (hp:B≤p):KP B pb w w':=by
 have h0:=h.1 0 w ((B0 w).mono (aY _)) (aY _)
 exact⟨h0.os,h0.tape,h0.output,by rw[h.2.1];exact ae _,fun i hi _=>h.2.2 i (by omega)⟩
def J3 (w:World) (Mb:Nat) (r:Except (Nat×Nat) br):Ending→World→Prop:=fun e w'=>
 KP w.heap.size Mb w w'∧match r with
  | .error x=>e= .returned (.tuple #[.int .i64 x.1,.int .i64 x.2])
  | .ok t=>e= .returned (.tuple #[.int .i64 0,.int .i64 0])∧aZ dI w' Mb (dr t)
theorem J4 (rb Mb:Nat) (v:Value) (l:List ar) (w:World) (hG:bY w) (hM8:8≤Mb) (hr:w.cell? ⟨rb,0,none⟩=some (.map (some Mb))) (hM:aZ dI w Mb (dr [])) (hv:aQ 6 fy w w.heap.size v l) (hl:l.length≤100000):
 Calls prog 46 #[ptr rb,v] w (J3 w Mb (dm [] [] l)):=by
 have hzr:=aH _ _ hr
 have hmn:=JM hM
 have hne: ¬rb=Mb:=fun e=>by rw[e] at hr;rw[hmn] at hr;cases hr
 have hzM:=hM.lt
 obtain⟨A,n,c,rfl,hn,hc,hcm⟩:=hv.form
 refine fU fun hmm=> ?_
 have HG:=aa hG;have HR:=aa hr;have HM:=aa hM;have HV:=aa hv;have HN:=aa hn;have HMn:=aa hmn
 simp only[ptr]
 rw[hn] at hl
 clear hG hr hM hv hn hmn
 go_enter func46,ntmps46
 go_upto_region 2 with (fail)
 refine bt (fun W=>Below w.heap.size w W∧aZ cC W w.heap.size (jD [])∧aZ cC W (w.heap.size+1) (jE [])) ⟨ac (ac (B0 w) _) _,((aZ.made cC w).later (ac (B0 _) _)).of_eq (fun k=>by unfold jD;rw[if_neg];intro h;exact h.2 rfl),by
  have h:=(aZ.made cC (w.alloc (.map #[] 0))).of_eq (g:=jE []) (fun k=>by unfold jE;rw[if_neg];intro h;exact absurd h.2 (by simp[ig]))
  rw[World.size_alloc] at h
  exact h⟩ ?_
 intro W1 ⟨hBW,hcW,hoW⟩
 have HBW:=aa hBW;have HcW:=aa hcW;have HoW:=aa hoW
 clear hBW hcW hoW
 go_wp2_with fail
 go_loopw [17] (fun i wr=> ∃(k:Nat) (t:br),k≤n∧i= .int .i64 k∧dm [] [] l=dm (l.take k) t (l.drop k)∧aZ dI wr Mb (dr t)∧aZ cC wr w.heap.size (jD (l.take k))∧aZ cC wr (w.heap.size+1) (jE (l.take k))∧KP w.heap.size Mb w wr) (fun i _=>n - (intOf i).toNat)
 case atStart=>exact⟨0,[],aY _,rfl,rfl,HM.out.later HBW.out,HcW.out,HoW.out,KP.of_below HBW.out (ae _) HBW.out.size⟩
 case round=>
  obtain⟨k,t,hk,rfl,hct,hMk,hCk,hOk,hKk⟩:=hrel
  obtain⟨wo,rfl⟩: ∃wo:World,wo=wr:=⟨_,rfl⟩
  have HCt:=aa hct;have HMk:=aa hMk;have HCk:=aa hCk;have HOk:=aa hOk;have HKk:=aa hKk
  clear hct hMk hCk hOk hKk
  by_cases hlt:k<n
  ·have hI1:(0:Int)≤k:=by omega
   have hI2:(k:Int)<n:=by omega
   obtain⟨d,hd⟩: ∃d,l[k]? =some d:=⟨_,List.getElem?_eq_getElem (by rw[HN.out];exact hlt)⟩
   have hdrop:l.drop k=d::l.drop (k+1):=by
    rw[List.drop_eq_getElem_cons (by rw[HN.out];exact hlt)]
    congr 1
    rw[List.getElem?_eq_getElem (by rw[HN.out];exact hlt)] at hd
    injection hd
   have htake:l.take (k+1)=l.take k++[d]:=by rw[List.take_add_one,hd];rfl
   have hlk:(l.take k).length=k:=by rw[List.length_take,HN.out];omega
   rw[hdrop] at HCt
   have HE1:=aa (fun h=>HCt.out.trans (zT (b:=l.take k) (r:=l.drop (k+1)) (t:=t) (d:=d) h))
   have HE5:=aa (fun h h2=>HCt.out.trans (zU (b:=l.take k) (r:=l.drop (k+1)) (t:=t) (d:=d) h h2))
   have HEo:=aa (fun h h2=>HCt.out.trans (zV (b:=l.take k) (r:=l.drop (k+1)) (t:=t) (d:=d) h h2))
   rw[hlk] at HE1 HE5
   rw[←htake] at HEo
   have HCs:=aa (fun x=>JI (l.take k) d x)
   have HOs:=aa (fun x=>JJ (l.take k) d x)
   rw[←htake] at HCs HOs
   have HCg:=aa (zR (l.take k) (bM d.kind))
   have HOg:=aa (JH (l.take k) d.kind)
   have HCg2:=aa (zR (l.take (k+1)) (bM d.kind))
   have hcs:fF (l.take (k+1)) (bM d.kind)=fF (l.take k) (bM d.kind)+1:=by rw[htake,th,if_pos rfl]
   have hcl:fF (l.take k) (bM d.kind)≤k:=by
    have:=List.length_filter_le (fun x:ar=>decide (bM x.kind=bM d.kind)) (l.take k)
    unfold fF
    omega
   have HBd:=aa (show kO t (l.take k) d=((!decide (d.name=[])&&(dR t d.name).isSome)||((decide (d.kind=8)||decide (d.kind=9))&&ig (l.take k) d.kind)) from rfl)
   have HVk:Hid (aQ 6 fy wo w.heap.size (.slice A n c) l):=DeclS.kp HV.out HKk.out (ae _) HMn.out
   obtain⟨b,o,cs,rfl,hbb,hcl6,hR,hcell⟩:=HVk.out.at_ hd
   obtain⟨rv,nv,rfl,hsr,hsn,hb1,hb2⟩:=hR
   obtain⟨RA,rn,rc,rfl,_,_,_⟩:=hsr.sk.form
   obtain⟨NA,nn,nc,rfl,_,_,_⟩:=hsn.sk.form
   have HSr:=aa hsr;have HSn:=aa hsn
   refine j5 fun h0 h1 h2=> ?_
   have h3:=hcell 3 _ rfl
   have h4:=hcell 4 _ rfl
   have h5:=hcell 5 _ rfl
   simp only[Nat.add_zero] at h0
   have hr0:wo.cell? ⟨rb,0,none⟩=some (.map (some Mb)):=(HKk.out.cell 0 hzr hne).trans HR.out
   have hzo:=HKk.out.size
   have HGo:Hid (bY wo):=HG.out.below (HKk.out.below (bN hzM)) hM8
   clear hcell hcl6 hsr hsn hd hdrop htake hlk
   go_upto_region 5 with (fail)
   refine bt (fun W=>Below wo.heap.size wo W∧W.heap[wo.heap.size]? =some (.cells #[.int .i64 d.kind,.string (bs d.name),.slice RA rn rc,.slice NA nn nc,.int .i64 d.by_,.bool d.always] 87 (0,0))) ⟨by first|exact aR (ac (B0 wo) _) (ae _) _|exact ac (B0 wo) _,by first|exact heap_alloc_new wo _|exact(ay (ay (ay (ay (ay (ay (heap_alloc_new wo _) _ _) _ _) _ _) _ _) _ _) _ _).trans rfl⟩ ?_
   intro W2 ⟨hB2,hx2⟩
   have hzx:=blk_lt hx2
   have hr2:W2.cell? ⟨rb,0,none⟩=some (.map (some Mb)):=(hB2.cell (p:=⟨rb,0,none⟩) (aF hzr hzo)).trans hr0
   obtain⟨xb,hxb⟩: ∃b,wo.heap.size=b:=⟨_,rfl⟩
   simp only[hxb] at hx2 hzx⊢
   obtain⟨ax0,ax1,ax2,ax3,ax4,ax5⟩:=iq hx2
   have HXb:=aa hxb
   have HB2:=aa hB2;have HX2:=aa hx2
   clear hB2 hx2 h0 h1 h2 h3 h4 h5 hr0 hxb
   have HVa:=aa (fun W (hW:Below W2.heap.size W2 W)=>J2 d (.slice RA rn rc) (.slice NA nn nc) W ((HGo.out.step HB2.out).step hW) ((HSr.out.below (ag HB2.out hW) hzo).more (aP hzo (aP HB2.out.size hW.size))) ((HSn.out.below (ag HB2.out hW) hzo).more (aP hzo (aP HB2.out.size hW.size))))
   have HSe:=aa (fun W=>zI d.kind W)
   obtain⟨sg,hsg⟩: ∃sg,(decide (d.kind=8)||decide (d.kind=9))=sg:=⟨_,rfl⟩
   obtain⟨us,hus⟩: ∃us,(dR t d.name).isSome=us:=⟨_,rfl⟩
   have HSg:=aa hsg
   have HUs:=aa hus
   clear hsg hus
   go_cut [10] from 18 to 86 (fun p wx=>p= .bool sg∧W2=wx)
   case first=>
    by_cases k8:d.kind=8
    ·have e8:((d.kind:Int)==8)=true:=by simp;omega
     go_wp2_with fail
     go_meet
     exact⟨by rw[←HSg.out,k8];rfl,rfl⟩
    ·have e8:((d.kind:Int)==8)=false:=by simp;omega
     by_cases k9:d.kind=9
     ·have e9:((d.kind:Int)==9)=true:=by simp;omega
      go_wp2_with fail
      go_meet
      exact⟨by rw[←HSg.out,k9];rfl,rfl⟩
     ·have e9:((d.kind:Int)==9)=false:=by simp;omega
      go_wp2_with fail
      go_meet
      exact⟨by rw[←HSg.out,decide_eq_false k8,decide_eq_false k9];rfl,rfl⟩
   case rest=>
   obtain⟨rfl,rfl⟩:=hcut
   go_upto_region 6 with (fail)
   obtain⟨kq,hkq⟩:=zM t d.name
   have HKq:=aa hkq
   have HUs2:=aa (show(dr t d.name).isSome=us by rw[←HUs.out];unfold dr;cases dR t d.name<;>rfl)
   have HM2:=aa (HMk.out.later HB2.out)
   clear hkq
   go_cut [11,12] from 18 to 86 (fun _ q wx=>q= .bool us∧Below W2.heap.size W2 wx)
   case first=>
    refine bH (S:=fun w'=>w'.cell? ⟨rb,0,none⟩=some (.map (some Mb))∧w'.cell? ⟨xb,1,none⟩=some (.string (bs d.name))∧aZ dI w' Mb (dr t)∧Below W2.heap.size W2 w') 13 (by exact⟨hr2,ax1,HM2.out,au (B0 W2)⟩) fun hS=> ?_
    iterate 6 refine gH 13 31 ?_
    refine yv (i:=6) (v:= .tuple #[.agg #[.int .i64 kq,.int .i64 (bE t d.name)],.bool us]) (some 37) rfl rfl (by kernel_rfl) (by kernel_rfl) (by kernel_rfl) (fun _ _ _ h=>h) (Or.inl ⟨by rfl,?_⟩) hS ?_
    ·intro wq hSw
     try dsimp only at hSw
     have h:=fL (P:=prog) underlying99 underlying9 j7 hSw.2.2.1 d.name true (zeroValue178 _)
     rw[HKq.out,HUs2.out] at h
     have hk1:(Instr.lookup 99 (.map (some Mb)) (.string (bs d.name)) true).run prog wq= .ok (.tuple #[.agg #[.int .i64 kq,.int .i64 (bE t d.name)],.bool us]) wq:=h
     clear h
     go_simp
     try with_reducible rfl
    refine ak ?_
    refine eC 7 30 ?_
    iterate 2 refine gH 13 30 ?_
    refine cH 10 fun K hK=> ?_
    go_simp
    refine hK.out _ _ (by exact⟨kc (ac (B0 _) _) hS.1,kc (ac (B0 _) _) hS.2.1,hS.2.2.1.later (ac (B0 _) _),ag hS.2.2.2 (ac (B0 _) _)⟩) (fun hS=> ?_)
    clear hK
    refine ak ?_
    refine cH 11 fun K hK=> ?_
    go_simp
    refine hK.out _ _ (by refine(fun hb=>⟨kc hb hr2,(hb.cell (p:=⟨xb,1,none⟩) hzx).trans ax1,HM2.out.later hb,hb⟩) ?_;first|exact au (ac (B0 W2) _)|exact ac (au (B0 W2)) _) (fun hS=> ?_)
    clear hK
    refine ak ?_
    refine eC 12 12 ?_
    refine eH ?_
    go_wp2_with fail
    go_meet
    exact⟨rfl,by first|exact au (ac (B0 W2) _)|exact ac (au (B0 W2)) _⟩
   case rest=>
   obtain⟨rfl,hBc⟩:=hcut
   have HBc:=aa hBc
   have Hxc:=aa (ah HX2.out hBc)
   obtain⟨cx0,cx1,cx2,cx3,cx4,cx5⟩:=iq Hxc.out
   have hrc:=kc hBc hr2
   have hzc:=blk_lt Hxc.out
   have HBo:Hid (Below wo.heap.size wo wc):=ag HB2.out hBc
   have hnx1: ¬xb=w.heap.size+1:=by have:=HOk.out.lt;have:=HXb.out;omega
   have hnx0: ¬xb=w.heap.size:=by have:=HOk.out.lt;have:=HXb.out;omega
   have hnr1: ¬rb=w.heap.size+1:=by omega
   have hnr0: ¬rb=w.heap.size:=by omega
   have hnm1: ¬Mb=w.heap.size+1:=by omega
   have hnm0: ¬Mb=w.heap.size:=by omega
   have hnxM: ¬xb=Mb:=by have:=HXb.out;omega
   have HKc:Hid (KP w.heap.size Mb w wc):=HKk.out.trans (KP.of_below HBo.out hzo HBo.out.size)
   have HNe:=aa (show(bs d.name).toList.isEmpty=decide (d.name=[]) from by
    rw[cD,bL]
    cases d.name<;>rfl)
   obtain⟨ne,hne0⟩: ∃b,decide (d.name=[])=b:=⟨_,rfl⟩
   obtain⟨vd,hvd⟩: ∃b,dF d=b:=⟨_,rfl⟩
   obtain⟨on,hon⟩: ∃b,ig (l.take k) d.kind=b:=⟨_,rfl⟩
   obtain⟨cn,hcn⟩: ∃m,fF (l.take k) (bM d.kind)=m:=⟨_,rfl⟩
   obtain⟨sc,hsc⟩: ∃m,bM d.kind=m:=⟨_,rfl⟩
   have hcn2:cn≤100000:=by omega
   rw[hne0] at HNe HBd
   rw[hvd] at HVa
   rw[hon] at HOg HBd
   rw[HSg.out,HUs.out] at HBd
   rw[hcn] at HCg HCs
   rw[hcs,hcn] at HCg2 HEo
   rw[show((cn+1:Nat):Int)=(cn:Int)+1 from rfl] at HCg2
   rw[hsc] at HSe HCg HCs HCg2
   have HNm:=aa hne0;have HVd:=aa hvd
   clear hBc ax0 ax1 ax2 ax3 ax4 ax5 hr2 hne0 hvd hon hcn hsc hcs hcl
   cases vd with
   |false=>
    go_wp2_with first
     |(go_at_call 133
       refine(HVa.out _ HBc.out).mono ?_
       rintro e w4 ⟨rfl,hb4⟩
       refine kR fun b0 b1 hr4 HB4 HM4 HC4 HO4 HK4=> ?_
       have hlk:(Instr.lookup 176 (.map (some (w.heap.size+1))) (.int .i64 d.kind) false).run prog w4= .ok (.bool on) w4:=by
        exact kS
       clear hb4 cx0 cx1 cx2 cx3 cx4 cx5 hrc)
    go_ret2
    refine⟨HK4.out,?_⟩
    rw[HE1.out HVd.out]
    exact rfl
   |true=>
    cases ne with
    |false=>
     have kn:=HNe.out
     cases us with
     |true=>
      go_wp2_with first
       |(go_at_call 133
         refine(HVa.out _ HBc.out).mono ?_
         rintro e w4 ⟨rfl,hb4⟩
         refine kR fun b0 b1 hr4 HB4 HM4 HC4 HO4 HK4=> ?_
         have hlk:(Instr.lookup 176 (.map (some (w.heap.size+1))) (.int .i64 d.kind) false).run prog w4= .ok (.bool on) w4:=by
          exact kS
         clear hb4 cx0 cx1 cx2 cx3 cx4 cx5 hrc)
      go_ret2
      refine⟨HK4.out,?_⟩
      rw[HE5.out HVd.out (by rw[HBd.out];rfl)]
      exact rfl
     |false=>
      cases sg with
      |true=>
       cases on with
       |true=>
        exact Ae
       |false=>
        go_wp2_with first
         |(go_at_call 133
           refine(HVa.out _ HBc.out).mono ?_
           rintro e w4 ⟨rfl,hb4⟩
           refine kR fun b0 b1 hr4 HB4 HM4 HC4 HO4 HK4=> ?_
           have hlk:(Instr.lookup 176 (.map (some (w.heap.size+1))) (.int .i64 d.kind) false).run prog w4= .ok (.bool false) w4:=by
            exact kS
           clear hb4 cx0 cx1 cx2 cx3 cx4 cx5 hrc)
         |(refine bm rfl (.tmp 60) (.tmp 62) (.const (.bool true)) 176 (.inl rfl) 3 4 (.int .i64) underlying176 underlying3 aO (w.heap.size+1) _ rfl HO4.out (d.kind:Int) (.bool true) rfl rfl ?_
           intro w5 hL5 hT5
           refine pM fun c0 c1 hr5 HM5 HC5 HO5 HK5=> ?_
           clear hL5 hT5 b0 b1 hr4)
         |(go_at_call 134
           refine(HSe.out _).mono ?_
           rintro e w6 ⟨rfl,hb6⟩
           refine pN fun d0 d1 hr6 HM6 HC6 HO6 HK6=> ?_
           clear hb6 c0 c1 hr5)
         |(at_lookup;refine jz rfl (.tmp 63) (.tmp 66) 175 false rfl 3 3 (.int .i64) underlying175 underlying3 aO w.heap.size _ rfl HC6.out (sc:Int) (.int .i64 0) rfl (zeroValue3 _) ?_
           rw[HCg.out]
           simp only[Bool.false_eq_true,if_false])
         |(refine bm rfl (.tmp 63) (.tmp 66) (.tmp 68) 175 (.inl rfl) 3 3 (.int .i64) underlying175 underlying3 aO w.heap.size _ rfl HC6.out (sc:Int) (.int .i64 ((cn:Int)+1)) rfl (by go_num) ?_
           intro w7 hL7 hT7
           refine pO fun e0 e1 hr7 HM7 HO7 HC7 HK7=> ?_
           clear hL7 hT7 d0 d1 hr6)
        exact Af
      |false=>
       go_wp2_with first
        |(go_at_call 133
          refine(HVa.out _ HBc.out).mono ?_
          rintro e w4 ⟨rfl,hb4⟩
          refine kR fun b0 b1 hr4 HB4 HM4 HC4 HO4 HK4=> ?_
          have hlk:(Instr.lookup 176 (.map (some (w.heap.size+1))) (.int .i64 d.kind) false).run prog w4= .ok (.bool on) w4:=by
           exact kS
          clear hb4 cx0 cx1 cx2 cx3 cx4 cx5 hrc)
        |(refine bm rfl (.tmp 60) (.tmp 62) (.const (.bool true)) 176 (.inl rfl) 3 4 (.int .i64) underlying176 underlying3 aO (w.heap.size+1) _ rfl HO4.out (d.kind:Int) (.bool true) rfl rfl ?_
          intro w5 hL5 hT5
          refine pM fun c0 c1 hr5 HM5 HC5 HO5 HK5=> ?_
          clear hL5 hT5 b0 b1 hr4)
        |(go_at_call 134
          refine(HSe.out _).mono ?_
          rintro e w6 ⟨rfl,hb6⟩
          refine pN fun d0 d1 hr6 HM6 HC6 HO6 HK6=> ?_
          clear hb6 c0 c1 hr5)
        |(at_lookup;refine jz rfl (.tmp 63) (.tmp 66) 175 false rfl 3 3 (.int .i64) underlying175 underlying3 aO w.heap.size _ rfl HC6.out (sc:Int) (.int .i64 0) rfl (zeroValue3 _) ?_
          rw[HCg.out]
          simp only[Bool.false_eq_true,if_false])
        |(refine bm rfl (.tmp 63) (.tmp 66) (.tmp 68) 175 (.inl rfl) 3 3 (.int .i64) underlying175 underlying3 aO w.heap.size _ rfl HC6.out (sc:Int) (.int .i64 ((cn:Int)+1)) rfl (by go_num) ?_
          intro w7 hL7 hT7
          refine pO fun e0 e1 hr7 HM7 HO7 HC7 HK7=> ?_
          clear hL7 hT7 d0 d1 hr6)
       exact Af
    |true=>
     have kn:=HNe.out
     cases sg with
     |true=>
      cases on with
      |true=>
       exact Ae
      |false=>
       go_wp2_with first
        |(go_at_call 133
          refine(HVa.out _ HBc.out).mono ?_
          rintro e w4 ⟨rfl,hb4⟩
          refine kR fun b0 b1 hr4 HB4 HM4 HC4 HO4 HK4=> ?_
          have hlk:(Instr.lookup 176 (.map (some (w.heap.size+1))) (.int .i64 d.kind) false).run prog w4= .ok (.bool false) w4:=by
           exact kS
          clear hb4 cx0 cx1 cx2 cx3 cx4 cx5 hrc)
        |(refine bm rfl (.tmp 60) (.tmp 62) (.const (.bool true)) 176 (.inl rfl) 3 4 (.int .i64) underlying176 underlying3 aO (w.heap.size+1) _ rfl HO4.out (d.kind:Int) (.bool true) rfl rfl ?_
          intro w5 hL5 hT5
          refine pM fun c0 c1 hr5 HM5 HC5 HO5 HK5=> ?_
          clear hL5 hT5 b0 b1 hr4)
        |(go_at_call 134
          refine(HSe.out _).mono ?_
          rintro e w6 ⟨rfl,hb6⟩
          refine pN fun d0 d1 hr6 HM6 HC6 HO6 HK6=> ?_
          clear hb6 c0 c1 hr5)
        |(at_lookup;refine jz rfl (.tmp 63) (.tmp 66) 175 false rfl 3 3 (.int .i64) underlying175 underlying3 aO w.heap.size _ rfl HC6.out (sc:Int) (.int .i64 0) rfl (zeroValue3 _) ?_
          rw[HCg.out]
          simp only[Bool.false_eq_true,if_false])
        |(refine bm rfl (.tmp 63) (.tmp 66) (.tmp 68) 175 (.inl rfl) 3 3 (.int .i64) underlying175 underlying3 aO w.heap.size _ rfl HC6.out (sc:Int) (.int .i64 ((cn:Int)+1)) rfl (by go_num) ?_
          intro w7 hL7 hT7
          refine pO fun e0 e1 hr7 HM7 HO7 HC7 HK7=> ?_
          clear hL7 hT7 d0 d1 hr6)
       exact Ag
     |false=>
      go_wp2_with first
       |(go_at_call 133
         refine(HVa.out _ HBc.out).mono ?_
         rintro e w4 ⟨rfl,hb4⟩
         refine kR fun b0 b1 hr4 HB4 HM4 HC4 HO4 HK4=> ?_
         have hlk:(Instr.lookup 176 (.map (some (w.heap.size+1))) (.int .i64 d.kind) false).run prog w4= .ok (.bool on) w4:=by
          exact kS
         clear hb4 cx0 cx1 cx2 cx3 cx4 cx5 hrc)
       |(refine bm rfl (.tmp 60) (.tmp 62) (.const (.bool true)) 176 (.inl rfl) 3 4 (.int .i64) underlying176 underlying3 aO (w.heap.size+1) _ rfl HO4.out (d.kind:Int) (.bool true) rfl rfl ?_
         intro w5 hL5 hT5
         refine pM fun c0 c1 hr5 HM5 HC5 HO5 HK5=> ?_
         clear hL5 hT5 b0 b1 hr4)
       |(go_at_call 134
         refine(HSe.out _).mono ?_
         rintro e w6 ⟨rfl,hb6⟩
         refine pN fun d0 d1 hr6 HM6 HC6 HO6 HK6=> ?_
         clear hb6 c0 c1 hr5)
       |(at_lookup;refine jz rfl (.tmp 63) (.tmp 66) 175 false rfl 3 3 (.int .i64) underlying175 underlying3 aO w.heap.size _ rfl HC6.out (sc:Int) (.int .i64 0) rfl (zeroValue3 _) ?_
         rw[HCg.out]
         simp only[Bool.false_eq_true,if_false])
       |(refine bm rfl (.tmp 63) (.tmp 66) (.tmp 68) 175 (.inl rfl) 3 3 (.int .i64) underlying175 underlying3 aO w.heap.size _ rfl HC6.out (sc:Int) (.int .i64 ((cn:Int)+1)) rfl (by go_num) ?_
         intro w7 hL7 hT7
         refine pO fun e0 e1 hr7 HM7 HO7 HC7 HK7=> ?_
         clear hL7 hT7 d0 d1 hr6)
      exact Ag
  ·have hkn:k=n:=by omega
   subst hkn
   have hfin:dm [] [] l= .ok t:=by
    rw[HCt.out,List.drop_of_length_le (by rw[HN.out];exact ae _)]
    exact ti
   go_wp2_with fail
   go_ret2
   refine⟨HKk.out,?_⟩
   rw[hfin]
   exact⟨rfl,HMk.out⟩
end
section
open Go Go.RowKit Go.Shelf Tryz
attribute [local go_sem] Oper.semAt_some
def eT {α:Type} (f:Nat→α) (k:Nat):List α:=(List.range k).map f
theorem Ah {α:Type} (f:Nat→α) (k:Nat):eT f (k+1)=eT f k++[f k]:=by simp[eT,List.range_succ]
theorem J5 {α:Type} (f:Nat→α) (k:Nat):(eT f k).length=k:=by simp[eT]
theorem J6 {α:Type} (l:List α) (d:α):eT (fun j=>l.getD j d) l.length=l:=by
 apply List.ext_getElem
 ·simp[eT]
 ·intro i h1 h2
  simp[eT,h2]
theorem J7 {α:Type} (l:List α) (d:α) {k:Nat} (hk:k≤l.length):eT (fun j=>l.getD j d) k=l.take k:=by
 apply List.ext_getElem
 ·simp[eT,hk]
 ·intro i h1 h2
  have:i<l.length:=by simp[eT] at h1;omega
  simp[eT,this]
theorem J8 (F:Fence) (n:Nat) (h7:F.fn 228) (hro:F.round=none) (hn:1≤n) (l Bs n₀ b off len cap:Nat) (f:Nat→ByteArray) (hreach:len≤1000000) (hb:b<n₀) (J Jx:List ByteArray→World→Prop)
 (hY: ∀bh x W,J bh W→bh.length<len→YieldAt F (n - 1) prog l #[.string x] W fun e W'=>
   (e= .returned (.bool true)∧J (bh++[x]) W'∧Below n₀ W W')∨(e= .returned (.bool false)∧Jx (bh++[x]) W'))
 (W:World) (hBs:W.cell? ⟨Bs,0,none⟩=some (.slice (some ⟨b,off,none⟩) len cap)) (hc: ∀j,j<len→W.cell? ⟨b,off+j,none⟩=some (.string (f j))) (h0:J [] W):
 CallsIn F n prog 228 #[.func (.yield l) #[] #[],.pointer (some ⟨Bs,0,none⟩)] W fun e W'=>(∃v,e= .returned v)∧
  ((∃ys,ys=eT f len∧J ys W')∨(∃bh,(∃k,k≤len∧bh=eT f k)∧Jx bh W')):=by
 refine callsIn_of_wp func228 rfl h7 ?_ hro
 simp only[ntmps228,List.size_toArray,List.length_cons,List.length_nil,Nat.reduceAdd,Nat.reduceSub,Array.replicate_succ,Array.replicate_zero,List.push_toArray,List.append_toArray,List.nil_append,List.cons_append]
 gi_wp2
 gi_loopw [7] (fun i wr=> ∃k:Nat,k≤len∧i= .int .i64 k∧J (eT f k) wr∧Below n₀ W wr)
  (fun i _=>len - (intOf i).toNat)
 case atStart=>exact⟨0,aY _,rfl,h0,Below.refl _ _⟩
 case round=>
  obtain⟨k,hk,rfl,hJs,hnx⟩:=hrel
  have hcx:k<len→wr.cell? ⟨b,off+k,none⟩=some (.string (f k)):=fun h=>(hnx.cell (p:=⟨b,off+k,none⟩) hb).trans (hc k h)
  exact Ai
theorem J9 (F:Fence) (n:Nat) (h7:F.fn 228) (hro:F.round=none) (l Bs c:Nat) (A:Option Addr) (J:List ByteArray→World→Prop) (W:World) (hBs:W.cell? ⟨Bs,0,none⟩=some (.slice A 0 c)) (h0:J [] W):
 CallsIn F n prog 228 #[.func (.yield l) #[] #[],.pointer (some ⟨Bs,0,none⟩)] W fun e W'=>(∃v,e= .returned v)∧J [] W':=by
 refine callsIn_of_wp func228 rfl h7 ?_ hro
 simp only[ntmps228,List.size_toArray,List.length_cons,List.length_nil,Nat.reduceAdd,Nat.reduceSub,Array.replicate_succ,Array.replicate_zero,List.push_toArray,List.append_toArray,List.nil_append,List.cons_append]
 gi_wp2
 gi_loopw [7] (fun i wr=>i= .int .i64 0∧J [] wr) (fun _ _=>0)
 case atStart=>exact⟨rfl,h0⟩
 case round=>
  obtain⟨rfl,hJs⟩:=hrel
  gi_wp2
  go_end0
  exact⟨⟨_,rfl⟩,hJs⟩
theorem pP (a:Option Addr) (len cap:Nat) (w:World):
 Calls prog 148 #[.slice a len cap] w fun e w'=>e= .returned (az 228 #[ptr w.heap.size])∧w'=w.alloc (.cells #[.slice a len cap] 22):=by
 simp only[az,ptr]
 go_enter func148,ntmps148
 go_wp2
 go_ret
 exact⟨rfl,rfl⟩
theorem Ka (F:Fence) (n:Nat) (h7:F.fn 228) (hro:F.round=none) (hn:1≤n) (Bs n₀:Nat) (sv:Value) (zs:List ByteArray) (hreach:zs.length≤1000000) (w:World) (hBs:Bs<w.heap.size) (hn₀:n₀≤w.heap.size)
 (hc:w.cell? ⟨Bs,0,none⟩=some sv) (hI:Sl w n₀ sv (zs.map (Value.string))):
 SeqStopsK F n prog 228 #[.pointer (some ⟨Bs,0,none⟩)] (fun x:ByteArray=> #[Value.string x]) (Below n₀) (fun ys=>ys=zs) (fun bh=>bh<+:zs) zs.length w:=fun l J Jx W hW _ _ hY h0=>by
 have hc':=(hW.cell (p:=⟨Bs,0,none⟩) hBs).trans hc
 rcases(hI.below (hW.mono hn₀)).cases_ with ⟨he,A,c,rfl,_⟩|⟨hpos,b,off,cap,rfl,_,_,hb,hcs⟩
 ·have hz:zs=[]:=by simpa using he
  subst hz
  exact(J9 F n h7 hro l Bs c A J W hc' h0).mono fun e W' ⟨he,hj⟩=>⟨he,.inl ⟨_,rfl,hj⟩⟩
 ·rw[List.length_map] at hc'
  refine(J8 F n h7 hro hn l Bs n₀ b off zs.length cap (fun j=>zs.getD j default) hreach hb J Jx hY W hc' (fun j hj=>hcs j _ (by simp[hj])) h0).mono ?_
  exact Aj
theorem Kb (F:Fence) (n:Nat) (h7:F.fn 231) (hro:F.round=none) (hn:1≤n) (l Bs n₀ b off len cap:Nat) (f:Nat→Int) (hreach:len≤1000000) (hb:b<n₀) (J Jx:List Int→World→Prop)
 (hY: ∀bh x W,J bh W→bh.length<len→YieldAt F (n - 1) prog l #[.int .i64 x] W fun e W'=>
   (e= .returned (.bool true)∧J (bh++[x]) W'∧Below n₀ W W')∨(e= .returned (.bool false)∧Jx (bh++[x]) W'))
 (W:World) (hBs:W.cell? ⟨Bs,0,none⟩=some (.slice (some ⟨b,off,none⟩) len cap)) (hc: ∀j,j<len→W.cell? ⟨b,off+j,none⟩=some (.int .i64 (f j))) (h0:J [] W):
 CallsIn F n prog 231 #[.func (.yield l) #[] #[],.pointer (some ⟨Bs,0,none⟩)] W fun e W'=>(∃v,e= .returned v)∧
  ((∃ys,ys=eT f len∧J ys W')∨(∃bh,(∃k,k≤len∧bh=eT f k)∧Jx bh W')):=by
 refine callsIn_of_wp func231 rfl h7 ?_ hro
 simp only[ntmps231,List.size_toArray,List.length_cons,List.length_nil,Nat.reduceAdd,Nat.reduceSub,Array.replicate_succ,Array.replicate_zero,List.push_toArray,List.append_toArray,List.nil_append,List.cons_append]
 gi_wp2
 gi_loopw [7] (fun i wr=> ∃k:Nat,k≤len∧i= .int .i64 k∧J (eT f k) wr∧Below n₀ W wr)
  (fun i _=>len - (intOf i).toNat)
 case atStart=>exact⟨0,aY _,rfl,h0,Below.refl _ _⟩
 case round=>
  obtain⟨k,hk,rfl,hJs,hnx⟩:=hrel
  have hcx:k<len→wr.cell? ⟨b,off+k,none⟩=some (.int .i64 (f k)):=fun h=>(hnx.cell (p:=⟨b,off+k,none⟩) hb).trans (hc k h)
  exact Ai
theorem Kc (F:Fence) (n:Nat) (h7:F.fn 231) (hro:F.round=none) (l Bs c:Nat) (A:Option Addr) (J:List Int→World→Prop) (W:World) (hBs:W.cell? ⟨Bs,0,none⟩=some (.slice A 0 c)) (h0:J [] W):
 CallsIn F n prog 231 #[.func (.yield l) #[] #[],.pointer (some ⟨Bs,0,none⟩)] W fun e W'=>(∃v,e= .returned v)∧J [] W':=by
 refine callsIn_of_wp func231 rfl h7 ?_ hro
 simp only[ntmps231,List.size_toArray,List.length_cons,List.length_nil,Nat.reduceAdd,Nat.reduceSub,Array.replicate_succ,Array.replicate_zero,List.push_toArray,List.append_toArray,List.nil_append,List.cons_append]
 gi_wp2
 gi_loopw [7] (fun i wr=>i= .int .i64 0∧J [] wr) (fun _ _=>0)
 case atStart=>exact⟨rfl,h0⟩
 case round=>
  obtain⟨rfl,hJs⟩:=hrel
  gi_wp2
  go_end0
  exact⟨⟨_,rfl⟩,hJs⟩
theorem Ak (a:Option Addr) (len cap:Nat) (w:World):
 Calls prog 151 #[.slice a len cap] w fun e w'=>e= .returned (az 231 #[ptr w.heap.size])∧w'=w.alloc (.cells #[.slice a len cap] 30):=by
 simp only[az,ptr]
 go_enter func151,ntmps151
 go_wp2
 go_ret
 exact⟨rfl,rfl⟩
theorem Kd (F:Fence) (n:Nat) (h7:F.fn 231) (hro:F.round=none) (hn:1≤n) (Bs n₀:Nat) (sv:Value) (zs:List Int) (hreach:zs.length≤1000000) (w:World) (hBs:Bs<w.heap.size) (hn₀:n₀≤w.heap.size)
 (hc:w.cell? ⟨Bs,0,none⟩=some sv) (hI:Sl w n₀ sv (zs.map (Value.int .i64))):
 SeqStopsK F n prog 231 #[.pointer (some ⟨Bs,0,none⟩)] (fun x:Int=> #[Value.int .i64 x]) (Below n₀) (fun ys=>ys=zs) (fun bh=>bh<+:zs) zs.length w:=fun l J Jx W hW _ _ hY h0=>by
 have hc':=(hW.cell (p:=⟨Bs,0,none⟩) hBs).trans hc
 rcases(hI.below (hW.mono hn₀)).cases_ with ⟨he,A,c,rfl,_⟩|⟨hpos,b,off,cap,rfl,_,_,hb,hcs⟩
 ·have hz:zs=[]:=by simpa using he
  subst hz
  exact(Kc F n h7 hro l Bs c A J W hc' h0).mono fun e W' ⟨he,hj⟩=>⟨he,.inl ⟨_,rfl,hj⟩⟩
 ·rw[List.length_map] at hc'
  refine(Kb F n h7 hro hn l Bs n₀ b off zs.length cap (fun j=>zs.getD j default) hreach hb J Jx hY W hc' (fun j hj=>hcs j _ (by simp[hj])) h0).mono ?_
  exact Aj
attribute [local go_sem] Oper.semAt_some
theorem Ke (F:Fence) (n:Nat) (h3:F.fn 319) (h5:F.fn 228) (hro:F.round=none) (hn:3≤n) (Bs:Nat) (sv:Value) (zs:List ByteArray) (hlen:zs.length≤1000000) (w:World) (hBs:Bs<w.heap.size)
 (hc0:w.cell? ⟨Bs,0,none⟩=some sv) (hI:Sl w w.heap.size sv (zs.map (Value.string))):
 CallsIn F n prog 319 #[.slice none 0 0,.func (.func 228) #[] #[.pointer (some ⟨Bs,0,none⟩)]] w fun e W'=> ∃v,e= .returned v∧W'.ownsRow w.heap.size 9 1 v zs.length (zs.map (Value.string))∧Below w.heap.size w W':=by
 have h1:1≤n:=by omega
 refine nH fun i0 hi hz0 hz1 hz2=> ?_
 refine callsIn_of_wp_marks func319 rfl h3 ?_ hro
 simp only[ntmps319,List.size_toArray,List.length_cons,List.length_nil,Nat.reduceAdd,Nat.reduceSub,Array.replicate_succ,Array.replicate_zero,List.push_toArray,List.append_toArray,List.nil_append,List.cons_append]
 gi_wp2
 have bO:=Boxed.new w 22 (.slice none 0 0)
 have hB0:Below w.heap.size w (w.alloc (.cells #[.slice none 0 0] 22)):=(Below.refl _ w).alloc (ae _) _
 refine wpIn_rangeFunc_ownG hro h1 (gf:=228) (lb:= #[.pointer (some ⟨Bs,0,none⟩)]) rfl h5 (enters_of func228 (by kernel_rfl) rfl)
  (Ka F (n - 1) h5 hro (by omega) Bs w.heap.size sv zs hlen (w.alloc (.cells #[.slice none 0 0] 22)) (by simp;omega) (by simp) ((hB0.cell (p:=⟨Bs,0,none⟩) hBs).trans hc0) (hI.below hB0)) belowK_t (belowK_b (by simp)) (Below.refl _ _) (fun _=>rfl)
  (fun bh W=>(∃v,Boxed W w.heap.size 22 v∧W.ownsRow w.heap.size 9 1 v bh.length (bh.map (Value.string))∧True)∧Below w.heap.size w W)
  (fun _ _ _=>False)
  (OwnFrom.and (Own.from (holdsRow_own w.heap.size w.heap.size 22 9 1 (fun bh:List ByteArray=>bh.length) (fun bh=>bh.map (Value.string)) (fun _ _=>True)) _) (ownFrom_below (ae _) (by simp)))
  (fun _ _ _ _ _ hs _ _=>hs)
  ⟨⟨_,bO,World.ownsRow_nil _ _ _ _,trivial⟩,hB0⟩
  (fun x=>{tmps:= #[.slice none 0 0,.func (.func 228) #[] #[.pointer (some ⟨Bs,0,none⟩)],.pointer (some ⟨w.heap.size,0,none⟩),undef,.slice none 0 0,Value.string x,.func (.func 228) #[] #[.pointer (some ⟨Bs,0,none⟩)],Value.string x,undef,undef,undef,undef,undef],defers:=[]}) ?assign ?body ?done ?stop
 case assign=>
  intro l x W K hK
  gi_wp2
  exact hK
 case body=>
  rintro l bh x W ⟨⟨v,hv,hrow,_⟩,hB⟩ hlt
  have hc:=hv.cell
  gi_wp2_with (gi_at_builtin;refine wpListIn_append_own _ rfl _ _ 22 rfl w.heap.size 9 i0 (.string ⟨#[]⟩) 1 16 underlying22 hi hz0 hz1 hz2 rfl (by decide) _ _ _ rfl (hrow.alloc _) ⟨W.heap.size,0,none⟩ 1 1 [Value.string x] rfl rfl (cell_one_new _ _ _) (by simp[Value.oneCell']) (by simp[maxLen];omega) (by omega) (by have:=hB.size;simp;omega) ?_;intro v' w1 hown' hgrow _;obtain⟨g',cap',rfl⟩:=ownsRow_succ hown';obtain⟨hv1,hv2,hr2,hk2,hb2⟩:=hv.appended (by decide) hrow hB.size (ae _) hown' hgrow;have hc1:=hv1.cell;have hf1:=hv1.frozen)
  exact⟨hk2.from _,hb2,⟨_,hv2,by simpa using hr2,trivial⟩,hB.trans hb2⟩
 case done=>
  exact Al
 case stop=>
  rintro D c bh W _ _ h _
  exact h.elim
theorem Kf (F:Fence) (n:Nat) (h3:F.fn 322) (h5:F.fn 231) (hro:F.round=none) (hn:3≤n) (Bs:Nat) (sv:Value) (zs:List Int) (hlen:zs.length≤1000000) (w:World) (hBs:Bs<w.heap.size)
 (hc0:w.cell? ⟨Bs,0,none⟩=some sv) (hI:Sl w w.heap.size sv (zs.map (Value.int .i64))):
 CallsIn F n prog 322 #[.slice none 0 0,.func (.func 231) #[] #[.pointer (some ⟨Bs,0,none⟩)]] w fun e W'=> ∃v,e= .returned v∧W'.ownsRow w.heap.size 3 1 v zs.length (zs.map (Value.int .i64))∧Below w.heap.size w W':=by
 have h1:1≤n:=by omega
 refine mL fun i0 hi hz0 hz1 hz2=> ?_
 refine callsIn_of_wp_marks func322 rfl h3 ?_ hro
 simp only[ntmps322,List.size_toArray,List.length_cons,List.length_nil,Nat.reduceAdd,Nat.reduceSub,Array.replicate_succ,Array.replicate_zero,List.push_toArray,List.append_toArray,List.nil_append,List.cons_append]
 gi_wp2
 have bO:=Boxed.new w 30 (.slice none 0 0)
 have hB0:Below w.heap.size w (w.alloc (.cells #[.slice none 0 0] 30)):=(Below.refl _ w).alloc (ae _) _
 refine wpIn_rangeFunc_ownG hro h1 (gf:=231) (lb:= #[.pointer (some ⟨Bs,0,none⟩)]) rfl h5 (enters_of func231 (by kernel_rfl) rfl)
  (Kd F (n - 1) h5 hro (by omega) Bs w.heap.size sv zs hlen (w.alloc (.cells #[.slice none 0 0] 30)) (by simp;omega) (by simp) ((hB0.cell (p:=⟨Bs,0,none⟩) hBs).trans hc0) (hI.below hB0)) belowK_t (belowK_b (by simp)) (Below.refl _ _) (fun _=>rfl)
  (fun bh W=>(∃v,Boxed W w.heap.size 30 v∧W.ownsRow w.heap.size 3 1 v bh.length (bh.map (Value.int .i64))∧True)∧Below w.heap.size w W)
  (fun _ _ _=>False)
  (OwnFrom.and (Own.from (holdsRow_own w.heap.size w.heap.size 30 3 1 (fun bh:List Int=>bh.length) (fun bh=>bh.map (Value.int .i64)) (fun _ _=>True)) _) (ownFrom_below (ae _) (by simp)))
  (fun _ _ _ _ _ hs _ _=>hs)
  ⟨⟨_,bO,World.ownsRow_nil _ _ _ _,trivial⟩,hB0⟩
  (fun x=>{tmps:= #[.slice none 0 0,.func (.func 231) #[] #[.pointer (some ⟨Bs,0,none⟩)],.pointer (some ⟨w.heap.size,0,none⟩),undef,.slice none 0 0,Value.int .i64 x,.func (.func 231) #[] #[.pointer (some ⟨Bs,0,none⟩)],Value.int .i64 x,undef,undef,undef,undef,undef],defers:=[]}) ?assign ?body ?done ?stop
 case assign=>
  intro l x W K hK
  gi_wp2
  exact hK
 case body=>
  rintro l bh x W ⟨⟨v,hv,hrow,_⟩,hB⟩ hlt
  have hc:=hv.cell
  gi_wp2_with (gi_at_builtin;refine wpListIn_append_own _ rfl _ _ 30 rfl w.heap.size 3 i0 (.int .i64 0) 1 8 underlying30 hi hz0 hz1 hz2 rfl (by decide) _ _ _ rfl (hrow.alloc _) ⟨W.heap.size,0,none⟩ 1 1 [Value.int .i64 x] rfl rfl (cell_one_new _ _ _) (by simp[Value.oneCell']) (by simp[maxLen];omega) (by omega) (by have:=hB.size;simp;omega) ?_;intro v' w1 hown' hgrow _;obtain⟨g',cap',rfl⟩:=ownsRow_succ hown';obtain⟨hv1,hv2,hr2,hk2,hb2⟩:=hv.appended (by decide) hrow hB.size (ae _) hown' hgrow;have hc1:=hv1.cell;have hf1:=hv1.frozen)
  exact⟨hk2.from _,hb2,⟨_,hv2,by simpa using hr2,trivial⟩,hB.trans hb2⟩
 case done=>
  exact Al
 case stop=>
  rintro D c bh W _ _ h _
  exact h.elim
end
section
open Go Go.RowKit Go.Sort Tryz
theorem Ao (W:World) (os:Array Obj):Below W.heap.size W (Go.Sort.grow W os):=⟨rfl,rfl,rfl,by simp,fun k hk=>Go.Sort.heap_grow_old _ _ hk⟩
def tE:Fence:={fn:=fun _=>True}
theorem Ap (k:Nat):tE.room k:=fun d hd=>by cases hd
theorem Kg (Bs:Nat) (sv:Value) (zs:List ByteArray) (hlen:zs.length≤1000000) (w:World) (hBs:Bs<w.heap.size)
 (hc0:w.cell? ⟨Bs,0,none⟩=some sv) (hI:Sl w w.heap.size sv (zs.map (Value.string))):
 Calls prog 319 #[.slice none 0 0,.func (.func 228) #[] #[.pointer (some ⟨Bs,0,none⟩)]] w fun e W'=> ∃v,e= .returned v∧W'.ownsRow w.heap.size 9 1 v zs.length (zs.map (Value.string))∧Below w.heap.size w W':=
 (Ke tE 3 trivial trivial rfl (ae _) Bs sv zs hlen w hBs hc0 hI).calls Ap
theorem Kh (Bs:Nat) (sv:Value) (zs:List ByteArray) (hlen:zs.length≤1000000) (w:World) (hBs:Bs<w.heap.size)
 (hc0:w.cell? ⟨Bs,0,none⟩=some sv) (hI:Sl w w.heap.size sv (zs.map (Value.string))):
 Calls prog 226 #[.func (.func 228) #[] #[.pointer (some ⟨Bs,0,none⟩)]] w fun e W'=> ∃v,e= .returned v∧W'.ownsRow w.heap.size 9 1 v zs.length (zs.map (Value.string))∧Below w.heap.size w W':=by
 have HA:=aa (Kg Bs sv zs hlen w hBs hc0 hI)
 clear hI hc0 hBs
 go_enter func226,ntmps226
 go_wp2_with(go_at_call 319;refine HA.out.mono ?_;rintro e w2 ⟨v,rfl,ho,hb⟩)
 go_ret
 exact⟨v,rfl,ho,hb⟩
theorem Ki (Bs:Nat) (sv:Value) (zs:List ByteArray) (hlen:zs.length≤1000000) (w:World) (hBs:Bs<w.heap.size)
 (hc0:w.cell? ⟨Bs,0,none⟩=some sv) (hI:Sl w w.heap.size sv (zs.map (Value.string))):
 Calls prog 147 #[.func (.func 228) #[] #[.pointer (some ⟨Bs,0,none⟩)]] w fun e W'=> ∃v,e= .returned v∧W'.ownsRow w.heap.size 9 1 v zs.length (((zs.map (·.data.toList)).mergeSort fun x y=>decide (x≤y)).map Go.Proofs.encStr)∧Below w.heap.size w W':=by
 have HA:=aa (Kh Bs sv zs hlen w hBs hc0 hI)
 clear hI hc0 hBs
 by_cases h0:zs.length=0
 ·have hz:zs=[]:=List.length_eq_zero_iff.1 h0
  subst hz
  have HS:=aa (fun(p:Option Addr) c W=>slices_Sort_string_none p c W)
  go_enter func147,ntmps147
  go_wp2_with first
   |(go_at_call 226;refine HA.out.mono ?_;rintro e w2 ⟨v,rfl,ho,hb⟩
     obtain⟨p,c,rfl⟩: ∃p c,v= .slice p 0 c:=by
      rcases ho.2 with ⟨hv,_⟩|⟨g,cap,cur,hv,_⟩
      ·exact⟨none,0,hv⟩
      ·exact⟨_,_,hv⟩
     have HO:=aa ho;have HB:=aa hb
     clear ho hb)
   |(go_at_call 227;refine(HS.out _ _ _).mono ?_;rintro e w3 ⟨rfl,rfl⟩)
  go_ret
  refine⟨_,rfl,?_,HB.out⟩
  have e:((([]:List ByteArray).map (·.data.toList)).mergeSort fun x y=>decide (x≤y))=[]:=by simp
  rw[e]
  exact HO.out
 ·have HS:=aa (fun b c W (hH:Go.Sort.Holds Go.Proofs.encStr W b 0 (zs.map (·.data.toList)).toArray) (hb:b<W.heap.size)=>slices_Sort_string b 0 c (zs.map (·.data.toList)) W hH hb (by first|omega|(simp;omega)))
  have HL:=aa (show((zs.map (·.data.toList)).mergeSort fun x y=>decide (x≤y)).length=zs.length by simp)
  generalize ((zs.map (·.data.toList)).mergeSort fun x y=>decide (x≤y))=ss at HS HL
  have HZ:=aa (show zs.map (Value.string)=(zs.map (·.data.toList)).map Go.Proofs.encStr from(Go.Lib.map_encStr zs:_).symm)
  rw[HZ.out] at HA
  have HN:=aa (show(zs.map (·.data.toList)).length=zs.length by simp)
  rw[HN.out] at HS
  generalize zs.length=n at HA HS HL HN h0
  go_enter func147,ntmps147
  go_wp2_with first
   |(go_at_call 226;refine HA.out.mono ?_;rintro e w2 ⟨v,rfl,ho,hb⟩
     obtain⟨g,cap,rfl,hg1,hg2,hg3,hg4,hg5,hH⟩:=Go.Lib.holds_of_ownsRow ho (by
      intro e
      have:=ho.2
      rw[e] at this
      rcases this with ⟨_,h1⟩|⟨g,cap,cur,hv,_⟩
      ·exact h0 h1
      ·cases hv)
     have HO:=aa ho;have HB:=aa hb;have HH:=aa hH
     clear ho hb hH)
   |(go_at_call 227;refine(HS.out _ _ _ HH.out hg2).mono ?_;rintro e w3 ⟨rfl,q,os,rfl⟩)
  exact Aq
theorem Kj (Bs:Nat) (sv:Value) (zs:List Int) (hlen:zs.length≤1000000) (w:World) (hBs:Bs<w.heap.size)
 (hc0:w.cell? ⟨Bs,0,none⟩=some sv) (hI:Sl w w.heap.size sv (zs.map (Value.int .i64))):
 Calls prog 322 #[.slice none 0 0,.func (.func 231) #[] #[.pointer (some ⟨Bs,0,none⟩)]] w fun e W'=> ∃v,e= .returned v∧W'.ownsRow w.heap.size 3 1 v zs.length (zs.map (Value.int .i64))∧Below w.heap.size w W':=
 (Kf tE 3 trivial trivial rfl (ae _) Bs sv zs hlen w hBs hc0 hI).calls Ap
theorem Kk (Bs:Nat) (sv:Value) (zs:List Int) (hlen:zs.length≤1000000) (w:World) (hBs:Bs<w.heap.size)
 (hc0:w.cell? ⟨Bs,0,none⟩=some sv) (hI:Sl w w.heap.size sv (zs.map (Value.int .i64))):
 Calls prog 229 #[.func (.func 231) #[] #[.pointer (some ⟨Bs,0,none⟩)]] w fun e W'=> ∃v,e= .returned v∧W'.ownsRow w.heap.size 3 1 v zs.length (zs.map (Value.int .i64))∧Below w.heap.size w W':=by
 have HA:=aa (Kj Bs sv zs hlen w hBs hc0 hI)
 clear hI hc0 hBs
 go_enter func229,ntmps229
 go_wp2_with(go_at_call 322;refine HA.out.mono ?_;rintro e w2 ⟨v,rfl,ho,hb⟩)
 go_ret
 exact⟨v,rfl,ho,hb⟩
theorem Ar (Bs:Nat) (sv:Value) (zs:List Int) (hlen:zs.length≤1000000) (w:World) (hBs:Bs<w.heap.size)
 (hc0:w.cell? ⟨Bs,0,none⟩=some sv) (hI:Sl w w.heap.size sv (zs.map (Value.int .i64))):
 Calls prog 150 #[.func (.func 231) #[] #[.pointer (some ⟨Bs,0,none⟩)]] w fun e W'=> ∃v,e= .returned v∧W'.ownsRow w.heap.size 3 1 v zs.length ((zs.mergeSort fun x y=>decide (x≤y)).map (Value.int .i64))∧Below w.heap.size w W':=by
 have HA:=aa (Kk Bs sv zs hlen w hBs hc0 hI)
 clear hI hc0 hBs
 by_cases h0:zs.length=0
 ·have hz:zs=[]:=List.length_eq_zero_iff.1 h0
  subst hz
  have HS:=aa (fun(p:Option Addr) c W=>slices_Sort_int_none p c W)
  go_enter func150,ntmps150
  go_wp2_with first
   |(go_at_call 229;refine HA.out.mono ?_;rintro e w2 ⟨v,rfl,ho,hb⟩
     obtain⟨p,c,rfl⟩: ∃p c,v= .slice p 0 c:=by
      rcases ho.2 with ⟨hv,_⟩|⟨g,cap,cur,hv,_⟩
      ·exact⟨none,0,hv⟩
      ·exact⟨_,_,hv⟩
     have HO:=aa ho;have HB:=aa hb
     clear ho hb)
   |(go_at_call 230;refine(HS.out _ _ _).mono ?_;rintro e w3 ⟨rfl,rfl⟩)
  go_ret
  refine⟨_,rfl,?_,HB.out⟩
  have e:(([]:List Int).mergeSort fun x y=>decide (x≤y))=[]:=by simp
  rw[e]
  exact HO.out
 ·have HS:=aa (fun b c W (hH:Go.Sort.Holds (Value.int .i64) W b 0 zs.toArray) (hb:b<W.heap.size)=>slices_Sort_int b 0 c zs W hH hb (by first|omega|(simp;omega)))
  have HL:=aa (show(zs.mergeSort fun x y=>decide (x≤y)).length=zs.length by simp)
  generalize (zs.mergeSort fun x y=>decide (x≤y))=ss at HS HL
  have HZ:=aa (show zs.map (Value.int .i64)=zs.map (Value.int .i64) from(rfl:_).symm)
  rw[HZ.out] at HA
  have HN:=aa (show zs.length=zs.length by simp)
  rw[HN.out] at HS
  generalize zs.length=n at HA HS HL HN h0
  go_enter func150,ntmps150
  go_wp2_with first
   |(go_at_call 229;refine HA.out.mono ?_;rintro e w2 ⟨v,rfl,ho,hb⟩
     obtain⟨g,cap,rfl,hg1,hg2,hg3,hg4,hg5,hH⟩:=Go.Lib.holds_of_ownsRow ho (by
      intro e
      have:=ho.2
      rw[e] at this
      rcases this with ⟨_,h1⟩|⟨g,cap,cur,hv,_⟩
      ·exact h0 h1
      ·cases hv)
     have HO:=aa ho;have HB:=aa hb;have HH:=aa hH
     clear ho hb hH)
   |(go_at_call 230;refine(HS.out _ _ _ HH.out hg2).mono ?_;rintro e w3 ⟨rfl,q,os,rfl⟩)
  exact Aq
end
section
open Go Go.RowKit Tryz
theorem tF (n:Int): ∀l,(kf n l).Perm (n::l)
 |[]=>List.Perm.refl _
 |a::l=>by
  unfold kf
  split
  ·exact List.Perm.refl _
  ·exact((tF n l).cons a).trans (List.Perm.swap _ _ _)
theorem lX: ∀l:List Int,(fS l).Perm l
 |[]=>List.Perm.refl _
 |a::l=>(tF a (fS l)).trans ((lX l).cons a)
theorem Au (n:Int): ∀l:List Int,l.Pairwise (·≤·)→(kf n l).Pairwise (·≤·)
 |[],_=>by simp[kf]
 |a::l,h=>by
  unfold kf
  rw[List.pairwise_cons] at h
  split
  ·rename_i hle
   refine List.pairwise_cons.2 ⟨fun b hb=> ?_,List.pairwise_cons.2 h⟩
   rcases List.mem_cons.1 hb with rfl|hb
   ·exact hle
   ·have:=h.1 b hb;omega
  ·rename_i hle
   refine List.pairwise_cons.2 ⟨fun b hb=> ?_,Au n l h.2⟩
   rcases List.mem_cons.1 ((tF n l).mem_iff.1 hb) with rfl|hb
   ·omega
   ·exact h.1 b hb
theorem Aw: ∀l:List Int,(fS l).Pairwise (·≤·)
 |[]=>List.Pairwise.nil
 |a::l=>Au a _ (Aw l)
theorem Ax (l:List Int):(l.mergeSort fun x y=>decide (x≤y))=fS l:=by
 refine List.Perm.eq_of_pairwise (le:=fun x y:Int=>x≤y) (fun a b _ _ h1 h2=>Int.le_antisymm h1 h2) ?_ (Aw l) ((List.mergeSort_perm _ _).trans (lX l).symm)
 have h:=List.pairwise_mergeSort (le:=fun x y:Int=>decide (x≤y)) (fun a b c h1 h2=>by simp at*;omega) (fun a b=>by simp;omega) l
 exact h.imp (fun h=>by simpa using h)
theorem Kl (l:List (List UInt8)):(l.mergeSort fun x y=>decide (x≤y)).Pairwise (·≤·):=by
 have h:=List.pairwise_mergeSort (le:=fun x y:List UInt8=>decide (x≤y)) (fun a b c h1 h2=>by
  simp only[decide_eq_true_eq] at*
  exact List.le_trans h1 h2) (fun a b=>by
  have:=List.le_total a b
  simpa using this) l
 exact h.imp (fun h=>by simpa using h)
theorem Km {s:List (List UInt8)} (hs:s.Pairwise (·≤·)) (ha: ∀j (h:j+1<s.length),s[j]≠s[j+1]):s.Nodup:=by
 rw[List.pairwise_iff_getElem] at hs
 refine List.pairwise_iff_getElem.2 fun i j hi hj hij he=> ?_
 have h1:s[i]≤s[j - 1]:=by
  by_cases e:i=j - 1
  ·subst e;exact List.le_refl _
  ·exact hs i (j - 1) hi (by omega) (by omega)
 have h2:s[j - 1]≤s[j]:=hs (j - 1) j (by omega) hj (by omega)
 have h3:s[j - 1]=s[j]:=List.le_antisymm h2 (he▸h1)
 have hj2:j - 1+1=j:=by omega
 refine ha (j - 1) (by omega) ?_
 rw[h3]
 simp only[hj2]
theorem Kn (l:List (List UInt8)):(Go.Lib.compact (l.mergeSort fun x y=>decide (x≤y))).length<l.length↔¬l.Nodup:=by
 have hp:=List.mergeSort_perm l (fun x y=>decide (x≤y))
 have hs:=Kl l
 rw[←hp.nodup_iff,←hp.length_eq]
 generalize (l.mergeSort fun x y=>decide (x≤y))=s at hp hs
 constructor
 ·intro h hn
  rw[Go.Lib.compact_all s (fun j hj=> ?_)] at h
  ·omega
  ·by_cases h0:j=0
   ·subst h0;simp[Go.Lib.keeps]
   ·refine Go.Lib.keeps_pos fun e=> ?_
    have hn':=List.pairwise_iff_getElem.1 hn (j - 1) j (by omega) hj (by omega)
    apply hn'
    have e1:s.toArray[j]! =s[j]:=by simp[getElem!_pos,hj]
    have e2:s.toArray[j - 1]! =s[j - 1]:=by simp[getElem!_pos,show j - 1<s.length by omega]
    rw[e1,e2] at e
    exact e.symm
 ·intro h
  have: ∃j,∃h:j+1<s.length,s[j]=s[j+1]:=by
   apply Classical.byContradiction
   intro hno
   exact h (Km hs fun j hj e=>hno ⟨j,hj,e⟩)
  obtain⟨j,hj,e⟩:=this
  unfold Go.Lib.compact Go.Lib.compactUpTo
  rw[List.length_map]
  have h2:=(List.length_filter_lt_length_iff_exists (l:=List.range s.length) (p:=Go.Lib.keeps s.toArray)).2 ⟨j+1,List.mem_range.2 hj,by
   rw[Go.Lib.keeps_neg (by omega) (by simp[getElem!_pos,hj,show j<s.length by omega,e])]
   simp⟩
  rwa [List.length_range] at h2
end
section
open Go Go.RowKit Go.MapKept Tryz
theorem tG (rb Mb:Nat) (t:br) (d:ar) (kind count:Int) (m:Nat) (rv nv:Value) (w:World) (hr:w.cell? ⟨rb,0,none⟩=some (.map (some Mb))) (hM:aZ dI w Mb (dr t))
 (hrv:aI w w.heap.size rv d.refs) (hnv:aq w w.heap.size nv (d.nums.map fun x:Nat=>(x:Int))) (hl:d.refs.length≤100000) (hm:d.nums.length=m+3):
 Calls prog 141 #[ptr rb,.agg #[.int .i64 d.kind,.string (bs d.name),rv,nv,.int .i64 d.by_,.bool d.always],.int .i64 kind,.int .i64 count] w fun e w'=>
  ∃o,e= .returned (.agg ((dS t d kind count).vals o))∧w'.ownsRow w.heap.size 3 1 o d.refs.length ((fS (d.refs.map (bE t))).map (Value.int .i64))∧Below w.heap.size w w':=by
 have hzr:=aH _ _ hr
 obtain⟨k0,hk0⟩: ∃k0,d.nums[m]? =some k0:=⟨_,List.getElem?_eq_getElem (by omega)⟩
 obtain⟨k1,hk1⟩: ∃k1,d.nums[m+1]? =some k1:=⟨_,List.getElem?_eq_getElem (by omega)⟩
 obtain⟨k2,hk2⟩: ∃k2,d.nums[m+2]? =some k2:=⟨_,List.getElem?_eq_getElem (by omega)⟩
 have HU:=aa (show ∀o,(dS t d kind count).vals o= #[.string (bs d.name),.int .i64 kind,.int .i64 count,.int .i64 k0,.int .i64 k1,.int .i64 k2,o] from fun o=>by
  rw[bQ.vals_def]
  have e:d.nums.drop (d.nums.length - 3)=[k0,k1,k2]:=by
   rw[hm,show m+3 - 3=m by omega]
   apply List.ext_getElem?
   intro i
   rw[List.getElem?_drop]
   match i with
   |0=>simpa using hk0
   |1=>simpa using hk1
   |2=>simpa using hk2
   |i+3=>rw[List.getElem?_eq_none (by omega)];rfl
  simp[dS,e,cS])
 obtain⟨RA,rn,rc,rfl,hrn,_,_⟩:=hrv.sk.form
 obtain⟨NA,nn,nc,rfl,hnn,hnc,hncm⟩:=hnv.sk.form
 rw[List.length_map,hm] at hnn
 subst hnn
 obtain⟨nb,no,rfl,hnb,hc0⟩:=aq.cell hnv (j:=m) (x:=k0) (by rw[List.getElem?_map,hk0];rfl)
 have hc1:w.cell? ⟨nb,no+(m+1),none⟩=some (.int .i64 k1):=by
  obtain⟨b,o,e,_,h⟩:=aq.cell hnv (j:=m+1) (x:=k1) (by rw[List.getElem?_map,hk1];rfl)
  injection e with e;injection e with e1 e2;subst e1 e2;exact h
 have hc2:w.cell? ⟨nb,no+(m+2),none⟩=some (.int .i64 k2):=by
  obtain⟨b,o,e,_,h⟩:=aq.cell hnv (j:=m+2) (x:=k2) (by rw[List.getElem?_map,hk2];rfl)
  injection e with e;injection e with e1 e2;subst e1 e2;exact h
 have HR:=aa hr;have HM:=aa hM;have HRv:=aa hrv
 have HC0:=aa hc0;have HC1:=aa hc1;have HC2:=aa hc2
 simp only[ptr]
 clear hr hM hrv hnv hk0 hk1 hk2 hc0 hc1 hc2
 go_enter func141,ntmps141
 go_upto_region 1 with (fail)
 refine bt (fun W=>Below w.heap.size w W∧W.heap[w.heap.size]? =some (.cells #[.int .i64 d.kind,.string (bs d.name),.slice RA rn rc,.slice (some ⟨nb,no,none⟩) (m+3) nc,.int .i64 d.by_,.bool d.always] 87 (0,0))∧W.heap[w.heap.size+1]? =some (.cells #[.string ⟨#[]⟩,.int .i64 0,.int .i64 0,.int .i64 0,.int .i64 0,.int .i64 0,.slice none 0 0] 135 (0,0))) ⟨ac (ac (B0 w) _) _,(gE w _ _ _ _).1,(gE w _ _ _ _).2⟩ ?_
 intro W1 ⟨hBW,hxW,hiW⟩
 have x1:W1.cell? ⟨w.heap.size,1,none⟩=some (.string (bs d.name)):=af hxW rfl
 have x2:W1.cell? ⟨w.heap.size,2,none⟩=some (.slice RA rn rc):=af hxW rfl
 have x3:W1.cell? ⟨w.heap.size,3,none⟩=some (.slice (some ⟨nb,no,none⟩) (m+3) nc):=af hxW rfl
 have hI1:(0:Int)≤((m+3:Nat):Int) - 3:=by omega
 have hI2:((m+3:Nat):Int) - 3≤((m+3:Nat):Int):=by omega
 have n0:W1.cell? ⟨nb,no+m,none⟩=some (.int .i64 k0):=(hBW.cell (p:=⟨nb,no+m,none⟩) hnb).trans HC0.out
 have n1:W1.cell? ⟨nb,no+m+1,none⟩=some (.int .i64 k1):=(hBW.cell (p:=⟨nb,no+m+1,none⟩) hnb).trans HC1.out
 have n2:W1.cell? ⟨nb,no+m+2,none⟩=some (.int .i64 k2):=(hBW.cell (p:=⟨nb,no+m+2,none⟩) hnb).trans HC2.out
 have hzx:=blk_lt hxW
 have hzi:=blk_lt hiW
 have hz1:w.heap.size≤W1.heap.size:=hBW.size
 have hzn:nb<W1.heap.size:=by omega
 have HBW:=aa hBW;have HiW:=aa hiW
 have HNum:=aa (fun W (hW:Below w.heap.size w W)=>td rb Mb t (.slice RA rn rc) d.refs W ((hW.cell (p:=⟨rb,0,none⟩) hzr).trans HR.out) (HM.out.later hW) ((HRv.out.below hW (ae _)).more hW.size) hl)
 have HSo:=aa (fun Bs sv W (h1:Bs<W.heap.size) (h2:W.cell? ⟨Bs,0,none⟩=some sv) h3=>Ar Bs sv (d.refs.map (bE t)) (by rw[List.length_map];omega) W h1 h2 h3)
 rw[Ax,List.length_map] at HSo
 simp only[ptr] at HNum
 clear hBW hxW hiW
 go_upto_region 2 with (fail)
 refine bH (S:=fun w'=>w'.cell? ⟨w.heap.size,1,none⟩=some (.string (bs d.name))∧w'.cell? ⟨w.heap.size,2,none⟩=some (.slice RA rn rc)∧w'.cell? ⟨nb,no+m,none⟩=some (.int .i64 k0)∧w'.cell? ⟨nb,no+m+1,none⟩=some (.int .i64 k1)∧w'.cell? ⟨nb,no+m+2,none⟩=some (.int .i64 k2)) 21 (by exact⟨x1,x2,n0,n1,n2⟩) fun hS=> ?_
 iterate 7 refine gH 21 17 ?_
 iterate 9 refine gH 24 17 ?_
 refine cH 7 fun K hK=> ?_
 go_simp
 refine(HNum.out _ (au HBW.out)).mono ?_
 rintro e w4 ⟨u,rfl,hu,hb4⟩
 obtain⟨UA,um,uc,rfl⟩:=bT hu
 have HU4:=aa hu
 have HB4:Hid (Below W1.heap.size W1 w4):=ag (au (B0 W1)) hb4
 clear hu hb4
 try go_simp
 clear hS
 refine hK.out _ _ (by exact⟨(HB4.out.cell (p:=⟨w.heap.size,1,none⟩) hzx).trans x1,(HB4.out.cell (p:=⟨w.heap.size,2,none⟩) hzx).trans x2,(HB4.out.cell (p:=⟨nb,no+m,none⟩) hzn).trans n0,(HB4.out.cell (p:=⟨nb,no+m+1,none⟩) hzn).trans n1,(HB4.out.cell (p:=⟨nb,no+m+2,none⟩) hzn).trans n2⟩) (fun hS=> ?_)
 clear hK
 refine ak ?_
 refine cH 8 fun K hK=> ?_
 go_simp
 refine(Ak UA um uc _).mono ?_
 rintro e w5 ⟨rfl,rfl⟩
 have HB5:Hid (Below W1.heap.size W1 (w4.alloc (.cells #[.slice UA um uc] 30))):=ag HB4.out (ac (B0 w4) _)
 simp only[az,ptr]
 try go_simp
 clear hS
 refine hK.out _ _ (by exact⟨(HB5.out.cell (p:=⟨w.heap.size,1,none⟩) hzx).trans x1,(HB5.out.cell (p:=⟨w.heap.size,2,none⟩) hzx).trans x2,(HB5.out.cell (p:=⟨nb,no+m,none⟩) hzn).trans n0,(HB5.out.cell (p:=⟨nb,no+m+1,none⟩) hzn).trans n1,(HB5.out.cell (p:=⟨nb,no+m+2,none⟩) hzn).trans n2⟩) (fun hS=> ?_)
 clear hK
 refine ak ?_
 refine cH 9 fun K hK=> ?_
 go_simp
 refine(HSo.out w4.heap.size (.slice UA um uc) _ (by simp) (af (aN w4 _) rfl) (Sl.of_own (cB HU4.out (ac (B0 w4) _)))).mono ?_
 rintro e w6 ⟨so,rfl,hs6,hb6⟩
 obtain⟨SA,sm,sc6,rfl⟩:=bT hs6
 have HS6:=aa hs6
 have HB6:Hid (Below W1.heap.size W1 w6):=ag HB5.out hb6
 clear hs6 hb6
 try go_simp
 clear hS
 refine hK.out _ _ (by exact⟨(HB6.out.cell (p:=⟨w.heap.size,1,none⟩) hzx).trans x1,(HB6.out.cell (p:=⟨w.heap.size,2,none⟩) hzx).trans x2,(HB6.out.cell (p:=⟨nb,no+m,none⟩) hzn).trans n0,(HB6.out.cell (p:=⟨nb,no+m+1,none⟩) hzn).trans n1,(HB6.out.cell (p:=⟨nb,no+m+2,none⟩) hzn).trans n2⟩) (fun hS=> ?_)
 clear hK
 refine ak ?_
 refine eC 19 36 ?_
 have g0:=ah HiW.out HB6.out
 have y0:w6.cell? ⟨w.heap.size+1,0,none⟩=_:=af g0 rfl
 have y1:w6.cell? ⟨w.heap.size+1,1,none⟩=_:=af g0 rfl
 have y2:w6.cell? ⟨w.heap.size+1,2,none⟩=_:=af g0 rfl
 have y3:w6.cell? ⟨w.heap.size+1,3,none⟩=_:=af g0 rfl
 have y4:w6.cell? ⟨w.heap.size+1,4,none⟩=_:=af g0 rfl
 have y5:w6.cell? ⟨w.heap.size+1,5,none⟩=_:=af g0 rfl
 have y6:w6.cell? ⟨w.heap.size+1,6,none⟩=_:=af g0 rfl
 obtain⟨z0,z1,z2,z3,z4,z5,z6⟩:=jU g0
 have hz6:w.heap.size+1≤w6.heap.size:=by have:=HB6.out.size;omega
 have HG0:=aa g0
 refine cH 20 fun K hK=> ?_
 go_simp
 refine hK.out _ _ (by refine(fun(hb:Below (w.heap.size+1) w6 _)=>⟨(hb.cell (p:=⟨w.heap.size,1,none⟩) (Nat.lt_succ_self _)).trans hS.1,(hb.cell (p:=⟨w.heap.size,2,none⟩) (Nat.lt_succ_self _)).trans hS.2.1,(hb.cell (p:=⟨nb,no+m,none⟩) (Nat.lt_succ_of_lt hnb)).trans hS.2.2.1,(hb.cell (p:=⟨nb,no+m+1,none⟩) (Nat.lt_succ_of_lt hnb)).trans hS.2.2.2.1,(hb.cell (p:=⟨nb,no+m+2,none⟩) (Nat.lt_succ_of_lt hnb)).trans hS.2.2.2.2⟩) (((((((((B0 w6).mono hz6).setCell (p:=⟨w.heap.size+1,0,none⟩) (ae _) _).setCell (p:=⟨w.heap.size+1,1,none⟩) (ae _) _).setCell (p:=⟨w.heap.size+1,2,none⟩) (ae _) _).setCell (p:=⟨w.heap.size+1,3,none⟩) (ae _) _).setCell (p:=⟨w.heap.size+1,4,none⟩) (ae _) _).setCell (p:=⟨w.heap.size+1,5,none⟩) (ae _) _).setCell (p:=⟨w.heap.size+1,6,none⟩) (ae _) _)) (fun hS=> ?_)
 clear hK
 refine ak ?_
 refine eH ?_
 go_wp2_with fail
 clear hS
 have g7:((((((((w6).setCell ⟨w.heap.size+1,0,none⟩ (.string (bs d.name))).setCell ⟨w.heap.size+1,1,none⟩ (.int .i64 kind)).setCell ⟨w.heap.size+1,2,none⟩ (.int .i64 count)).setCell ⟨w.heap.size+1,3,none⟩ (.int .i64 k0)).setCell ⟨w.heap.size+1,4,none⟩ (.int .i64 k1)).setCell ⟨w.heap.size+1,5,none⟩ (.int .i64 k2)).setCell ⟨w.heap.size+1,6,none⟩ (.slice SA sm sc6)).heap[w.heap.size+1]? =some (.cells #[.string (bs d.name),.int .i64 kind,.int .i64 count,.int .i64 k0,.int .i64 k1,.int .i64 k2,.slice SA sm sc6] 135 (0,0)):=(ay (ay (ay (ay (ay (ay (ay (HG0.out) 0 (.string (bs d.name))) 1 (.int .i64 kind)) 2 (.int .i64 count)) 3 (.int .i64 k0)) 4 (.int .i64 k1)) 5 (.int .i64 k2)) 6 (.slice SA sm sc6)).trans rfl
 have hKP:KP w6.heap.size (w.heap.size+1) w6 ((((((((w6).setCell ⟨w.heap.size+1,0,none⟩ (.string (bs d.name))).setCell ⟨w.heap.size+1,1,none⟩ (.int .i64 kind)).setCell ⟨w.heap.size+1,2,none⟩ (.int .i64 count)).setCell ⟨w.heap.size+1,3,none⟩ (.int .i64 k0)).setCell ⟨w.heap.size+1,4,none⟩ (.int .i64 k1)).setCell ⟨w.heap.size+1,5,none⟩ (.int .i64 k2)).setCell ⟨w.heap.size+1,6,none⟩ (.slice SA sm sc6)):=KP.set (KP.set (KP.set (KP.set (KP.set (KP.set (KP.set (KP.refl _ _ _) (.inl rfl) _) (.inl rfl) _) (.inl rfl) _) (.inl rfl) _) (.inl rfl) _) (.inl rfl) _) (.inl rfl) _
 generalize (((((((w6).setCell ⟨w.heap.size+1,0,none⟩ (.string (bs d.name))).setCell ⟨w.heap.size+1,1,none⟩ (.int .i64 kind)).setCell ⟨w.heap.size+1,2,none⟩ (.int .i64 count)).setCell ⟨w.heap.size+1,3,none⟩ (.int .i64 k0)).setCell ⟨w.heap.size+1,4,none⟩ (.int .i64 k1)).setCell ⟨w.heap.size+1,5,none⟩ (.int .i64 k2)).setCell ⟨w.heap.size+1,6,none⟩ (.slice SA sm sc6)=W7 at g7 hKP⊢
 obtain⟨f0,f1,f2,f3,f4,f5,f6⟩:=cZ g7
 refine bodyPost_ret (v:= .agg #[.string (bs d.name),.int .i64 kind,.int .i64 count,.int .i64 k0,.int .i64 k1,.int .i64 k2,.slice SA sm sc6]) ?_ rfl ?_
 ·simp[results,Tryz.f141,go_sem,f0,f1,f2,f3,f4,f5,f6]
 ·refine⟨.slice SA sm sc6,by rw[HU.out],?_,?_⟩
  ·have h:=j8 HS6.out hKP (ae _) (by have:=HB4.out.size;simp;omega)
   rw[hrn] at h
   refine⟨h.1,h.2.imp id ?_⟩
   rintro ⟨g,cap,cur,e1,hb,hrest⟩
   exact⟨g,cap,cur,e1,by have:=HB4.out.size;simp at hb;omega,hrest⟩
  ·exact(HBW.out.trans (HB6.out.mono hz1)).trans ((hKP.below hz6).mono (Nat.le_succ _))
end
end Go.Proofs.YthnkonlbfogkgaaGreatDoor
