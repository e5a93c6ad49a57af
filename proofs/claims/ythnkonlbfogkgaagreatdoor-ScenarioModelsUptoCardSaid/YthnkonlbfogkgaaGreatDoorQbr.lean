/- A part of the proof. -/
import Derived.Test.YthnkonlbfogkgaaGreatDoorQbp
set_option linter.unusedVariables false
set_option linter.unusedSimpArgs false
set_option maxRecDepth 100000
set_option maxHeartbeats 32000000
namespace Go.Proofs.YthnkonlbfogkgaaGreatDoor
section
open Go Go.RowKit Go.MapKept Tryz
theorem Lz (rb Mb:Nat) (t:br) (d:ar) (rv nv:Value) (w:World) (hr:w.cell? ⟨rb,0,none⟩=some (.map (some Mb))) (hM:aZ dI w Mb (dr t)) (hrv:aI w w.heap.size rv d.refs) (hv:dF d=true):
 am 48 #[ptr rb,.agg #[.int .i64 d.kind,.string (bs d.name),rv,nv,.int .i64 d.by_,.bool d.always]] w (.int .i64 (ez t d)):=by
 have hzr:=aH _ _ hr
 have hVL:=gJ hv
 have HWg:=aa (fun i (hi:i<d.refs.length)=>KK hv hi)
 have hwl:=KL hv
 obtain⟨RA,rn,rc,rfl,hrn,hrc,_⟩:=hrv.sk.form
 have hrn17:rn≤17:=by have:=hVL.2.2.1;omega
 have HWc:=aa (fun W (hW:Below w.heap.size w W)=>KI d (.slice RA rn rc) nv W ((hrv.below hW (ae _)).more hW.size) (by have:=hVL.2.2.1;omega) hVL.2.1)
 rw[hrn] at hwl
 have HR:=aa hr;have HM:=aa hM;have HRv:=aa hrv;have HN:=aa hrn;have HWl:=aa hwl;have HVL:=aa hVL
 simp only[ptr]
 clear hr hM hrv hrn hwl hVL hv
 go_enter func48,ntmps48
 go_upto_region 1 with (fail)
 refine AJ ?_
 intro W1 ⟨hBW,hxW⟩
 obtain⟨x0,x1,x2,x3,x4,x5⟩:=iq hxW
 have HBW:=aa hBW;have HxW:=aa hxW
 clear hBW hxW
 go_wp2_with first
  |(go_at_call 146
    refine(HWc.out W1 HBW.out).mono ?_
    rintro e w2 ⟨v,rfl,hW2,hb2⟩
    obtain⟨A2,c2,rfl⟩:=hW2.form
    have HW2:=aa hW2;have HB2:=aa hb2
    rw[HWl.out]
    clear hW2 hb2)
 go_loopw [14] (fun i wr=> ∃k:Nat,k≤rn∧i= .int .i64 k∧fv t d 0 d.refs=fv t d k (d.refs.drop k)∧Below w2.heap.size w2 wr) (fun i _=>rn - (intOf i).toNat)
 case atStart=>exact⟨0,aY _,rfl,rfl,B0 _⟩
 case round=>
  obtain⟨k,hk,rfl,hre,hBk⟩:=hrel
  have HRe:=aa hre;have HBk:=aa hBk
  clear hre hBk
  have HBr:Hid (Below W1.heap.size W1 wr):=ag HB2.out HBk.out
  have HBrw:Hid (Below w.heap.size w wr):=ag HBW.out HBr.out
  have HXr:=aa (ah HxW.out HBr.out)
  have x0:wr.cell? ⟨w.heap.size,0,none⟩=some (.int .i64 d.kind):=af HXr.out rfl
  have c2:wr.cell? ⟨w.heap.size,2,none⟩=some (.slice RA rn rc):=af HXr.out rfl
  have c0:wr.cell? ⟨rb,0,none⟩=some (.map (some Mb)):=(HBrw.out.cell (p:=⟨rb,0,none⟩) hzr).trans HR.out
  have HMr:=aa (HM.out.later HBrw.out)
  by_cases hlt:k<rn
  ·have hI1:(0:Int)≤k:=by omega
   have hI2:(k:Int)<rn:=by omega
   obtain⟨s,hs⟩: ∃s,d.refs[k]? =some s:=⟨_,List.getElem?_eq_getElem (by rw[HN.out];exact hlt)⟩
   have hdrop:d.refs.drop k=s::d.refs.drop (k+1):=kN hs
   rw[hdrop] at HRe
   obtain⟨sb,so,rfl,hsb,hcs⟩:=aI.cell HRv.out hs
   have cs:wr.cell? ⟨sb,so+k,none⟩=some (.string (bs s)):=(HBrw.out.cell (p:=⟨sb,so+k,none⟩) hsb).trans hcs
   obtain⟨o,ho,hwb⟩:=HWg.out k (by rw[HN.out];exact hlt)
   have HWb:=aa hwb
   obtain⟨us,hown,hall⟩:=HW2.out
   obtain⟨u,hu⟩: ∃u,us[k]? =some u:=⟨_,List.getElem?_eq_getElem (by rw[hown.1,HWl.out];omega)⟩
   have hwv:=hall k u o hu ho
   obtain⟨A',c',he,_,_,hc'⟩:=Sl.of_own hown
   have hul:us.length=rn:=by rw[hown.1,HWl.out];omega
   rw[hul] at he
   injection he with he1 he2 he3
   subst he1 he3
   obtain⟨gb,go,rfl,hgb,hcg⟩:=hc' (fun e=>by rw[e] at hu;simp at hu)
   have cg:wr.cell? ⟨gb,go+k,none⟩=some u:=(HBk.out.cell (p:=⟨gb,go+k,none⟩) hgb).trans (hcg k u hu)
   clear hs hdrop hsb hcs ho hwb hall hu hc' hcg hul hown
   cases hlk:dR t s with
   |none=>
    have HLk:=aa (show dr t s=none by unfold dr;rw[hlk];rfl)
    have HE:=aa (AM (HRe.out.trans (KM hlk)) (by decide))
    clear hlk
    go_upto_region 4 with (fail)
    refine nV fun hS=> ?_
    iterate 9 refine gP 16 20 ?_
    refine lJ (i:=9) (v:= .tuple #[.agg #[.int .i64 0,.int .i64 0],.bool false]) (some 29) rfl rfl rfl (by kernel_rfl) (by kernel_rfl) (by kernel_rfl) (by kernel_rfl) (fun _ _ _ h=>h) (Or.inl ⟨by rfl,?_⟩) hS ?_
    ·intro wq hSw
     try dsimp only at hSw
     have h:=fL (P:=prog) underlying99 underlying9 j7 hSw.2.2.2.1 s true (zeroValue178 _)
     rw[HLk.out] at h
     have hk1:(Instr.lookup 99 (.map (some Mb)) (.string (bs s)) true).run prog wq= .ok (.tuple #[.agg #[.int .i64 0,.int .i64 0],.bool false]) wq:=h
     clear h
     go_simp
     try with_reducible rfl
    refine ak ?_
    refine cj 10 19 ?_
    iterate 2 refine gP 16 19 ?_
    refine cP 13 fun K hK=> ?_
    go_simp
    refine jd fun hS=> ?_
    clear hK
    refine ak ?_
    refine cP 14 fun K hK=> ?_
    go_simp
    refine jd fun hS=> ?_
    clear hK
    refine ak ?_
    refine cj 15 8 ?_
    refine eP ?_
    go_wp2_with fail
    go_ret
    exact⟨by rw[HE.out];rfl,ag HBrw.out hS.2.2.2.2⟩
   |some x=>
    obtain⟨xa,xn⟩:=x
    have HLk:=aa (show dr t s=some (pH (xa,xn)) by unfold dr;rw[hlk];rfl)
    have HE7:=aa (fun h=>AM (HRe.out.trans (KN (i:=k) (d:=d) (r:=d.refs.drop (k+1)) hlk h)) (by decide))
    have HEo:=aa (fun h=>HRe.out.trans (KO (i:=k) (d:=d) (r:=d.refs.drop (k+1)) hlk h))
    clear hlk
    obtain⟨bl,hbl⟩: ∃b,lr d k xa=b:=⟨_,rfl⟩
    have HBl:=aa ((HWb.out xa).trans hbl)
    rw[hbl] at HE7 HEo
    clear hbl
    cases o with
    |none=>
     have hu0:u= .func (.func 225) #[] #[]:=hwv
     subst hu0
     clear hwv
     have HBl:Hid (decide (bM xa=5)=bl):=HBl.out
     cases bl with
     |false=>
      have HE:=aa (HE7.out rfl)
      clear HE7 HEo
      go_upto_region 4 with (fail)
      refine nV fun hS=> ?_
      iterate 9 refine gP 16 20 ?_
      refine lJ (i:=9) (v:= .tuple #[.agg #[.int .i64 (xa:Nat),.int .i64 (xn:Nat)],.bool true]) (some 29) rfl rfl rfl (by kernel_rfl) (by kernel_rfl) (by kernel_rfl) (by kernel_rfl) (fun _ _ _ h=>h) (Or.inl ⟨by rfl,?_⟩) hS ?_
      ·exact pW
      refine ak ?_
      refine cj 10 19 ?_
      iterate 2 refine gP 16 19 ?_
      refine cP 13 fun K hK=> ?_
      go_simp
      refine jd fun hS=> ?_
      clear hK
      refine ak ?_
      refine cP 14 fun K hK=> ?_
      go_simp
      refine jd fun hS=> ?_
      clear hK
      refine ak ?_
      refine cj 15 8 ?_
      refine eP ?_
      go_wp2_with first
       |(go_at_call 225
         refine(zL xa _).mono ?_
         rintro e w5 ⟨rfl,hb5⟩
         rw[HBl.out]
         have HB5:=aa (ag hS.2.2.2.2 hb5)
         clear hb5)
      go_ret
      exact⟨by rw[HE.out];rfl,ag HBrw.out HB5.out⟩
     |true=>
      have HE:=aa (HEo.out rfl)
      clear HE7 HEo
      go_upto_region 4 with (fail)
      refine nV fun hS=> ?_
      iterate 9 refine gP 16 20 ?_
      refine lJ (i:=9) (v:= .tuple #[.agg #[.int .i64 (xa:Nat),.int .i64 (xn:Nat)],.bool true]) (some 29) rfl rfl rfl (by kernel_rfl) (by kernel_rfl) (by kernel_rfl) (by kernel_rfl) (fun _ _ _ h=>h) (Or.inl ⟨by rfl,?_⟩) hS ?_
      ·exact pW
      refine ak ?_
      refine cj 10 19 ?_
      iterate 2 refine gP 16 19 ?_
      refine cP 13 fun K hK=> ?_
      go_simp
      refine jd fun hS=> ?_
      clear hK
      refine ak ?_
      refine cP 14 fun K hK=> ?_
      go_simp
      refine jd fun hS=> ?_
      clear hK
      refine ak ?_
      refine cj 15 8 ?_
      refine eP ?_
      go_wp2_with first
       |(go_at_call 225
         refine(zL xa _).mono ?_
         rintro e w5 ⟨rfl,hb5⟩
         rw[HBl.out]
         have HB5:=aa (ag hS.2.2.2.2 hb5)
         clear hb5)
      exact⟨⟨k+1,by omega,by go_num,HE.out,ag HBk.out HB5.out⟩,by simp[intOf];omega⟩
    |some j=>
     obtain⟨xb,rfl,hxb⟩:=hwv
     have hxw:=ah hxb HBk.out
     have HXB:=aa hxw
     simp only[ptr] at cg
     clear hxb hxw
     have HBl:Hid (decide (xa=j)=bl):=HBl.out
     cases bl with
     |false=>
      have HE:=aa (HE7.out rfl)
      clear HE7 HEo
      go_upto_region 4 with (fail)
      refine nV fun hS=> ?_
      iterate 9 refine gP 16 20 ?_
      refine lJ (i:=9) (v:= .tuple #[.agg #[.int .i64 (xa:Nat),.int .i64 (xn:Nat)],.bool true]) (some 29) rfl rfl rfl (by kernel_rfl) (by kernel_rfl) (by kernel_rfl) (by kernel_rfl) (fun _ _ _ h=>h) (Or.inl ⟨by rfl,?_⟩) hS ?_
      ·exact pW
      refine ak ?_
      refine cj 10 19 ?_
      iterate 2 refine gP 16 19 ?_
      refine cP 13 fun K hK=> ?_
      go_simp
      refine jd fun hS=> ?_
      clear hK
      refine ak ?_
      refine cP 14 fun K hK=> ?_
      go_simp
      refine jd fun hS=> ?_
      clear hK
      refine ak ?_
      refine cj 15 8 ?_
      refine eP ?_
      go_wp2_with first
       |(go_at_call 318
         refine(zK xb j xa _ (ah HXB.out hS.2.2.2.2)).mono ?_
         rintro e w5 ⟨rfl,hb5⟩
         rw[HBl.out]
         have HB5:=aa (ag hS.2.2.2.2 hb5)
         clear hb5)
      go_ret
      exact⟨by rw[HE.out];rfl,ag HBrw.out HB5.out⟩
     |true=>
      have HE:=aa (HEo.out rfl)
      clear HE7 HEo
      go_upto_region 4 with (fail)
      refine nV fun hS=> ?_
      iterate 9 refine gP 16 20 ?_
      refine lJ (i:=9) (v:= .tuple #[.agg #[.int .i64 (xa:Nat),.int .i64 (xn:Nat)],.bool true]) (some 29) rfl rfl rfl (by kernel_rfl) (by kernel_rfl) (by kernel_rfl) (by kernel_rfl) (fun _ _ _ h=>h) (Or.inl ⟨by rfl,?_⟩) hS ?_
      ·exact pW
      refine ak ?_
      refine cj 10 19 ?_
      iterate 2 refine gP 16 19 ?_
      refine cP 13 fun K hK=> ?_
      go_simp
      refine jd fun hS=> ?_
      clear hK
      refine ak ?_
      refine cP 14 fun K hK=> ?_
      go_simp
      refine jd fun hS=> ?_
      clear hK
      refine ak ?_
      refine cj 15 8 ?_
      refine eP ?_
      go_wp2_with first
       |(go_at_call 318
         refine(zK xb j xa _ (ah HXB.out hS.2.2.2.2)).mono ?_
         rintro e w5 ⟨rfl,hb5⟩
         rw[HBl.out]
         have HB5:=aa (ag hS.2.2.2.2 hb5)
         clear hb5)
      exact⟨⟨k+1,by omega,by go_num,HE.out,ag HBk.out HB5.out⟩,by simp[intOf];omega⟩
  ·have hI: ¬(k:Int)<rn:=by omega
   have HR0:=aa (show fv t d 0 d.refs=0 by
    have h:=HRe.out
    rw[List.drop_eq_nil_of_le (by rw[HN.out];omega)] at h
    exact h)
   clear HRe
   go_upto_region 10 with (fail)
   go_cut [9] from 42 to 86 (fun p wx=>aI wx wx.heap.size p (eh d)∧Below wr.heap.size wr wx)
   case first=>
    rcases Nat.eq_zero_or_pos rn with h0|h0
    ·subst h0
     have hmin:min (1:Int) 0=0:=by decide
     have HL:=aa (show ∀(q:Value) W,Below wr.heap.size wr W→aI W W.heap.size (jG (.slice RA 0 rc) q d.kind) (eh d) from fun q W hW=>by
      have h13: ¬d.kind=13:=fun e=>by have:=HVL.out.2.2.2.2.2.2.2.2.2.2.2.1 e;have:=HN.out;omega
      exact AO h13 HRv.out (ag HBrw.out hW))
     refine bP (S:=fun w'=>w'.cell? ⟨w.heap.size,0,none⟩=some (.int .i64 d.kind)∧w'.cell? ⟨w.heap.size,2,none⟩=some (.slice RA 0 rc)∧Below wr.heap.size wr w') 20 20 (by exact⟨x0,c2,au (B0 wr)⟩) fun hS=> ?_
     exact AU
    ·obtain⟨s0,hs0⟩: ∃s,d.refs[0]? =some s:=⟨_,List.getElem?_eq_getElem (by rw[HN.out];exact h0)⟩
     obtain⟨sb,so,rfl,hsb,hcs⟩:=aI.cell HRv.out hs0
     have hmin:min (1:Int) (rn:Int)=1:=by omega
     have hI0:(1:Int)≤(rn:Int):=by omega
     by_cases hrc1:rc=1
     ·subst hrc1
      have HL:=aa (show ∀(q:Value) W,Below wr.heap.size wr W→aI W W.heap.size (jG (.slice (some ⟨sb,so,none⟩) rn 1) q d.kind) (eh d) from fun q W hW=>by
       have h13: ¬d.kind=13:=fun e=>by have:=HVL.out.2.2.2.2.2.2.2.2.2.2.2.1 e;have:=HN.out;omega
       exact AO h13 HRv.out (ag HBrw.out hW))
      refine bP (S:=fun w'=>w'.cell? ⟨w.heap.size,0,none⟩=some (.int .i64 d.kind)∧w'.cell? ⟨w.heap.size,2,none⟩=some (.slice (some ⟨sb,so,none⟩) rn 1)∧Below wr.heap.size wr w') 20 20 (by exact⟨x0,c2,au (B0 wr)⟩) fun hS=> ?_
      exact AU
     ·have HL:=aa (show ∀W,Below wr.heap.size wr W→aI W W.heap.size (jG (.slice (some ⟨sb,so,none⟩) rn rc) (.slice (some ⟨sb,so+1,none⟩) (rn - 1) (rc - 1)) d.kind) (eh d) from fun W hW=>K7 h0 HN.out HRv.out (ag HBrw.out hW))
      refine bP (S:=fun w'=>w'.cell? ⟨w.heap.size,0,none⟩=some (.int .i64 d.kind)∧w'.cell? ⟨w.heap.size,2,none⟩=some (.slice (some ⟨sb,so,none⟩) rn rc)∧Below wr.heap.size wr w') 20 20 (by exact⟨x0,c2,au (B0 wr)⟩) fun hS=> ?_
      iterate 2 refine gP 21 42 ?_
      iterate 2 refine gP 22 41 ?_
      iterate 7 refine gP 23 40 ?_
      iterate 2 refine gP 25 39 ?_
      refine cP 0 fun K hK=> ?_
      refine AN (enc:=cC) rfl 186 rfl ?_
      intro w0 hF0 hB0'
      have hB0:Below wr.heap.size wr w0:=ag (au (B0 wr)) hB0'
      clear hB0'
      refine hK.out _ _ (by exact⟨kc (hB0) x0,kc (hB0) c2,hB0⟩) (fun hS=> ?_)
      clear hK
      refine ak ?_
      refine iU (rs:=[3,6,14]) (by kernel_rfl) (by simp) ?_
      refine bR.cons1 rfl (fun K hK=> ?_) (bR.cons1 rfl (fun K hK=> ?_) (bR.cons1 rfl (fun K hK=> ?_) (bR.nil)))
      ·refine eU rfl (.tmp 42) (.const (.int .i64 5)) (.tmp 44) 186 (.inr rfl) 3 22 (.int .i64) underlying186 underlying3 aO _ _ rfl hF0 (5:Int) _ rfl rfl ?_
       intro wa hFa hTa
       have hBa:=hTa.1 _ _ hB0 (ae _)
       clear hTa hF0
       refine me fun hS=> ?_
       clear hK
       refine ak ?_
       refine iU (rs:=[6,14]) (by kernel_rfl) (by simp) ?_
       refine bR.cons1 rfl (fun K hK=> ?_) (bR.cons1 rfl (fun K hK=> ?_) (bR.nil))
       ·refine eU rfl (.tmp 42) (.const (.int .i64 6)) (.tmp 46) 186 (.inr rfl) 3 22 (.int .i64) underlying186 underlying3 aO _ _ rfl hFa (6:Int) _ rfl rfl ?_
        intro wb hFb hTb
        have hBb:=hTb.1 _ _ hBa (ae _)
        clear hTb hFa
        refine ii fun hS=> ?_
        clear hK
        refine ak ?_
        refine cP 14 fun K hK=> ?_
        refine pX ?_
        intro wc hFc hTc
        have hBc:=hTc.1 _ _ hBb (ae _)
        clear hTc hFb
        refine dt fun hS=> ?_
        clear hK
        refine ak ?_
        refine cP 15 fun K hK=> ?_
        go_simp
        refine dt fun hS=> ?_
        clear hK
        refine ak ?_
        refine cP 18 fun K hK=> ?_
        refine AV ?_
        exact mf
       ·refine eU rfl (.tmp 42) (.const (.int .i64 13)) (.tmp 53) 186 (.inr rfl) 3 22 (.int .i64) underlying186 underlying3 aO _ _ rfl hFa (13:Int) _ rfl rfl ?_
        intro wb hFb hTb
        have hBb:=hTb.1 _ _ hBa (ae _)
        clear hTb hFa
        refine ii fun hS=> ?_
        clear hK
        refine ak ?_
        refine cP 6 fun K hK=> ?_
        refine pY ?_
        intro wc hFc hTc
        have hBc:=hTc.1 _ _ hBb (ae _)
        clear hTc hFb
        refine dt fun hS=> ?_
        clear hK
        refine ak ?_
        refine cP 15 fun K hK=> ?_
        go_simp
        refine dt fun hS=> ?_
        clear hK
        refine ak ?_
        refine cP 18 fun K hK=> ?_
        refine AW ?_
        exact mf
      ·refine eU rfl (.tmp 42) (.const (.int .i64 6)) (.tmp 46) 186 (.inr rfl) 3 22 (.int .i64) underlying186 underlying3 aO _ _ rfl hF0 (6:Int) _ rfl rfl ?_
       intro wa hFa hTa
       have hBa:=hTa.1 _ _ hB0 (ae _)
       clear hTa hF0
       refine me fun hS=> ?_
       clear hK
       refine ak ?_
       refine iU (rs:=[3,14]) (by kernel_rfl) (by simp) ?_
       refine bR.cons1 rfl (fun K hK=> ?_) (bR.cons1 rfl (fun K hK=> ?_) (bR.nil))
       ·refine eU rfl (.tmp 42) (.const (.int .i64 5)) (.tmp 44) 186 (.inr rfl) 3 22 (.int .i64) underlying186 underlying3 aO _ _ rfl hFa (5:Int) _ rfl rfl ?_
        intro wb hFb hTb
        have hBb:=hTb.1 _ _ hBa (ae _)
        clear hTb hFa
        refine ii fun hS=> ?_
        clear hK
        refine ak ?_
        refine cP 14 fun K hK=> ?_
        refine pX ?_
        intro wc hFc hTc
        have hBc:=hTc.1 _ _ hBb (ae _)
        clear hTc hFb
        refine dt fun hS=> ?_
        clear hK
        refine ak ?_
        refine cP 15 fun K hK=> ?_
        go_simp
        refine dt fun hS=> ?_
        clear hK
        refine ak ?_
        refine cP 18 fun K hK=> ?_
        refine AX ?_
        exact mf
       ·refine eU rfl (.tmp 42) (.const (.int .i64 13)) (.tmp 53) 186 (.inr rfl) 3 22 (.int .i64) underlying186 underlying3 aO _ _ rfl hFa (13:Int) _ rfl rfl ?_
        intro wb hFb hTb
        have hBb:=hTb.1 _ _ hBa (ae _)
        clear hTb hFa
        refine ii fun hS=> ?_
        clear hK
        refine ak ?_
        refine cP 3 fun K hK=> ?_
        refine pZ ?_
        intro wc hFc hTc
        have hBc:=hTc.1 _ _ hBb (ae _)
        clear hTc hFb
        refine dt fun hS=> ?_
        clear hK
        refine ak ?_
        refine cP 15 fun K hK=> ?_
        go_simp
        refine dt fun hS=> ?_
        clear hK
        refine ak ?_
        refine cP 18 fun K hK=> ?_
        refine AY ?_
        exact mf
      ·refine eU rfl (.tmp 42) (.const (.int .i64 13)) (.tmp 53) 186 (.inr rfl) 3 22 (.int .i64) underlying186 underlying3 aO _ _ rfl hF0 (13:Int) _ rfl rfl ?_
       intro wa hFa hTa
       have hBa:=hTa.1 _ _ hB0 (ae _)
       clear hTa hF0
       refine me fun hS=> ?_
       clear hK
       refine ak ?_
       refine iU (rs:=[3,6]) (by kernel_rfl) (by simp) ?_
       refine bR.cons1 rfl (fun K hK=> ?_) (bR.cons1 rfl (fun K hK=> ?_) (bR.nil))
       ·refine eU rfl (.tmp 42) (.const (.int .i64 5)) (.tmp 44) 186 (.inr rfl) 3 22 (.int .i64) underlying186 underlying3 aO _ _ rfl hFa (5:Int) _ rfl rfl ?_
        intro wb hFb hTb
        have hBb:=hTb.1 _ _ hBa (ae _)
        clear hTb hFa
        refine ii fun hS=> ?_
        clear hK
        refine ak ?_
        refine cP 6 fun K hK=> ?_
        refine pY ?_
        intro wc hFc hTc
        have hBc:=hTc.1 _ _ hBb (ae _)
        clear hTc hFb
        refine dt fun hS=> ?_
        clear hK
        refine ak ?_
        refine cP 15 fun K hK=> ?_
        go_simp
        refine dt fun hS=> ?_
        clear hK
        refine ak ?_
        refine cP 18 fun K hK=> ?_
        refine AZ ?_
        exact mf
       ·refine eU rfl (.tmp 42) (.const (.int .i64 6)) (.tmp 46) 186 (.inr rfl) 3 22 (.int .i64) underlying186 underlying3 aO _ _ rfl hFa (6:Int) _ rfl rfl ?_
        intro wb hFb hTb
        have hBb:=hTb.1 _ _ hBa (ae _)
        clear hTb hFa
        refine ii fun hS=> ?_
        clear hK
        refine ak ?_
        refine cP 3 fun K hK=> ?_
        refine pZ ?_
        intro wc hFc hTc
        have hBc:=hTc.1 _ _ hBb (ae _)
        clear hTc hFb
        refine dt fun hS=> ?_
        clear hK
        refine ak ?_
        refine cP 15 fun K hK=> ?_
        go_simp
        refine dt fun hS=> ?_
        clear hK
        refine ak ?_
        refine cP 18 fun K hK=> ?_
        refine A0 ?_
        exact mf
   case rest=>
   obtain⟨hLs,hBx⟩:=hcut
   obtain⟨LA,ln,lc,rfl,hln,_,_⟩:=hLs.sk.form
   have hln17:ln≤17:=by have:=K9 d;have:=HN.out;omega
   have HBx:=aa hBx
   have HBxw:Hid (Below w.heap.size w wc):=ag HBrw.out hBx
   have HXc:=aa (ah HXr.out hBx)
   have HSo:=aa (fun W Bs (h1:Bs<W.heap.size) (h2:W.cell? ⟨Bs,0,none⟩=some (.slice LA ln lc)) (h3:aI W W.heap.size (.slice LA ln lc) (eh d))=>Ki Bs (.slice LA ln lc) ((eh d).map bs) (by rw[List.length_map];omega) W h1 h2 h3)
   rw[K8,List.length_map,hln] at HSo
   have HCs:=aa (Kn (eh d))
   have hml:((eh d).mergeSort fun x y=>decide (x≤y)).length=ln:=by rw[List.length_mergeSort,hln]
   rw[hln] at HCs
   have HML:=aa hml
   generalize ((eh d).mergeSort fun x y=>decide (x≤y))=ms at HSo HCs HML hml
   have HCp:=aa (fun B v W (h:W.ownsRow B 9 1 v ln (ms.map Go.Proofs.encStr))=>Lb B v ms W (by rw[HML.out];exact h) (by omega))
   have HLs:=aa hLs
   clear hLs hBx hml hln x0 c2 c0
   generalize (Lib.compact ms).length=cl at HCs HCp
   by_cases hnd:(eh d).Nodup
   ·have hclt: ¬(cl:Int)<(ln:Int):=fun h=>(HCs.out.1 (by omega)) hnd
    have HE2:=aa (fun h=>KR HR0.out hnd h)
    have HE0:=aa (fun h=>KS HR0.out hnd h)
    by_cases h4:d.kind=4∨d.kind=14
    ·have hrn2:rn=2:=by
      have:=HN.out
      rcases h4 with h4|h4
      ·have:=(HVL.out.2.2.2.2.2.2.1 h4).1;omega
      ·have:=HVL.out.2.2.2.2.2.2.2.2.2.2.2.2.1 h4;omega
     subst hrn2
     obtain⟨s0,hs0⟩: ∃s,d.refs[0]? =some s:=⟨_,List.getElem?_eq_getElem (by rw[HN.out];decide)⟩
     obtain⟨s1,hs1⟩: ∃s,d.refs[1]? =some s:=⟨_,List.getElem?_eq_getElem (by rw[HN.out];decide)⟩
     obtain⟨sb,so,rfl,hsb,hcs0⟩:=aI.cell HRv.out hs0
     have hcs1:w.cell? ⟨sb,so+1,none⟩=some (.string (bs s1)):=by
      obtain⟨b,o,e,_,h⟩:=aI.cell HRv.out hs1
      injection e with e;injection e with e1 e2;subst e1 e2;exact h
     rw[Nat.add_zero] at hcs0
     have HS0:=aa hcs0;have HS1:=aa hcs1
     have HEe:=aa (show ∀b:Bool,decide (s0=s1)=b→ez t d=if b then 2 else 0 from fun b hb=>by
      subst hb
      by_cases he:s0=s1
      ·rw[HE2.out ⟨h4,by rw[hs0,hs1,he]⟩];simp[he]
      ·rw[HE0.out (fun h=>he (by have:=h.2;rw[hs0,hs1] at this;injection this))];simp[he])
     clear hcs0 hcs1 hs0 hs1 HE2 HE0
     obtain⟨be,hbe⟩: ∃b,decide (s0=s1)=b:=⟨_,rfl⟩
     have HE:=aa (HEe.out be hbe)
     have HBe:=aa hbe
     clear HEe hbe
     by_cases h40:d.kind=4
     ·have e4:((d.kind:Int)==4)=true:=by simp;omega
      clear h4
      go_upto_region 14 with (first
       |(go_at_call 148
         refine(pP LA ln lc _).mono ?_
         rintro e w6 ⟨rfl,rfl⟩
         simp only[az,ptr])
       |(go_at_call 147
         refine p7 ?_
         rintro e w7 ⟨v7,rfl,ho7,hb7⟩
         have HC7:=aa (HCp.out _ _ _ ho7)
         obtain⟨SA,sn,sc7,rfl⟩:=bT ho7
         have HB7:Hid (Below wc.heap.size wc w7):=ag (ac (B0 wc) _) hb7
         clear ho7 hb7)
       |(go_at_call 149
         refine HC7.out.mono ?_
         rintro e w8 ⟨CA,cc,rfl,hb8⟩
         have HB8:Hid (Below wc.heap.size wc w8):=HB7.out.trans (hb8.mono (by simp))
         clear hb8))
      refine A8 fun hx8 y0 y2 ys0 ys1=> ?_
      clear hx8
      have hq:((bs s0).toList==(bs s1).toList)=be:=by rw[cD,cD,bL,bL,←HBe.out,Bool.eq_iff_iff];simp
      refine A9 fun hS=> ?_
      iterate 4 refine gP 19 67 ?_
      iterate 3 refine kP 19 67 ?_
      iterate 12 refine gP 19 67 ?_
      refine eP ?_
      cases be with
      |false=>
       exact nW
      |true=>
       exact nW
     ·have e4:((d.kind:Int)==4)=false:=by simp;omega
      have e14:((d.kind:Int)==14)=true:=by simp;omega
      clear h4
      go_upto_region 14 with (first
       |(go_at_call 148
         refine(pP LA ln lc _).mono ?_
         rintro e w6 ⟨rfl,rfl⟩
         simp only[az,ptr])
       |(go_at_call 147
         refine p7 ?_
         rintro e w7 ⟨v7,rfl,ho7,hb7⟩
         have HC7:=aa (HCp.out _ _ _ ho7)
         obtain⟨SA,sn,sc7,rfl⟩:=bT ho7
         have HB7:Hid (Below wc.heap.size wc w7):=ag (ac (B0 wc) _) hb7
         clear ho7 hb7)
       |(go_at_call 149
         refine HC7.out.mono ?_
         rintro e w8 ⟨CA,cc,rfl,hb8⟩
         have HB8:Hid (Below wc.heap.size wc w8):=HB7.out.trans (hb8.mono (by simp))
         clear hb8))
      refine A8 fun hx8 y0 y2 ys0 ys1=> ?_
      clear hx8
      have hq:((bs s0).toList==(bs s1).toList)=be:=by rw[cD,cD,bL,bL,←HBe.out,Bool.eq_iff_iff];simp
      refine A9 fun hS=> ?_
      iterate 19 refine gP 19 67 ?_
      refine eP ?_
      cases be with
      |false=>
       exact nW
      |true=>
       exact nW
    ·have e4:((d.kind:Int)==4)=false:=by simp;omega
     have e14:((d.kind:Int)==14)=false:=by simp;omega
     have HE:=aa (HE0.out (fun h=>h4 h.1))
     clear h4
     go_upto_region 14 with (first
      |(go_at_call 148
        refine(pP LA ln lc _).mono ?_
        rintro e w6 ⟨rfl,rfl⟩
        simp only[az,ptr])
      |(go_at_call 147
        refine p7 ?_
        rintro e w7 ⟨v7,rfl,ho7,hb7⟩
        have HC7:=aa (HCp.out _ _ _ ho7)
        obtain⟨SA,sn,sc7,rfl⟩:=bT ho7
        have HB7:Hid (Below wc.heap.size wc w7):=ag (ac (B0 wc) _) hb7
        clear ho7 hb7)
      |(go_at_call 149
        refine HC7.out.mono ?_
        rintro e w8 ⟨CA,cc,rfl,hb8⟩
        have HB8:Hid (Below wc.heap.size wc w8):=HB7.out.trans (hb8.mono (by simp))
        clear hb8))
     have y0:w8.cell? ⟨w.heap.size,0,none⟩=some (.int .i64 d.kind):=af (ah HXc.out HB8.out) rfl
     refine bP (S:=fun w'=>w'.cell? ⟨w.heap.size,0,none⟩=some (.int .i64 d.kind)) 19 19 (by exact y0) fun hS=> ?_
     iterate 9 refine gP 19 67 ?_
     iterate 9 refine kP 19 67 ?_
     refine cj 18 85 ?_
     refine eP ?_
     exact nW
   ·have hclt:(cl:Int)<(ln:Int):=by have:=HCs.out.2 hnd;omega
    have HE:=aa (KQ HR0.out hnd)
    go_wp2_with first
     |(go_at_call 148
       refine(pP LA ln lc _).mono ?_
       rintro e w6 ⟨rfl,rfl⟩
       simp only[az,ptr])
     |(go_at_call 147
       refine p7 ?_
       rintro e w7 ⟨v7,rfl,ho7,hb7⟩
       have HC7:=aa (HCp.out _ _ _ ho7)
       obtain⟨SA,sn,sc7,rfl⟩:=bT ho7
       have HB7:Hid (Below wc.heap.size wc w7):=ag (ac (B0 wc) _) hb7
       clear ho7 hb7)
     |(go_at_call 149
       refine HC7.out.mono ?_
       rintro e w8 ⟨CA,cc,rfl,hb8⟩
       have HB8:Hid (Below wc.heap.size wc w8):=HB7.out.trans (hb8.mono (by simp))
       clear hb8)
    go_ret
    exact⟨by rw[HE.out];rfl,ag HBxw.out HB8.out⟩
end
section
open Go Tryz
section
variable {P:Program} {ops:Array Oper} {Q:Exit→Act→World→Prop} {md:Region.Mode} {S:World→Prop} {N:Nat}
def nX (md:Region.Mode) (ops:Array Oper):Nat→Nat→Nat→Bool
 |0,_,_=>false
 |n+1,j,i=>ch md ops j i||(List.range ops.size).any fun k=>ch md ops j k&&nX md ops n k i
def p8 (md:Region.Mode) (ops:Array Oper) (listed:Array Bool):Bool:=
 (List.range ops.size).all fun j=> !listed.getD j true||(List.range ops.size).all fun i=> !ch md ops j i||listed.getD i true
def mg (md:Region.Mode) (ops:Array Oper) (listed:Array Bool):Prop:= ∀j i,j<ops.size→i<ops.size→listed.getD j true=true→ch md ops j i=true→listed.getD i true=true
theorem LB {listed:Array Bool} (h:p8 md ops listed=true):mg md ops listed:=by
 intro j i hj hi hl hw
 have h1:=List.all_eq_true.1 h j (List.mem_range.2 hj)
 simp only[hl,Bool.not_true,Bool.false_or] at h1
 have h2:=List.all_eq_true.1 h1 i (List.mem_range.2 hi)
 simpa[hw] using h2
theorem Ba {listed:Array Bool} (hc:mg md ops listed): ∀(n j i:Nat),i<ops.size→(∀k,k<ops.size→ch md ops j k=true→listed.getD k true=true)→nX md ops n j i=true→listed.getD i true=true
 |0,_,_,_,_,h=>by cases h
 |n+1,j,i,hi,hj,h=>by
  rw[nX,Bool.or_eq_true] at h
  rcases h with h|h
  ·exact hj i hi h
  ·obtain⟨k,hk,h⟩:=List.any_eq_true.1 h
   rw[Bool.and_eq_true] at h
   have hk':=List.mem_range.1 hk
   exact Ba hc n k i hi (fun q hq hw=>hc k q hk' hq (hj k hk' h.1) hw) h.2
theorem Bb {listed:Array Bool} {j:Nat} (hj:j∈Region.ready md ops listed) (hs:listed.size=ops.size): ∀k,k<ops.size→ch md ops j k=true→listed.getD k true=true:=by
 intro k hk hw
 obtain⟨hl,o,ho,hdep⟩:=mem_ready.1 hj
 obtain⟨o',ho',e,he,hb,rfl⟩:=ry hw
 rw[ho] at ho'
 injection ho' with ho'
 subst ho'
 have h1:=hdep e he hb
 have hes:e.on<listed.size:=by omega
 simp[hes] at h1⊢
 exact h1
theorem mg.set {listed:Array Bool} {j:Nat} (hc:mg md ops listed) (hj:j∈Region.ready md ops listed) (hs:listed.size=ops.size):mg md ops (listed.setIfInBounds j true):=by
 intro a i ha hi hl hw
 by_cases e:i=j
 ·subst e
  exact ru
 ·rw[getD_set_ne true (fun h=>e h.symm)]
  by_cases e2:a=j
  ·subst e2;exact Bb hj hs i hi hw
  ·rw[getD_set_ne true (fun h=>e2 h.symm)] at hl
   exact hc a i ha hi hl hw
def nY (md:Region.Mode) (ops:Array Oper) (N i:Nat):Bool:=(List.range ops.size).all fun j=>decide (j<N)||nX md ops ops.size j i
theorem LC {i j:Nat} (h:nY md ops N i=true) (hj:j<ops.size) (hn:N≤j):nX md ops ops.size j i=true:=by
 exact xu
theorem LD {i:Nat} {oi:Oper} {v:Value} (hi:ops[i]? =some oi) (hiN:i<N) (hsel: ∀(j:Nat) (o:Oper) cs b,ops[j]? =some o→o.op≠ .select cs b) (hlate:nY md ops N i=true)
 (hQ: ∀c a w,Q (.panic c) (a.put oi.dst v) w→Q (.panic c) a w):
 ∀(fuel:Nat) (listed:Array Bool) (a:Act) (w:World),listed.size=ops.size→mg md ops listed→
  (∀j oj,ops[j]? =some oj→j≠i→listed.getD j true=false→(∀e∈oj.after,Region.binds md e=true→e.on≠i)→oi.apart ops oj=true)→
  i∈Region.ready md ops listed→YieldsIf P ops S oi v a→S w→
  bX P md ops Q S N fuel (listed.setIfInBounds i true) (a.put oi.dst v) w→bX P md ops Q S N (fuel+1) listed a w:=by
 intro fuel
 induction fuel with
 |zero=>
  intro listed a w hsz hcl _ hr hy hS H
  exact xw
 |succ fuel ih=>
  intro listed a w hsz hcl hfree hr hy hS H
  refine⟨fun h=>(by rw[h] at hr;cases hr),fun j hj=> ?_⟩
  by_cases hji:j=i
  ·subst hji;exact hy.wpOp hi hS ⟨fun _=>hS,H⟩
  ·have h1:=H.2 j (ready_mono hj hji)
   obtain⟨hjun,oj,hoj,hall⟩:=mem_ready.1 hj
   have hnot: ∀e∈oj.after,Region.binds md e=true→e.on≠i:=fun e he hb heq=>by
    exact xx
   have hjN:j<N:=by
    rcases Nat.lt_or_ge j N with h|h
    ·exact h
    ·have:=Ba hcl _ j i (Array.getElem?_eq_some_iff.1 hi).1 (Bb hj hsz) (LC hlate (Array.getElem?_eq_some_iff.1 hoj).1 h)
     rw[(mem_ready.1 hr).1] at this
     cases this
   have h2:=wpOp_putIf hoj (hfree j oj hoj hji hjun hnot) (fun cs b=>hsel i oi cs b hi) (fun cs b=>hsel j oj cs b hoj) hQ hy h1
   have hfree': ∀k ok,ops[k]? =some ok→k≠i→(listed.setIfInBounds j true).getD k true=false→
    (∀e∈ok.after,Region.binds md e=true→e.on≠i)→oi.apart ops ok=true:=fun k ok hk hki hun hno=>by
    refine hfree k ok hk hki ?_ hno
    by_cases hjk:j=k
    ·subst hjk;exact hjun
    ·rw[getD_set_ne true hjk] at hun;exact hun
   refine wpOp_mono (fun a' w' h3=>⟨h3.2.1,ih (listed.setIfInBounds j true) a' w' (by simp[hsz]) (hcl.set hj hsz) hfree' (ready_mono hr (Ne.symm hji)) h3.1 (h3.2.1 hjN) ?_⟩) h2
   rw[Array.setIfInBounds_comm _ _ hji]
   exact h3.2.2
theorem LG {i:Nat} {oi:Oper} {v:Value} {fuel:Nat} {listed:Array Bool} {a:Act} {w:World} (d:Option Tmp) (hi:ops[i]? =some oi) (hd:oi.dst=d) (hiN:decide (i<N)=true)
 (hs:Region.noSelect ops=true) (hf:Region.free md ops listed i=true) (hr:(Region.ready md ops listed).contains i=true) (hl:(nY md ops N i&&p8 md ops listed&&decide (listed.size=ops.size))=true)
 (hQ: ∀c a w,Q (.panic c) (a.put d v) w→Q (.panic c) a w) (hy:YieldsIf P ops S oi v a) (hS:S w)
 (h:bX P md ops Q S N fuel (listed.setIfInBounds i true) (a.put d v) w):bX P md ops Q S N (fuel+1) listed a w:=by
 subst hd
 simp only[Bool.and_eq_true,decide_eq_true_eq] at hl
 exact LD hi (of_decide_eq_true hiN) (Region.noSelect_spec hs) hl.1.1 hQ fuel listed a w hl.2 (LB hl.1.2) (Region.free_spec hi hf) (by simpa using hr) hy hS h
theorem tT (m s:Nat) {oi:Oper} {v:Value} {fuel:Nat} {listed:Array Bool} {a:Act} {w:World} (hi:ops[m - (fuel+1)]? =some oi) (hk:(eB md ops listed (m - (fuel+1)) (s+(m - (fuel+1)))&&(decide (m - (fuel+1)<N)&&(nY md ops N (m - (fuel+1))&&p8 md ops listed&&decide (listed.size=ops.size))))=true)
 (hQ: ∀c a w,Q (.panic c) (a.put (some (s+(m - (fuel+1)))) v) w→Q (.panic c) a w) (hy:YieldsIf P ops S oi v a) (hS:S w)
 (h:bX P md ops Q S N fuel (listed.setIfInBounds (m - (fuel+1)) true) (a.put (some (s+(m - (fuel+1)))) v) w):bX P md ops Q S N (fuel+1) listed a w:=by
 rw[Bool.and_eq_true,Bool.and_eq_true] at hk
 obtain⟨h1,h2,h3,hd⟩:=lC hk.1 hi
 exact LG _ hi hd hk.2.1 h1 h2 h3 hk.2.2 hQ hy hS h
theorem gT (m s:Nat) {oi:Oper} {v:Value} {fuel:Nat} {listed:Array Bool} {a:Act} {w:World} {p:Prop} (h:p) (hS:S w:=by exact hS)
 (hi:ops[m - (fuel+1)]? =some oi:=by rfl) (hk:(eB md ops listed (m - (fuel+1)) (s+(m - (fuel+1)))&&(decide ((m - (fuel+1))<N)&&(nY md ops N (m - (fuel+1))&&p8 md ops listed&&decide (listed.size=ops.size))))=true:=by kernel_rfl)
 (hQ: ∀c a w,Q (.panic c) (a.put (some (s+(m - (fuel+1)))) v) w→Q (.panic c) a w:=by exact fun _ _ _ h=>h) (hy:YieldsIf P ops S oi v a:=by(refine Or.inl ⟨by rfl,?_⟩;intro w hSw;(try have hSw:=HSB.out w hSw);(try dsimp only at hSw);go_simp;try with_reducible rfl))
 (hn:p→bX P md ops Q S N fuel (listed.setIfInBounds (m - (fuel+1)) true) (a.put (some (s+(m - (fuel+1)))) v) w:=by(intro hq;simp only[Act.put,sA,sZ,sS,Nat.reduceSub,Nat.reduceAdd];exact hq)):bX P md ops Q S N (fuel+1) listed a w:=
 tT m s hi hk hQ hy hS (hn h)
end
end
end Go.Proofs.YthnkonlbfogkgaaGreatDoor
