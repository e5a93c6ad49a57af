/- A part of the proof. -/
import Derived.Test.YthnkonlbfogkgaaGreatDoorQbs
set_option linter.unusedVariables false
set_option linter.unusedSimpArgs false
set_option maxRecDepth 100000
set_option maxHeartbeats 32000000
namespace Go.Proofs.YthnkonlbfogkgaaGreatDoor
section
open Go Go.RowKit Go.MapKept Tryz
theorem Mh (n:Int) (k:Nat) (w:World):Calls prog 166 #[.int .i64 n,.int .i64 k] w fun e w'=>e= .returned (.bool (aM n k))∧w'=w:=by
 go_enter func166,ntmps166
 go_wp2
 all_goals (go_ret;exact⟨aV (by simp[aM,aD];try omega),rfl⟩)
theorem p9 (n:Int) (w:World):Calls prog 256 #[.int .i64 n] w fun e w'=>e= .returned (.bool (aD n 0 1048576))∧w'=w:=by
 go_enter func256,ntmps256
 go_wp2
 all_goals (go_ret;exact⟨aV (by simp[aD];try omega),rfl⟩)
theorem Mi {m:aC} {k:Nat} {x:eN} (h:m.racks[k]? =some x):dE (gv m) [] m.racks k=(aM x.site m.sites.length&&aM x.feed m.feeds.length&& !(m.racks.take k).any fun y=>decide (y.feed=x.feed)&& !decide (y.site=x.site)):=by
 rw[iu h];rfl
theorem jI {c:Nat→Bool} {n k:Nat} {b:Bool} (hb:b=cV c n) (hk:k<n) (h:c k=false):b=false:=by rw[hb];exact gD hk h
theorem Mj (m:aC) (v:MV) (w:World) (hv:m.In w w.heap.size v):
 am 257 #[.agg (m.cells v)] w (.bool (dh (gv m) [] m.racks)):=by
 refine fC fun Sa sc hs hs1 hs2 Fa fc hf' hf1 hf2 Ra rc hr hr1 hr2 Ma mc hm hm1 hm2 La lc hl hl1 hl2 Ia ic hi hi1 hi2 Ua uc hu hu1 hu2 HS=> ?_
 have hR:=hv.rs
 rw[hr] at hR
 have HRs:=aa hR
 have HPr:=aa (hE (gv m) m.racks [])
 have HAt:=aa (fun k x (h:m.racks[k]? =some x)=>Mi h)
 generalize dh (gv m) [] m.racks=res at HPr
 generalize dE (gv m) [] m.racks=F at HPr HAt
 have hn:m.racks.length≤9223372036854775807:=aP hr1 hr2
 clear hR
 rw[HS.out]
 clear hv hs hf' hr hm hl hi hu
 go_enter func257,ntmps257
 go_upto_region 1 with (fail)
 refine kb ?_
 intro W1 ⟨hBW,hmW⟩
 have HBW:=aa hBW;have HmW:=aa hmW
 have hzm:=blk_lt hmW
 clear hBW hmW
 go_wp2_with fail
 go_loopw [3] (fun i wr=> ∃k:Nat,k≤m.racks.length∧i= .int .i64 k∧(∀j,j<k→F j=true)∧Below W1.heap.size W1 wr) (fun i _=>m.racks.length - (intOf i).toNat)
 case atStart=>exact⟨0,aY _,rfl,fun j hj=>by omega,B0 W1⟩
 case round=>
  obtain⟨k,hk,rfl,hok,hB⟩:=hrel
  have HOk:=aa hok;have HB:=aa hB
  have hmr:=ah HmW.out hB
  have HMr:=aa hmr
  obtain⟨c0,c1,c2⟩:=wk hmr
  refine iF fun HBw=> ?_
  clear hok hB hmr
  by_cases hlt:k<m.racks.length
  ·have hI1:(0:Int)≤k:=by omega
   have hI2:(k:Int)<m.racks.length:=by omega
   obtain⟨x,hx⟩: ∃x,m.racks[k]? =some x:=⟨_,List.getElem?_eq_getElem hlt⟩
   have HF:=aa (HAt.out k x hx)
   obtain⟨b,o,cs,rfl,hb,_,⟨rfl,hxi⟩,hcell⟩:=HRs.out.at_ hx
   have e0:=(HBw.out.cell (p:=⟨b,o+k*3+0,none⟩) hb).trans (hcell 0 _ rfl)
   refine uj fun e1 e2=> ?_
   simp only[Nat.add_zero] at e0
   clear hcell
   obtain⟨xb,hxb⟩: ∃xb,wr.heap.size=xb:=⟨_,rfl⟩
   have HXb:=aa hxb
   obtain⟨b1,hb1⟩: ∃q,aM x.site m.sites.length=q:=⟨_,rfl⟩
   obtain⟨b2,hb2⟩: ∃q,aM x.feed m.feeds.length=q:=⟨_,rfl⟩
   rw[hb1,hb2] at HF
   have HE1:=aa hb1;have HE2:=aa hb2
   clear hb1 hb2 hxb hx hxi
   go_upto_region 5 with (fail)
   refine bt (fun W=>Below wr.heap.size wr W∧W.heap[wr.heap.size]? =some (.cells #[.string (bs x.name),.int .i64 x.site,.int .i64 x.feed] 128 (0,0))) ⟨by first|exact aR (ac (B0 wr) _) (ae _) _|exact ac (B0 wr) _,by first|exact heap_alloc_new wr _|exact(ay (ay (ay (heap_alloc_new wr _) _ _) _ _) _ _).trans rfl⟩ ?_
   intro W2 ⟨hB2,hx2⟩
   rw[HXb.out] at hx2⊢
   have d0:=kc hB2 c0
   have d1:=kc hB2 c1
   have d2:=kc hB2 c2
   have dx1:W2.cell? ⟨xb,1,none⟩=some (.int .i64 x.site):=af hx2 rfl
   have dx2:W2.cell? ⟨xb,2,none⟩=some (.int .i64 x.feed):=af hx2 rfl
   have HB2:=aa hB2
   clear hB2 hx2 c0 c1 c2 e0 e1 e2
   cases b1 with
   |false=>
    exact Bt
   |true=>
    cases b2 with
    |false=>
     exact Bt
    |true=>
     go_wp2_with first
      |(go_at_call 166
        refine fu ?_
        rintro e w4 ⟨rfl,hw⟩
        obtain rfl:=hw.symm
        first|rw[HE1.out]|rw[HE2.out])
     go_loopw [5] (fun i wx=> ∃j:Nat,j≤k∧i= .int .i64 j∧(∀q y,q<j→m.racks[q]? =some y→(decide (y.feed=x.feed)&& !decide (y.site=x.site))=false)∧Below W2.heap.size W2 wx) (fun i _=>k - (intOf i).toNat)
     case atStart=>exact⟨0,aY _,rfl,fun q y hq=>by omega,B0 W2⟩
     case round=>
      obtain⟨j,hj,rfl,hnj,hBx⟩:=hrel
      have HBx:=aa hBx
      have d2:=kc hBx d2
      have dx1:=kc hBx dx1
      have dx2:=kc hBx dx2
      have HBxw:Hid (Below w.heap.size w wr):=ag (ag HBw.out HB2.out) hBx
      clear hBx
      have HNj:=aa hnj
      clear hnj
      by_cases hjk:j<k
      ·have hJ1:(0:Int)≤j:=by omega
       have hJ2:(j:Int)<k:=by omega
       have hJ3:(j:Int)<m.racks.length:=by omega
       obtain⟨y,hy⟩: ∃y,m.racks[j]? =some y:=⟨_,List.getElem?_eq_getElem (by omega)⟩
       obtain⟨yb,yo,cs,hye,_,_,⟨rfl,_⟩,hcy⟩:=HRs.out.at_ hy
       injection hye with hye
       injection hye with hy1 hy2 _
       subst hy1 hy2
       have y1:wr.cell? ⟨b,o+j*3+1,none⟩=some (.int .i64 y.site):=(HBxw.out.cell (p:=⟨b,o+j*3+1,none⟩) hb).trans (hcy 1 _ rfl)
       have y2:wr.cell? ⟨b,o+j*3+2,none⟩=some (.int .i64 y.feed):=(HBxw.out.cell (p:=⟨b,o+j*3+2,none⟩) hb).trans (hcy 2 _ rfl)
       clear hcy
       by_cases hf:y.feed=x.feed
       ·have ef:(y.feed==x.feed)=true:=by simp[hf]
        by_cases hsi:y.site=x.site
        ·have es:(y.site==x.site)=true:=by simp[hsi]
         have HNx:=aa (show ∀q z,q<j+1→m.racks[q]? =some z→(decide (z.feed=x.feed)&& !decide (z.site=x.site))=false from fun q z hq hz=>by
          rcases Nat.lt_or_ge q j with h|h
          ·exact HNj.out q z h hz
          ·have:q=j:=by omega
           subst this
           rw[hy] at hz
           injection hz with hz
           subst hz
           simp[hsi])
         clear hf hsi hy
         go_upto_region 10 with (fail)
         refine uk fun hS=> ?_
         iterate 20 refine gP 20 39 ?_
         exact qa
        ·have es:(y.site==x.site)=false:=by simp[hsi]
         have HR:=aa (jI HPr.out hlt (by
          rw[HF.out]
          have:((m.racks.take k).any fun y=>decide (y.feed=x.feed)&& !decide (y.site=x.site))=true:=List.any_eq_true.2 ⟨y,co (by rw[List.getElem?_take,if_pos hjk];exact hy),by simp[hf,hsi]⟩
          rw[this];rfl))
         clear hf hsi hy
         go_upto_region 10 with (fail)
         refine uk fun hS=> ?_
         iterate 20 refine gP 20 39 ?_
         refine eP ?_
         go_wp2_with fail
         go_ret
         exact⟨by rw[HR.out];rfl,au HBxw.out⟩
       ·have ef:(y.feed==x.feed)=false:=by simp[hf]
        have HNx:=aa (show ∀q z,q<j+1→m.racks[q]? =some z→(decide (z.feed=x.feed)&& !decide (z.site=x.site))=false from fun q z hq hz=>by
         rcases Nat.lt_or_ge q j with h|h
         ·exact HNj.out q z h hz
         ·have:q=j:=by omega
          subst this
          rw[hy] at hz
          injection hz with hz
          subst hz
          simp[hf])
        clear hf hy
        go_upto_region 10 with (fail)
        refine uk fun hS=> ?_
        iterate 10 refine gP 20 39 ?_
        iterate 9 refine kP 20 39 ?_
        refine cj 19 58 ?_
        exact qa
      ·have hJ2: ¬(j:Int)<k:=by omega
       have HFk:=aa (show F k=true from by
        rw[HF.out]
        have:((m.racks.take k).any fun y=>decide (y.feed=x.feed)&& !decide (y.site=x.site))=false:=by
         exact Bv
        rw[this];rfl)
       exact Bw
  ·have hI2: ¬(k:Int)<m.racks.length:=by omega
   exact ul
theorem Mk {m:aC} {k:Nat} {x:gq} (h:m.links[k]? =some x):dE (gw m) [] m.links k=(decide (1≤x.a)&&decide (x.a<x.b)&&decide (x.b≤m.sites.length)&&aD x.cap 0 1048576&& !(m.links.take k).any fun y=>decide (y.a=x.a)&&decide (y.b=x.b)):=by
 rw[iu h];rfl
theorem Ml (m:aC) (v:MV) (w:World) (hv:m.In w w.heap.size v):
 am 258 #[.agg (m.cells v)] w (.bool (dh (gw m) [] m.links)):=by
 refine fC fun Sa sc hs hs1 hs2 Fa fc hf' hf1 hf2 Ra rc hr hr1 hr2 Ma mc hm hm1 hm2 La lc hl hl1 hl2 Ia ic hi hi1 hi2 Ua uc hu hu1 hu2 HS=> ?_
 have hR:=hv.ls
 rw[hl] at hR
 have HRs:=aa hR
 have HPr:=aa (hE (gw m) m.links [])
 have HAt:=aa (fun k x (h:m.links[k]? =some x)=>Mk h)
 generalize dh (gw m) [] m.links=res at HPr
 generalize dE (gw m) [] m.links=F at HPr HAt
 have hn:m.links.length≤9223372036854775807:=aP hl1 hl2
 clear hR
 rw[HS.out]
 clear hv hs hf' hr hm hl hi hu
 go_enter func258,ntmps258
 go_upto_region 1 with (fail)
 refine kb ?_
 intro W1 ⟨hBW,hmW⟩
 have HBW:=aa hBW;have HmW:=aa hmW
 have hzm:=blk_lt hmW
 clear hBW hmW
 go_wp2_with fail
 go_loopw [3] (fun i wr=> ∃k:Nat,k≤m.links.length∧i= .int .i64 k∧(∀j,j<k→F j=true)∧Below W1.heap.size W1 wr) (fun i _=>m.links.length - (intOf i).toNat)
 case atStart=>exact⟨0,aY _,rfl,fun j hj=>by omega,B0 W1⟩
 case round=>
  obtain⟨k,hk,rfl,hok,hB⟩:=hrel
  have HOk:=aa hok;have HB:=aa hB
  have hmr:=ah HmW.out hB
  have HMr:=aa hmr
  have c0:wr.cell? ⟨w.heap.size,0,none⟩=some (.slice Sa m.sites.length sc):=af hmr rfl
  have c1:wr.cell? ⟨w.heap.size,1,none⟩=some (.slice Fa m.feeds.length fc):=af hmr rfl
  have c2:wr.cell? ⟨w.heap.size,4,none⟩=some (.slice La m.links.length lc):=af hmr rfl
  refine iF fun HBw=> ?_
  clear hok hB hmr
  by_cases hlt:k<m.links.length
  ·have hI1:(0:Int)≤k:=by omega
   have hI2:(k:Int)<m.links.length:=by omega
   obtain⟨x,hx⟩: ∃x,m.links[k]? =some x:=⟨_,List.getElem?_eq_getElem hlt⟩
   have HF:=aa (HAt.out k x hx)
   obtain⟨b,o,cs,rfl,hb,_,⟨rfl,hxi⟩,hcell⟩:=HRs.out.at_ hx
   have e0:=(HBw.out.cell (p:=⟨b,o+k*3+0,none⟩) hb).trans (hcell 0 _ rfl)
   refine uj fun e1 e2=> ?_
   simp only[Nat.add_zero] at e0
   clear hcell
   obtain⟨xb,hxb⟩: ∃xb,wr.heap.size=xb:=⟨_,rfl⟩
   have HXb:=aa hxb
   obtain⟨b4,hb4⟩: ∃q,aD x.cap 0 1048576=q:=⟨_,rfl⟩
   rw[hb4] at HF
   have HE4:=aa hb4
   clear hb4 hxb hx hxi
   go_upto_region 5 with (fail)
   refine bt (fun W=>Below wr.heap.size wr W∧W.heap[wr.heap.size]? =some (.cells #[.int .i64 x.a,.int .i64 x.b,.int .i64 x.cap] 132 (0,0))) ⟨by first|exact aR (ac (B0 wr) _) (ae _) _|exact ac (B0 wr) _,by first|exact heap_alloc_new wr _|exact(ay (ay (ay (heap_alloc_new wr _) _ _) _ _) _ _).trans rfl⟩ ?_
   intro W2 ⟨hB2,hx2⟩
   rw[HXb.out] at hx2⊢
   have d0:=kc hB2 c0
   have d1:=kc hB2 c1
   have d2:=kc hB2 c2
   obtain⟨dx1,dx2,dx3⟩:=wk hx2
   have HB2:=aa hB2
   clear hB2 hx2 c0 c1 c2 e0 e1 e2
   by_cases q1:x.a<1
   ·have hd:decide (1≤x.a)=false:=by simp;omega
    have HR:=aa (jI HPr.out hlt (by rw[HF.out];rw[hd];rfl))
    clear hd
    exact qc
   ·by_cases q2:x.b≤x.a
    ·have hd:decide (x.a<x.b)=false:=by simp;omega
     have HR:=aa (jI HPr.out hlt (by rw[HF.out];rw[hd];simp))
     clear hd
     exact qc
    ·by_cases q3:(m.sites.length:Int)<x.b
     ·have hd:decide (x.b≤(m.sites.length:Int))=false:=by simp;omega
      have HR:=aa (jI HPr.out hlt (by rw[HF.out];rw[hd];simp))
      clear hd
      exact qc
     ·cases b4 with
      |false=>
       have HR:=aa (jI HPr.out hlt (by rw[HF.out];simp))
       exact qc
      |true=>
       have hd1:decide (1≤x.a)=true:=by simp;omega
       have hd2:decide (x.a<x.b)=true:=by simp;omega
       have hd3:decide (x.b≤(m.sites.length:Int))=true:=by simp;omega
       rw[hd1,hd2,hd3] at HF
       clear hd1 hd2 hd3
       go_wp2_with first
        |(go_at_call 256
          refine(p9 _ _).mono ?_
          rintro e w4 ⟨rfl,hw⟩
          obtain rfl:=hw.symm
          rw[HE4.out])
       go_loopw [5] (fun i wx=> ∃j:Nat,j≤k∧i= .int .i64 j∧(∀q y,q<j→m.links[q]? =some y→(decide (y.a=x.a)&&decide (y.b=x.b))=false)∧Below W2.heap.size W2 wx) (fun i _=>k - (intOf i).toNat)
       case atStart=>exact⟨0,aY _,rfl,fun q y hq=>by omega,B0 W2⟩
       case round=>
        obtain⟨j,hj,rfl,hnj,hBx⟩:=hrel
        have HBx:=aa hBx
        have d2:=kc hBx d2
        have dx1:=kc hBx dx1
        have dx2:=kc hBx dx2
        have HBxw:Hid (Below w.heap.size w wr):=ag (ag HBw.out HB2.out) hBx
        clear hBx
        have HNj:=aa hnj
        clear hnj
        by_cases hjk:j<k
        ·have hJ1:(0:Int)≤j:=by omega
         have hJ2:(j:Int)<k:=by omega
         have hJ3:(j:Int)<m.links.length:=by omega
         obtain⟨y,hy⟩: ∃y,m.links[j]? =some y:=⟨_,List.getElem?_eq_getElem (by omega)⟩
         obtain⟨yb,yo,cs,hye,_,_,⟨rfl,_⟩,hcy⟩:=HRs.out.at_ hy
         injection hye with hye
         injection hye with hy1 hy2 _
         subst hy1 hy2
         have y1:wr.cell? ⟨b,o+j*3,none⟩=some (.int .i64 y.a):=(HBxw.out.cell (p:=⟨b,o+j*3,none⟩) hb).trans (hcy 0 _ rfl)
         have y2:wr.cell? ⟨b,o+j*3+1,none⟩=some (.int .i64 y.b):=(HBxw.out.cell (p:=⟨b,o+j*3+1,none⟩) hb).trans (hcy 1 _ rfl)
         clear hcy
         by_cases hf:y.a=x.a
         ·have ef:(y.a==x.a)=true:=by simp[hf]
          by_cases hsi:y.b=x.b
          ·have es:(y.b==x.b)=true:=by simp[hsi]
           have HR:=aa (jI HPr.out hlt (by
            rw[HF.out]
            have:((m.links.take k).any fun y=>decide (y.a=x.a)&&decide (y.b=x.b))=true:=List.any_eq_true.2 ⟨y,co (by rw[List.getElem?_take,if_pos hjk];exact hy),by simp[hf,hsi]⟩
            rw[this];rfl))
           clear hf hsi hy
           go_upto_region 10 with (fail)
           refine up fun hS=> ?_
           iterate 20 refine gP 20 47 ?_
           refine eP ?_
           go_wp2_with fail
           go_ret
           exact⟨by rw[HR.out];rfl,au HBxw.out⟩
          ·have es:(y.b==x.b)=false:=by simp[hsi]
           have HNx:=aa (show ∀q z,q<j+1→m.links[q]? =some z→(decide (z.a=x.a)&&decide (z.b=x.b))=false from fun q z hq hz=>by
            rcases Nat.lt_or_ge q j with h|h
            ·exact HNj.out q z h hz
            ·have:q=j:=by omega
             subst this
             rw[hy] at hz
             injection hz with hz
             subst hz
             simp[hsi])
           clear hf hsi hy
           go_upto_region 10 with (fail)
           refine up fun hS=> ?_
           iterate 20 refine gP 20 47 ?_
           exact qa
         ·have ef:(y.a==x.a)=false:=by simp[hf]
          have HNx:=aa (show ∀q z,q<j+1→m.links[q]? =some z→(decide (z.a=x.a)&&decide (z.b=x.b))=false from fun q z hq hz=>by
           rcases Nat.lt_or_ge q j with h|h
           ·exact HNj.out q z h hz
           ·have:q=j:=by omega
            subst this
            rw[hy] at hz
            injection hz with hz
            subst hz
            simp[hf])
          clear hf hy
          go_upto_region 10 with (fail)
          refine up fun hS=> ?_
          iterate 10 refine gP 20 47 ?_
          iterate 9 refine kP 20 47 ?_
          refine cj 19 66 ?_
          exact qa
        ·have hJ2: ¬(j:Int)<k:=by omega
         have HFk:=aa (show F k=true from by
          rw[HF.out]
          have:((m.links.take k).any fun y=>decide (y.a=x.a)&&decide (y.b=x.b))=false:=by
           exact Bv
          rw[this];rfl)
         exact Bw
  ·have hI2: ¬(k:Int)<m.links.length:=by omega
   exact ul
theorem Mn {m:aC} {k:Nat} {x:fR} (h:m.machs[k]? =some x):dE (gN m) [] m.machs k=(aM x.rack m.racks.length&&aD x.cap 0 1048576):=by
 rw[iu h];rfl
theorem Mo (m:aC) (v:MV) (w:World) (hv:m.In w w.heap.size v):
 am 162 #[.agg (m.cells v)] w (.bool (dK m)):=by
 refine fC fun Sa sc hs hs1 hs2 Fa fc hf' hf1 hf2 Ra rc hr hr1 hr2 Ma mc hm hm1 hm2 La lc hl hl1 hl2 Ia ic hi hi1 hi2 Ua uc hu hu1 hu2 HS=> ?_
 have hR:=hv.ms
 rw[hm] at hR
 have HMs:=aa hR
 have HIn:=aa hv
 have HPm:=aa (hE (gN m) m.machs [])
 have HAt:=aa (fun k x (h:m.machs[k]? =some x)=>Mn h)
 refine zy fun HO=> ?_
 generalize dK m=r at HO
 generalize dE (gN m) [] m.machs=F at HPm HAt
 have hn:m.machs.length≤9223372036854775807:=aP hm1 hm2
 clear hR
 rw[HS.out]
 clear hv hs hf' hr hm hl hi hu
 go_enter func162,ntmps162
 go_upto_region 1 with (fail)
 refine kb ?_
 intro W1 ⟨hBW,hmW⟩
 have HBW:=aa hBW;have HmW:=aa hmW
 have hzm:=blk_lt hmW
 obtain⟨a0,a1,a2,a3,a4,a5,a6,a7,a8,a9,a10⟩:=cd hmW
 clear hBW hmW
 by_cases q0:(m.sites.length:Int)<1
 ·exact kY
 ·skip
  by_cases q1:(4:Int)<(m.sites.length:Int)
  ·exact kY
  ·skip
   by_cases q2:(16:Int)<(m.feeds.length:Int)
   ·exact kY
   ·skip
    by_cases q3:(16:Int)<(m.racks.length:Int)
    ·exact kY
    ·skip
     by_cases q4:(m.machs.length:Int)<1
     ·exact kY
     ·skip
      by_cases q5:(16:Int)<(m.machs.length:Int)
      ·exact kY
      ·skip
       by_cases q6:(12:Int)<(m.links.length:Int)
       ·exact kY
       ·skip
        go_wp2_with fail
        go_loopw [3] (fun i wr=> ∃k:Nat,k≤m.machs.length∧i= .int .i64 k∧(∀j,j<k→F j=true)∧Below W1.heap.size W1 wr) (fun i _=>m.machs.length - (intOf i).toNat)
        case atStart=>exact⟨0,aY _,rfl,fun j hj=>by omega,B0 W1⟩
        case round=>
         obtain⟨k,hk,rfl,hok,hB⟩:=hrel
         have HOk:=aa hok;have HB:=aa hB
         have hmr:=ah HmW.out hB
         have HMr:=aa hmr
         refine iF fun HBw=> ?_
         obtain⟨c0,c1,c2,c3,c4,c5,c6,c7,c8,c9,c10⟩:=cd hmr
         clear hok hB hmr
         by_cases hlt:k<m.machs.length
         ·have hI1:(0:Int)≤k:=by omega
          have hI2:(k:Int)<m.machs.length:=by omega
          obtain⟨x,hx⟩: ∃x,m.machs[k]? =some x:=⟨_,List.getElem?_eq_getElem hlt⟩
          have HF:=aa (HAt.out k x hx)
          obtain⟨b,o,cs,rfl,hb,_,⟨rfl,hxi⟩,hcell⟩:=HMs.out.at_ hx
          refine uj fun e1 e2=> ?_
          obtain⟨b1,hb1⟩: ∃q,aM x.rack m.racks.length=q:=⟨_,rfl⟩
          obtain⟨b2,hb2⟩: ∃q,aD x.cap 0 1048576=q:=⟨_,rfl⟩
          rw[hb1,hb2] at HF
          have HE1:=aa hb1;have HE2:=aa hb2
          clear hb1 hb2 hx hxi hcell
          cases b1 with
          |false=>
           have HR:=aa (show r=false by rw[HO.out,HPm.out,gD hlt (by rw[HF.out];rfl)];simp)
           go_upto_region 6 with (fail)
           refine uq fun hS=> ?_
           iterate 9 refine gP 21 51 ?_
           refine cP 9 fun K hK=> ?_
           go_simp
           refine fu ?_
           rintro e w4 ⟨rfl,rfl⟩
           rw[HE1.out]
           try go_simp
           refine hK.out _ _ hS (fun hS=> ?_)
           clear hK
           refine ak ?_
           iterate 2 refine gP 21 51 ?_
           iterate 8 refine kP 21 51 ?_
           refine cj 20 71 ?_
           refine eP ?_
           go_wp2_with fail
           go_ret
           exact⟨by rw[HR.out];rfl,ag HBw.out hS.2.2.2.2⟩
          |true=>
           cases b2 with
           |false=>
            have HR:=aa (show r=false by rw[HO.out,HPm.out,gD hlt (by rw[HF.out];rfl)];simp)
            go_upto_region 6 with (fail)
            refine uq fun hS=> ?_
            iterate 9 refine gP 21 51 ?_
            refine cP 9 fun K hK=> ?_
            go_simp
            refine fu ?_
            rintro e w4 ⟨rfl,rfl⟩
            rw[HE1.out]
            try go_simp
            refine hK.out _ _ hS (fun hS=> ?_)
            clear hK
            refine ak ?_
            iterate 8 refine gP 21 51 ?_
            refine cP 18 fun K hK=> ?_
            go_simp
            refine(p9 _ _).mono ?_
            rintro e w4 ⟨rfl,rfl⟩
            rw[HE2.out]
            try go_simp
            refine hK.out _ _ hS (fun hS=> ?_)
            clear hK
            refine ak ?_
            iterate 2 refine gP 21 51 ?_
            refine eP ?_
            go_wp2_with fail
            go_ret
            exact⟨by rw[HR.out];rfl,ag HBw.out hS.2.2.2.2⟩
           |true=>
            have HFk:=aa (show F k=true from by rw[HF.out];rfl)
            go_upto_region 6 with (fail)
            refine uq fun hS=> ?_
            iterate 9 refine gP 21 51 ?_
            refine cP 9 fun K hK=> ?_
            go_simp
            refine fu ?_
            rintro e w4 ⟨rfl,rfl⟩
            rw[HE1.out]
            try go_simp
            refine hK.out _ _ hS (fun hS=> ?_)
            clear hK
            refine ak ?_
            iterate 8 refine gP 21 51 ?_
            refine cP 18 fun K hK=> ?_
            go_simp
            refine(p9 _ _).mono ?_
            rintro e w4 ⟨rfl,rfl⟩
            rw[HE2.out]
            try go_simp
            refine hK.out _ _ hS (fun hS=> ?_)
            clear hK
            refine ak ?_
            iterate 2 refine gP 21 51 ?_
            refine eP ?_
            go_wp2_with fail
            exact⟨⟨k+1,by omega,by go_num,fun q hq=>by
             rcases Nat.lt_or_ge q k with h|h
             ·exact HOk.out q h
             ·have:q=k:=by omega
              subst this;exact HFk.out,ag HB.out hS.2.2.2.2⟩,by simp[intOf];omega⟩
         ·have hI2: ¬(k:Int)<m.machs.length:=by omega
          have HM1:=aa (show dh (gN m) [] m.machs=true from by rw[HPm.out];exact iV fun j hj=>HOk.out j (by omega))
          have hvr:=aa (fun W (hW:Below w.heap.size w W)=>Mj m v W (HIn.out.to hW (ae _) hW.size))
          have hvl:=aa (fun W (hW:Below w.heap.size w W)=>Ml m v W (HIn.out.to hW (ae _) hW.size))
          rw[HS.out] at hvr hvl
          obtain⟨sr,hsr⟩: ∃q,dh (gv m) [] m.racks=q:=⟨_,rfl⟩
          obtain⟨sl,hsl⟩: ∃q,dh (gw m) [] m.links=q:=⟨_,rfl⟩
          have HR:=aa (show r=(sr&&sl) by
           rw[HO.out,HM1.out,hsr,hsl]
           have z1:aD (m.sites.length:Nat) 1 4=true:=by simp[aD];omega
           have z2:decide (m.feeds.length≤16)=true:=by simp;omega
           have z3:decide (m.racks.length≤16)=true:=by simp;omega
           have z4:aD (m.machs.length:Nat) 1 16=true:=by simp[aD];omega
           have z5:decide (m.links.length≤12)=true:=by simp;omega
           rw[z1,z2,z3,z4,z5];simp)
          rw[hsr] at hvr
          rw[hsl] at hvl
          clear hsr hsl
          cases sr with
          |false=>
           go_wp2_with first
            |(go_at_call 257
              refine(hvr.out _ HBw.out).mono ?_
              rintro e w4 ⟨rfl,hb4⟩
              have HB4:=aa hb4
              clear hb4)
           go_ret
           exact⟨by rw[HR.out];rfl,ag HBw.out HB4.out⟩
          |true=>
           go_wp2_with first
            |(go_at_call 257
              refine(hvr.out _ HBw.out).mono ?_
              rintro e w4 ⟨rfl,hb4⟩
              have hm4:=ah HMr.out hb4
              obtain⟨g0,g1,g2,g3,g4,g5,g6,g7,g8,g9,g10⟩:=cd hm4
              have HB4:Hid (Below w.heap.size w w4):=ag HBw.out hb4
              clear hb4 hm4)
            |(go_at_call 258
              refine(hvl.out _ HB4.out).mono ?_
              rintro e w5 ⟨rfl,hb5⟩
              have HB5:Hid (Below w.heap.size w w5):=ag HB4.out hb5
              clear hb5)
           go_ret
           exact⟨by rw[HR.out];rfl,HB5.out⟩
theorem Mp (x:UInt8) (w:World):Calls prog 266 #[.int .u8 x.toNat] w fun e w'=>e= .returned (.bool (decide (97≤x.toNat)&&decide (x.toNat≤122)))∧w'=w:=by
 obtain⟨n,hn⟩: ∃n:Nat,x.toNat=n:=⟨_,rfl⟩
 rw[hn]
 clear hn
 by_cases q1:(97:Int)≤n
 ·have e1:decide (97≤n)=true:=by simp;omega
  rw[e1]
  go_enter func266,ntmps266
  go_wp2_with fail
  go_ret
  refine⟨?_,rfl⟩
  have:decide ((n:Int)≤122)=(true&&decide (n≤122)):=by rw[Bool.true_and];apply decide_eq_decide.2;omega
  exact congrArg (fun q=>Ending.returned (.bool q)) this
 ·have e1:decide (97≤n)=false:=by simp;omega
  rw[e1]
  go_enter func266,ntmps266
  exact jV
theorem Mq (x:UInt8) (w:World):Calls prog 268 #[.int .u8 x.toNat] w fun e w'=>e= .returned (.bool (decide (48≤x.toNat)&&decide (x.toNat≤57)))∧w'=w:=by
 obtain⟨n,hn⟩: ∃n:Nat,x.toNat=n:=⟨_,rfl⟩
 rw[hn]
 clear hn
 by_cases q1:(48:Int)≤n
 ·have e1:decide (48≤n)=true:=by simp;omega
  rw[e1]
  go_enter func268,ntmps268
  go_wp2_with fail
  go_ret
  refine⟨?_,rfl⟩
  have:decide ((n:Int)≤57)=(true&&decide (n≤57)):=by rw[Bool.true_and];apply decide_eq_decide.2;omega
  exact congrArg (fun q=>Ending.returned (.bool q)) this
 ·have e1:decide (48≤n)=false:=by simp;omega
  rw[e1]
  go_enter func268,ntmps268
  exact jV
def ur (l:List ByteArray) (s:ByteArray) (e:Ending):Prop:= ∃r:Bool,e= .returned (.bool r)∧(r=true↔s∈l)
theorem Mr (v:Value) (l:List ByteArray) (s:ByteArray) (w:World) (B:Nat) (h:aL w B v l) (hl:l.length≤1000000000):
 Calls prog 260 #[v,.string s] w fun e w'=>ur l s e∧w'=w:=by
 obtain⟨A,n,c,rfl,hn,hc,hm⟩:=h.form
 have H:=aa h;have HN:=aa hn
 rw[hn] at hl
 clear h hn
 go_enter func260,ntmps260
 go_wp2_with fail
 go_loopw [5] (fun i wr=> ∃k:Nat,k≤n∧i= .int .i64 k∧(∀x∈l.take k,x≠s)∧wr=w) (fun i _=>n - (intOf i).toNat)
 case atStart=>exact⟨0,aY _,rfl,fun x hx=>by simp at hx,rfl⟩
 case round=>
  obtain⟨k,hk,rfl,hno,hw⟩:=hrel
  obtain rfl:=hw.symm
  have HNo:=aa hno
  clear hno
  by_cases hlt:k<n
  ·have hI1:(0:Int)≤k:=by omega
   have hI2:(k:Int)<n:=by omega
   obtain⟨b,o,rfl,hb,hcell⟩:=H.out.at_ k hlt
   have hck:=hcell k hlt
   have hmem:aE l k∈l:=jp (by rw[HN.out];exact hlt)
   have HT:=aa (qL l k (by rw[HN.out];exact hlt))
   clear hcell
   generalize aE l k=x at*
   by_cases he:x=s
   ·have HR:=aa (show s∈l by rw[←he];exact hmem)
    have q:(x.toList==s.toList)=true:=by rw[he];simp
    clear he hmem
    go_wp2_with fail
    go_ret
    exact⟨(⟨true,rfl,by simp[HR.out]⟩:ur l s _),rfl⟩
   ·have HE:=aa he
    have q:(x.toList==s.toList)=false:=by
     rw[beq_eq_false_iff_ne];intro h;exact he (by rw[←dZ x,←cD,h,cD,dZ])
    clear he hmem
    go_wp2_with fail
    exact⟨⟨k+1,by omega,by go_num,fun y hy=>by
     rw[HT.out] at hy
     rcases List.mem_append.1 hy with hy|hy
     ·exact HNo.out y hy
     ·rw[List.mem_singleton.1 hy];exact HE.out,by trivial⟩,by simp[intOf];omega⟩
  ·have hI2: ¬(k:Int)<n:=by omega
   have HR:=aa (show ¬s∈l by
    have h:=HNo.out
    rw[List.take_of_length_le (by rw[HN.out];omega)] at h
    exact fun hs=>h s hs rfl)
   go_wp2_with fail
   go_ret
   exact⟨(⟨false,rfl,by simp[HR.out]⟩:ur l s _),rfl⟩
theorem Bx (w:World):
 Calls prog 267 #[] w fun e w'=> ∃v,e= .returned v∧aI w' w'.heap.size v cX∧Below w.heap.size w w':=by
 go_enter func267,ntmps267
 go_wp2_with fail
 go_ret
 refine⟨_,rfl,?_,ac (B0 w) _⟩
 refine⟨_,28,rfl,by decide,by decide,fun _=>⟨w.heap.size,0,rfl,by simp,fun j u hj=> ?_⟩⟩
 rw[World.cell?_alloc_new,Nat.zero_add,←Array.getElem?_toList]
 exact hj
theorem By (v:Value) (l:List ai) (s:ai) (w:World) (B:Nat) (h:aI w B v l) (hl:l.length≤1000000000):
 Calls prog 260 #[v,.string (bs s)] w fun e w'=>e= .returned (.bool (decide (s∈l)))∧w'=w:=by
 refine(Mr v (l.map bs) (bs s) w B h (by simpa using hl)).mono fun e w' ⟨⟨r,he,hr⟩,hw⟩=>⟨?_,hw⟩
 rw[he]
 refine aV ?_
 rw[Bool.eq_iff_iff,hr,decide_eq_true_eq,List.mem_map]
 exact⟨fun⟨x,hx,e⟩=>ng e▸hx,fun hx=>⟨s,hx,rfl⟩⟩
theorem ut {s:ai} {k:Nat} {x:UInt8} (h:s[k]? =some x) (hk:k<(bs s).size):(bs s)[k]=x:=ui (by simpa[bs] using h) hk
theorem Bz {s:ai} {k:Nat} {x:UInt8} (h:s[k]? =some x) (hk:k<(bs s).size) (W:World):Calls prog 266 #[.int .u8 (bs s)[k].toNat] W fun e w'=>e= .returned (.bool (ew x))∧w'=W:=by
 rw[ut h hk];exact Mp x W
theorem Ms {s:ai} {k:Nat} {x:UInt8} (h:s[k]? =some x) (hk:k<(bs s).size) (W:World):Calls prog 268 #[.int .u8 (bs s)[k].toNat] W fun e w'=>e= .returned (.bool (bD x))∧w'=W:=by
 rw[ut h hk];exact Mq x W
theorem Mt {x:UInt8}:((x.toNat:Int)==95)=(x==95):=by
 rw[Bool.eq_iff_iff,beq_iff_eq,beq_iff_eq]
 exact⟨fun h=>UInt8.toNat_inj.1 (by have:x.toNat=95:=by omega
                                    rw[this];rfl),fun h=>by rw[h];rfl⟩
theorem Mu (s:ai) (w:World):
 am 182 #[.string (bs s)] w (.bool (bJ s)):=by
 have hsz:(bs s).size=s.length:=bq s
 have HZ:=aa hsz
 have HH:=aa (fun W v B (h:aI W B v cX)=>By v cX s W B h (by decide))
 have HL0:=aa (fun(h:0<(bs s).size) W=>Bz (k:=0) (x:=s.headD 0) (by
  cases s with
  |nil=>rw[bq] at h;simp at h
  |cons a l=>rfl) h W)
 have HA:Hid (s.all cT=cV (cJ s cT) (bs s).size):=aa (by rw[hsz,rF])
 have HF:=aa (fun k x (h:s[k]? =some x)=>(dx h:cJ s cT k=cT x))
 unfold bJ
 generalize s.all cT=al at HA
 generalize cJ s cT=F at HA HF
 generalize decide (s∈cX)=kw at HH
 generalize ew (s.headD 0)=low at HL0
 obtain⟨n,hn⟩: ∃n,s.length=n:=⟨_,rfl⟩
 rw[hn] at hsz⊢
 have HN:=aa hn
 clear hn
 by_cases h1:1≤n
 rotate_left
 ·have k1:((bs s).size:Int)<1:=by omega
  have H1:=aa h1
  clear h1 hsz
  go_enter func182,ntmps182
  go_wp2_with fail
  go_ret
  exact⟨aV (by simp[H1.out]),B0 w⟩
 by_cases h2:n≤31
 rotate_left
 ·have k1: ¬((bs s).size:Int)<1:=by omega
  have k2:(31:Int)<((bs s).size:Int):=by omega
  have H2:=aa h2
  clear h1 h2 hsz
  go_enter func182,ntmps182
  go_wp2_with fail
  go_ret
  exact⟨aV (by simp[H2.out]),B0 w⟩
 have k1: ¬((bs s).size:Int)<1:=by omega
 have k2: ¬(31:Int)<((bs s).size:Int):=by omega
 have k0:0<(bs s).size:=by omega
 have H1:=aa h1;have H2:=aa h2
 clear h1 h2 hsz
 cases low with
 |false=>
  go_enter func182,ntmps182
  go_wp2_with(go_at_call 266;refine(HL0.out k0 _).mono ?_;rintro e w1 ⟨rfl,hw⟩;obtain rfl:=hw.symm)
  go_ret
  exact⟨aV (by simp),B0 _⟩
 |true=>
  cases kw with
  |true=>
   go_enter func182,ntmps182
   go_wp2_with(first
    |(go_at_call 266;refine(HL0.out k0 _).mono ?_;rintro e w1 ⟨rfl,hw⟩;obtain rfl:=hw.symm)
    |(go_at_call 267;refine(Bx _).mono ?_;rintro e w2 ⟨v,rfl,hv,hb2⟩)
    |(go_at_call 260;refine(HH.out _ _ _ hv).mono ?_;rintro e w3 ⟨rfl,hw⟩;obtain rfl:=hw.symm))
   go_ret
   exact⟨aV (by simp),hb2⟩
  |false=>
   go_enter func182,ntmps182
   go_wp2_with(first
    |(go_at_call 266;refine(HL0.out k0 _).mono ?_;rintro e w1 ⟨rfl,hw⟩;obtain rfl:=hw.symm)
    |(go_at_call 267;refine(Bx _).mono ?_;rintro e w2 ⟨v,rfl,hv,hb2⟩;have HB2:=aa hb2;clear hb2)
    |(go_at_call 260;refine(HH.out _ _ _ hv).mono ?_;rintro e w3 ⟨rfl,hw⟩;obtain rfl:=hw.symm;clear hv))
   go_loopw [3] (fun i wr=> ∃k:Nat,k≤(bs s).size∧i= .int .i64 k∧(∀j,j<k→F j=true)∧wr=w2) (fun i _=>(bs s).size - (intOf i).toNat)
   case atStart=>exact⟨0,aY _,rfl,fun j hj=>by omega,rfl⟩
   case round=>
    obtain⟨k,hk,rfl,hok,hw⟩:=hrel
    obtain rfl:=hw.symm
    have HOk:=aa hok
    clear hok
    by_cases hlt:k<(bs s).size
    ·have hI1:(0:Int)≤k:=by omega
     have hI2:(k:Int)<(bs s).size:=by omega
     obtain⟨x,hx⟩: ∃x,s[k]? =some x:=⟨_,List.getElem?_eq_getElem (by have:=HZ.out;omega)⟩
     have HFk:=aa (HF.out k x hx)
     have HLk:=aa (fun W=>Bz hx hlt W)
     have HDk:=aa (fun W=>Ms hx hlt W)
     have e95:(((bs s)[k].toNat:Int)==95)=(x==95):=by rw[ut hx hlt];exact Mt
     have f95:(((bs s)[k].toNat:Int)!=95)= !(x==95):=by rw[bne,e95]
     unfold cT at HFk
     generalize ew x=b1 at HFk HLk
     generalize bD x=b2 at HFk HDk
     generalize (x==95)=b3 at HFk e95 f95
     clear hx
     cases b1 with
     |true=>
      clear e95 f95
      have HR:=aa (show ∀j,j<k+1→F j=true from fun q hq=>by
       rcases Nat.lt_or_ge q k with h|h
       ·exact HOk.out q h
       ·have:q=k:=by omega
        subst this;rw[HFk.out];rfl)
      go_wp2_with(go_at_call 266;refine(HLk.out _).mono ?_;rintro e w1 ⟨rfl,hw⟩;obtain rfl:=hw.symm)
      exact⟨⟨k+1,by omega,by go_num,HR.out,by trivial⟩,by simp[intOf];omega⟩
     |false=>
      cases b2 with
      |true=>
       clear e95 f95
       exact BA
      |false=>
       cases b3 with
       |true=>
        exact BA
       |false=>
        have HR:=aa (show al=false by rw[HA.out];exact gD hlt (by rw[HFk.out];rfl))
        go_wp2_with(first
         |(go_at_call 266;refine(HLk.out _).mono ?_;rintro e w1 ⟨rfl,hw⟩;obtain rfl:=hw.symm)
         |(go_at_call 268;refine(HDk.out _).mono ?_;rintro e w1 ⟨rfl,hw⟩;obtain rfl:=hw.symm))
        go_ret
        exact⟨aV (by rw[HR.out];simp),HB2.out⟩
    ·have hI2: ¬(k:Int)<(bs s).size:=by omega
     have HR:=aa (show al=true by rw[HA.out];exact iV fun j hj=>HOk.out j (by omega))
     go_wp2_with fail
     go_ret
     exact⟨aV (by rw[HR.out];simp[H1.out,H2.out]),HB2.out⟩
theorem uu (W:World) (s:ByteArray):lB (W.alloc (.cells #[.string s] 9)) (.slice (some ⟨W.heap.size,0,none⟩) 1 1) [s]:=
 .inr ⟨W.heap.size,0,1,rfl,fun j u hj=>by
  match j,hj with
  |0,hj=>simp at hj;subst hj;exact af (aN W _) rfl⟩
theorem uv {α β:Type} {f:α→β} {l:List α} {k:Nat} {x:α} (h:l[k]? =some x):(l.take (k+1)).map f=(l.take k).map f++[f x]:=by
 rw[List.take_add_one,h,List.map_append];rfl
theorem World.ownsRow.grownB {a w w':World} {e:TypeId} {size n:Nat} {v:Value} {xs:List Value} (h:w.ownsRow a.heap.size e size v n xs) (hb:Below a.heap.size a w) (hg:w.grownBy w' v.ownBlock):Below a.heap.size a w':=ir h hb (ae _) hg
theorem Mv {w:World} {o:Oper} {a:Act} {K:Act→World→Prop} {Q:Exit→Act→World→Prop} (s x:Operand)
 (ho:o.op= .call {callee:= .builtin .append,args:= #[s,x],argTypes:= #[22,22]}) (base B:Nat) (v u:Value) (l l':List ai)
 (hs:a.eval s=v) (hx:a.eval x=u) (hown:bo w base v (l.map bs)) (hsrc:aI w B u l') (hlen:l.length+l'.length≤1000000) (hbase:base≤w.heap.size)
 (h: ∀v' w',bo w' base v' ((l++l').map bs)→w.grownBy w' v.ownBlock→K (a.put o.dst v') w'):o.wp prog a w K Q:=by
 obtain⟨i0,hi,hz0,hz1,hz2⟩:=info_parts qK
 by_cases hl:l'=[]
 ·subst hl
  obtain⟨A,n,c,rfl,hn,_,_⟩:=aL.form hsrc
  simp at hn
  subst hn
  cases A with
  |none=>
   have hrun:(Builtin.append_ #[22,22] o.type #[v,.slice none 0 c]).run prog w= .ok v w:=by
    rcases hown.2 with ⟨rfl,_⟩|⟨g,cap,cur,rfl,_,_,hnc,_⟩
    ·simp[Builtin.append_,run_underlying underlying22,sizeOf,typeInfo,hi,Builtin.lenOf,Builtin.firstCells]
    ·have hnc2:l.length≤cap:=by simpa using hnc
     simp[Builtin.append_,run_underlying underlying22,sizeOf,typeInfo,hi,Builtin.lenOf,Builtin.firstCells,hnc2,storeCells]
   exact wh
  |some ad=>
   refine wp_append_own w s x 22 ho base 9 i0 _ 1 16 underlying22 hi hz0 hz1 hz2 rfl (by decide) v (l.map bs).length _ hs hown ad 0 c [] hx (by simp) (fun j y hy=>by simp at hy) (by simp) (by simp[maxLen];simp at hlen;omega) (by simp at hlen⊢;omega) hbase (fun v' w' h1 h2 _=>h v' w' ?_ h2)
   show w'.ownsRow _ _ _ _ _ _
   simpa using h1
 ·refine qP s x ho base v u (l.map bs) (l'.map bs) hs hx hown (aL.src hsrc (by simpa using hl)) (by simpa using hlen) hbase fun v' w' h1 h2=>h v' w' (by rw[List.map_append];exact h1) h2
theorem BC {w:World} {ops:Array Oper} {o:Oper} {a:Act} {K:Act→World→Prop} {Q:Exit→Act→World→Prop} {E:Prop} (hgd:o.guard=none) (s x:Operand)
 (ho:o.op= .call {callee:= .builtin .append,args:= #[s,x],argTypes:= #[22,22]}) (base B:Nat) (v u:Value) (l l':List ai)
 (hs:a.eval s=v) (hx:a.eval x=u) (hown:bo w base v (l.map bs)) (hsrc:aI w B u l') (hlen:l.length+l'.length≤1000000) (hbase:base≤w.heap.size)
 (h: ∀v' w',bo w' base v' ((l++l').map bs)→w.grownBy w' v.ownBlock→K (a.put o.dst v') w'):
 if Region.wanted o (yielded ops a.tmps)=true then Oper.wp prog o a w K Q else E:=by
 have hw:Region.wanted o (yielded ops a.tmps)=true:=by simp[Region.wanted,hgd]
 rw[if_pos hw]
 exact Mv s x ho base B v u l l' hs hx hown hsrc hlen hbase h
theorem Mw (m:aC) (v:MV) (w:World) (hv:m.In w w.heap.size v) (hsl:m.sites.length≤100) (hfl:m.feeds.length≤100) (hrl:m.racks.length≤100) (hml:m.machs.length≤100) (hil:m.items.length≤100):
 Calls prog 259 #[.agg (m.cells v)] w fun e w'=> ∃u,e= .returned u∧bo w' w.heap.size u ((di m).map bs)∧Below w.heap.size w w':=by
 refine fC fun Sa sc hs hs1 hs2 Fa fc hf' hf1 hf2 Ra rc hr hr1 hr2 Ma mc hm hm1 hm2 La lc hl hl1 hl2 Ia ic hi hi1 hi2 Ua uc hu hu1 hu2 HS=> ?_
 have hss:=hv.ss
 have hfs:=hv.fs
 have hrs:=hv.rs
 have hms:=hv.ms
 have his:=hv.is
 rw[hs] at hss
 rw[hf'] at hfs
 rw[hr] at hrs
 rw[hm] at hms
 rw[hi] at his
 have HIn:=aa (show(∀W,Below w.heap.size w W→aI W w.heap.size (.slice Sa m.sites.length sc) m.sites)∧(∀W,Below w.heap.size w W→aI W w.heap.size (.slice Fa m.feeds.length fc) m.feeds) from⟨fun W h=>hss.below h (ae _),fun W h=>hfs.below h (ae _)⟩)
 have HRs:=aa hrs;have HMs:=aa hms;have HIs:=aa his
 clear hss hfs hrs hms his
 rw[HS.out]
 clear hv hs hf' hr hm hl hi hu
 go_enter func259,ntmps259
 go_upto_region 1 with (fail)
 refine kb ?_
 intro W1 ⟨hBW,hmW⟩
 have HBW:=aa hBW;have HmW:=aa hmW
 have hzm:=blk_lt hmW
 clear hBW hmW
 have hmW:=HmW.out
 have c0:W1.cell? ⟨w.heap.size,0,none⟩=some (.slice Sa m.sites.length sc):=af hmW rfl
 have c1:W1.cell? ⟨w.heap.size,1,none⟩=some (.slice Fa m.feeds.length fc):=af hmW rfl
 have HSB:=aa (show ∀W,Below W1.heap.size W1 W→W.cell? ⟨w.heap.size,0,none⟩=some (.slice Sa m.sites.length sc)∧W.cell? ⟨w.heap.size,1,none⟩=some (.slice Fa m.feeds.length fc)∧Below W1.heap.size W1 W from fun W h=>⟨af (ah hmW h) rfl,af (ah hmW h) rfl,h⟩)
 clear hmW
 go_wp2_with fail
 go_upto_region 1 with (fail)
 refine bH (S:=fun w'=>w'.cell? ⟨w.heap.size,0,none⟩=some (.slice Sa m.sites.length sc)∧w'.cell? ⟨w.heap.size,1,none⟩=some (.slice Fa m.feeds.length fc)∧Below W1.heap.size W1 w') 8 (by exact HSB.out _ (au (B0 _))) fun hS=> ?_
 iterate 2 refine gH 9 7 ?_
 iterate 2 refine gH 10 7 ?_
 refine cH 0 fun K hK=> ?_
 go_simp
 refine hK.out _ _ (by exact HSB.out _ (ac hS.2.2 _)) (fun hS=> ?_)
 clear hK
 refine ak ?_
 refine cH 3 fun K hK=> ?_
 have ho0:bo (W1.alloc (.cells #[] 9)).drew W1.heap.size (.slice (some ⟨W1.heap.size,0,none⟩) 0 0) (([]:List ai).map bs):=(World.ownsRow_made W1 #[] 0 (ae _) (by simp[maxLen]) rfl:(W1.alloc (.cells #[] 9)).ownsRow W1.heap.size 9 1 (.slice (some ⟨W1.heap.size,0,none⟩) 0 0) 0 [])
 refine BC rfl (.tmp 7) (.tmp 9) rfl W1.heap.size w.heap.size _ _ [] m.sites rfl rfl ho0 (HIn.out.1 _ (ag HBW.out hS.2.2)) (by simp;omega) (by simp) ?_
 intro u1 w2 ho1 hg1
 have HO1:=aa ho1
 have HB1:=aa (World.ownsRow.grownB (a:=W1) ho0 hS.2.2 hg1)
 clear ho0 ho1 hg1
 refine hK.out _ _ (by exact HSB.out _ HB1.out) (fun hS=> ?_)
 clear hK
 refine ak ?_
 refine cH 6 fun K hK=> ?_
 refine BC rfl (.tmp 10) (.tmp 12) rfl W1.heap.size w.heap.size _ _ m.sites m.feeds rfl rfl HO1.out (HIn.out.2 _ (ag HBW.out HB1.out)) (by omega) HB1.out.size ?_
 intro u2 w3 ho2 hg2
 have HO2:=aa ho2
 have HB2:=aa (World.ownsRow.grownB (a:=W1) HO1.out HB1.out hg2)
 clear ho2 hg2
 refine hK.out _ _ (by exact HSB.out _ HB2.out) (fun hS=> ?_)
 clear hK
 refine ak ?_
 refine eC 7 3 ?_
 refine eH ?_
 go_wp2_with fail
 clear hS
 go_loopw [3,4] (fun u i wr=> ∃(k:Nat) (l:List ai),k≤m.racks.length∧i= .int .i64 k∧l=(m.sites++m.feeds)++(m.racks.take k).map (·.name)∧bo wr W1.heap.size u (l.map bs)∧Below W1.heap.size W1 wr) (fun _ i _=>m.racks.length - (intOf i).toNat)
 case atStart=>exact⟨0,(m.sites++m.feeds),aY _,rfl,by simp,HO2.out,HB2.out⟩
 case round=>
  obtain⟨k1,L1,hk,rfl,hl,ho,hB⟩:=hrel
  have HL1:=aa hl;have HO1:=aa ho;have HB1:=aa hB
  have hll1:L1.length≤100+200:=by rw[hl];simp;omega
  have cf:wr.cell? ⟨w.heap.size,2,none⟩=some (.slice Ra m.racks.length rc):=af (ah HmW.out hB) rfl
  refine iF fun HBw=> ?_
  have hz:=hB.size
  clear hl ho hB
  by_cases hlt:k1<m.racks.length
  ·have hI1:(0:Int)≤k1:=by omega
   have hI2:(k1:Int)<m.racks.length:=by omega
   obtain⟨x,hx⟩: ∃x,m.racks[k1]? =some x:=⟨_,List.getElem?_eq_getElem hlt⟩
   obtain⟨b,o,cs,rfl,hb,_,⟨rfl,_⟩,hcell⟩:=HRs.out.at_ hx
   have e0:=(HBw.out.cell (p:=⟨b,o+k1*3+0,none⟩) hb).trans (hcell 0 _ rfl)
   simp only[Nat.add_zero] at e0
   have HT:=aa (uv (f:=fun x=>x.name) hx)
   clear hcell hx
   go_wp2_with first
    |(at_builtin;refine qQ rfl (.tmp 21) (.tmp 28) rfl W1.heap.size _ _ (L1.map bs) [bs x.name] rfl rfl (HO1.out.alloc _) (uu _ _) (by simp;omega) (by simp;omega) ?_
      intro u3 w3 ho3 hg3
      have HOn:=aa ho3
      have HBn:=aa (World.ownsRow.grownB (a:=W1) (HO1.out.alloc _) (ac HB1.out _) hg3)
      clear ho3 hg3)
   exact⟨⟨k1+1,L1++[x.name],by omega,by go_num,by rw[HT.out,HL1.out,List.append_assoc],by rw[List.map_append];exact HOn.out,HBn.out⟩,by simp[intOf];omega⟩
  ·have hI2: ¬(k1:Int)<m.racks.length:=by omega
   have HP1:=aa (show L1=(m.sites++m.feeds)++m.racks.map (·.name) by rw[HL1.out,List.take_of_length_le (by omega)])
   go_wp2_with fail
   go_loopw [3,5] (fun u i wr=> ∃(k:Nat) (l:List ai),k≤m.machs.length∧i= .int .i64 k∧l=L1++(m.machs.take k).map (·.name)∧bo wr W1.heap.size u (l.map bs)∧Below W1.heap.size W1 wr) (fun _ i _=>m.machs.length - (intOf i).toNat)
   case atStart=>exact⟨0,L1,aY _,rfl,by simp,HO1.out,HB1.out⟩
   case round=>
    obtain⟨k2,L2,hk,rfl,hl,ho,hB⟩:=hrel
    have HL2:=aa hl;have HO2:=aa ho;have HB2:=aa hB
    have hll2:L2.length≤200+200:=by rw[hl];simp;omega
    have cf:wr.cell? ⟨w.heap.size,3,none⟩=some (.slice Ma m.machs.length mc):=af (ah HmW.out hB) rfl
    refine iF fun HBw=> ?_
    have hz:=hB.size
    clear hl ho hB
    by_cases hlt:k2<m.machs.length
    ·have hI1:(0:Int)≤k2:=by omega
     have hI2:(k2:Int)<m.machs.length:=by omega
     obtain⟨x,hx⟩: ∃x,m.machs[k2]? =some x:=⟨_,List.getElem?_eq_getElem hlt⟩
     obtain⟨b,o,cs,rfl,hb,_,⟨rfl,_⟩,hcell⟩:=HMs.out.at_ hx
     have e0:=(HBw.out.cell (p:=⟨b,o+k2*3+0,none⟩) hb).trans (hcell 0 _ rfl)
     simp only[Nat.add_zero] at e0
     have HT:=aa (uv (f:=fun x=>x.name) hx)
     clear hcell hx
     go_wp2_with first
      |(at_builtin;refine qQ rfl (.tmp 37) (.tmp 44) rfl W1.heap.size _ _ (L2.map bs) [bs x.name] rfl rfl (HO2.out.alloc _) (uu _ _) (by simp;omega) (by simp;omega) ?_
        intro u3 w3 ho3 hg3
        have HOn:=aa ho3
        have HBn:=aa (World.ownsRow.grownB (a:=W1) (HO2.out.alloc _) (ac HB2.out _) hg3)
        clear ho3 hg3)
     exact⟨⟨k2+1,L2++[x.name],by omega,by go_num,by rw[HT.out,HL2.out,List.append_assoc],by rw[List.map_append];exact HOn.out,HBn.out⟩,by simp[intOf];omega⟩
    ·have hI2: ¬(k2:Int)<m.machs.length:=by omega
     have HP2:=aa (show L2=L1++m.machs.map (·.name) by rw[HL2.out,List.take_of_length_le (by omega)])
     go_wp2_with fail
     go_loopw [3,6] (fun u i wr=> ∃(k:Nat) (l:List ai),k≤m.items.length∧i= .int .i64 k∧l=L2++(m.items.take k).map (·.name)∧bo wr W1.heap.size u (l.map bs)∧Below W1.heap.size W1 wr) (fun _ i _=>m.items.length - (intOf i).toNat)
     case atStart=>exact⟨0,L2,aY _,rfl,by simp,HO2.out,HB2.out⟩
     case round=>
      obtain⟨k3,L3,hk,rfl,hl,ho,hB⟩:=hrel
      have HL3:=aa hl;have HO3:=aa ho;have HB3:=aa hB
      have hll3:L3.length≤300+200:=by rw[hl];simp;omega
      have cf:wr.cell? ⟨w.heap.size,5,none⟩=some (.slice Ia m.items.length ic):=af (ah HmW.out hB) rfl
      refine iF fun HBw=> ?_
      have hz:=hB.size
      clear hl ho hB
      by_cases hlt:k3<m.items.length
      ·have hI1:(0:Int)≤k3:=by omega
       have hI2:(k3:Int)<m.items.length:=by omega
       obtain⟨x,hx⟩: ∃x,m.items[k3]? =some x:=⟨_,List.getElem?_eq_getElem hlt⟩
       obtain⟨b,o,cs,rfl,hb,_,⟨yo,rfl,_⟩,hcell⟩:=HIs.out.at_ hx
       have e0:=(HBw.out.cell (p:=⟨b,o+k3*7+0,none⟩) hb).trans (hcell 0 _ rfl)
       simp only[Nat.add_zero] at e0
       have HT:=aa (uv (f:=fun x=>x.name) hx)
       clear hcell hx
       go_wp2_with first
        |(at_builtin;refine qQ rfl (.tmp 53) (.tmp 60) rfl W1.heap.size _ _ (L3.map bs) [bs x.name] rfl rfl (HO3.out.alloc _) (uu _ _) (by simp;omega) (by simp;omega) ?_
          intro u3 w3 ho3 hg3
          have HOn:=aa ho3
          have HBn:=aa (World.ownsRow.grownB (a:=W1) (HO3.out.alloc _) (ac HB3.out _) hg3)
          clear ho3 hg3)
       exact⟨⟨k3+1,L3++[x.name],by omega,by go_num,by rw[HT.out,HL3.out,List.append_assoc],by rw[List.map_append];exact HOn.out,HBn.out⟩,by simp[intOf];omega⟩
      ·have hI2: ¬(k3:Int)<m.items.length:=by omega
       have HP3:=aa (show L3=L2++m.items.map (·.name) by rw[HL3.out,List.take_of_length_le (by omega)])
       go_wp2_with fail
       go_ret
       refine⟨_,rfl,?_,HBw.out⟩
       rw[di,←HP1.out,←HP2.out,←HP3.out]
       exact jt HO3.out HBW.out.size
theorem aI.take {w:World} {B n c:Nat} {A:Option Addr} {l:List ai} (h:aI w B (.slice A n c) l) {j:Nat} (hj:j≤n):aI w B (.slice A j c) (l.take j):=by
 obtain⟨A',c',he,h1,h2,h3⟩:=h
 injection he with e1 e2 e3
 subst e1 e3
 simp only[List.length_map] at e2
 refine⟨A,c,by simp[←e2,Nat.min_eq_left hj],by simp at h1⊢;omega,h2,fun hn=> ?_⟩
 have hne:(l.map bs).map Value.string≠[]:=fun e=>hn (by
  have:l=[]:=by simpa using e
  rw[this];simp)
 obtain⟨b,o,hA,hb,hc⟩:=h3 hne
 refine⟨b,o,hA,hb,fun i x hx=>hc i x ?_⟩
 rw[List.map_take,List.map_take,List.getElem?_take] at hx
 split at hx
 ·exact hx
 ·cases hx
theorem kZ (w:World) (o1 o2:Obj):((w.alloc o1).alloc o2).heap[w.heap.size+1]? =some o2:=by
 have h:=aN (w.alloc o1) o2
 rwa [show(w.alloc o1).heap.size=w.heap.size+1 by simp] at h
theorem My {L:List ai} {k:Nat} {s:ai} (h:L[k]? =some s):dE (fun s b=>bJ s&& !decide (s∈b)) [] L k=(bJ s&& !decide (s∈L.take k)):=by
 rw[iu h];rfl
theorem BD {c:Nat→Bool} {n k:Nat} {b q:Bool} (hb:b=(cV c n&&q)) (hk:k<n) (h:c k=false):b=false:=by rw[hb,gD hk h];rfl
theorem Mz {k:Nat} {l:List Int} (j:Nat) (x y:Int) (h0: ¬j=0) (hy:l[j - 1]? =some y) (hx:l[j]? =some x):iw k l j=(aM x k&&decide (y<x)):=by
 obtain⟨i,rfl⟩: ∃i,j=i+1:=⟨j - 1,by omega⟩
 exact rJ hy hx
theorem lf (n a b:Int) (w:World):Calls prog 167 #[.int .i64 n,.int .i64 a,.int .i64 b] w fun e w'=>e= .returned (.bool (aD n a b))∧w'=w:=by
 go_enter func167,ntmps167
 go_wp2
 all_goals (go_ret;exact⟨aV (by simp[aD];try omega),rfl⟩)
theorem MA (m:aC) (v:MV) (w:World) (hv:m.In w w.heap.size v) (hsl:m.sites.length≤100) (hfl:m.feeds.length≤100) (hrl:m.racks.length≤100) (hml:m.machs.length≤100) (hil:m.items.length≤100):
 am 163 #[.agg (m.cells v)] w (.bool (lo (di m))):=by
 refine fC fun Sa sc hs hs1 hs2 Fa fc hf' hf1 hf2 Ra rc hr hr1 hr2 Ma mc hm hm1 hm2 La lc hl hl1 hl2 Ia ic hi hi1 hi2 Ua uc hu hu1 hu2 HS=> ?_
 have HNm:=aa (fun W (hW:Below w.heap.size w W)=>Mw m v W (hv.to hW (ae _) hW.size) hsl hfl hrl hml hil)
 have HLl:=aa (show(di m).length≤1000 by simp[di];omega)
 generalize di m=L at HNm HLl
 unfold lo
 have HPr:=aa (hE (fun s b=>bJ s&& !decide (s∈b)) L [])
 have HAt:=aa (fun k s (h:L[k]? =some s)=>My h)
 generalize dh (fun s b=>bJ s&& !decide (s∈b)) [] L=res at HPr⊢
 generalize dE (fun s b=>bJ s&& !decide (s∈b)) [] L=F at HPr HAt
 rw[HS.out] at HNm
 clear hsl hfl hrl hml hil
 rw[HS.out]
 clear hv hs hf' hr hm hl hi hu
 go_enter func163,ntmps163
 go_upto_region 1 with (fail)
 refine kb ?_
 intro W1 ⟨hBW,hmW⟩
 have HBW:=aa hBW;have HmW:=aa hmW
 have hzm:=blk_lt hmW
 obtain⟨a0,a1,a2,a3,a4,a5,a6,a7,a8,a9,a10⟩:=cd hmW
 clear hBW hmW
 go_wp2_with first
  |(go_at_call 259
    refine(HNm.out W1 HBW.out).mono ?_
    rintro e w2 ⟨u,rfl,hu,hb2⟩
    have HU:Hid (aI w2 w2.heap.size u L):=aa hu.slS
    obtain⟨A,n,c,rfl,hn,hc,hcm⟩:=aL.form hu.slS
    rw[List.length_map] at hn
    have HN:=aa hn
    rw[hn] at HPr
    refine gl fun HB2=> ?_
    clear hu hb2 hn)
 go_loopw [4] (fun i wr=> ∃k:Nat,k≤n∧i= .int .i64 k∧(∀j,j<k→F j=true)∧Below w2.heap.size w2 wr) (fun i _=>n - (intOf i).toNat)
 case atStart=>exact⟨0,aY _,rfl,fun j hj=>by omega,B0 w2⟩
 case round=>
  obtain⟨k,hk,rfl,hok,hB⟩:=hrel
  have HOk:=aa hok;have HB:=aa hB
  have HBw:Hid (Below w.heap.size w wr):=ag HB2.out hB
  clear hok hB
  by_cases hlt:k<n
  ·have hI0:(0:Int)≤k:=by omega
   have hI2:(k:Int)<n:=by omega
   have hI3:(k:Int)≤c:=by omega
   obtain⟨s,hs⟩: ∃s,L[k]? =some s:=⟨_,List.getElem?_eq_getElem (by rw[HN.out];exact hlt)⟩
   have HF:=aa (HAt.out k s hs)
   obtain⟨ub,uo,rfl,hub,hcs⟩:=aI.cell HU.out hs
   have cs:wr.cell? ⟨ub,uo+k,none⟩=some (.string (bs s)):=(HB.out.cell (p:=⟨ub,uo+k,none⟩) hub).trans hcs
   have HNa:=aa (fun W=>Mu s W)
   have HHas:=aa (fun W (h:Below wr.heap.size wr W)=>By (.slice (some ⟨ub,uo,none⟩) k c) (L.take k) s W w2.heap.size (aI.below (aI.take HU.out (by omega)) (ag HB.out h) (ae _)) (by have:=HLl.out;rw[List.length_take];omega))
   obtain⟨b1,hb1⟩: ∃q,bJ s=q:=⟨_,rfl⟩
   obtain⟨b2,hb2⟩: ∃q,decide (s∈L.take k)=q:=⟨_,rfl⟩
   rw[hb1,hb2] at HF
   have HE1:=aa hb1;have HE2:=aa hb2
   clear hb1 hb2 hs hcs
   cases b1 with
   |false=>
    have HR:=aa (jI HPr.out hlt (by first|exact HF.out|(rw[HF.out];rfl)))
    go_upto_region 5 with (fail)
    refine uw fun hS=> ?_
    iterate 4 refine gP 16 13 ?_
    refine cP 4 fun K hK=> ?_
    go_simp
    refine(HNa.out _).mono ?_
    rintro e w4 ⟨rfl,hb4⟩
    rw[HE1.out]
    try go_simp
    refine hK.out _ _ (by exact⟨kc hb4 hS.1,ag hS.2 hb4⟩) (fun hS=> ?_)
    clear hK
    refine ak ?_
    iterate 2 refine gP 16 13 ?_
    iterate 8 refine kP 16 13 ?_
    refine cj 15 28 ?_
    refine eP ?_
    go_wp2_with fail
    go_ret
    exact⟨by rw[HR.out];rfl,ag HBw.out hS.2⟩
   |true=>
    cases b2 with
    |true=>
     have HR:=aa (jI HPr.out hlt (by first|exact HF.out|(rw[HF.out];rfl)))
     go_upto_region 5 with (fail)
     refine uw fun hS=> ?_
     iterate 4 refine gP 16 13 ?_
     refine cP 4 fun K hK=> ?_
     go_simp
     refine(HNa.out _).mono ?_
     rintro e w4 ⟨rfl,hb4⟩
     rw[HE1.out]
     try go_simp
     refine hK.out _ _ (by exact⟨kc hb4 hS.1,ag hS.2 hb4⟩) (fun hS=> ?_)
     clear hK
     refine ak ?_
     iterate 9 refine gP 16 13 ?_
     refine cP 14 fun K hK=> ?_
     go_simp
     refine(HHas.out _ hS.2).mono ?_
     rintro e w4 ⟨rfl,rfl⟩
     rw[HE2.out]
     try go_simp
     refine hK.out _ _ (hS) (fun hS=> ?_)
     clear hK
     refine ak ?_
     refine cj 15 28 ?_
     refine eP ?_
     go_wp2_with fail
     go_ret
     exact⟨by rw[HR.out];rfl,ag HBw.out hS.2⟩
    |false=>
     have HFk:=aa (show F k=true from by first|exact HF.out|(rw[HF.out];rfl))
     go_upto_region 5 with (fail)
     refine uw fun hS=> ?_
     iterate 4 refine gP 16 13 ?_
     refine cP 4 fun K hK=> ?_
     go_simp
     refine(HNa.out _).mono ?_
     rintro e w4 ⟨rfl,hb4⟩
     rw[HE1.out]
     try go_simp
     refine hK.out _ _ (by exact⟨kc hb4 hS.1,ag hS.2 hb4⟩) (fun hS=> ?_)
     clear hK
     refine ak ?_
     iterate 9 refine gP 16 13 ?_
     refine cP 14 fun K hK=> ?_
     go_simp
     refine(HHas.out _ hS.2).mono ?_
     rintro e w4 ⟨rfl,rfl⟩
     rw[HE2.out]
     try go_simp
     refine hK.out _ _ (hS) (fun hS=> ?_)
     clear hK
     refine ak ?_
     refine cj 15 28 ?_
     refine eP ?_
     go_wp2_with fail
     exact⟨⟨k+1,by omega,by go_num,fun q hq=>by
      rcases Nat.lt_or_ge q k with h|h
      ·exact HOk.out q h
      ·have:q=k:=by omega
       subst this;exact HFk.out,ag HB.out hS.2⟩,by simp[intOf];omega⟩
  ·have hI2: ¬(k:Int)<n:=by omega
   exact ul
theorem BE (m:aC) (v:MV) (u:Value) (l:List Int) (w:World) (hv:m.In w w.heap.size v) (hl0:aq w w.heap.size u l):
 am 261 #[.agg (m.cells v),u] w (.bool (eO m l)):=by
 obtain⟨A,n,c,rfl,hn,hc,hcm⟩:=hl0.sk.form
 refine fC fun Sa sc hs hs1 hs2 Fa fc hf' hf1 hf2 Ra rc hr hr1 hr2 Ma mc hm hm1 hm2 La lc hl hl1 hl2 Ia ic hi hi1 hi2 Ua uc hu hu1 hu2 HS=> ?_
 have HL:=aa hl0
 have HN:=aa hn
 have HPr:Hid (eO m l=(cV (iw m.machs.length l) n&&decide (0<n))):=by show _=_;rw[←hn,←xF];rfl
 have HF0:=aa (fun x (h:l[0]? =some x)=>xG (k:=m.machs.length) h)
 have HFs:=aa (fun(j:Nat) (x y:Int)=>Mz (k:=m.machs.length) (l:=l) j x y)
 generalize eO m l=res at HPr⊢
 generalize iw m.machs.length l=F at HPr HF0 HFs
 clear hl0 hn
 rw[HS.out]
 clear hv hs hf' hr hm hl hi hu
 go_enter func261,ntmps261
 go_upto_region 1 with (fail)
 refine kb ?_
 intro W1 ⟨hBW,hmW⟩
 have HBW:=aa hBW;have HmW:=aa hmW
 have hzm:=blk_lt hmW
 clear hBW hmW
 go_wp2_with fail
 go_loopw [5] (fun i wr=> ∃k:Nat,k≤n∧i= .int .i64 k∧(∀j,j<k→F j=true)∧Below W1.heap.size W1 wr) (fun i _=>n - (intOf i).toNat)
 case atStart=>exact⟨0,aY _,rfl,fun j hj=>by omega,B0 W1⟩
 case round=>
  obtain⟨k,hk,rfl,hok,hB⟩:=hrel
  have HOk:=aa hok;have HB:=aa hB
  refine iF fun HBw=> ?_
  have c3:wr.cell? ⟨w.heap.size,3,none⟩=some (.slice Ma m.machs.length mc):=af (ah HmW.out hB) rfl
  clear hok hB
  by_cases hlt:k<n
  ·have hI0:(0:Int)≤k:=by omega
   have hI2:(k:Int)<n:=by omega
   obtain⟨x,hx⟩: ∃x,l[k]? =some x:=⟨_,List.getElem?_eq_getElem (by rw[HN.out];exact hlt)⟩
   obtain⟨ub,uo,hA,hub,hcs⟩:=aq.cell HL.out hx
   subst hA
   have cs:wr.cell? ⟨ub,uo+k,none⟩=some (.int .i64 x):=(HBw.out.cell (p:=⟨ub,uo+k,none⟩) hub).trans hcs
   clear hcs
   by_cases h0:k=0
   ·have HF:=aa (show F k=aM x m.machs.length by rw[h0];exact HF0.out x (by rw[←h0];exact hx))
    obtain⟨b1,hb1⟩: ∃q,aM x m.machs.length=q:=⟨_,rfl⟩
    rw[hb1] at HF
    have HE1:=aa hb1
    have q0:decide ((0:Int)<(k:Int))=false:=decide_eq_false (by omega)
    have q0':decide (0<k)=false:=decide_eq_false (by omega)
    clear h0
    clear hb1 hx
    cases b1 with
    |false=>
     exact BF
    |true=>
     have HFk:=aa (show F k=true from by first|exact HF.out|(rw[HF.out];rfl))
     go_upto_region 4 with (fail)
     refine BG fun hS=> ?_
     iterate 7 refine gP 25 12 ?_
     refine cP 7 fun K hK=> ?_
     go_simp
     refine fu ?_
     rintro e w4 ⟨rfl,rfl⟩
     rw[HE1.out]
     try go_simp
     refine hK.out _ _ (hS) (fun hS=> ?_)
     clear hK
     refine ak ?_
     iterate 5 refine gP 25 12 ?_
     iterate 10 refine kP 25 12 ?_
     iterate 2 refine gP 25 12 ?_
     refine eP ?_
     go_wp2_with fail
     exact⟨⟨k+1,by omega,by go_num,fun q hq=>by
      rcases Nat.lt_or_ge q k with h|h
      ·exact HOk.out q h
      ·have:q=k:=by omega
       subst this;exact HFk.out,ag HB.out hS.2.2⟩,by simp[intOf];omega⟩
   ·obtain⟨y,hy⟩: ∃y,l[k - 1]? =some y:=⟨_,List.getElem?_eq_getElem (by rw[HN.out];omega)⟩
    have HF:=aa (HFs.out k x y h0 hy hx)
    obtain⟨ub',uo',hA,_,hcp⟩:=aq.cell HL.out hy
    injection hA with hA
    injection hA with hA1 hA2 _
    subst hA1 hA2
    have cp:wr.cell? ⟨ub,uo+(k - 1),none⟩=some (.int .i64 y):=(HBw.out.cell (p:=⟨ub,uo+(k - 1),none⟩) hub).trans hcp
    obtain⟨b1,hb1⟩: ∃q,aM x m.machs.length=q:=⟨_,rfl⟩
    obtain⟨b2,hb2⟩: ∃q,decide (y<x)=q:=⟨_,rfl⟩
    rw[hb1,hb2] at HF
    have HE1:=aa hb1
    refine BH fun q0 q0' q1 q2 q3 q3' q4=> ?_
    clear hb1 hx hy hcp
    cases b1 with
    |false=>
     clear hb2
     exact BF
    |true=>
     cases b2 with
     |false=>
      have q5:decide (x≤y)=true:=decide_eq_true (by have:=of_decide_eq_false hb2;omega)
      clear hb2
      have HR:=aa (BD HPr.out hlt (by first|exact HF.out|(rw[HF.out];rfl)))
      go_upto_region 4 with (fail)
      refine BI fun hS=> ?_
      iterate 7 refine gP 25 12 ?_
      refine cP 7 fun K hK=> ?_
      go_simp
      refine fu ?_
      rintro e w4 ⟨rfl,rfl⟩
      rw[HE1.out]
      try go_simp
      refine hK.out _ _ (hS) (fun hS=> ?_)
      clear hK
      refine ak ?_
      iterate 17 refine gP 25 12 ?_
      refine eP ?_
      go_wp2_with fail
      go_ret
      exact⟨by rw[HR.out];rfl,ag HBw.out hS.2.2.2⟩
     |true=>
      have q5:decide (x≤y)=false:=decide_eq_false (by have:=of_decide_eq_true hb2;omega)
      clear hb2
      have HFk:=aa (show F k=true from by first|exact HF.out|(rw[HF.out];rfl))
      go_upto_region 4 with (fail)
      refine BI fun hS=> ?_
      iterate 7 refine gP 25 12 ?_
      refine cP 7 fun K hK=> ?_
      go_simp
      refine fu ?_
      rintro e w4 ⟨rfl,rfl⟩
      rw[HE1.out]
      try go_simp
      refine hK.out _ _ (hS) (fun hS=> ?_)
      clear hK
      refine ak ?_
      iterate 17 refine gP 25 12 ?_
      refine eP ?_
      go_wp2_with fail
      exact⟨⟨k+1,by omega,by go_num,fun q hq=>by
       rcases Nat.lt_or_ge q k with h|h
       ·exact HOk.out q h
       ·have:q=k:=by omega
        subst this;exact HFk.out,ag HB.out hS.2.2.2⟩,by simp[intOf];omega⟩
  ·have hI2: ¬(k:Int)<n:=by omega
   have HR:=aa (show res=decide (0<n) from by rw[HPr.out,iV fun j hj=>HOk.out j (by omega),Bool.true_and])
   go_wp2_with fail
   go_ret
   exact⟨by rw[HR.out];exact aV (by simp),HBw.out⟩
def ml (x:bQ):Bool:=if x.kind=0 then iy 0 x else if x.kind=1 then iy 1 x else if x.kind=2 then iy 2 x else false
theorem MB (m:aC) (x:bQ):dj m x=(ml x&&eO m x.on&&aD x.load 0 1048576&&aD x.size 0 1048576&&aD x.share 1 1048576):=by
 unfold ml dj
 split
 ·rfl
 ·split
  ·rfl
  ·split<;>rfl
theorem MC (m:aC) (v:MV) (x:bQ) (o:Value) (w:World) (hv:m.In w w.heap.size v) (ho:aq w w.heap.size o x.on):
 am 164 #[.agg (m.cells v),.agg (x.vals o)] w (.bool (dj m x)):=by
 obtain⟨A,n,c,rfl,hn,hc,hcm⟩:=ho.sk.form
 refine fC fun Sa sc hs hs1 hs2 Fa fc hf' hf1 hf2 Ra rc hr hr1 hr2 Ma mc hm hm1 hm2 La lc hl hl1 hl2 Ia ic hi hi1 hi2 Ua uc hu hu1 hu2 HS=> ?_
 have HMa:=aa (fun W (hW:Below w.heap.size w W)=>BE m v (.slice A n c) x.on W (hv.to hW (ae _) hW.size) ((ho.below hW (ae _)).more hW.size))
 rw[HS.out] at HMa
 have HO:=aa (MB m x)
 have HN:=aa hn
 generalize dj m x=r at HO⊢
 obtain⟨b1,hb1⟩: ∃q,eO m x.on=q:=⟨_,rfl⟩
 obtain⟨b2,hb2⟩: ∃q,aD x.load 0 1048576=q:=⟨_,rfl⟩
 obtain⟨b3,hb3⟩: ∃q,aD x.size 0 1048576=q:=⟨_,rfl⟩
 obtain⟨b4,hb4⟩: ∃q,aD x.share 1 1048576=q:=⟨_,rfl⟩
 rw[hb1,hb2,hb3,hb4] at HO
 have HE1:=aa hb1;have HE2:=aa hb2;have HE3:=aa hb3;have HE4:=aa hb4
 clear hb1 hb2 hb3 hb4 ho hn
 rw[HS.out,bQ.vals_def]
 clear hv hs hf' hr hm hl hi hu
 go_enter func164,ntmps164
 go_upto_region 1 with (fail)
 refine bt (fun W=>Below w.heap.size w W∧W.heap[w.heap.size]? =some (.cells #[.slice Sa m.sites.length sc,.slice Fa m.feeds.length fc,.slice Ra m.racks.length rc,.slice Ma m.machs.length mc,.slice La m.links.length lc,.slice Ia m.items.length ic,.int .i64 m.dark,.int .i64 m.slots,.int .i64 m.reserve,.int .i64 m.failures,.slice Ua m.rules.length uc] 29 (0,0))∧W.heap[w.heap.size+1]? =some (.cells #[.string (bs x.name),.int .i64 x.kind,.int .i64 x.count,.int .i64 x.load,.int .i64 x.size,.int .i64 x.share,.slice A n c] 135 (0,0))) ⟨ac (ac (B0 w) _) _,ah (aN w _) (ac (B0 _) _),kZ w _ _⟩ ?_
 intro W1 ⟨hBW,hmW,hxW⟩
 have HBW:=aa hBW;have HmW:=aa hmW;have HxW:=aa hxW
 obtain⟨a0,a1,a2,a3,a4,a5,a6,a7,a8,a9,a10⟩:=cd hmW
 obtain⟨x0,x1,x2,x3,x4,x5,x6⟩:=cZ hxW
 have hz1:=blk_lt hxW
 clear hBW hmW hxW
 obtain⟨xb,hxb⟩: ∃q,w.heap.size+1=q:=⟨_,rfl⟩
 rw[hxb] at HxW x0 x1 x2 x3 x4 x5 x6⊢
 clear hxb hz1
 cases b1 with
 |false=>
  exact qe
 |true=>
  cases b2 with
  |false=>
   exact qe
  |true=>
   cases b3 with
   |false=>
    exact qe
   |true=>
    cases b4 with
    |false=>
     exact qe
    |true=>
     by_cases k0:x.kind=0
     ·have e0:(x.kind==0)=true:=by simp[k0]
      have HR:=aa (show r=((decide (x.count=1)||decide (x.count=3)||decide (x.count=5))&&decide (x.count=(x.on.length:Nat))) by rw[HO.out];simp[ml,iy,k0])
      clear k0
      exact uy
     ·have e0:(x.kind==0)=false:=by simp[k0]
      have K0:=aa k0
      clear k0
      by_cases k2:x.kind=2
      ·have e2:(x.kind==2)=true:=by simp[k2]
       have HR:=aa (show r=(decide (x.count=1)&&decide ((x.on.length:Nat)=1)) by rw[HO.out];simp[ml,iy,k2])
       clear k2
       exact uy
      ·have e2:(x.kind==2)=false:=by simp[k2]
       have K2:=aa k2
       clear k2
       by_cases k1:x.kind=1
       ·have e1:(x.kind==1)=true:=by simp[k1]
        have HR:=aa (show r=aD x.count 1 8 by rw[HO.out];simp[ml,iy,k1])
        clear k1
        exact uy
       ·have e1:(x.kind==1)=false:=by simp[k1]
        have K1:=aa k1
        clear k1
        have HR:=aa (show r=false by rw[HO.out];simp[ml,K0.out,K1.out,K2.out])
        go_wp2_with first
         |(go_at_call 261
           refine(HMa.out _ HBW.out).mono ?_
           rintro e w2 ⟨rfl,hb2⟩
           rw[HE1.out]
           have hx2:=ah HxW.out hb2
           obtain⟨y0,y1,y2,y3,y4,y5,y6⟩:=cZ hx2
           refine gl fun HB2=> ?_
           clear hb2 hx2)
         |(go_at_call 167
           refine(lf _ _ _ _).mono ?_
           rintro e w3 ⟨rfl,hw⟩
           obtain rfl:=hw.symm
           first|rw[HE2.out]|rw[HE3.out]|rw[HE4.out]|skip)
        go_ret
        exact⟨aV HR.out.symm,HB2.out⟩
end
end Go.Proofs.YthnkonlbfogkgaaGreatDoor
