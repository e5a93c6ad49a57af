/- A part of the proof. -/
import Derived.Test.YthnkonlbfogkgaaGreatDoorQbt
set_option linter.unusedVariables false
set_option linter.unusedSimpArgs false
set_option maxRecDepth 100000
set_option maxHeartbeats 32000000
namespace Go.Proofs.YthnkonlbfogkgaaGreatDoor
section
open Go Go.RowKit Go.MapKept Tryz
theorem qg {P:Program} {ops:Array Oper} {Q:Exit→Act→World→Prop} {md:Region.Mode} {S:World→Prop} {fuel:Nat} {listed:Array Bool} {a:Act} {w:World} (F:World→Prop) (hF:F w) (h: ∀W,F W→wpAnyH P md ops Q S fuel listed a W):wpAnyH P md ops Q S fuel listed a w:=h w hF
section
variable {W:World} {b:Nat} {T:TypeId} {u0 u1 u2 u3 u4 u5 u6:Value}
theorem qh (hT:W.heap[b]? =some (.cells #[u0,u1,u2,u3,u4,u5,u6] T (0,0))) (v0 v1 v2 v3 v4 v5 v6:Value):
 (((((((W.setCell ⟨b,0,none⟩ v0).setCell ⟨b,1,none⟩ v1).setCell ⟨b,2,none⟩ v2).setCell ⟨b,3,none⟩ v3).setCell ⟨b,4,none⟩ v4).setCell ⟨b,5,none⟩ v5).setCell ⟨b,6,none⟩ v6).heap[b]? =some (.cells #[v0,v1,v2,v3,v4,v5,v6] T (0,0)):=
 (ay (ay (ay (ay (ay (ay (ay hT 0 v0) 1 v1) 2 v2) 3 v3) 4 v4) 5 v5) 6 v6).trans (by kernel_rfl)
theorem qi {c:Nat} {o:Obj} (hT:W.heap[c]? =some o) (hne: ¬c=b) (v0 v1 v2 v3 v4 v5 v6:Value):
 (((((((W.setCell ⟨b,0,none⟩ v0).setCell ⟨b,1,none⟩ v1).setCell ⟨b,2,none⟩ v2).setCell ⟨b,3,none⟩ v3).setCell ⟨b,4,none⟩ v4).setCell ⟨b,5,none⟩ v5).setCell ⟨b,6,none⟩ v6).heap[c]? =some o:=
 gz (gz (gz (gz (gz (gz (gz hT hne) hne) hne) hne) hne) hne) hne
theorem qj {w:World} (h:Below w.heap.size w W) (hb:w.heap.size≤b) (v0 v1 v2 v3 v4 v5 v6:Value):
 Below w.heap.size w (((((((W.setCell ⟨b,0,none⟩ v0).setCell ⟨b,1,none⟩ v1).setCell ⟨b,2,none⟩ v2).setCell ⟨b,3,none⟩ v3).setCell ⟨b,4,none⟩ v4).setCell ⟨b,5,none⟩ v5).setCell ⟨b,6,none⟩ v6):=
 aR (aR (aR (aR (aR (aR (aR h hb v0) hb v1) hb v2) hb v3) hb v4) hb v5) hb v6
end
theorem BJ (v1 v2:Value) (l:List ai) (w:World) (h1:aI w w.heap.size v1 l) (h2:aI w w.heap.size v2 l):
 am 119 #[v1,v2] w (.bool true):=by
 obtain⟨A1,n,c1,rfl,hn1,hc1,_⟩:=aL.form h1
 obtain⟨A2,n2,c2,rfl,hn2,hc2,_⟩:=aL.form h2
 obtain rfl:n=n2:=by omega
 rw[List.length_map] at hn1
 have H1:=aa h1;have H2:=aa h2;have HN:=aa hn1
 clear h1 h2 hn1 hn2
 have en:((n:Int)!=(n:Int))=false:=by simp
 go_enter func119,ntmps119
 go_wp2_with fail
 go_loopw [5] (fun i wr=> ∃k:Nat,k≤n∧i= .int .i64 k∧Below w.heap.size w wr) (fun i _=>n - (intOf i).toNat)
 case atStart=>exact⟨0,aY _,rfl,B0 w⟩
 case round=>
  obtain⟨k,hk,rfl,hB⟩:=hrel
  have HB:=aa hB
  clear hB
  by_cases hlt:k<n
  ·have hI1:(0:Int)≤k:=by omega
   have hI2:(k:Int)<n:=by omega
   obtain⟨x,hx⟩: ∃x,l[k]? =some x:=⟨_,List.getElem?_eq_getElem (by rw[HN.out];exact hlt)⟩
   obtain⟨b1,p1,rfl,hb1,hc1⟩:=aI.cell H1.out hx
   obtain⟨b2,p2,rfl,hb2,hc2⟩:=aI.cell H2.out hx
   have e1:=(HB.out.cell (p:=⟨b1,p1+k,none⟩) hb1).trans hc1
   have e2:=(HB.out.cell (p:=⟨b2,p2+k,none⟩) hb2).trans hc2
   have q1:((bs x).toList !=(bs x).toList)=false:=by simp
   have q2:((bs x).toList==(bs x).toList)=true:=by simp
   clear hx hc1 hc2
   go_upto_region 6 with (fail)
   refine bP (S:=fun w'=>w'.cell? ⟨b1,p1+k,none⟩=some (.string (bs x))∧w'.cell? ⟨b2,p2+k,none⟩=some (.string (bs x))∧Below wr.heap.size wr w') 9 9 (by exact⟨e1,e2,au (B0 wr)⟩) fun hS=> ?_
   iterate 9 refine gP 9 17 ?_
   refine eP ?_
   go_wp2_with fail
   exact⟨⟨k+1,by omega,by go_num,ag HB.out hS.2.2⟩,by simp[intOf];omega⟩
  ·have hI2: ¬(k:Int)<n:=by omega
   go_wp2_with fail
   go_ret
   exact⟨rfl,HB.out⟩
theorem MD (x:aU) (o1 o2:Value) (w:World) (h1:aq w w.heap.size o1 x.ms) (h2:aq w w.heap.size o2 x.ms):
 am 120 #[.agg (x.vals o1),.agg (x.vals o2)] w (.bool true):=by
 obtain⟨A1,n1,c1,rfl,hn1,hc1,_⟩:=h1.form
 obtain⟨A2,n2,c2,rfl,hn2,hc2,_⟩:=h2.form
 have HIn:=aa (show ∀W,Below w.heap.size w W→am 37 #[.slice A1 n1 c1,.slice A2 n2 c2] W (.bool true) from fun W hW=>(mE _ _ x.ms x.ms W W.heap.size ((h1.below hW (ae _)).more hW.size) ((h2.below hW (ae _)).more hW.size)).mono fun e w' ⟨he,hb⟩=>⟨by rw[he];exact aV (by simp),hb⟩)
 rw[aU.vals_def,aU.vals_def]
 clear h1 h2 hn1 hn2
 go_enter func120,ntmps120
 go_upto_region 1 with (fail)
 refine bt (fun W=>Below w.heap.size w W∧W.heap[w.heap.size]? =some (.cells #[.int .i64 x.kind,.int .i64 x.item,.int .i64 x.other,.int .i64 x.n,.int .i64 x.by_,.bool x.always,.slice A1 n1 c1] 110 (0,0))∧W.heap[w.heap.size+1]? =some (.cells #[.int .i64 x.kind,.int .i64 x.item,.int .i64 x.other,.int .i64 x.n,.int .i64 x.by_,.bool x.always,.slice A2 n2 c2] 110 (0,0))) ⟨ac (ac (B0 w) _) _,ah (aN w _) (ac (B0 _) _),kZ w _ _⟩ ?_
 intro W1 ⟨hBW,hm1,hm2⟩
 have HBW:=aa hBW
 obtain⟨a0,a1,a2,a3,a4,a5,a6⟩:=cZ hm1
 obtain⟨b0,b1,b2,b3,b4,b5,b6⟩:=cZ hm2
 clear hBW hm1 hm2
 go_wp2_with
  (go_at_call 37
   refine(HIn.out _ HBW.out).mono ?_
   rintro e w2 ⟨rfl,hb2⟩
   have HB2:=aa (ag HBW.out hb2)
   clear hb2)
 go_ret
 exact⟨rfl,HB2.out⟩
theorem ME (m:aC) (v1 v2:MV) (w:World) (hv1:m.In w w.heap.size v1) (hv2:m.In w w.heap.size v2):
 am 36 #[.agg (m.cells v1),.agg (m.cells v2)] w (.bool true):=by
 obtain⟨⟨S1,s1,hs1,_,_⟩,⟨F1,f1,hf1,_,_⟩,⟨R1,r1,hr1,hr11,hr12⟩,⟨M1,m1,hm1,hm11,hm12⟩,⟨L1,l1,hl1,hl11,hl12⟩,⟨I1,i1,hi1,hi11,hi12⟩,⟨U1,u1,hu1,hu11,hu12⟩⟩:=hv1.cells
 have HS1:=aa (show m.cells v1= #[.slice S1 m.sites.length s1,.slice F1 m.feeds.length f1,.slice R1 m.racks.length r1,.slice M1 m.machs.length m1,.slice L1 m.links.length l1,.slice I1 m.items.length i1,.int .i64 m.dark,.int .i64 m.slots,.int .i64 m.reserve,.int .i64 m.failures,.slice U1 m.rules.length u1] from by rw[aC.cells_def,hs1,hf1,hr1,hm1,hl1,hi1,hu1])
 have hss1:=hv1.ss
 have hfs1:=hv1.fs
 have hrs1:=hv1.rs
 have hms1:=hv1.ms
 have hls1:=hv1.ls
 have his1:=hv1.is
 have hus1:=hv1.us
 rw[hs1] at hss1
 rw[hf1] at hfs1
 rw[hr1] at hrs1
 rw[hm1] at hms1
 rw[hl1] at hls1
 rw[hi1] at his1
 rw[hu1] at hus1
 have Hss1:=aa hss1;have Hfs1:=aa hfs1;have Hrs1:=aa hrs1;have Hms1:=aa hms1;have Hls1:=aa hls1;have His1:=aa his1;have Hus1:=aa hus1
 clear hss1 hfs1 hrs1 hms1 hls1 his1 hus1
 obtain⟨⟨S2,s2,hs2,_,_⟩,⟨F2,f2,hf2,_,_⟩,⟨R2,r2,hr2,hr21,hr22⟩,⟨M2,m2,hm2,hm21,hm22⟩,⟨L2,l2,hl2,hl21,hl22⟩,⟨I2,i2,hi2,hi21,hi22⟩,⟨U2,u2,hu2,hu21,hu22⟩⟩:=hv2.cells
 have HS2:=aa (show m.cells v2= #[.slice S2 m.sites.length s2,.slice F2 m.feeds.length f2,.slice R2 m.racks.length r2,.slice M2 m.machs.length m2,.slice L2 m.links.length l2,.slice I2 m.items.length i2,.int .i64 m.dark,.int .i64 m.slots,.int .i64 m.reserve,.int .i64 m.failures,.slice U2 m.rules.length u2] from by rw[aC.cells_def,hs2,hf2,hr2,hm2,hl2,hi2,hu2])
 have hss2:=hv2.ss
 have hfs2:=hv2.fs
 have hrs2:=hv2.rs
 have hms2:=hv2.ms
 have hls2:=hv2.ls
 have his2:=hv2.is
 have hus2:=hv2.us
 rw[hs2] at hss2
 rw[hf2] at hfs2
 rw[hr2] at hrs2
 rw[hm2] at hms2
 rw[hl2] at hls2
 rw[hi2] at his2
 rw[hu2] at hus2
 have Hss2:=aa hss2;have Hfs2:=aa hfs2;have Hrs2:=aa hrs2;have Hms2:=aa hms2;have Hls2:=aa hls2;have His2:=aa his2;have Hus2:=aa hus2
 clear hss2 hfs2 hrs2 hms2 hls2 his2 hus2
 have HTf:=aa (fun W (hW:Below w.heap.size w W)=>BJ _ _ m.sites W ((Hss1.out.below hW (ae _)).more hW.size) ((Hss2.out.below hW (ae _)).more hW.size))
 have HTs:=aa (fun W (hW:Below w.heap.size w W)=>BJ _ _ m.feeds W ((Hfs1.out.below hW (ae _)).more hW.size) ((Hfs2.out.below hW (ae _)).more hW.size))
 rw[HS1.out,HS2.out]
 clear hv1 hs1 hf1 hr1 hm1 hl1 hi1 hu1
 clear hv2 hs2 hf2 hr2 hm2 hl2 hi2 hu2
 go_enter func36,ntmps36
 go_upto_region 1 with (fail)
 refine bt (fun W=>Below w.heap.size w W∧W.heap[w.heap.size]? =some (.cells #[.slice S1 m.sites.length s1,.slice F1 m.feeds.length f1,.slice R1 m.racks.length r1,.slice M1 m.machs.length m1,.slice L1 m.links.length l1,.slice I1 m.items.length i1,.int .i64 m.dark,.int .i64 m.slots,.int .i64 m.reserve,.int .i64 m.failures,.slice U1 m.rules.length u1] 29 (0,0))∧W.heap[w.heap.size+1]? =some (.cells #[.slice S2 m.sites.length s2,.slice F2 m.feeds.length f2,.slice R2 m.racks.length r2,.slice M2 m.machs.length m2,.slice L2 m.links.length l2,.slice I2 m.items.length i2,.int .i64 m.dark,.int .i64 m.slots,.int .i64 m.reserve,.int .i64 m.failures,.slice U2 m.rules.length u2] 29 (0,0))) ⟨ac (ac (B0 w) _) _,ah (aN w _) (ac (B0 _) _),kZ w _ _⟩ ?_
 intro W1 ⟨hBW,hm1,hm2⟩
 have HBW:=aa hBW;have Hm1:=aa hm1;have Hm2:=aa hm2
 obtain⟨a0,a1,a2,a3,a4,a5,a6,a7,a8,a9,a10⟩:=cd hm1
 obtain⟨b0,b1,b2,b3,b4,b5,b6,b7,b8,b9,b10⟩:=cd hm2
 clear hBW hm1 hm2
 go_wp2_with
  (go_at_call 119
   first
    |(refine(HTs.out _ HB2.out).mono ?_
      rintro e w3 ⟨rfl,hb3⟩
      have HB3:=aa (ag HB2.out hb3)
      have hm1w:=ah Hm1.out (ag HB2'.out hb3)
      have hm2w:=ah Hm2.out (ag HB2'.out hb3)
      obtain⟨d0,d1,d2,d3,d4,d5,d6,d7,d8,d9,d10⟩:=cd hm1w
      obtain⟨g0,g1,g2,g3,g4,g5,g6,g7,g8,g9,g10⟩:=cd hm2w
      have HB2:=aa (ag HB2'.out hb3)
      clear hb3 hm1w hm2w)
    |(refine(HTf.out _ HBW.out).mono ?_
      rintro e w2 ⟨rfl,hb2⟩
      have HB2:=aa (ag HBW.out hb2)
      have HB2':=aa hb2
      have hm1w:=ah Hm1.out hb2
      have hm2w:=ah Hm2.out hb2
      obtain⟨d0,d1,d2,d3,d4,d5,d6,d7,d8,d9,d10⟩:=cd hm1w
      obtain⟨g0,g1,g2,g3,g4,g5,g6,g7,g8,g9,g10⟩:=cd hm2w
      clear hb2 hm1w hm2w))
 go_loopw [5] (fun i wr=> ∃k:Nat,k≤m.racks.length∧i= .int .i64 k∧Below W1.heap.size W1 wr) (fun i _=>m.racks.length - (intOf i).toNat)
 case atStart=>exact⟨0,aY _,rfl,HB2.out⟩
 case round=>
  obtain⟨k,hk,rfl,hB⟩:=hrel
  refine mp fun HB HBw hm1r hm2r=> ?_
  have c1:wr.cell? ⟨w.heap.size,2,none⟩=some (.slice R1 m.racks.length r1):=af hm1r rfl
  clear hB
  by_cases hlt:k<m.racks.length
  ·have hI1:(0:Int)≤k:=by omega
   have hI2:(k:Int)<m.racks.length:=by omega
   obtain⟨x,hx⟩: ∃x,m.racks[k]? =some x:=⟨_,List.getElem?_eq_getElem hlt⟩
   obtain⟨B1,p1,cs1,rfl,hb1,_,⟨rfl,_⟩,hc1⟩:=Hrs1.out.at_ hx
   obtain⟨B2,p2,cs2,rfl,hb2,_,⟨rfl,_⟩,hc2⟩:=Hrs2.out.at_ hx
   refine uz fun e10 e11 e12 e20 e21 e22=> ?_
   simp only[Nat.add_zero] at e10 e20
   clear hc1 hc2 hx
   have HSB:=aa (fun W (h:Below wr.heap.size wr W)=>And.intro ((show W.cell? ⟨w.heap.size,2,none⟩=some (.slice (some ⟨B1,p1,none⟩) m.racks.length r1) from af (ah hm1r h) rfl)) (And.intro ((show W.cell? ⟨(w.heap.size+1),2,none⟩=some (.slice (some ⟨B2,p2,none⟩) m.racks.length r2) from af (ah hm2r h) rfl)) (And.intro (kc h e10) (And.intro (kc h e11) (And.intro (kc h e12) (And.intro (kc h e20) (And.intro (kc h e21) (kc h e22))))))))
   clear hm1r hm2r e10 e11 e12 e20 e21 e22
   go_upto_region 6 with (fail)
   refine bP (S:=Below wr.heap.size wr) 11 11 (au (B0 wr)) fun hS=> ?_
   iterate 11 refine gP 11 106 ?_
   exact n8
  ·have hI2: ¬(k:Int)<m.racks.length:=by omega
   go_wp2_with fail
   clear hm1r hm2r c1
   go_loopw [6] (fun i wr=> ∃k:Nat,k≤m.machs.length∧i= .int .i64 k∧Below W1.heap.size W1 wr) (fun i _=>m.machs.length - (intOf i).toNat)
   case atStart=>exact⟨0,aY _,rfl,HB.out⟩
   case round=>
    obtain⟨k,hk,rfl,hB⟩:=hrel
    refine mp fun HB HBw hm1r hm2r=> ?_
    have c1:wr.cell? ⟨w.heap.size,3,none⟩=some (.slice M1 m.machs.length m1):=af hm1r rfl
    clear hB
    by_cases hlt:k<m.machs.length
    ·have hI1:(0:Int)≤k:=by omega
     have hI2:(k:Int)<m.machs.length:=by omega
     obtain⟨x,hx⟩: ∃x,m.machs[k]? =some x:=⟨_,List.getElem?_eq_getElem hlt⟩
     obtain⟨B1,p1,cs1,rfl,hb1,_,⟨rfl,_⟩,hc1⟩:=Hms1.out.at_ hx
     obtain⟨B2,p2,cs2,rfl,hb2,_,⟨rfl,_⟩,hc2⟩:=Hms2.out.at_ hx
     refine uz fun e10 e11 e12 e20 e21 e22=> ?_
     simp only[Nat.add_zero] at e10 e20
     clear hc1 hc2 hx
     have HSB:=aa (fun W (h:Below wr.heap.size wr W)=>And.intro ((show W.cell? ⟨w.heap.size,3,none⟩=some (.slice (some ⟨B1,p1,none⟩) m.machs.length m1) from af (ah hm1r h) rfl)) (And.intro ((show W.cell? ⟨(w.heap.size+1),3,none⟩=some (.slice (some ⟨B2,p2,none⟩) m.machs.length m2) from af (ah hm2r h) rfl)) (And.intro (kc h e10) (And.intro (kc h e11) (And.intro (kc h e12) (And.intro (kc h e20) (And.intro (kc h e21) (kc h e22))))))))
     clear hm1r hm2r e10 e11 e12 e20 e21 e22
     go_upto_region 11 with (fail)
     refine bP (S:=Below wr.heap.size wr) 11 11 (au (B0 wr)) fun hS=> ?_
     iterate 11 refine gP 11 124 ?_
     exact n8
    ·have hI2: ¬(k:Int)<m.machs.length:=by omega
     go_wp2_with fail
     clear hm1r hm2r c1
     go_loopw [7] (fun i wr=> ∃k:Nat,k≤m.links.length∧i= .int .i64 k∧Below W1.heap.size W1 wr) (fun i _=>m.links.length - (intOf i).toNat)
     case atStart=>exact⟨0,aY _,rfl,HB.out⟩
     case round=>
      obtain⟨k,hk,rfl,hB⟩:=hrel
      refine mp fun HB HBw hm1r hm2r=> ?_
      have c1:wr.cell? ⟨w.heap.size,4,none⟩=some (.slice L1 m.links.length l1):=af hm1r rfl
      clear hB
      by_cases hlt:k<m.links.length
      ·have hI1:(0:Int)≤k:=by omega
       have hI2:(k:Int)<m.links.length:=by omega
       obtain⟨x,hx⟩: ∃x,m.links[k]? =some x:=⟨_,List.getElem?_eq_getElem hlt⟩
       obtain⟨B1,p1,cs1,rfl,hb1,_,⟨rfl,_⟩,hc1⟩:=Hls1.out.at_ hx
       obtain⟨B2,p2,cs2,rfl,hb2,_,⟨rfl,_⟩,hc2⟩:=Hls2.out.at_ hx
       refine uz fun e10 e11 e12 e20 e21 e22=> ?_
       simp only[Nat.add_zero] at e10 e20
       clear hc1 hc2 hx
       have HSB:=aa (fun W (h:Below wr.heap.size wr W)=>And.intro ((show W.cell? ⟨w.heap.size,4,none⟩=some (.slice (some ⟨B1,p1,none⟩) m.links.length l1) from af (ah hm1r h) rfl)) (And.intro ((show W.cell? ⟨(w.heap.size+1),4,none⟩=some (.slice (some ⟨B2,p2,none⟩) m.links.length l2) from af (ah hm2r h) rfl)) (And.intro (kc h e10) (And.intro (kc h e11) (And.intro (kc h e12) (And.intro (kc h e20) (And.intro (kc h e21) (kc h e22))))))))
       clear hm1r hm2r e10 e11 e12 e20 e21 e22
       go_upto_region 16 with (fail)
       refine bP (S:=Below wr.heap.size wr) 11 11 (au (B0 wr)) fun hS=> ?_
       iterate 11 refine gP 11 142 ?_
       exact n8
      ·have hI2: ¬(k:Int)<m.links.length:=by omega
       go_wp2_with fail
       clear hm1r hm2r c1
       go_loopw [8,9,10] (fun i _ _ wr=> ∃k:Nat,k≤m.items.length∧i= .int .i64 k∧Below W1.heap.size W1 wr) (fun i _ _ _=>m.items.length - (intOf i).toNat)
       case atStart=>exact⟨0,aY _,rfl,HB.out⟩
       case round=>
        obtain⟨k,hk,rfl,hB⟩:=hrel
        refine mp fun HB HBw hm1r hm2r=> ?_
        have c1:wr.cell? ⟨w.heap.size,5,none⟩=some (.slice I1 m.items.length i1):=af hm1r rfl
        clear hB
        by_cases hlt:k<m.items.length
        ·have hI1:(0:Int)≤k:=by omega
         have hI2:(k:Int)<m.items.length:=by omega
         obtain⟨x,hx⟩: ∃x,m.items[k]? =some x:=⟨_,List.getElem?_eq_getElem hlt⟩
         obtain⟨B1,p1,cs1,rfl,hb1,_,⟨o1,rfl,ho1,_⟩,hc1⟩:=His1.out.at_ hx
         obtain⟨B2,p2,cs2,rfl,hb2,_,⟨o2,rfl,ho2,_⟩,hc2⟩:=His2.out.at_ hx
         refine BK fun e10 e11 e12 e13 e14 e15 e16 e20 e21 e22 e23 e24 e25 e26=> ?_
         simp only[Nat.add_zero] at e10 e20
         clear hc1 hc2 hx
         obtain⟨A1,n1,c1,rfl,hn1,hc1,_⟩:=ho1.form
         obtain⟨A2,n2,c2,rfl,hn2,hc2,_⟩:=ho2.form
         have HSB:=aa (fun W (h:Below wr.heap.size wr W)=>And.intro ((show W.cell? ⟨w.heap.size,5,none⟩=some (.slice (some ⟨B1,p1,none⟩) m.items.length i1) from af (ah hm1r h) rfl)) (And.intro ((show W.cell? ⟨(w.heap.size+1),5,none⟩=some (.slice (some ⟨B2,p2,none⟩) m.items.length i2) from af (ah hm2r h) rfl)) (And.intro (kc h e10) (And.intro (kc h e11) (And.intro (kc h e12) (And.intro (kc h e13) (And.intro (kc h e14) (And.intro (kc h e15) (And.intro (kc h e16) (And.intro (kc h e20) (And.intro (kc h e21) (And.intro (kc h e22) (And.intro (kc h e23) (And.intro (kc h e24) (And.intro (kc h e25) (kc h e26))))))))))))))))
         clear hm1r hm2r e10 e11 e12 e13 e14 e15 e16 e20 e21 e22 e23 e24 e25 e26
         go_upto_region 21 with (fail)
         go_cut [9,10] from 153 to 217 (fun p q wx=> ∃xb yb,p=ptr xb∧q=ptr yb∧¬xb=yb∧Below wr.heap.size wr wx∧wx.heap[xb]? =some (.cells #[.string (bs x.name),.int .i64 x.kind,.int .i64 x.count,.int .i64 x.load,.int .i64 x.size,.int .i64 x.share,.slice A1 n1 c1] 135 (0,0))∧wx.heap[yb]? =some (.cells #[.string (bs x.name),.int .i64 x.kind,.int .i64 x.count,.int .i64 x.load,.int .i64 x.size,.int .i64 x.share,.slice A2 n2 c2] 135 (0,0)))
         case first=>
          refine bH (S:=Below wr.heap.size wr) 14 (au (B0 wr)) fun hS=> ?_
          iterate 10 refine gH 14 160 ?_
          refine wpAnyH_ready (rs:=[10,11]) (by kernel_rfl) (by simp) ?_
          refine AllReadyH.cons rfl (fun K hK=> ?_) (AllReadyH.cons rfl (fun K hK=> ?_) AllReadyH.nil)
          ·go_simp
           refine hK.out _ _ (ac hS _) fun hS=> ?_
           clear hK
           refine ak ?_
           refine cH 11 fun K hK=> ?_
           go_simp
           refine hK.out _ _ (ac hS _) fun hS=> ?_
           clear hK
           refine ak ?_
           refine qg (fun W'=>W'.heap[wr.heap.size]? =some (.cells #[.string ⟨#[]⟩,.int .i64 0,.int .i64 0,.int .i64 0,.int .i64 0,.int .i64 0,.slice none 0 0] 135 (0,0))∧W'.heap[wr.heap.size+1]? =some (.cells #[.string ⟨#[]⟩,.int .i64 0,.int .i64 0,.int .i64 0,.int .i64 0,.int .i64 0,.slice none 0 0] 135 (0,0))∧Below wr.heap.size wr W') ⟨ah (aN (wr.drew) _) (ac (B0 _) _),kZ wr.drew _ _,hS⟩ ?_
           intro W2 ⟨hx2,hy2,hb2⟩
           clear hS
           have hS:=hb2
           obtain⟨q0,q1,q2,q3,q4,q5,q6⟩:=cZ hx2
           obtain⟨z0,z1,z2,z3,z4,z5,z6⟩:=jU hx2
           refine cH 12 fun K hK=> ?_
           go_simp
           refine hK.out _ _ (qj hb2 (by omega) _ _ _ _ _ _ _) fun hS=> ?_
           clear hK
           refine ak ?_
           refine qg (fun W'=>W'.heap[wr.heap.size]? =some (.cells #[.string (bs x.name),.int .i64 x.kind,.int .i64 x.count,.int .i64 x.load,.int .i64 x.size,.int .i64 x.share,.slice A1 n1 c1] 135 (0,0))∧W'.heap[wr.heap.size+1]? =some (.cells #[.string ⟨#[]⟩,.int .i64 0,.int .i64 0,.int .i64 0,.int .i64 0,.int .i64 0,.slice none 0 0] 135 (0,0))∧Below wr.heap.size wr W') ⟨qh hx2 _ _ _ _ _ _ _,qi hy2 (by omega) _ _ _ _ _ _ _,hS⟩ ?_
           clear hx2 hy2 hb2 hS q0 q1 q2 q3 q4 q5 q6 z0 z1 z2 z3 z4 z5 z6
           intro W3 ⟨hx3,hy3,hb3⟩
           have hS:=hb3
           obtain⟨q0,q1,q2,q3,q4,q5,q6⟩:=cZ hy3
           obtain⟨z0,z1,z2,z3,z4,z5,z6⟩:=jU hy3
           refine cH 13 fun K hK=> ?_
           go_simp
           refine hK.out _ _ (qj hb3 (by omega) _ _ _ _ _ _ _) fun hS=> ?_
           clear hK
           refine ak ?_
           refine eH ?_
           go_wp2_with fail
           go_meet
           exact⟨wr.heap.size,wr.heap.size+1,rfl,rfl,by omega,hS,qi hx3 (by omega) _ _ _ _ _ _ _,qh hy3 _ _ _ _ _ _ _⟩
          ·go_simp
           refine hK.out _ _ (ac hS _) fun hS=> ?_
           clear hK
           refine ak ?_
           refine cH 10 fun K hK=> ?_
           go_simp
           refine hK.out _ _ (ac hS _) fun hS=> ?_
           clear hK
           refine ak ?_
           refine qg (fun W'=>W'.heap[wr.heap.size+1]? =some (.cells #[.string ⟨#[]⟩,.int .i64 0,.int .i64 0,.int .i64 0,.int .i64 0,.int .i64 0,.slice none 0 0] 135 (0,0))∧W'.heap[wr.heap.size]? =some (.cells #[.string ⟨#[]⟩,.int .i64 0,.int .i64 0,.int .i64 0,.int .i64 0,.int .i64 0,.slice none 0 0] 135 (0,0))∧Below wr.heap.size wr W') ⟨kZ wr.drew _ _,ah (aN (wr.drew) _) (ac (B0 _) _),hS⟩ ?_
           intro W2 ⟨hx2,hy2,hb2⟩
           clear hS
           have hS:=hb2
           obtain⟨q0,q1,q2,q3,q4,q5,q6⟩:=cZ hx2
           obtain⟨z0,z1,z2,z3,z4,z5,z6⟩:=jU hx2
           refine cH 12 fun K hK=> ?_
           go_simp
           refine hK.out _ _ (qj hb2 (by omega) _ _ _ _ _ _ _) fun hS=> ?_
           clear hK
           refine ak ?_
           refine qg (fun W'=>W'.heap[wr.heap.size+1]? =some (.cells #[.string (bs x.name),.int .i64 x.kind,.int .i64 x.count,.int .i64 x.load,.int .i64 x.size,.int .i64 x.share,.slice A1 n1 c1] 135 (0,0))∧W'.heap[wr.heap.size]? =some (.cells #[.string ⟨#[]⟩,.int .i64 0,.int .i64 0,.int .i64 0,.int .i64 0,.int .i64 0,.slice none 0 0] 135 (0,0))∧Below wr.heap.size wr W') ⟨qh hx2 _ _ _ _ _ _ _,qi hy2 (by omega) _ _ _ _ _ _ _,hS⟩ ?_
           clear hx2 hy2 hb2 hS q0 q1 q2 q3 q4 q5 q6 z0 z1 z2 z3 z4 z5 z6
           intro W3 ⟨hx3,hy3,hb3⟩
           have hS:=hb3
           obtain⟨q0,q1,q2,q3,q4,q5,q6⟩:=cZ hy3
           obtain⟨z0,z1,z2,z3,z4,z5,z6⟩:=jU hy3
           refine cH 13 fun K hK=> ?_
           go_simp
           refine hK.out _ _ (qj hb3 (by omega) _ _ _ _ _ _ _) fun hS=> ?_
           clear hK
           refine ak ?_
           refine eH ?_
           go_wp2_with fail
           go_meet
           exact⟨wr.heap.size+1,wr.heap.size,rfl,rfl,by omega,hS,qi hx3 (by omega) _ _ _ _ _ _ _,qh hy3 _ _ _ _ _ _ _⟩
         case rest=>
         obtain⟨xb,yb,rfl,rfl,hne,hbx,hxb,hyb⟩:=hcut
         obtain⟨x0,x1,x2,x3,x4,x5,x6⟩:=cZ hxb
         obtain⟨y0,y1,y2,y3,y4,y5,y6⟩:=cZ hyb
         have HBx:=aa (ag HB.out hbx)
         have HIn:=aa (show ∀W,Below w.heap.size w W→am 37 #[.slice A1 n1 c1,.slice A2 n2 c2] W (.bool true) from fun W hW=>(mE _ _ x.on x.on W W.heap.size ((ho1.below hW (ae _)).more hW.size) ((ho2.below hW (ae _)).more hW.size)).mono fun e w' ⟨he,hb⟩=>⟨by rw[he];exact aV (by simp),hb⟩)
         clear hbx hxb hyb ho1 ho2 hn1 hn2
         simp only[ptr]
         go_wp2_with
          (go_at_call 37
           refine(HIn.out _ (ag HBW.out HBx.out)).mono ?_
           rintro e w5 ⟨rfl,hb5⟩
           have HB5:=aa (ag HBx.out hb5)
           clear hb5)
         exact⟨⟨k+1,by omega,by go_num,HB5.out⟩,by simp[intOf];omega⟩
        ·have hI2: ¬(k:Int)<m.items.length:=by omega
         go_wp2_with fail
         clear hm1r hm2r c1
         go_loopw [11] (fun i wr=> ∃k:Nat,k≤m.rules.length∧i= .int .i64 k∧Below W1.heap.size W1 wr) (fun i _=>m.rules.length - (intOf i).toNat)
         case atStart=>exact⟨0,aY _,rfl,HB.out⟩
         case round=>
          obtain⟨k,hk,rfl,hB⟩:=hrel
          refine mp fun HB HBw hm1r hm2r=> ?_
          have c1:wr.cell? ⟨w.heap.size,10,none⟩=some (.slice U1 m.rules.length u1):=af hm1r rfl
          clear hB
          by_cases hlt:k<m.rules.length
          ·have hI1:(0:Int)≤k:=by omega
           have hI2:(k:Int)<m.rules.length:=by omega
           obtain⟨x,hx⟩: ∃x,m.rules[k]? =some x:=⟨_,List.getElem?_eq_getElem hlt⟩
           obtain⟨B1,p1,cs1,rfl,hb1,_,⟨o1,rfl,ho1,_⟩,hc1⟩:=Hus1.out.at_ hx
           obtain⟨B2,p2,cs2,rfl,hb2,_,⟨o2,rfl,ho2,_⟩,hc2⟩:=Hus2.out.at_ hx
           refine BK fun e10 e11 e12 e13 e14 e15 e16 e20 e21 e22 e23 e24 e25 e26=> ?_
           simp only[Nat.add_zero] at e10 e20
           clear hc1 hc2 hx
           have HCa:=aa (fun W (hW:Below w.heap.size w W)=>MD x o1 o2 W ((ho1.below hW (ae _)).more hW.size) ((ho2.below hW (ae _)).more hW.size))
           simp only[aU.vals_def] at HCa
           clear ho1 ho2
           have HSB:=aa (fun W (h:Below wr.heap.size wr W)=>And.intro ((show W.cell? ⟨w.heap.size,10,none⟩=some (.slice (some ⟨B1,p1,none⟩) m.rules.length u1) from af (ah hm1r h) rfl)) (And.intro ((show W.cell? ⟨(w.heap.size+1),10,none⟩=some (.slice (some ⟨B2,p2,none⟩) m.rules.length u2) from af (ah hm2r h) rfl)) (And.intro (kc h e10) (And.intro (kc h e11) (And.intro (kc h e12) (And.intro (kc h e13) (And.intro (kc h e14) (And.intro (kc h e15) (And.intro (kc h e16) (And.intro (kc h e20) (And.intro (kc h e21) (And.intro (kc h e22) (And.intro (kc h e23) (And.intro (kc h e24) (And.intro (kc h e25) (kc h e26))))))))))))))))
           clear hm1r hm2r e10 e11 e12 e13 e14 e15 e16 e20 e21 e22 e23 e24 e25 e26
           go_upto_region 27 with (fail)
           refine bP (S:=Below wr.heap.size wr) 12 12 (au (B0 wr)) fun hS=> ?_
           iterate 10 refine gP 12 225 ?_
           refine cP 10 fun K hK=> ?_
           go_simp
           refine(HCa.out _ (ag HBw.out hS)).mono ?_
           rintro e w4 ⟨rfl,hb4⟩
           try go_simp
           refine hK.out _ _ (ag hS hb4) fun hS=> ?_
           clear hK
           refine ak ?_
           refine cj 11 236 ?_
           exact n8
          ·have hI2: ¬(k:Int)<m.rules.length:=by omega
           clear hm1r hm2r
           go_wp2_with fail
           go_ret
           exact⟨rfl,HBw.out⟩
end
section
open Go Go.RowKit Tryz
theorem MF (bv ov cv:Nat) (l:List ByteArray) (offs:List Nat) (bu cu b:Nat) (t:TypeId) (cs:Array Value) (w:World) (hG:aT w)
 (h: ∀j,j<l.length→w.cell? ⟨bv,ov+j,none⟩=some (.string (aE l j))) (hbv:bv≠b) (hbvw:bv<w.heap.size) (hc:l.length≤cv) (hsz: ∀s∈l,s.size≤1000000) (hlen:l.length=offs.length) (hn:l.length≤100000)
 (hu: ∀j,j<offs.length→w.cell? ⟨bu,j,none⟩=some (.pointer (some ⟨b,fI offs j,none⟩))) (hbu:bu≠b) (hbw:bu<w.heap.size) (hb8:8≤b)
 (hblk:w.heap[b]? =some (.cells cs t (0,0))) (hint: ∀j,j<offs.length→fI offs j<cs.size):
 Calls prog 77 #[.slice (some ⟨bv,ov,none⟩) l.length cv,.slice (some ⟨bu,0,none⟩) offs.length cu] w (vF w b t cs offs l):=by
 obtain⟨n,hl⟩: ∃n,l.length=n:=⟨_,rfl⟩
 have hbw':b<w.heap.size:=by
  exact oA
 rw[hl] at h hc
 rw[←hlen,hl]
 have HLn:=aa hl;have HLo:=aa (hlen.symm.trans hl)
 have H:=aa h;have HG:=aa hG;have HSZ:=aa hsz;have HU:=aa hu;have HB:=aa hblk;have HI:=aa hint
 have hn':n≤100000:=by omega
 have HBU:=aa hbu;have HBV:=aa hbv
 clear hl hlen h hG hsz hu hblk hint hn hbu hbv
 go_enter func77,ntmps77
 go_wp2_with fail
 go_loopw [16] (fun i wr=> ∃(k:Nat) (vs:List Int),k≤n∧i= .int .i64 k∧bi (l.take k)=some vs∧w.grownBy wr (some b)∧wr.heap[b]? =some (.cells (fw cs (offs.take k) vs) t (0,0))) (fun i _=>n - (intOf i).toNat)
 case atStart=>exact⟨0,[],aY _,rfl,rfl,mK _ _,HB.out⟩
 case round=>
  obtain⟨k,vs,hk,rfl,hvs,hg,hblk⟩:=hrel
  have HV:=aa hvs;have HGr:=aa hg;have HBk:=aa hblk
  clear hvs hg hblk
  by_cases hlt:k<n
  ·have h1:wr.cell? ⟨bv,ov+k,none⟩=some (.string (aE l k)):=by
    rw[World.cell?_of_block (HGr.out.block bv hbvw (by intro e;injection e with e;exact HBV.out e))]
    exact H.out k hlt
   have h2:wr.cell? ⟨bu,k,none⟩=some (.pointer (some ⟨b,fI offs k,none⟩)):=by
    exact vH
   exact vI
  ·exact vJ
theorem MG (s:ByteArray) (bv o bu cu cv b:Nat) (t:TypeId) (cs:Array Value) (w:World) (hG:aT w)
 (h:w.cell? ⟨bv,0,none⟩=some (.string s)) (hbv:bv≠b) (hbvw:bv<w.heap.size) (hcv:1≤cv) (hsz:s.size≤1000000)
 (hu:w.cell? ⟨bu,0,none⟩=some (.pointer (some ⟨b,o,none⟩))) (hbu:bu≠b) (hbw:bu<w.heap.size) (hb8:8≤b)
 (hblk:w.heap[b]? =some (.cells cs t (0,0))) (hint:o<cs.size):
 Calls prog 77 #[.slice (some ⟨bv,0,none⟩) 1 cv,.slice (some ⟨bu,0,none⟩) 1 cu] w fun e w'=>e= .returned (.bool (bg s).isSome)∧w.grownBy w' (some b)∧∃cs',w'.heap[b]? =some (.cells cs' t (0,0))∧cs'.size=cs.size∧∀u,bg s=some u→cs'=cs.setIfInBounds o (.int .i64 u):=by
 refine(MF bv 0 cv [s] [o] bu cu b t cs w hG (fun j hj=> ?_) hbv hbvw hcv (by simpa using hsz) rfl (by simp) (fun j hj=> ?_) hbu hbw hb8 hblk (fun j hj=> ?_)).mono fun e w' ⟨hg,hp⟩=> ?_
 ·have:j=0:=by simpa using hj
  subst this;exact h
 ·have:j=0:=by simpa using hj
  subst this;exact hu
 ·have:j=0:=by simpa using hj
  subst this;exact hint
 ·exact vK
theorem uA (s sep:ByteArray) (w:World) (hG:aT w) (hs:s.size<4294967281) (h1:1≤sep.size):
 Calls prog 29 #[.string s,.string sep] w fun e w'=> ∃v,e= .returned v∧aL w' w'.heap.size v (Lib.splitB sep 0 (Lib.countB s sep) s)∧(Lib.splitB sep 0 (Lib.countB s sep) s).length=Lib.countB s sep+1∧Below w.heap.size w w':=by
 obtain⟨m,hm⟩:=hG.most
 refine(strings_Split s sep m w hs hm h1).mono fun e w' ⟨he,hw⟩=> ?_
 have hlen:(Lib.splitB sep 0 (Lib.countB s sep) s).length=Lib.countB s sep+1:=Lib.splitB_all sep h1 0 _ s rfl
 have hle:=Lib.countB_le sep h1 s.size s (ae _)
 exact vw
theorem MH (s sep:ByteArray) (w:World) (hG:aT w) (hs:s.size<4294967281):
 am 75 #[.string s,.string sep] w (.tuple #[.string (bs (Lib.cut s.data.toList sep.data.toList).1),.string (bs (Lib.cut s.data.toList sep.data.toList).2.1),.bool (Lib.cut s.data.toList sep.data.toList).2.2]):=by
 obtain⟨m,hm⟩:=hG.most
 refine(strings_Cut s sep m w hs hm).mono fun e w' ⟨he,n,hw⟩=>⟨he,?_⟩
 subst hw
 exact jl (Below.refl _ _) n
theorem MI (s p:ByteArray) (w:World):
 Calls prog 76 #[.string s,.string p] w fun e w'=>e= .returned (.string (bs (Lib.trimPrefix s.data.toList p.data.toList)))∧w'=w:=strings_TrimPrefix s p w
theorem ql (a:ai) (sep:ByteArray):Lib.splitB sep 0 (Lib.countB (bs a) sep) (bs a)=(Lib.split a sep.data.toList).map bs:=by
 have h:=Lib.splitB_data sep 0 (Lib.countB (bs a) sep) (bs a)
 have h2:(Lib.splitB sep 0 (Lib.countB (bs a) sep) (bs a)).map (·.data.toList)=Lib.split a sep.data.toList:=h
 rw[←h2,List.map_map]
 exact(List.map_id _).symm.trans (List.map_congr_left fun x _=>(dZ x).symm)
theorem BL (sep:ai): ∀(k:Nat) (s:ai),∀x∈Lib.splitK sep 0 k s,x.length≤s.length
 |0,s,x,hx=>by
  have:x=s:=by simpa[Lib.splitK] using hx
  rw[this];exact ae _
 |k+1,s,x,hx=>by
  unfold Lib.splitK at hx
  split at hx
  ·have:x=s:=by simpa using hx
   rw[this];exact ae _
  ·rcases List.mem_cons.1 hx with rfl|hx
   ·rw[List.length_take];omega
   ·have:=BL sep k _ x hx
    rw[List.length_drop] at this;omega
theorem BM {s sep:ai} {a b:ai} {f:Bool} (h:Lib.cut s sep=(a,b,f)):a.length≤s.length∧b.length≤s.length:=by
 unfold Lib.cut at h
 split at h
 ·injection h with h1 h2
  injection h2 with h2 h3
  subst h1 h2
  exact⟨by rw[List.length_take];omega,by rw[List.length_drop];omega⟩
 ·injection h with h1 h2
  injection h2 with h2 h3
  subst h1 h2
  exact⟨ae _,aY _⟩
theorem MJ {l:ai} (h:cN l=true):Lib.trimPrefix l fA=l.drop 8:=by
 unfold Lib.trimPrefix
 have:Lib.hasPrefix l fA=true:=h
 rw[if_pos this];rfl
def qm (w:World) (b:Nat) (t:TypeId) (cs:Array Value) (line:ai) (e:Ending) (w':World):Prop:=
 w.grownBy w' (some b)∧match gC line with
  |some (l,n)=>e= .returned (.bool true)∧∃bl nn c,w'.heap[b]? =some (.cells ((cs.setIfInBounds 12 (.int .i64 n)).setIfInBounds 11 (.slice (some ⟨bl,0,none⟩) nn c)) t (0,0))∧aq w' w'.heap.size (.slice (some ⟨bl,0,none⟩) nn c) l∧w.heap.size≤bl
  |none=>e= .returned (.bool false)
theorem MK (v:Value) (l:List ByteArray) (w:World) (hG:aT w) (h:aL w w.heap.size v l) (hsz: ∀s∈l,s.size≤1000000) (hn:l.length≤100000) (hp:bi l=none):
 am 78 #[v] w (.tuple #[.slice none 0 0,.bool false]):=by
 refine(ly v l w hG h hsz hn).mono fun e w' hm=> ?_
 unfold jQ at hm
 rw[hp] at hm
 exact⟨hm.2,hm.1⟩
theorem ML (v:Value) (l:List ByteArray) (vs:List Int) (w:World) (hG:aT w) (h:aL w w.heap.size v l) (hsz: ∀s∈l,s.size≤1000000) (hn:l.length≤100000) (hp:bi l=some vs):
 Calls prog 78 #[v] w fun e w'=> ∃bl nn c,e= .returned (.tuple #[.slice (some ⟨bl,0,none⟩) nn c,.bool true])∧aq w' w'.heap.size (.slice (some ⟨bl,0,none⟩) nn c) vs∧w.heap.size≤bl∧Below w.heap.size w w':=by
 refine(ly v l w hG h hsz hn).mono fun e w' hm=> ?_
 unfold jQ at hm
 rw[hp] at hm
 obtain⟨hb,bl,nn,c,h1,h2,h3⟩:=hm
 exact⟨bl,nn,c,h1,h2,h3,hb⟩
theorem BN {line:ai} {a b:ai} {f:Bool} (h:Lib.cut (line.drop 8) dV=(a,b,f)):
 gC line=if f then(bg (bs b)).bind fun n=>(bi ((Lib.split a [44,32]).map bs)).map fun l=>(l,n) else none:=by
 unfold gC;rw[h]
theorem MM (line:ai) (b:Nat) (t:TypeId) (cs:Array Value) (w:World) (hG:aT w) (hp:cN line=true) (hsz:line.length≤90000) (hb8:8≤b)
 (hblk:w.heap[b]? =some (.cells cs t (0,0))) (hcs:cs.size=14):
 Calls prog 33 #[.string (bs line),.pointer (some ⟨b,0,none⟩)] w (qm w b t cs line):=by
 have hbw:b<w.heap.size:=by
  exact oA
 have hGz:=hG.size
 have HTr:=aa (fun W=>(MI (bs line) ⟨#[99,111,110,116,114,111,108,32]⟩ W).mono fun e w' (h:e= .returned (.string (bs (Lib.trimPrefix line fA)))∧w'=W)=>(MJ hp▸h:e= .returned (.string (bs (line.drop 8)))∧w'=W))
 obtain⟨a,c,f,hcut⟩: ∃a c f,Lib.cut (line.drop 8) dV=(a,c,f):=⟨_,_,_,rfl⟩
 have hl1:=BM hcut
 have hld:(line.drop 8).length≤90000:=by rw[List.length_drop];omega
 have hla:a.length≤90000:=by omega
 have hlc:c.length≤90000:=by omega
 have HCu:=aa (fun W (h:aT W)=>(MH (bs (line.drop 8)) ⟨#[32,99,108,105,101,110,116,115,32]⟩ W h (by rw[bq];omega)).mono fun e w' (h:e= .returned (.tuple #[.string (bs (Lib.cut (line.drop 8) dV).1),.string (bs (Lib.cut (line.drop 8) dV).2.1),.bool (Lib.cut (line.drop 8) dV).2.2])∧Below W.heap.size W w')=>(by rw[hcut] at h;exact h:e= .returned (.tuple #[.string (bs a),.string (bs c),.bool f])∧Below W.heap.size W w'))
 have HSp:=aa (BN hcut)
 have HG:=aa hG;have HB:=aa hblk;have HCs:=aa hcs
 clear hcut hl1 hld hG hp hblk hcs hsz
 unfold qm
 rw[HSp.out]
 clear HSp
 cases f with
 |false=>
  go_enter func33,ntmps33
  go_wp2_with first
   |(go_at_call 76;refine(HTr.out _).mono ?_;rintro e w1 ⟨rfl,hw⟩;obtain rfl:=hw.symm)
   |(go_at_call 75;refine(HCu.out _ HG.out).mono ?_;rintro e w2 ⟨rfl,hb2⟩;have HB2:=aa hb2;clear hb2)
  go_ret
  exact⟨gx (mK w (some b)) HB2.out,rfl⟩
 |true=>
  cases hpn:bg (bs c) with
  |none=>
   have HPn:=aa hpn
   clear hpn
   go_enter func33,ntmps33
   go_wp2_with(first
    |(go_at_call 76;refine(HTr.out _).mono ?_;rintro e w1 ⟨rfl,hw⟩;obtain rfl:=hw.symm)
    |(go_at_call 75;refine(HCu.out _ HG.out).mono ?_;rintro e w2 ⟨rfl,hb2⟩;have HB2:=aa hb2;have HBk2:=aa ((hb2.block b hbw).trans HB.out);have hz2:=hb2.size;clear hb2)
    |(go_at_call 77
      refine uB ?_
      rintro e w3 ⟨rfl,hg3,C3,hbk3,hC3,hset⟩
      rw[HPn.out]
      have HG3:=aa hg3;have HK3:=aa hbk3;have HS3:=aa (hset)
      clear hg3 hbk3 hset hC3
      have GR:Hid (w.grownBy w3 (some b)):=aa (by
       have g:=HG3.out
       exact⟨g.os.trans HB2.out.os,g.tape.trans HB2.out.tape,g.output.trans HB2.out.output,by have:=g.size;simp at this<;>omega,fun i hi hne=>(g.block i (by simp<;>omega) hne).trans ((Below.heap_alloc _ _ _ (by simp<;>omega)).trans ((Below.heap_alloc _ _ _ (by omega)).trans (HB2.out.block i hi)))⟩)))
   go_ret
   exact⟨GR.out,rfl⟩
  |some n=>
   have HPn:=aa hpn
   have HLs:=aa (show ∀s∈(Lib.split a [44,32]).map bs,s.size≤1000000 from fun s hs=>by
    obtain⟨x,hx,rfl⟩:=List.mem_map.1 hs
    have:=BL _ _ _ x hx
    rw[bq];omega)
   clear hpn
   cases hpa:bi ((Lib.split a [44,32]).map bs) with
   |none=>
    have HPa:=aa hpa
    clear hpa
    go_enter func33,ntmps33
    go_wp2_with(first
     |(go_at_call 76;refine(HTr.out _).mono ?_;rintro e w1 ⟨rfl,hw⟩;obtain rfl:=hw.symm)
     |(go_at_call 75;refine(HCu.out _ HG.out).mono ?_;rintro e w2 ⟨rfl,hb2⟩;have HB2:=aa hb2;have HBk2:=aa ((hb2.block b hbw).trans HB.out);have hz2:=hb2.size;clear hb2)
     |(go_at_call 77
       refine uB ?_
       rintro e w3 ⟨he3,hg3,C3,hbk3,hC3,hset⟩
       rw[HPn.out] at he3
       subst he3
       have HG3:=aa hg3;have HK3:=aa hbk3;have HE3:=aa (hset n HPn.out)
       have HC3:=aa (hC3.trans HCs.out)
       clear hg3 hbk3 hset hC3
       have GR:Hid (w.grownBy w3 (some b)):=aa (by
        have g:=HG3.out
        exact⟨g.os.trans HB2.out.os,g.tape.trans HB2.out.tape,g.output.trans HB2.out.output,by have:=g.size;simp at this<;>omega,fun i hi hne=>(g.block i (by simp<;>omega) hne).trans ((Below.heap_alloc _ _ _ (by simp<;>omega)).trans ((Below.heap_alloc _ _ _ (by omega)).trans (HB2.out.block i hi)))⟩))
     |(go_at_call 29
       refine(uA (bs a) ⟨#[44,32]⟩ _ (HG.out.grown GR.out hb8) (by rw[bq];omega) (by decide)).mono ?_
       rintro e w4 ⟨v,rfl,hv,hvn,hb4⟩
       have hb3w:b<w3.heap.size:=aF hbw GR.out.size
       have hb4w:b<w4.heap.size:=aF hb3w hb4.size
       rw[ql] at hv hvn
       have HSl:=aa hv
       have GR4:=aa (gx GR.out hb4)
       have HG4:=aa (HG.out.grown GR4.out hb8)
       have HK4:=aa ((hb4.block b hb3w).trans HK3.out)
       have HLn:=aa (show((Lib.split a [44,32]).map bs).length≤100000 by
        have:=Lib.countB_le ⟨#[44,32]⟩ (by decide) (bs a).size (bs a) (ae _)
        rw[bq] at this
        have h2:=hvn
        simp only[List.length_map] at h2⊢
        have h3:(Lib.split a [44,32]).length=Lib.countB (bs a) ⟨#[44,32]⟩+1:=h2
        omega)
       clear hv hvn hb4)
     |(go_at_call 78
       refine(MK _ ((Lib.split a [44,32]).map bs) _ (HG4.out) HSl.out HLs.out HLn.out HPa.out).mono ?_
       rintro e w5 ⟨rfl,hb5⟩
       have HB5:=aa hb5
       have hz5:=hb5.size
       have hk5:=(hb5.block b hb4w).trans HK4.out
       have hcl5:=dp hk5 (o:=11) (by rw[HC3.out];decide)
       have hfz5:=ei hk5 11
       clear hb5 hk5))
    go_ret
    exact⟨gy (gx GR4.out HB5.out) 11 _,rfl⟩
   |some l=>
    have HPa:=aa hpa
    clear hpa
    go_enter func33,ntmps33
    go_wp2_with(first
     |(go_at_call 76;refine(HTr.out _).mono ?_;rintro e w1 ⟨rfl,hw⟩;obtain rfl:=hw.symm)
     |(go_at_call 75;refine(HCu.out _ HG.out).mono ?_;rintro e w2 ⟨rfl,hb2⟩;have HB2:=aa hb2;have HBk2:=aa ((hb2.block b hbw).trans HB.out);have hz2:=hb2.size;clear hb2)
     |(go_at_call 77
       refine uB ?_
       rintro e w3 ⟨he3,hg3,C3,hbk3,hC3,hset⟩
       rw[HPn.out] at he3
       subst he3
       have HG3:=aa hg3;have HK3:=aa hbk3;have HE3:=aa (hset n HPn.out)
       have HC3:=aa (hC3.trans HCs.out)
       clear hg3 hbk3 hset hC3
       have GR:Hid (w.grownBy w3 (some b)):=aa (by
        have g:=HG3.out
        exact⟨g.os.trans HB2.out.os,g.tape.trans HB2.out.tape,g.output.trans HB2.out.output,by have:=g.size;simp at this<;>omega,fun i hi hne=>(g.block i (by simp<;>omega) hne).trans ((Below.heap_alloc _ _ _ (by simp<;>omega)).trans ((Below.heap_alloc _ _ _ (by omega)).trans (HB2.out.block i hi)))⟩))
     |(go_at_call 29
       refine(uA (bs a) ⟨#[44,32]⟩ _ (HG.out.grown GR.out hb8) (by rw[bq];omega) (by decide)).mono ?_
       rintro e w4 ⟨v,rfl,hv,hvn,hb4⟩
       have hb3w:b<w3.heap.size:=aF hbw GR.out.size
       have hb4w:b<w4.heap.size:=aF hb3w hb4.size
       rw[ql] at hv hvn
       have HSl:=aa hv
       have GR4:=aa (gx GR.out hb4)
       have HG4:=aa (HG.out.grown GR4.out hb8)
       have HK4:=aa ((hb4.block b hb3w).trans HK3.out)
       have HLn:=aa (show((Lib.split a [44,32]).map bs).length≤100000 by
        have:=Lib.countB_le ⟨#[44,32]⟩ (by decide) (bs a).size (bs a) (ae _)
        rw[bq] at this
        have h2:=hvn
        simp only[List.length_map] at h2⊢
        have h3:(Lib.split a [44,32]).length=Lib.countB (bs a) ⟨#[44,32]⟩+1:=h2
        omega)
       clear hv hvn hb4)
     |(go_at_call 78
       refine(ML _ ((Lib.split a [44,32]).map bs) l _ (HG4.out) HSl.out HLs.out HLn.out HPa.out).mono ?_
       rintro e w5 ⟨bl,nn,cc,rfl,hsl,hbl,hb5⟩
       have HB5:=aa hb5;have HSl5:=aa hsl
       have hz5:=hb5.size
       have hk5:=(hb5.block b hb4w).trans HK4.out
       have hcl5:=dp hk5 (o:=11) (by rw[HC3.out];decide)
       have hfz5:=ei hk5 11
       have HK5:=aa hk5
       clear hb5 hsl hk5))
    go_ret
    refine⟨gy (gx GR4.out HB5.out) 11 _,rfl,bl,nn,cc,?_,?_,by have:=GR4.out.size;omega⟩
    ·rw[cU HK5.out]
     rw[HE3.out]
    ·have hbb:bl≠b:=by have:=GR4.out.size;omega
     obtain⟨⟨A1,c1,hv1,h1,h2,h3⟩,h64⟩:=HSl5.out
     refine⟨⟨A1,c1,hv1,h1,h2,fun hne=> ?_⟩,h64⟩
     obtain⟨b',o',hA,hb',hc'⟩:=h3 hne
     have e:b'=bl:=by
      rw[hA] at hv1
      injection hv1 with e1
      injection e1 with e1
      injection e1 with e1
      exact e1.symm
     refine⟨b',o',hA,by simpa[World.setCell] using hb',fun j u hj=> ?_⟩
     rw[World.cell?_of_block (Below.heap_setCell w5 ⟨b,11,none⟩ _ b' (by rw[e];exact hbb))]
     exact hc' j u hj
end
section
open Go Go.RowKit Go.MapKept Tryz
def dY (m:aC) (k:Int) (b:List Int):Bool:=aM k m.machs.length&&(match b.getLast? with|none=>true|some p=>decide (p<k))&& !decide (fj m k=m.dark)
theorem BO (m:aC) (l:List Int) (cl:Int) (acts:List ap):jY ⟨m,l,cl,acts⟩=(cV (dE (dY m) [] l) l.length&&(decide (l.length=1)||decide (l.length=3)||decide (l.length=5))):=by
 rw[←hE];rfl
theorem BP {l:List Int} {k:Nat} {p:Int} (hk:0<k) (h:l[k - 1]? =some p):(l.take k).getLast?=some p:=by
 obtain⟨j,rfl⟩: ∃j,k=j+1:=⟨k - 1,by omega⟩
 have h':l[j]? =some p:=h
 rw[List.take_add_one,h']
 simp
theorem BQ {m:aC} {x:Int} {y:fR} {z:eN} {j j2:Nat} (hj:(x - 1).toNat=j) (hy:m.machs[j]? =some y) (hj2:(y.rack - 1).toNat=j2) (hz:m.racks[j2]? =some z):fj m x=z.site:=by
 unfold fj
 rw[hj,hy]
 show((m.racks[(y.rack - 1).toNat]?).map (·.site)).getD 0=_
 rw[hj2,hz];rfl
theorem MN (m:aC) (v:MV) (l:List Int) (cl:Int) (acts:List ap) (cv av:Value) (w:World) (hv:m.In w w.heap.size v) (hc:aq w w.heap.size cv l) (hl:l.length≤100000)
 (hok: ∀x∈m.machs,aM x.rack m.racks.length=true):
 am 61 #[.agg (m.cells v++ #[cv,.int .i64 cl,av])] w (.bool (jY ⟨m,l,cl,acts⟩)):=by
 obtain⟨⟨Sa,sc,hs,hs1,hs2⟩,⟨Fa,fc,hf',hf1,hf2⟩,⟨Ra,rc,hr,hr1,hr2⟩,⟨Ma,mc,hm,hm1,hm2⟩,⟨La,lc,hl',hl1,hl2⟩,⟨Ia,ic,hi,hi1,hi2⟩,⟨Ua,uc,hu,hu1,hu2⟩⟩:=hv.cells
 obtain⟨A,n,c,rfl,hn,hcn,hcm⟩:=hc.form
 have HS:=aa (show m.cells v++ #[.slice A n c,.int .i64 cl,av]= #[.slice Sa m.sites.length sc,.slice Fa m.feeds.length fc,.slice Ra m.racks.length rc,.slice Ma m.machs.length mc,.slice La m.links.length lc,.slice Ia m.items.length ic,.int .i64 m.dark,.int .i64 m.slots,.int .i64 m.reserve,.int .i64 m.failures,.slice Ua m.rules.length uc,.slice A n c,.int .i64 cl,av] from by rw[aC.cells_def,hs,hf',hr,hm,hl',hi,hu];rfl)
 have hR:=hv.ms
 rw[hm] at hR
 have HMs:=aa hR
 have hR2:=hv.rs
 rw[hr] at hR2
 have HRs:=aa hR2
 have HV:=aa hc;have HN:=aa hn;have HOK:=aa hok
 rw[hn] at hl
 clear hR hR2 hc hn hok
 rw[HS.out]
 clear hv hs hf' hr hm hl' hi hu
 have HO:=aa (BO m l cl acts)
 obtain⟨r,hr0⟩: ∃r,jY ⟨m,l,cl,acts⟩=r:=⟨_,rfl⟩
 rw[hr0] at HO⊢
 clear hr0
 have HAt:=aa (fun k x (h:l[k]? =some x)=>(iu (c:=dY m) (b:=[]) h))
 obtain⟨F,hF⟩: ∃F,dE (dY m) [] l=F:=⟨_,rfl⟩
 rw[hF] at HO HAt
 clear hF
 obtain⟨P,hP⟩: ∃P,cV F l.length=P:=⟨_,rfl⟩
 have HPm:=aa hP.symm
 rw[hP] at HO
 clear hP
 go_enter func61,ntmps61
 go_upto_region 2 with (fail)
 refine bt (fun W=>Below w.heap.size w W∧W.heap[w.heap.size]? =some (.cells #[.slice Sa m.sites.length sc,.slice Fa m.feeds.length fc,.slice Ra m.racks.length rc,.slice Ma m.machs.length mc,.slice La m.links.length lc,.slice Ia m.items.length ic,.int .i64 m.dark,.int .i64 m.slots,.int .i64 m.reserve,.int .i64 m.failures,.slice Ua m.rules.length uc,.slice A n c,.int .i64 cl,av] 33 (0,0))∧W.heap[w.heap.size+1]? =some (.cells #[.slice Sa m.sites.length sc,.slice Fa m.feeds.length fc,.slice Ra m.racks.length rc,.slice Ma m.machs.length mc,.slice La m.links.length lc,.slice Ia m.items.length ic,.int .i64 m.dark,.int .i64 m.slots,.int .i64 m.reserve,.int .i64 m.failures,.slice Ua m.rules.length uc] 29 (0,0))) ⟨ac (ac (B0 w) _) _,?_,?_⟩ ?_
 ·exact ah (aN w _) (ac (B0 _) _)
 ·have:=aN (w.alloc (.cells #[.slice Sa m.sites.length sc,.slice Fa m.feeds.length fc,.slice Ra m.racks.length rc,.slice Ma m.machs.length mc,.slice La m.links.length lc,.slice Ia m.items.length ic,.int .i64 m.dark,.int .i64 m.slots,.int .i64 m.reserve,.int .i64 m.failures,.slice Ua m.rules.length uc,.slice A n c,.int .i64 cl,av] 33)) (.cells #[.slice Sa m.sites.length sc,.slice Fa m.feeds.length fc,.slice Ra m.racks.length rc,.slice Ma m.machs.length mc,.slice La m.links.length lc,.slice Ia m.items.length ic,.int .i64 m.dark,.int .i64 m.slots,.int .i64 m.reserve,.int .i64 m.failures,.slice Ua m.rules.length uc] 29)
  simpa using this
 intro W1 ⟨hBW,hsW,hmW⟩
 have HBW:=aa hBW;have HsW:=aa hsW;have HmW:=aa hmW
 have hzs:=blk_lt hsW
 have hzm:=blk_lt hmW
 have a11:W1.cell? ⟨w.heap.size,11,none⟩=some (.slice A n c):=af hsW rfl
 clear hBW hsW hmW
 go_wp2_with fail
 go_loopw [11] (fun i wr=> ∃k:Nat,k≤n∧i= .int .i64 k∧(∀j,j<k→F j=true)∧Below W1.heap.size W1 wr) (fun i _=>n - (intOf i).toNat)
 case atStart=>exact⟨0,aY _,rfl,fun j hj=>by omega,B0 W1⟩
 case round=>
  obtain⟨k,hk,rfl,hok,hB⟩:=hrel
  have HOk:=aa hok;have HB:=aa hB
  have hsr:=ah HsW.out hB
  have hmr:=ah HmW.out hB
  refine iF fun HBw=> ?_
  have c11:wr.cell? ⟨w.heap.size,11,none⟩=some (.slice A n c):=af hsr rfl
  have c2:wr.cell? ⟨w.heap.size+1,2,none⟩=some (.slice Ra m.racks.length rc):=af hmr rfl
  have c3:wr.cell? ⟨w.heap.size+1,3,none⟩=some (.slice Ma m.machs.length mc):=af hmr rfl
  have c6:wr.cell? ⟨w.heap.size+1,6,none⟩=some (.int .i64 m.dark):=af hmr rfl
  have hzr:w.heap.size<wr.heap.size:=aF hzs hB.size
  clear hok hB hsr hmr
  by_cases hlt:k<n
  ·have hI1:(0:Int)≤k:=by omega
   have hI2:(k:Int)<n:=by omega
   obtain⟨x,hx⟩: ∃x,l[k]? =some x:=⟨_,List.getElem?_eq_getElem (by rw[HN.out];exact hlt)⟩
   obtain⟨b,o,rfl,hbb,hcell⟩:=aq.cell HV.out hx
   have cx:wr.cell? ⟨b,o+k,none⟩=some (.int .i64 x):=(HBw.out.cell (p:=⟨b,o+k,none⟩) hbb).trans hcell
   have hIx:aj x:=HV.out.2 x (co hx)
   have hix1:=hIx.1
   have hix2:=hIx.2
   have HF:=aa (HAt.out k x hx)
   have HX:=aa hx
   clear hcell hIx hx
   by_cases q1:x<1
   ·have hF:F k=false:=by rw[HF.out];unfold dY aM aD;simp;omega
    have d1:decide (x<1)=true:=by simp;omega
    clear hix1 hix2
    exact qn
   ·by_cases q2:(m.machs.length:Int)<x
    ·have hF:F k=false:=by rw[HF.out];unfold dY aM aD;simp;omega
     have d1:decide (x<1)=false:=by simp;omega
     have d2:decide ((m.machs.length:Int)<x)=true:=by simp;omega
     clear hix1 hix2
     exact qn
    ·have hj: ∃j:Nat,(x - 1).toNat=j:=⟨_,rfl⟩
     obtain⟨j,hj⟩:=hj
     have hjl:j<m.machs.length:=by omega
     obtain⟨y,hy⟩: ∃y,m.machs[j]? =some y:=⟨_,List.getElem?_eq_getElem hjl⟩
     have hyr:=HOK.out y (co hy)
     have hyr2:1≤y.rack∧y.rack≤m.racks.length:=by simpa[aM,aD] using hyr
     obtain⟨hy1,hy2⟩:=hyr2
     obtain⟨j2,hj2⟩: ∃j2:Nat,(y.rack - 1).toNat=j2:=⟨_,rfl⟩
     have hj2l:j2<m.racks.length:=by omega
     obtain⟨z,hz⟩: ∃z,m.racks[j2]? =some z:=⟨_,List.getElem?_eq_getElem hj2l⟩
     have HSt:=aa (BQ hj hy hj2 hz)
     obtain⟨mb,mo,mcs,rfl,hmb,_,⟨rfl,hmi⟩,hmcell⟩:=HMs.out.at_ hy
     have e1:=(HBw.out.cell (p:=⟨mb,mo+j*3+1,none⟩) hmb).trans (hmcell 1 _ rfl)
     obtain⟨rb,ro,rcs,rfl,hrb,_,⟨rfl,hri⟩,hrcell⟩:=HRs.out.at_ hz
     have e2:=(HBw.out.cell (p:=⟨rb,ro+j2*3+1,none⟩) hrb).trans (hrcell 1 _ rfl)
     have i1:IntKind.i64.wrap (x - 1)=x - 1:=IntWalk.i64_in _ (by omega)
     have i2:(0:Int)≤x - 1:=by omega
     have i3:x - 1<(m.machs.length:Int):=by omega
     have i4:IntKind.i64.wrap (y.rack - 1)=y.rack - 1:=IntWalk.i64_in _ (by have:=hmi.1.1;have:=hmi.1.2;omega)
     have i5:(0:Int)≤y.rack - 1:=by omega
     have i6:y.rack - 1<(m.racks.length:Int):=by omega
     have HE:=aa (show aM x m.machs.length=true by simp[aM,aD];omega)
     have d1:decide (x<1)=false:=by simp;omega
     have d2:decide ((m.machs.length:Int)<x)=false:=by simp;omega
     clear hyr hmcell hrcell hmi hri hy hz hix1 hix2
     by_cases k0:0<k
     ·have kd:decide (0<k)=true:=by simp;omega
      obtain⟨p,hp⟩: ∃p,l[k - 1]? =some p:=⟨_,List.getElem?_eq_getElem (by rw[HN.out];omega)⟩
      obtain⟨b2,o2,he2,_,hcell2⟩:=aq.cell HV.out hp
      injection he2 with he2
      injection he2 with he2 he3
      subst he2 he3
      have cp:wr.cell? ⟨b,o+(k - 1),none⟩=some (.int .i64 p):=(HBw.out.cell (p:=⟨b,o+(k - 1),none⟩) hbb).trans hcell2
      have i7:IntKind.i64.wrap ((k:Int) - 1)=(k:Int) - 1:=IntWalk.i64_in _ (by omega)
      have i8:((k:Int) - 1).toNat=k - 1:=by omega
      have i9:(0:Int)≤(k:Int) - 1:=by omega
      have i10:(k:Int) - 1<(n:Int):=by omega
      have HLt:=aa (BP k0 hp)
      clear hcell2 hp
      by_cases q3:x≤p
      ·have d3:decide (x≤p)=true:=by simp;omega
       have hF:F k=false:=by
        rw[HF.out];unfold dY
        rw[List.nil_append,HLt.out]
        have:decide (p<x)=false:=by simp;omega
        simp[this]
       clear q1 q2 q3 k0
       exact qn
      ·have HLe:=aa (show decide (p<x)=true by simp;omega)
       have d3:decide (x≤p)=false:=by simp;omega
       by_cases q4:z.site=m.dark
       ·exact BR
       ·have hF:F k=true:=by
         rw[HF.out];unfold dY
         rw[List.nil_append,HLt.out,HSt.out,HE.out]
         show(true&&decide (p<x)&& !decide (z.site=m.dark))=true
         rw[HLe.out];simp[q4]
        have HFk:=aa hF
        have q5:(z.site==m.dark)=false:=by simpa using q4
        clear q1 q2 q3 q4 k0 hF
        exact BS
     ·have hk0:k=0:=by omega
      have kd:decide (0<k)=false:=by simp;omega
      have HLt:=aa (show(l.take k).getLast?=none by rw[hk0];simp)
      clear hk0
      by_cases q4:z.site=m.dark
      ·exact BR
      ·have hF:F k=true:=by
        rw[HF.out];unfold dY
        rw[List.nil_append,HLt.out,HSt.out,HE.out]
        simp[q4]
       have HFk:=aa hF
       have q5:(z.site==m.dark)=false:=by simpa using q4
       clear q1 q2 q4 k0 hF
       exact BS
  ·have hI2: ¬(k:Int)<n:=by omega
   have HPt:=aa (show P=true by rw[HPm.out];exact iV fun j hj=>HOk.out j (by rw[HN.out] at hj;omega))
   have HC:=aa (fun W B u (h:aq W B u [1,3,5])=>rK u [1,3,5] (n:Int) W B h)
   go_wp2_with(go_at_call 176;refine(HC.out _ _ _ (aq.lits _ [1,3,5] (by simp[aj]) (by simp) _)).mono ?_;rintro e w3 ⟨rfl,rfl⟩)
   go_ret
   refine⟨?_,ac HBw.out _⟩
   rw[HO.out,HPt.out,HN.out]
   have e:(decide ((n:Int)=1)||(decide ((n:Int)=3)||decide ((n:Int)=5)))=(true&&(decide (n=1)||decide (n=3)||decide (n=5))):=by
    have z1:decide ((n:Int)=1)=decide (n=1):=by apply decide_eq_decide.2;omega
    have z3:decide ((n:Int)=3)=decide (n=3):=by apply decide_eq_decide.2;omega
    have z5:decide ((n:Int)=5)=decide (n=5):=by apply decide_eq_decide.2;omega
    rw[z1,z3,z5,Bool.true_and,Bool.or_assoc]
   exact congrArg (fun q=>Ending.returned (.bool q)) e
def jj (w:World) (B:Nat) (cs:List Value) (x:ap):Prop:= ∃m s,cs=(x.cells m s).toList∧x.In w B m s∧x.ms.length≤1000000∧x.ss.length≤1000000
theorem jj.ab:cI jj:=fun _ _ _ _ _ _ _ ⟨m,s,h1,h2,h3⟩ hb hB hB'=>⟨m,s,h1,(h2.below hb hB).more hB',h3⟩
theorem MO {m:aC} (h:dQ m=true): ∀x∈m.machs,aM x.rack m.racks.length=true:=by
 intro x hx
 have h1:dh (gN m) [] m.machs=true:=by
  have hs:dK m=true:=by
   unfold dQ at h
   simp only[Bool.and_eq_true] at h
   exact h.1.1.1.1.1.1.1.1.1
  unfold dK at hs
  simp only[Bool.and_eq_true] at hs
  exact hs.1.2
 rw[hE] at h1
 obtain⟨j,hj,rfl⟩:=List.getElem_of_mem hx
 have h2:=List.all_eq_true.1 h1 j (List.mem_range.2 hj)
 rw[iu (List.getElem?_eq_getElem hj)] at h2
 unfold gN at h2
 rw[Bool.and_eq_true] at h2
 exact h2.1
theorem MP (x:ap) (m s:Value) (w:World) (hx:x.In w w.heap.size m s) (hms:x.ms.length≤1000000) (hss:x.ss.length≤1000000):
 am 63 #[.agg (x.cells m s)] w (.bool (!cL x)):=by
 obtain⟨Am,nm,cm,rfl,_,_,_⟩:=hx.ms.form
 obtain⟨As,ns,cs,rfl,_,_,_⟩:=hx.ss.form
 have HV:=aa (fun W (hb:Below w.heap.size w W)=>pf x _ _ W ((hx.below hb (ae _)).more hb.size) hms hss)
 simp only[ap.cells_def] at HV⊢
 clear hx
 go_enter func63,ntmps63
 go_wp2_with(go_at_call 35;refine(HV.out _ (ac (B0 w) _)).mono ?_;rintro e w3 ⟨rfl,hb3⟩;have HB3:=aa (ag (ac (B0 w) _) hb3);clear hb3)
 go_ret
 exact⟨rfl,HB3.out⟩
theorem MQ (s:fX) (v:MV) (cv av:Value) (w:World) (hG:bY w) (hv:s.m.In w w.heap.size v) (hc:aq w w.heap.size cv s.control) (ha:aQ 10 jj w w.heap.size av s.acts) (hl:s.control.length≤100000):
 am 21 #[.agg (s.m.cells v++ #[cv,.int .i64 s.clients,av])] w (.bool (iT s)):=by
 obtain⟨m,l,cl,acts⟩:=s
 simp only at hv hc ha hl⊢
 obtain⟨⟨Sa,sc,hs,hs1,hs2⟩,⟨Fa,fc,hf',hf1,hf2⟩,⟨Ra,rc,hr,hr1,hr2⟩,⟨Ma,mc,hm,hm1,hm2⟩,⟨La,lc,hl',hl1,hl2⟩,⟨Ia,ic,hi,hi1,hi2⟩,⟨Ua,uc,hu,hu1,hu2⟩⟩:=hv.cells
 obtain⟨A,n,c,rfl,hn,hcn,hcm⟩:=hc.form
 obtain⟨A2,n2,c2,rfl,hn2,hcn2,hcm2⟩:=ha.form
 refine BT fun HM=> ?_
 have HS:=aa (show m.cells v++ #[.slice A n c,.int .i64 cl,.slice A2 n2 c2]= #[.slice Sa m.sites.length sc,.slice Fa m.feeds.length fc,.slice Ra m.racks.length rc,.slice Ma m.machs.length mc,.slice La m.links.length lc,.slice Ia m.items.length ic,.int .i64 m.dark,.int .i64 m.slots,.int .i64 m.reserve,.int .i64 m.failures,.slice Ua m.rules.length uc,.slice A n c,.int .i64 cl,.slice A2 n2 c2] from by rw[HM.out];rfl)
 have HCat:=aa (fun W (hb:Below w.heap.size w W)=>zA m v W (hG.below hb hG.g.size) (hv.to hb (ae _) hb.size))
 have HOut:=aa (fun(hok:dQ m=true) W (hb:Below w.heap.size w W)=>MN m v l cl acts _ (.slice A2 n2 c2) W (hv.to hb (ae _) hb.size) ((hc.below hb (ae _)).more hb.size) hl (MO hok))
 have HCon:=aa (fun W (hb:Below w.heap.size w W)=>Fk jj jj.ab _ acts 63 #[] (cJ acts (fun x=> !cL x)) W (ha.to jj.ab hb (ae _) hb.size) (enters_of func63 (by kernel_rfl) rfl) (fun j x cs W2 hx hb2 ⟨ma,sa,hcs,hin,h1,h2⟩ hlen=>by
  rw[dx hx,hcs]
  exact MP x ma sa W2 hin h1 h2))
 rw[HM.out] at HCat
 rw[HS.out] at HOut⊢
 have HN2:=aa hn2
 have HSc:Hid (iT ⟨m,l,cl,acts⟩=(dQ m&&jY ⟨m,l,cl,acts⟩&&aD cl 0 8&&decide (acts.length≤1024)&&acts.all cL)):=rfl
 generalize hr0:iT ⟨m,l,cl,acts⟩=r at HSc⊢
 generalize ho0:jY ⟨m,l,cl,acts⟩=b2 at HSc HOut
 generalize hb0:dQ m=b1 at HSc HCat HOut
 clear hr0 ho0 hb0 hG hv hc ha hs hf' hr hm hl' hi hu
 have B1:=ac (B0 w) (.cells #[.slice Sa m.sites.length sc,.slice Fa m.feeds.length fc,.slice Ra m.racks.length rc,.slice Ma m.machs.length mc,.slice La m.links.length lc,.slice Ia m.items.length ic,.int .i64 m.dark,.int .i64 m.slots,.int .i64 m.reserve,.int .i64 m.failures,.slice Ua m.rules.length uc,.slice A n c,.int .i64 cl,.slice A2 n2 c2] 33)
 go_enter func21,ntmps21
 go_upto_region 1 with (fail)
 refine bt (fun W=>Below w.heap.size w W∧W.heap[w.heap.size]? =some (.cells #[.slice Sa m.sites.length sc,.slice Fa m.feeds.length fc,.slice Ra m.racks.length rc,.slice Ma m.machs.length mc,.slice La m.links.length lc,.slice Ia m.items.length ic,.int .i64 m.dark,.int .i64 m.slots,.int .i64 m.reserve,.int .i64 m.failures,.slice Ua m.rules.length uc,.slice A n c,.int .i64 cl,.slice A2 n2 c2] 33 (0,0))) ⟨B1,aN w _⟩ ?_
 clear B1
 intro W1 ⟨hBW,hsW⟩
 have HBW:=aa hBW;have HsW:=aa hsW
 obtain⟨a0,a1,a2,a3,a4,a5,a6,a7,a8,a9,a10,a11,a12,a13⟩:=dw hsW
 clear hBW hsW
 cases b1 with
 |false=>
  have HR:=aa (show r=false by rw[HSc.out];rfl)
  go_wp2_with(first
   |(go_at_call 51;refine(HCat.out _ HBW.out).mono ?_;rintro e w2 ⟨rfl,hb2⟩;have hs2:=ah HsW.out hb2;have g0:w2.cell? ⟨w.heap.size,0,none⟩=some (.slice Sa m.sites.length sc):=af hs2 rfl;have g1:w2.cell? ⟨w.heap.size,1,none⟩=some (.slice Fa m.feeds.length fc):=af hs2 rfl;have g2:w2.cell? ⟨w.heap.size,2,none⟩=some (.slice Ra m.racks.length rc):=af hs2 rfl;have g3:w2.cell? ⟨w.heap.size,3,none⟩=some (.slice Ma m.machs.length mc):=af hs2 rfl;have g4:w2.cell? ⟨w.heap.size,4,none⟩=some (.slice La m.links.length lc):=af hs2 rfl;have g5:w2.cell? ⟨w.heap.size,5,none⟩=some (.slice Ia m.items.length ic):=af hs2 rfl;have g6:w2.cell? ⟨w.heap.size,6,none⟩=some (.int .i64 m.dark):=af hs2 rfl;have g7:w2.cell? ⟨w.heap.size,7,none⟩=some (.int .i64 m.slots):=af hs2 rfl;have g8:w2.cell? ⟨w.heap.size,8,none⟩=some (.int .i64 m.reserve):=af hs2 rfl;have g9:w2.cell? ⟨w.heap.size,9,none⟩=some (.int .i64 m.failures):=af hs2 rfl;have g10:w2.cell? ⟨w.heap.size,10,none⟩=some (.slice Ua m.rules.length uc):=af hs2 rfl;have g11:w2.cell? ⟨w.heap.size,11,none⟩=some (.slice A n c):=af hs2 rfl;have g12:w2.cell? ⟨w.heap.size,12,none⟩=some (.int .i64 cl):=af hs2 rfl;have g13:w2.cell? ⟨w.heap.size,13,none⟩=some (.slice A2 n2 c2):=af hs2 rfl;have HB2:=aa (ag HBW.out hb2);have Hs2:=aa hs2;clear hb2 hs2))
  go_ret
  exact⟨by rw[HR.out];rfl,HB2.out⟩
 |true=>
  cases b2 with
  |false=>
   have HR:=aa (show r=false by rw[HSc.out];rfl)
   exact uC
  |true=>
   by_cases q1:cl<0
   ·exact BU
   ·by_cases q2:8<cl
    ·exact BU
    ·have HI:=aa (show aD cl 0 8=true by simp[aD];omega)
     by_cases q3:(1024:Int)<(n2:Int)
     ·have HR:=aa (show r=false by
       rw[HSc.out]
       have:decide (acts.length≤1024)=false:=by have:=HN2.out;simp;omega
       rw[this];simp)
      exact uC
     ·have HR:=aa (show r=acts.all cL by
       rw[HSc.out,HI.out]
       have:decide (acts.length≤1024)=true:=by have:=HN2.out;simp;omega
       rw[this];simp)
      rw[jx] at HCon
      go_wp2_with(first
       |(go_at_call 51;refine(HCat.out _ HBW.out).mono ?_;rintro e w2 ⟨rfl,hb2⟩;have hs2:=ah HsW.out hb2;have g0:w2.cell? ⟨w.heap.size,0,none⟩=some (.slice Sa m.sites.length sc):=af hs2 rfl;have g1:w2.cell? ⟨w.heap.size,1,none⟩=some (.slice Fa m.feeds.length fc):=af hs2 rfl;have g2:w2.cell? ⟨w.heap.size,2,none⟩=some (.slice Ra m.racks.length rc):=af hs2 rfl;have g3:w2.cell? ⟨w.heap.size,3,none⟩=some (.slice Ma m.machs.length mc):=af hs2 rfl;have g4:w2.cell? ⟨w.heap.size,4,none⟩=some (.slice La m.links.length lc):=af hs2 rfl;have g5:w2.cell? ⟨w.heap.size,5,none⟩=some (.slice Ia m.items.length ic):=af hs2 rfl;have g6:w2.cell? ⟨w.heap.size,6,none⟩=some (.int .i64 m.dark):=af hs2 rfl;have g7:w2.cell? ⟨w.heap.size,7,none⟩=some (.int .i64 m.slots):=af hs2 rfl;have g8:w2.cell? ⟨w.heap.size,8,none⟩=some (.int .i64 m.reserve):=af hs2 rfl;have g9:w2.cell? ⟨w.heap.size,9,none⟩=some (.int .i64 m.failures):=af hs2 rfl;have g10:w2.cell? ⟨w.heap.size,10,none⟩=some (.slice Ua m.rules.length uc):=af hs2 rfl;have g11:w2.cell? ⟨w.heap.size,11,none⟩=some (.slice A n c):=af hs2 rfl;have g12:w2.cell? ⟨w.heap.size,12,none⟩=some (.int .i64 cl):=af hs2 rfl;have g13:w2.cell? ⟨w.heap.size,13,none⟩=some (.slice A2 n2 c2):=af hs2 rfl;have HB2:=aa (ag HBW.out hb2);have Hs2:=aa hs2;clear hb2 hs2)
       |(go_at_call 61;refine(HOut.out (by trivial) _ HB2.out).mono ?_;rintro e w3 ⟨rfl,hb3⟩;have hs3:=ah Hs2.out hb3;have k12:w3.cell? ⟨w.heap.size,12,none⟩=some (.int .i64 cl):=af hs3 rfl;have k13:w3.cell? ⟨w.heap.size,13,none⟩=some (.slice A2 n2 c2):=af hs3 rfl;have HB3:=aa (ag HB2.out hb3);clear hb3 hs3)
       |(go_at_call 62;refine(HCon.out _ HB3.out).mono ?_;rintro e w4 ⟨rfl,hb4⟩;have HB4:=aa (ag HB3.out hb4);clear hb4))
      go_ret
      refine⟨?_,HB4.out⟩
      rw[HR.out]
      have e:(!acts.any fun x=> !cL x)=acts.all cL:=by rw[List.not_any_eq_all_not];simp
      first
       |exact congrArg (fun q=>Ending.returned (.bool q)) e.symm
       |exact congrArg (fun q=>Ending.returned (.bool q)) e
       |(trace_state;fail "x")
end
end Go.Proofs.YthnkonlbfogkgaaGreatDoor
