/- A part of the proof. -/
import Derived.Test.YthnkonlbfogkgaaGreatDoorQbu
set_option linter.unusedVariables false
set_option linter.unusedSimpArgs false
set_option maxRecDepth 100000
set_option maxHeartbeats 32000000
namespace Go.Proofs.YthnkonlbfogkgaaGreatDoor
section
open Go Go.RowKit Go.MapKept Tryz
theorem MR (m:aC) (l:List Int) (cl:Int) (acts:List ap) (v1 v2:MV) (c1 c2 a1 a2:Value) (w:World) (hv1:m.In w w.heap.size v1) (hv2:m.In w w.heap.size v2) (hc1:aq w w.heap.size c1 l) (hc2:aq w w.heap.size c2 l) (ha1:aQ 10 jj w w.heap.size a1 acts) (ha2:aQ 10 jj w w.heap.size a2 acts):
 am 14 #[.agg (m.cells v1++ #[c1,.int .i64 cl,a1]),.agg (m.cells v2++ #[c2,.int .i64 cl,a2])] w (.bool true):=by
 obtain⟨C1,nc,cc1,rfl,hn1,hnc1,_⟩:=hc1.form
 obtain⟨C2,nc2,cc2,rfl,hn2,hnc2,_⟩:=hc2.form
 obtain rfl:nc=nc2:=by omega
 obtain⟨D1,na,dc1,rfl,hna1,hdc1,_⟩:=ha1.form
 obtain⟨D2,na2,dc2,rfl,hna2,hdc2,_⟩:=ha2.form
 obtain rfl:na=na2:=by omega
 obtain⟨⟨S1,s1,hs1,_,_⟩,⟨F1,f1,hf1,_,_⟩,⟨R1,r1,hr1,_,_⟩,⟨M1,m1,hm1,_,_⟩,⟨L1,l1,hl1,_,_⟩,⟨I1,i1,hi1,_,_⟩,⟨U1,u1,hu1,_,_⟩⟩:=hv1.cells
 have HM1:=aa (show m.cells v1= #[.slice S1 m.sites.length s1,.slice F1 m.feeds.length f1,.slice R1 m.racks.length r1,.slice M1 m.machs.length m1,.slice L1 m.links.length l1,.slice I1 m.items.length i1,.int .i64 m.dark,.int .i64 m.slots,.int .i64 m.reserve,.int .i64 m.failures,.slice U1 m.rules.length u1] from by rw[aC.cells_def,hs1,hf1,hr1,hm1,hl1,hi1,hu1])
 have HS1:=aa (show m.cells v1++ #[.slice C1 nc cc1,.int .i64 cl,.slice D1 na dc1]= #[.slice S1 m.sites.length s1,.slice F1 m.feeds.length f1,.slice R1 m.racks.length r1,.slice M1 m.machs.length m1,.slice L1 m.links.length l1,.slice I1 m.items.length i1,.int .i64 m.dark,.int .i64 m.slots,.int .i64 m.reserve,.int .i64 m.failures,.slice U1 m.rules.length u1,.slice C1 nc cc1,.int .i64 cl,.slice D1 na dc1] from by rw[HM1.out];rfl)
 have HA1:=aa ha1
 obtain⟨⟨S2,s2,hs2,_,_⟩,⟨F2,f2,hf2,_,_⟩,⟨R2,r2,hr2,_,_⟩,⟨M2,m2,hm2,_,_⟩,⟨L2,l2,hl2,_,_⟩,⟨I2,i2,hi2,_,_⟩,⟨U2,u2,hu2,_,_⟩⟩:=hv2.cells
 have HM2:=aa (show m.cells v2= #[.slice S2 m.sites.length s2,.slice F2 m.feeds.length f2,.slice R2 m.racks.length r2,.slice M2 m.machs.length m2,.slice L2 m.links.length l2,.slice I2 m.items.length i2,.int .i64 m.dark,.int .i64 m.slots,.int .i64 m.reserve,.int .i64 m.failures,.slice U2 m.rules.length u2] from by rw[aC.cells_def,hs2,hf2,hr2,hm2,hl2,hi2,hu2])
 have HS2:=aa (show m.cells v2++ #[.slice C2 nc cc2,.int .i64 cl,.slice D2 na dc2]= #[.slice S2 m.sites.length s2,.slice F2 m.feeds.length f2,.slice R2 m.racks.length r2,.slice M2 m.machs.length m2,.slice L2 m.links.length l2,.slice I2 m.items.length i2,.int .i64 m.dark,.int .i64 m.slots,.int .i64 m.reserve,.int .i64 m.failures,.slice U2 m.rules.length u2,.slice C2 nc cc2,.int .i64 cl,.slice D2 na dc2] from by rw[HM2.out];rfl)
 have HA2:=aa ha2
 have HSm:=aa (fun W (hW:Below w.heap.size w W)=>ME m v1 v2 W (hv1.to hW (ae _) hW.size) (hv2.to hW (ae _) hW.size))
 have HIn:=aa (show ∀W,Below w.heap.size w W→am 37 #[.slice C1 nc cc1,.slice C2 nc cc2] W (.bool true) from fun W hW=>(mE _ _ l l W W.heap.size ((hc1.below hW (ae _)).more hW.size) ((hc2.below hW (ae _)).more hW.size)).mono fun e w' ⟨he,hb⟩=>⟨by rw[he];exact aV (by simp),hb⟩)
 rw[HM1.out,HM2.out] at HSm
 rw[HS1.out,HS2.out]
 have HN:=aa hna1
 have ec:(cl !=cl)=false:=by simp
 have en:((na:Int)!=(na:Int))=false:=by simp
 clear hn1 hn2 hna1 hna2 hc1 hc2 ha1 ha2 hv1 hv2 hs1 hf1 hr1 hm1 hl1 hi1 hu1 hs2 hf2 hr2 hm2 hl2 hi2 hu2
 go_enter func14,ntmps14
 go_upto_region 1 with (fail)
 refine bt (fun W=>Below w.heap.size w W∧W.heap[w.heap.size]? =some (.cells #[.slice S1 m.sites.length s1,.slice F1 m.feeds.length f1,.slice R1 m.racks.length r1,.slice M1 m.machs.length m1,.slice L1 m.links.length l1,.slice I1 m.items.length i1,.int .i64 m.dark,.int .i64 m.slots,.int .i64 m.reserve,.int .i64 m.failures,.slice U1 m.rules.length u1,.slice C1 nc cc1,.int .i64 cl,.slice D1 na dc1] 33 (0,0))∧W.heap[w.heap.size+1]? =some (.cells #[.slice S2 m.sites.length s2,.slice F2 m.feeds.length f2,.slice R2 m.racks.length r2,.slice M2 m.machs.length m2,.slice L2 m.links.length l2,.slice I2 m.items.length i2,.int .i64 m.dark,.int .i64 m.slots,.int .i64 m.reserve,.int .i64 m.failures,.slice U2 m.rules.length u2,.slice C2 nc cc2,.int .i64 cl,.slice D2 na dc2] 33 (0,0))) ⟨ac (ac (B0 w) _) _,ah (aN w _) (ac (B0 _) _),kZ w _ _⟩ ?_
 intro W1 ⟨hBW,hm1,hm2⟩
 have HBW:=aa hBW;have Hm1:=aa hm1;have Hm2:=aa hm2
 obtain⟨a0,a1,a2,a3,a4,a5,a6,a7,a8,a9,a10,a11,a12,a13⟩:=dw hm1
 obtain⟨b0,b1,b2,b3,b4,b5,b6,b7,b8,b9,b10,b11,b12,b13⟩:=dw hm2
 clear hBW hm1 hm2
 go_wp2_with(first
  |(go_at_call 36
    refine(HSm.out W1 HBW.out).mono ?_
    rintro e w2 ⟨rfl,hb2⟩
    have HB2:=aa hb2
    have hm1w:=ah Hm1.out hb2
    have hm2w:=ah Hm2.out hb2
    obtain⟨d0,d1,d2,d3,d4,d5,d6,d7,d8,d9,d10,d11,d12,d13⟩:=dw hm1w
    obtain⟨g0,g1,g2,g3,g4,g5,g6,g7,g8,g9,g10,g11,g12,g13⟩:=dw hm2w
    clear hb2 hm1w hm2w)
  |(go_at_call 37
    refine(HIn.out _ (ag HBW.out HB2.out)).mono ?_
    rintro e w3 ⟨rfl,hb3⟩
    have HB3:=aa (ag HB2.out hb3)
    have hm1w:=ah Hm1.out HB3.out
    have hm2w:=ah Hm2.out HB3.out
    obtain⟨x0,x1,x2,x3,x4,x5,x6,x7,x8,x9,x10,x11,x12,x13⟩:=dw hm1w
    obtain⟨y0,y1,y2,y3,y4,y5,y6,y7,y8,y9,y10,y11,y12,y13⟩:=dw hm2w
    clear hb3 hm1w hm2w))
 go_loopw [5] (fun i wr=> ∃k:Nat,k≤na∧i= .int .i64 k∧Below W1.heap.size W1 wr) (fun i _=>na - (intOf i).toNat)
 case atStart=>exact⟨0,aY _,rfl,HB3.out⟩
 case round=>
  obtain⟨k,hk,rfl,hB⟩:=hrel
  refine mp fun HB HBw hm1r hm2r=> ?_
  have c1:wr.cell? ⟨w.heap.size,13,none⟩=some (.slice D1 na dc1):=af hm1r rfl
  clear hB
  by_cases hlt:k<na
  ·have hI1:(0:Int)≤k:=by omega
   have hI2:(k:Int)<na:=by omega
   obtain⟨x,hx⟩: ∃x,acts[k]? =some x:=⟨_,List.getElem?_eq_getElem (by rw[HN.out];exact hlt)⟩
   obtain⟨b1,p1,cs1,rfl,hb1,_,⟨ms1,ss1,rfl,hx1,_⟩,hc1⟩:=HA1.out.at_ hx
   obtain⟨b2,p2,cs2,rfl,hb2,_,⟨ms2,ss2,rfl,hx2,_⟩,hc2⟩:=HA2.out.at_ hx
   have e10:wr.cell? ⟨b1,p1+k*10+0,none⟩=some (.int .i64 x.kind):=(HBw.out.cell (p:=⟨b1,p1+k*10+0,none⟩) hb1).trans (hc1 0 _ rfl)
   have e11:wr.cell? ⟨b1,p1+k*10+1,none⟩=some (.int .i64 x.a):=(HBw.out.cell (p:=⟨b1,p1+k*10+1,none⟩) hb1).trans (hc1 1 _ rfl)
   have e12:wr.cell? ⟨b1,p1+k*10+2,none⟩=some (.int .i64 x.b):=(HBw.out.cell (p:=⟨b1,p1+k*10+2,none⟩) hb1).trans (hc1 2 _ rfl)
   have e13:wr.cell? ⟨b1,p1+k*10+3,none⟩=some (.int .i64 x.c):=(HBw.out.cell (p:=⟨b1,p1+k*10+3,none⟩) hb1).trans (hc1 3 _ rfl)
   have e14:wr.cell? ⟨b1,p1+k*10+4,none⟩=some (.int .i64 x.ok):=(HBw.out.cell (p:=⟨b1,p1+k*10+4,none⟩) hb1).trans (hc1 4 _ rfl)
   have e15:wr.cell? ⟨b1,p1+k*10+5,none⟩=some (.string x.key):=(HBw.out.cell (p:=⟨b1,p1+k*10+5,none⟩) hb1).trans (hc1 5 _ rfl)
   have e16:wr.cell? ⟨b1,p1+k*10+6,none⟩=some (.int .i64 x.val):=(HBw.out.cell (p:=⟨b1,p1+k*10+6,none⟩) hb1).trans (hc1 6 _ rfl)
   have e17:wr.cell? ⟨b1,p1+k*10+7,none⟩=some (.int .i64 x.old):=(HBw.out.cell (p:=⟨b1,p1+k*10+7,none⟩) hb1).trans (hc1 7 _ rfl)
   have e18:wr.cell? ⟨b1,p1+k*10+8,none⟩=some (ms1):=(HBw.out.cell (p:=⟨b1,p1+k*10+8,none⟩) hb1).trans (hc1 8 _ rfl)
   have e19:wr.cell? ⟨b1,p1+k*10+9,none⟩=some (ss1):=(HBw.out.cell (p:=⟨b1,p1+k*10+9,none⟩) hb1).trans (hc1 9 _ rfl)
   have e20:wr.cell? ⟨b2,p2+k*10+0,none⟩=some (.int .i64 x.kind):=(HBw.out.cell (p:=⟨b2,p2+k*10+0,none⟩) hb2).trans (hc2 0 _ rfl)
   have e21:wr.cell? ⟨b2,p2+k*10+1,none⟩=some (.int .i64 x.a):=(HBw.out.cell (p:=⟨b2,p2+k*10+1,none⟩) hb2).trans (hc2 1 _ rfl)
   have e22:wr.cell? ⟨b2,p2+k*10+2,none⟩=some (.int .i64 x.b):=(HBw.out.cell (p:=⟨b2,p2+k*10+2,none⟩) hb2).trans (hc2 2 _ rfl)
   have e23:wr.cell? ⟨b2,p2+k*10+3,none⟩=some (.int .i64 x.c):=(HBw.out.cell (p:=⟨b2,p2+k*10+3,none⟩) hb2).trans (hc2 3 _ rfl)
   have e24:wr.cell? ⟨b2,p2+k*10+4,none⟩=some (.int .i64 x.ok):=(HBw.out.cell (p:=⟨b2,p2+k*10+4,none⟩) hb2).trans (hc2 4 _ rfl)
   have e25:wr.cell? ⟨b2,p2+k*10+5,none⟩=some (.string x.key):=(HBw.out.cell (p:=⟨b2,p2+k*10+5,none⟩) hb2).trans (hc2 5 _ rfl)
   have e26:wr.cell? ⟨b2,p2+k*10+6,none⟩=some (.int .i64 x.val):=(HBw.out.cell (p:=⟨b2,p2+k*10+6,none⟩) hb2).trans (hc2 6 _ rfl)
   have e27:wr.cell? ⟨b2,p2+k*10+7,none⟩=some (.int .i64 x.old):=(HBw.out.cell (p:=⟨b2,p2+k*10+7,none⟩) hb2).trans (hc2 7 _ rfl)
   have e28:wr.cell? ⟨b2,p2+k*10+8,none⟩=some (ms2):=(HBw.out.cell (p:=⟨b2,p2+k*10+8,none⟩) hb2).trans (hc2 8 _ rfl)
   have e29:wr.cell? ⟨b2,p2+k*10+9,none⟩=some (ss2):=(HBw.out.cell (p:=⟨b2,p2+k*10+9,none⟩) hb2).trans (hc2 9 _ rfl)
   simp only[Nat.add_zero] at e10 e20
   have HSa:=aa (show ∀W,Below w.heap.size w W→am 28 #[.agg (x.cells ms1 ss1),.agg (x.cells ms2 ss2)] W (.bool true) from fun W hW=>(vz x x ms1 ss1 ms2 ss2 W ((hx1.below hW (ae _)).more hW.size) ((hx2.below hW (ae _)).more hW.size)).mono fun e w' ⟨he,hb⟩=>⟨by rw[he,wQ],hb⟩)
   simp only[ap.cells_def] at HSa
   obtain⟨Ma1,mn1,mc1,rfl,_,_,_⟩:=hx1.ms.form
   obtain⟨Ma2,mn2,mc2,rfl,_,_,_⟩:=hx2.ms.form
   obtain⟨Sa1,sn1,sc1,rfl,_,_,_⟩:=hx1.ss.form
   obtain⟨Sa2,sn2,sc2,rfl,_,_,_⟩:=hx2.ss.form
   clear hc1 hc2 hx hx1 hx2
   have HSB:=aa (fun W (h:Below wr.heap.size wr W)=>And.intro ((show W.cell? ⟨w.heap.size,13,none⟩=some (.slice (some ⟨b1,p1,none⟩) na dc1) from af (ah hm1r h) rfl)) (And.intro ((show W.cell? ⟨(w.heap.size+1),13,none⟩=some (.slice (some ⟨b2,p2,none⟩) na dc2) from af (ah hm2r h) rfl)) (And.intro (kc h e10) (And.intro (kc h e11) (And.intro (kc h e12) (And.intro (kc h e13) (And.intro (kc h e14) (And.intro (kc h e15) (And.intro (kc h e16) (And.intro (kc h e17) (And.intro (kc h e18) (And.intro (kc h e19) (And.intro (kc h e20) (And.intro (kc h e21) (And.intro (kc h e22) (And.intro (kc h e23) (And.intro (kc h e24) (And.intro (kc h e25) (And.intro (kc h e26) (And.intro (kc h e27) (And.intro (kc h e28) (kc h e29))))))))))))))))))))))
   clear hm1r hm2r e10 e11 e12 e13 e14 e15 e16 e17 e18 e19 e20 e21 e22 e23 e24 e25 e26 e27 e28 e29
   go_upto_region 6 with (fail)
   refine bP (S:=Below wr.heap.size wr) 12 12 (au (B0 wr)) fun hS=> ?_
   iterate 10 refine gP 12 43 ?_
   refine cP 10 fun K hK=> ?_
   go_simp
   refine(HSa.out _ (ag HBw.out hS)).mono ?_
   rintro e w4 ⟨rfl,hb4⟩
   try go_simp
   refine hK.out _ _ (ag hS hb4) fun hS=> ?_
   clear hK
   refine ak ?_
   refine cj 11 54 ?_
   exact n8
  ·have hI2: ¬(k:Int)<na:=by omega
   go_wp2_with fail
   go_ret
   exact⟨rfl,HBw.out⟩
def mq (x:aU):Bool:=decide (x.other=0)&&decide (x.by_=0)&& !x.always&&decide (x.ms=[])
section
variable (m:aC) {x:aU}
theorem MS (h:x.kind=0):cE m x=(aM x.item m.items.length&&decide (jM m x.item=0)&&mq x&&decide (x.n=0)):=by
 exact uD
theorem MT (h:x.kind=1):cE m x=(aM x.item m.items.length&&decide (x.other=0)&&decide (x.by_=0)&&decide (x.ms=[])&&aD x.n 0 16):=by
 exact qp
theorem MU (h:x.kind=2):cE m x=(aM x.item m.items.length&&aD x.by_ 2 4&&decide (x.other=0)&& !x.always&&decide (x.ms=[])&&aD x.n 0 16):=by
 exact qp
theorem MW (h:x.kind=3):cE m x=(aM x.item m.items.length&&eO m x.ms&&decide (x.other=0)&&decide (x.by_=0)&& !x.always&&decide (x.n=0)):=by
 exact qp
theorem MX (h:x.kind=4):cE m x=(aM x.item m.items.length&&aM x.other m.items.length&& !decide (x.item=x.other)&&decide (x.by_=0)&& !x.always&&decide (x.ms=[])&&decide (x.n=0)):=by
 exact qp
theorem MY (h:x.kind=5):cE m x=(decide (x.item=0)&&mq x&&aD x.n 0 200):=by
 exact uD
theorem MZ (h:x.kind=6):cE m x=(aM x.item m.items.length&&mq x&&aD x.n 0 16):=by
 exact uD
end
theorem uE {n:Int} {k:Nat} (h:aM n k=true):1≤n:=by simp[aM,aD] at h;exact h.1
theorem n9 {n:Int} {k:Nat} (h:aM n k=true):n≤k:=by simp[aM,aD] at h;exact h.2
theorem M0 {m:aC} {n:Int} {y:bQ} (h:m.items[(n - 1).toNat]? =some y):jM m n=y.kind:=by unfold jM;rw[h];rfl
theorem M3 (m:aC) (v:MV) (x:aU) (o:Value) (w:World) (hv:m.In w w.heap.size v) (ho:aq w w.heap.size o x.ms):
 am 165 #[.agg (m.cells v),.agg (x.vals o)] w (.bool (cE m x)):=by
 obtain⟨A,n,c,rfl,hn,hc,hcm⟩:=ho.sk.form
 refine fC fun Sa sc hs hs1 hs2 Fa fc hf' hf1 hf2 Ra rc hr hr1 hr2 Ma mc hm hm1 hm2 La lc hl hl1 hl2 Ia ic hi hi1 hi2 Ua uc hu hu1 hu2 HS=> ?_
 have HMa:=aa (fun W (hW:Below w.heap.size w W)=>BE m v (.slice A n c) x.ms W (hv.to hW (ae _) hW.size) ((ho.below hW (ae _)).more hW.size))
 rw[HS.out] at HMa
 have his:=hv.is
 rw[hi] at his
 have HIs:=aa his
 have HMs:=aa (show decide (x.ms=[])=decide (n=0) by rw[←hn,Bool.eq_iff_iff];simp)
 obtain⟨pl,hpl⟩: ∃q,mq x=q:=⟨_,rfl⟩
 have HP:=aa (show pl=(decide (x.other=0)&&decide (x.by_=0)&& !x.always&&decide (n=0)) by rw[←hpl,mq,HMs.out])
 have HPl:=aa hpl
 obtain⟨it,hit⟩: ∃q,aM x.item m.items.length=q:=⟨_,rfl⟩
 obtain⟨b2,hb2⟩: ∃q,aM x.other m.items.length=q:=⟨_,rfl⟩
 obtain⟨b3,hb3⟩: ∃q,eO m x.ms=q:=⟨_,rfl⟩
 have HE1:=aa hit;have HE2:=aa hb2;have HE3:=aa hb3
 clear hit hb2 hb3 hpl ho hn his
 rw[HS.out,aU.vals_def]
 clear hv hs hf' hr hm hl hi hu
 go_enter func165,ntmps165
 go_upto_region 1 with (fail)
 refine bt (fun W=>Below w.heap.size w W∧W.heap[w.heap.size]? =some (.cells #[.slice Sa m.sites.length sc,.slice Fa m.feeds.length fc,.slice Ra m.racks.length rc,.slice Ma m.machs.length mc,.slice La m.links.length lc,.slice Ia m.items.length ic,.int .i64 m.dark,.int .i64 m.slots,.int .i64 m.reserve,.int .i64 m.failures,.slice Ua m.rules.length uc] 29 (0,0))∧W.heap[w.heap.size+1]? =some (.cells #[.int .i64 x.kind,.int .i64 x.item,.int .i64 x.other,.int .i64 x.n,.int .i64 x.by_,.bool x.always,.slice A n c] 110 (0,0))) ⟨ac (ac (B0 w) _) _,ah (aN w _) (ac (B0 _) _),kZ w _ _⟩ ?_
 intro W1 ⟨hBW,hmW,hxW⟩
 have HBW:=aa hBW;have HmW:=aa hmW;have HxW:=aa hxW
 obtain⟨a0,a1,a2,a3,a4,a5,a6,a7,a8,a9,a10⟩:=cd hmW
 obtain⟨x0,x1,x2,x3,x4,x5,x6⟩:=cZ hxW
 have hz1:=blk_lt hxW
 clear hBW hmW hxW
 obtain⟨xb,hxb⟩: ∃q,w.heap.size+1=q:=⟨_,rfl⟩
 rw[hxb] at HxW x0 x1 x2 x3 x4 x5 x6⊢
 clear hxb hz1
 obtain⟨al,hal⟩: ∃q,x.always=q:=⟨_,rfl⟩
 rw[hal] at x5 HP HxW
 have HAl:=aa hal
 clear hal
 go_upto_region 2 with
  (go_at_call 166
   refine fu ?_
   rintro e w3 ⟨rfl,hw⟩
   obtain rfl:=hw.symm
   first|rw[HE1.out]|rw[HE2.out])
 go_cut [6] (fun q wx=>q= .bool pl∧W1=wx)
 case first=>
  by_cases ho:x.other=0
  ·have eo:(x.other==0)=true:=by simp[ho]
   by_cases hb:x.by_=0
   ·have eb:(x.by_==0)=true:=by simp[hb]
    cases al with
    |true=>
     have HZ:=aa (show pl=false by rw[HP.out];simp)
     clear ho hb
     exact oa
    |false=>
     by_cases hn0:n=0
     ·have en:((n:Int)==0)=true:=by simp[hn0]
      have HZ:=aa (show pl=true by rw[HP.out];simp[ho,hb,hn0])
      clear ho hb hn0
      exact oa
     ·have en:((n:Int)==0)=false:=by simp[hn0]
      have HZ:=aa (show pl=false by rw[HP.out];simp[hn0])
      clear ho hb hn0
      exact oa
   ·have eb:(x.by_==0)=false:=by simp[hb]
    have HZ:=aa (show pl=false by rw[HP.out];simp[hb])
    clear ho hb
    exact oa
  ·have eo:(x.other==0)=false:=by simp[ho]
   have HZ:=aa (show pl=false by rw[HP.out];simp[ho])
   clear ho
   exact oa
 case rest=>
 obtain⟨rfl,rfl⟩:=hcut
 by_cases k0:x.kind=0
 ·skip
  have e0:(x.kind==0)=true:=by simp[k0]
  have HR:=aa (MS m k0)
  try rw[HE1.out] at HR
  try rw[HE2.out] at HR
  try rw[HE3.out] at HR
  try rw[HPl.out] at HR
  try rw[HMs.out] at HR
  try rw[HAl.out] at HR
  clear k0
  cases it with
  |false=>
   exact od
  |true=>
   have hI1:=uE HE1.out
   have hI2:=n9 HE1.out
   obtain⟨y,hy⟩: ∃y,m.items[(x.item - 1).toNat]? =some y:=⟨_,List.getElem?_eq_getElem (by omega)⟩
   have HKy:=aa (M0 hy)
   obtain⟨b,o,cs,rfl,hb,_,⟨yo,rfl,_⟩,hcell⟩:=HIs.out.at_ hy
   have e1:=(HBW.out.cell (p:=⟨b,o+(x.item - 1).toNat*7+1,none⟩) hb).trans (hcell 1 _ rfl)
   rw[show(x.item - 1).toNat=x.item.toNat - 1 by omega] at e1
   have q1:IntKind.i64.wrap (x.item - 1)=x.item - 1:=IntWalk.i64_in _ (by omega)
   have q3:(0:Int)≤x.item - 1:=by omega
   have q4:x.item - 1<m.items.length:=by omega
   rw[HKy.out] at HR
   clear hy hcell hI1 hI2
   by_cases ky:y.kind=0
   ·have ey:(y.kind==0)=true:=by simp[ky]
    have HKz:=aa (show decide (y.kind=0)=true by simp[ky])
    rw[HKz.out] at HR
    clear ky
    cases pl with
    |false=>
     exact od
    |true=>
     exact od
   ·have ey:(y.kind==0)=false:=by simp[ky]
    have HKz:=aa (show decide (y.kind=0)=false by simp[ky])
    rw[HKz.out] at HR
    clear ky
    cases pl with
    |false=>
     exact od
    |true=>
     exact od
 ·have e0:(x.kind==0)=false:=by simp[k0]
  have K0:=aa k0
  clear k0
  by_cases k1:x.kind=1
  ·skip
   have e1:(x.kind==1)=true:=by simp[k1]
   have HR:=aa (MT m k1)
   try rw[HE1.out] at HR
   try rw[HE2.out] at HR
   try rw[HE3.out] at HR
   try rw[HPl.out] at HR
   try rw[HMs.out] at HR
   try rw[HAl.out] at HR
   clear k1
   obtain⟨c0,hc0⟩: ∃q,aD x.n 0 16=q:=⟨_,rfl⟩
   rw[hc0] at HR
   have HE4:=aa hc0
   clear hc0
   cases it with
   |false=>
    exact gL
   |true=>
    exact gL
  ·have e1:(x.kind==1)=false:=by simp[k1]
   have K1:=aa k1
   clear k1
   by_cases k2:x.kind=2
   ·skip
    have e2:(x.kind==2)=true:=by simp[k2]
    have HR:=aa (MU m k2)
    try rw[HE1.out] at HR
    try rw[HE2.out] at HR
    try rw[HE3.out] at HR
    try rw[HPl.out] at HR
    try rw[HMs.out] at HR
    try rw[HAl.out] at HR
    clear k2
    obtain⟨c0,hc0⟩: ∃q,aD x.by_ 2 4=q:=⟨_,rfl⟩
    rw[hc0] at HR
    have HE4:=aa hc0
    clear hc0
    obtain⟨c1,hc1⟩: ∃q,aD x.n 0 16=q:=⟨_,rfl⟩
    rw[hc1] at HR
    have HE5:=aa hc1
    clear hc1
    cases it with
    |false=>
     exact gL
    |true=>
     exact gL
   ·have e2:(x.kind==2)=false:=by simp[k2]
    have K2:=aa k2
    clear k2
    by_cases k3:x.kind=3
    ·skip
     have e3:(x.kind==3)=true:=by simp[k3]
     have HR:=aa (MW m k3)
     try rw[HE1.out] at HR
     try rw[HE2.out] at HR
     try rw[HE3.out] at HR
     try rw[HPl.out] at HR
     try rw[HMs.out] at HR
     try rw[HAl.out] at HR
     clear k3
     cases it with
     |false=>
      cases b3 with
      |false=>
       exact qq
      |true=>
       exact qq
     |true=>
      cases b3 with
      |false=>
       exact qq
      |true=>
       exact qq
    ·have e3:(x.kind==3)=false:=by simp[k3]
     have K3:=aa k3
     clear k3
     by_cases k4:x.kind=4
     ·skip
      have e4:(x.kind==4)=true:=by simp[k4]
      have HR:=aa (MX m k4)
      try rw[HE1.out] at HR
      try rw[HE2.out] at HR
      try rw[HE3.out] at HR
      try rw[HPl.out] at HR
      try rw[HMs.out] at HR
      try rw[HAl.out] at HR
      clear k4
      cases it with
      |false=>
       cases b2 with
       |false=>
        exact gL
       |true=>
        exact gL
      |true=>
       cases b2 with
       |false=>
        exact gL
       |true=>
        exact gL
     ·have e4:(x.kind==4)=false:=by simp[k4]
      have K4:=aa k4
      clear k4
      by_cases k5:x.kind=5
      ·skip
       have e5:(x.kind==5)=true:=by simp[k5]
       have HR:=aa (MY m k5)
       try rw[HE1.out] at HR
       try rw[HE2.out] at HR
       try rw[HE3.out] at HR
       try rw[HPl.out] at HR
       try rw[HMs.out] at HR
       try rw[HAl.out] at HR
       clear k5
       obtain⟨c0,hc0⟩: ∃q,aD x.n 0 200=q:=⟨_,rfl⟩
       rw[hc0] at HR
       have HE4:=aa hc0
       clear hc0
       exact gL
      ·have e5:(x.kind==5)=false:=by simp[k5]
       have K5:=aa k5
       clear k5
       by_cases k6:x.kind=6
       ·skip
        have e6:(x.kind==6)=true:=by simp[k6]
        have HR:=aa (MZ m k6)
        try rw[HE1.out] at HR
        try rw[HE2.out] at HR
        try rw[HE3.out] at HR
        try rw[HPl.out] at HR
        try rw[HMs.out] at HR
        try rw[HAl.out] at HR
        clear k6
        obtain⟨c0,hc0⟩: ∃q,aD x.n 0 16=q:=⟨_,rfl⟩
        rw[hc0] at HR
        have HE4:=aa hc0
        clear hc0
        cases it with
        |false=>
         cases pl with
         |false=>
          exact gL
         |true=>
          exact gL
        |true=>
         cases pl with
         |false=>
          exact gL
         |true=>
          exact gL
       ·have e6:(x.kind==6)=false:=by simp[k6]
        have K6:=aa k6
        clear k6
        have HR:=aa (xE m x (by rintro ⟨h1,h2⟩;have:=K0.out;have:=K1.out;have:=K2.out;have:=K3.out;have:=K4.out;have:=K5.out;have:=K6.out;omega))
        go_wp2_with first
         |(go_at_call 166
           refine fu ?_
           rintro e w3 ⟨rfl,hw⟩
           obtain rfl:=hw.symm
           first|rw[HE1.out]|rw[HE2.out])
        go_ret
        exact⟨aV HR.out.symm,HBW.out⟩
theorem M4 {n a b:Int} (h:aD n a b=true):a≤n:=by simp[aD] at h;exact h.1
theorem M5 {n a b:Int} (h:aD n a b=true):n≤b:=by simp[aD] at h;exact h.2
theorem BV {c:Nat→Bool} {n k:Nat} {b:Bool} (hb:b=cV c n) (hk:k<n) (h:c k=false):b=false:=by rw[hb];exact gD hk h
theorem BW {c:Nat→Bool} {n:Nat} {b:Bool} (hb:b=cV c n) (h: ∀j,j<n→c j=true):b=true:=by rw[hb];exact iV h
theorem M6 {m:aC} (h:dK m=true):m.sites.length≤4∧m.feeds.length≤16∧m.racks.length≤16∧m.machs.length≤16∧m.links.length≤12:=by
 unfold dK at h
 simp only[Bool.and_eq_true,decide_eq_true_eq] at h
 obtain⟨⟨⟨⟨⟨⟨⟨h1,h2⟩,h3⟩,h4⟩,h5⟩,_⟩,_⟩,_⟩:=h
 have:=n9 h1
 have:=n9 h4
 omega
theorem M7 (m:aC) (v:MV) (w:World) (hv:m.In w w.heap.size v):
 am 52 #[.agg (m.cells v)] w (.bool (dQ m)):=by
 refine fC fun Sa sc hs hs1 hs2 Fa fc hf' hf1 hf2 Ra rc hr hr1 hr2 Ma mc hm hm1 hm2 La lc hl hl1 hl2 Ia ic hi hi1 hi2 Ua uc hu hu1 hu2 HS=> ?_
 have HIn:=aa hv
 have HVa:=aa (fun W (hW:Below w.heap.size w W)=>Mo m v W (HIn.out.to hW (ae _) hW.size))
 rw[HS.out] at HVa
 have his:=hv.is
 rw[hi] at his
 have hus:=hv.us
 rw[hu] at hus
 have HIs:=aa his;have HUs:=aa hus
 have HO:Hid (dQ m=(dK m&&decide (m.items.length≤8)&&decide (m.rules.length≤40)&&aM m.dark m.sites.length&&aD m.slots 1 16&&aD m.reserve 0 (m.slots - 1)&&aD m.failures 0 7&&lo (di m)&&m.items.all (dj m)&&m.rules.all (cE m))):=aa rfl
 generalize dQ m=r at HO⊢
 obtain⟨so,hso⟩: ∃q,dK m=q:=⟨_,rfl⟩
 obtain⟨no,hno⟩: ∃q,lo (di m)=q:=⟨_,rfl⟩
 obtain⟨ex,hex⟩: ∃q,aM m.dark m.sites.length=q:=⟨_,rfl⟩
 obtain⟨v1,hv1⟩: ∃q,aD m.slots 1 16=q:=⟨_,rfl⟩
 obtain⟨v2,hv2⟩: ∃q,aD m.reserve 0 (m.slots - 1)=q:=⟨_,rfl⟩
 obtain⟨v3,hv3⟩: ∃q,aD m.failures 0 7=q:=⟨_,rfl⟩
 obtain⟨ia,hia⟩: ∃q,m.items.all (dj m)=q:=⟨_,rfl⟩
 obtain⟨ra,hra⟩: ∃q,m.rules.all (cE m)=q:=⟨_,rfl⟩
 rw[hso,hno,hex,hv1,hv2,hv3,hia,hra] at HO
 have HP1:=aa (show ia=cV (cJ m.items (dj m)) m.items.length by rw[←hia,rF])
 have HP2:=aa (show ra=cV (cJ m.rules (cE m)) m.rules.length by rw[←hra,rF])
 have HA1:=aa (fun k x (h:m.items[k]? =some x)=>(dx h:cJ m.items (dj m) k=dj m x))
 have HA2:=aa (fun k x (h:m.rules[k]? =some x)=>(dx h:cJ m.rules (cE m) k=cE m x))
 generalize cJ m.items (dj m)=F1 at HP1 HA1
 generalize cJ m.rules (cE m)=F2 at HP2 HA2
 have HEs:=aa hso;have HEn:=aa hno;have HEx:=aa hex;have HW1:=aa hv1;have HW2:=aa hv2;have HW3:=aa hv3
 have hn1:m.items.length≤9223372036854775807:=aP hi1 hi2
 have hn2:m.rules.length≤9223372036854775807:=aP hu1 hu2
 clear hso hno hex hv1 hv2 hv3 hia hra his hus
 rw[HS.out]
 clear hv hs hf' hr hm hl hi hu
 go_enter func52,ntmps52
 go_upto_region 1 with (fail)
 refine kb ?_
 intro W1 ⟨hBW,hmW⟩
 have HBW:=aa hBW;have HmW:=aa hmW
 have hzm:=blk_lt hmW
 obtain⟨a0,a1,a2,a3,a4,a5,a6,a7,a8,a9,a10⟩:=cd hmW
 clear hBW hmW
 cases so with
 |false=>
  go_wp2_with first
   |(go_at_call 162
     refine jJ ?_
     rintro e w2 ⟨rfl,hb2⟩
     rw[HEs.out]
     have hm2:=ah HmW.out hb2
     obtain⟨b0,b1,b2,b3,b4,b5,b6,b7,b8,b9,b10⟩:=cd hm2
     refine gl fun HB2=> ?_
     have HB2':=aa hb2
     clear hb2 hm2)
  go_ret
  exact⟨aV (by rw[HO.out];simp),HB2.out⟩
 |true=>
  have hbd:=M6 HEs.out
  by_cases q8:m.items.length≤8
  rotate_left
  ·have q8':(8:Int)<(m.items.length:Int):=by omega
   have H8:=aa (show decide (m.items.length≤8)=false by simp;omega)
   clear q8 hbd
   go_wp2_with first
    |(go_at_call 162
      refine jJ ?_
      rintro e w2 ⟨rfl,hb2⟩
      rw[HEs.out]
      have hm2:=ah HmW.out hb2
      obtain⟨b0,b1,b2,b3,b4,b5,b6,b7,b8,b9,b10⟩:=cd hm2
      refine gl fun HB2=> ?_
      have HB2':=aa hb2
      clear hb2 hm2)
    |(go_at_call 163
      refine(HNo.out w2 HB2.out).mono ?_
      rintro e w3 ⟨rfl,hb3⟩
      rw[HEn.out]
      have HB3:=aa (ag HB2'.out hb3)
      clear hb3)
   go_ret
   exact⟨aV (by rw[HO.out,H8.out];simp),HB2.out⟩
  have q8': ¬(8:Int)<(m.items.length:Int):=by omega
  have HNo:=aa (fun W (hW:Below w.heap.size w W)=>MA m v W (HIn.out.to hW (ae _) hW.size) (by omega) (by omega) (by omega) (by omega) (by omega))
  rw[HS.out] at HNo
  have H8:=aa (show decide (m.items.length≤8)=true by simp;omega)
  rw[H8.out] at HO
  clear q8 hbd
  by_cases q40:m.rules.length≤40
  rotate_left
  ·have q40':(40:Int)<(m.rules.length:Int):=by omega
   have H40:=aa (show decide (m.rules.length≤40)=false by simp;omega)
   clear q40
   go_wp2_with first
    |(go_at_call 162
      refine jJ ?_
      rintro e w2 ⟨rfl,hb2⟩
      rw[HEs.out]
      have hm2:=ah HmW.out hb2
      obtain⟨b0,b1,b2,b3,b4,b5,b6,b7,b8,b9,b10⟩:=cd hm2
      refine gl fun HB2=> ?_
      have HB2':=aa hb2
      clear hb2 hm2)
    |(go_at_call 163
      refine(HNo.out w2 HB2.out).mono ?_
      rintro e w3 ⟨rfl,hb3⟩
      rw[HEn.out]
      have HB3:=aa (ag HB2'.out hb3)
      clear hb3)
   go_ret
   exact⟨aV (by rw[HO.out,H40.out];simp),HB2.out⟩
  have q40': ¬(40:Int)<(m.rules.length:Int):=by omega
  have H40:=aa (show decide (m.rules.length≤40)=true by simp;omega)
  rw[H40.out] at HO
  clear q40
  cases no with
  |false=>
   go_wp2_with first
    |(go_at_call 162
      refine jJ ?_
      rintro e w2 ⟨rfl,hb2⟩
      rw[HEs.out]
      have hm2:=ah HmW.out hb2
      obtain⟨b0,b1,b2,b3,b4,b5,b6,b7,b8,b9,b10⟩:=cd hm2
      refine gl fun HB2=> ?_
      have HB2':=aa hb2
      clear hb2 hm2)
    |(go_at_call 163
      refine(HNo.out w2 HB2.out).mono ?_
      rintro e w3 ⟨rfl,hb3⟩
      rw[HEn.out]
      have HB3:=aa (ag HB2'.out hb3)
      clear hb3)
   go_ret
   exact⟨aV (by rw[HO.out];simp),ag HBW.out HB3.out⟩
  |true=>
   go_wp2_with first
    |(go_at_call 162
      refine jJ ?_
      rintro e w2 ⟨rfl,hb2⟩
      rw[HEs.out]
      have hm2:=ah HmW.out hb2
      obtain⟨b0,b1,b2,b3,b4,b5,b6,b7,b8,b9,b10⟩:=cd hm2
      refine gl fun HB2=> ?_
      have HB2':=aa hb2
      clear hb2 hm2)
    |(go_at_call 163
      refine(HNo.out w2 HB2.out).mono ?_
      rintro e w3 ⟨rfl,hb3⟩
      rw[HEn.out]
      have HB3:=aa (ag HB2'.out hb3)
      clear hb3)
   go_loopw [3] (fun i wr=> ∃k:Nat,k≤m.items.length∧i= .int .i64 k∧(∀j,j<k→F1 j=true)∧Below W1.heap.size W1 wr) (fun i _=>m.items.length - (intOf i).toNat)
   case atStart=>exact⟨0,aY _,rfl,fun j hj=>by omega,HB3.out⟩
   case round=>
    obtain⟨k,hk,rfl,hok,hB⟩:=hrel
    have HOk:=aa hok;have HB:=aa hB
    refine iF fun HBw=> ?_
    have hmr:=ah HmW.out hB
    have cf:wr.cell? ⟨w.heap.size,5,none⟩=some (.slice Ia m.items.length ic):=af hmr rfl
    clear hok hB
    by_cases hlt:k<m.items.length
    ·have hI1:(0:Int)≤k:=by omega
     have hI2:(k:Int)<m.items.length:=by omega
     obtain⟨x,hx⟩: ∃x,m.items[k]? =some x:=⟨_,List.getElem?_eq_getElem hlt⟩
     have HF:=aa ((HA1.out k x hx:F1 k=dj m x))
     obtain⟨b,o,cs,rfl,hb,_,⟨yo,rfl,hyo,_⟩,hcell⟩:=HIs.out.at_ hx
     have HCa:=aa (fun W (hW:Below w.heap.size w W)=>MC m v x yo W (HIn.out.to hW (ae _) hW.size) ((hyo.below hW (ae _)).more hW.size))
     rw[HS.out,bQ.vals_def] at HCa
     refine BX fun e0 e1 e2 e3 e4 e5 e6=> ?_
     simp only[Nat.add_zero] at e0
     refine BY fun HSB=> ?_
     obtain⟨b1,hb1⟩: ∃q,dj m x=q:=⟨_,rfl⟩
     have HE1:=aa hb1
     rw[hb1] at HF
     clear hcell hx hyo hb1 hmr e0 e1 e2 e3 e4 e5 e6
     cases b1 with
     |false=>
      have HR:=aa (BV HP1.out hlt HF.out)
      go_upto_region 6 with (fail)
      refine bP (S:=Below wr.heap.size wr) 8 8 (au (B0 wr)) fun hS=> ?_
      iterate 6 refine gP 8 32 ?_
      refine cP 6 fun K hK=> ?_
      go_simp
      refine(HCa.out _ (ag HBw.out hS)).mono ?_
      rintro e w4 ⟨rfl,hb4⟩
      rw[HE1.out]
      try go_simp
      refine hK.out _ _ (ag hS hb4) fun hS=> ?_
      clear hK
      refine ak ?_
      refine cj 7 39 ?_
      exact mr
     |true=>
      have HFk:=aa (show F1 k=true from HF.out)
      go_upto_region 6 with (fail)
      refine bP (S:=Below wr.heap.size wr) 8 8 (au (B0 wr)) fun hS=> ?_
      iterate 6 refine gP 8 32 ?_
      refine cP 6 fun K hK=> ?_
      go_simp
      refine(HCa.out _ (ag HBw.out hS)).mono ?_
      rintro e w4 ⟨rfl,hb4⟩
      rw[HE1.out]
      try go_simp
      refine hK.out _ _ (ag hS hb4) fun hS=> ?_
      clear hK
      refine ak ?_
      refine cj 7 39 ?_
      exact uF
    ·have hI2: ¬(k:Int)<m.items.length:=by omega
     have Hitems:=aa (BW HP1.out fun j hj=>HOk.out j (by omega))
     go_wp2_with fail
     clear hmr cf
     go_loopw [4] (fun i wr=> ∃k:Nat,k≤m.rules.length∧i= .int .i64 k∧(∀j,j<k→F2 j=true)∧Below W1.heap.size W1 wr) (fun i _=>m.rules.length - (intOf i).toNat)
     case atStart=>exact⟨0,aY _,rfl,fun j hj=>by omega,HB.out⟩
     case round=>
      obtain⟨k,hk,rfl,hok,hB⟩:=hrel
      have HOk:=aa hok;have HB:=aa hB
      refine iF fun HBw=> ?_
      have hmr:=ah HmW.out hB
      have cf:wr.cell? ⟨w.heap.size,10,none⟩=some (.slice Ua m.rules.length uc):=af hmr rfl
      clear hok hB
      by_cases hlt:k<m.rules.length
      ·have hI1:(0:Int)≤k:=by omega
       have hI2:(k:Int)<m.rules.length:=by omega
       obtain⟨x,hx⟩: ∃x,m.rules[k]? =some x:=⟨_,List.getElem?_eq_getElem hlt⟩
       have HF:=aa ((HA2.out k x hx:F2 k=cE m x))
       obtain⟨b,o,cs,rfl,hb,_,⟨yo,rfl,hyo,_⟩,hcell⟩:=HUs.out.at_ hx
       have HCa:=aa (fun W (hW:Below w.heap.size w W)=>M3 m v x yo W (HIn.out.to hW (ae _) hW.size) ((hyo.below hW (ae _)).more hW.size))
       rw[HS.out,aU.vals_def] at HCa
       refine BX fun e0 e1 e2 e3 e4 e5 e6=> ?_
       simp only[Nat.add_zero] at e0
       refine BY fun HSB=> ?_
       obtain⟨b1,hb1⟩: ∃q,cE m x=q:=⟨_,rfl⟩
       have HE1:=aa hb1
       rw[hb1] at HF
       clear hcell hx hyo hb1 hmr e0 e1 e2 e3 e4 e5 e6
       cases b1 with
       |false=>
        have HR:=aa (BV HP2.out hlt HF.out)
        go_upto_region 11 with (fail)
        refine bP (S:=Below wr.heap.size wr) 8 8 (au (B0 wr)) fun hS=> ?_
        iterate 6 refine gP 8 47 ?_
        refine cP 6 fun K hK=> ?_
        go_simp
        refine(HCa.out _ (ag HBw.out hS)).mono ?_
        rintro e w4 ⟨rfl,hb4⟩
        rw[HE1.out]
        try go_simp
        refine hK.out _ _ (ag hS hb4) fun hS=> ?_
        clear hK
        refine ak ?_
        refine cj 7 54 ?_
        exact mr
       |true=>
        have HFk:=aa (show F2 k=true from HF.out)
        go_upto_region 11 with (fail)
        refine bP (S:=Below wr.heap.size wr) 8 8 (au (B0 wr)) fun hS=> ?_
        iterate 6 refine gP 8 47 ?_
        refine cP 6 fun K hK=> ?_
        go_simp
        refine(HCa.out _ (ag HBw.out hS)).mono ?_
        rintro e w4 ⟨rfl,hb4⟩
        rw[HE1.out]
        try go_simp
        refine hK.out _ _ (ag hS hb4) fun hS=> ?_
        clear hK
        refine ak ?_
        refine cj 7 54 ?_
        exact uF
      ·have hI2: ¬(k:Int)<m.rules.length:=by omega
       have Hrules:=aa (BW HP2.out fun j hj=>HOk.out j (by omega))
       obtain⟨g0,g1,g2,g3,g4,g5,g6,g7,g8,g9,g10⟩:=cd hmr
       clear hmr
       cases ex with
       |false=>
        exact uG
       |true=>
        cases v1 with
        |false=>
         exact uG
        |true=>
         have hs1:=M4 HW1.out
         have hs2:=M5 HW1.out
         have q1:IntKind.i64.wrap (m.slots - 1)=m.slots - 1:=IntWalk.i64_in _ (by omega)
         clear hs1 hs2
         cases v2 with
         |false=>
          exact uG
         |true=>
          have HR:=aa (show r=v3 by rw[HO.out,Hitems.out,Hrules.out];simp)
          go_wp2_with first
           |(go_at_call 166
             refine fu ?_
             rintro e w3 ⟨rfl,hw⟩
             obtain rfl:=hw.symm
             rw[HEx.out])
           |(go_at_call 167
             refine(lf _ _ _ _).mono ?_
             rintro e w3 ⟨rfl,hw⟩
             obtain rfl:=hw.symm
             first|rw[HW1.out]|rw[HW2.out]|rw[HW3.out])
          go_ret
          exact⟨aV HR.out.symm,HBw.out⟩
theorem M8 (m:aC) (v:MV) (w:World) (hv:m.In w w.heap.size v):
 am 168 #[.agg (m.cells v),.int .i64 4] w (.int .i64 (m.sites.length:Nat)):=by
 refine fC fun Sa sc hs hs1 hs2 Fa fc hf' hf1 hf2 Ra rc hr hr1 hr2 Ma mc hm hm1 hm2 La lc hl hl1 hl2 Ia ic hi hi1 hi2 Ua uc hu hu1 hu2 HS=> ?_
 rw[HS.out]
 clear hv hs hf' hr hm hl hi hu
 go_enter func168,ntmps168
 go_upto_region 1 with (fail)
 refine kb ?_
 intro W1 ⟨hBW,hmW⟩
 have HBW:=aa hBW;have HmW:=aa hmW
 have hzm:=blk_lt hmW
 have a0:W1.cell? ⟨w.heap.size,0,none⟩=some (.slice Sa m.sites.length sc):=af hmW rfl
 clear hBW hmW
 go_wp2_with fail
 go_ret
 exact⟨rfl,HBW.out⟩
theorem M9 {m:aC} (h:dK m=true) {x:fR} (hx:x∈m.machs):aM x.rack m.racks.length=true:=by
 unfold dK at h
 simp only[Bool.and_eq_true] at h
 obtain⟨b,hb⟩:=rg h.1.2 hx
 unfold gN at hb
 rw[Bool.and_eq_true] at hb
 exact hb.1
theorem Na {m:aC} (h:dK m=true) {x:eN} (hx:x∈m.racks):aM x.site m.sites.length=true:=by
 unfold dK at h
 simp only[Bool.and_eq_true] at h
 obtain⟨b,hb⟩:=rg h.1.1.2 hx
 unfold gv at hb
 rw[Bool.and_eq_true,Bool.and_eq_true] at hb
 exact hb.1.1
theorem Nb {m:aC} (h:dQ m=true):dK m=true:=by
 unfold dQ at h
 simp only[Bool.and_eq_true] at h
 exact h.1.1.1.1.1.1.1.1.1
theorem uH {c:Nat→Bool} {n k:Nat} {b:Bool} (hb:b=cV c n) (hk:k<n) (h:c k=false):b=false:=by rw[hb];exact gD hk h
theorem Nc {m:aC} {x:Int} {b:List Int} (h:x<1):dY m x b=false:=by
 have:aM x m.machs.length=false:=by simp[aM,aD];omega
 unfold dY;rw[this];rfl
theorem Nd {m:aC} {x:Int} {b:List Int} (h:(m.machs.length:Int)<x):dY m x b=false:=by
 have:aM x m.machs.length=false:=by simp[aM,aD];omega
 unfold dY;rw[this];rfl
theorem Nf {m:aC} {x:Int} (h:aM x m.machs.length=true):dY m x []= !decide (fj m x=m.dark):=by
 unfold dY;rw[h];simp
theorem Ng {m:aC} {x y:Int} {b:List Int} (h:aM x m.machs.length=true) (hb:b.getLast?=some y):dY m x b=(decide (y<x)&& !decide (fj m x=m.dark)):=by
 unfold dY;rw[h,hb];simp
theorem Nh {m:aC} {l:List Int} (k:Nat) (x:Int) (h:l[k]? =some x):dE (dY m) [] l k=dY m x (l.take k):=by rw[iu h];rfl
theorem Ni (m:aC) (v:MV) (k:Int) (w:World) (hv:m.In w w.heap.size v) (hok:dK m=true) (hk:aM k m.machs.length=true):
 am 53 #[.agg (m.cells v),.int .i64 4,.int .i64 k] w (.int .i64 (fj m k)):=by
 refine fC fun Sa sc hs hs1 hs2 Fa fc hf' hf1 hf2 Ra rc hr hr1 hr2 Ma mc hm hm1 hm2 La lc hl hl1 hl2 Ia ic hi hi1 hi2 Ua uc hu hu1 hu2 HS=> ?_
 have k1:=uE hk
 have k2:=n9 hk
 obtain⟨j,hj⟩: ∃j,(k - 1).toNat=j:=⟨_,rfl⟩
 obtain⟨x,hx⟩: ∃x,m.machs[j]? =some x:=⟨_,List.getElem?_eq_getElem (by omega)⟩
 have hxr:=M9 hok (co hx)
 have x1:=uE hxr
 have x2:=n9 hxr
 obtain⟨j2,hj2⟩: ∃j,(x.rack - 1).toNat=j:=⟨_,rfl⟩
 obtain⟨y,hy⟩: ∃y,m.racks[j2]? =some y:=⟨_,List.getElem?_eq_getElem (by omega)⟩
 have hys:=Na hok (co hy)
 have HSi:=aa (BQ hj hx hj2 hy)
 have hR:=hv.ms
 rw[hm] at hR
 obtain⟨b1,o1,cs1,rfl,hb1,_,⟨rfl,hI1⟩,hc1⟩:=hR.at_ hx
 have hR2:=hv.rs
 rw[hr] at hR2
 obtain⟨b2,o2,cs2,rfl,hb2,_,⟨rfl,hI2⟩,hc2⟩:=hR2.at_ hy
 have HDs:=aa (fun W (hW:Below w.heap.size w W)=>M8 m v W (hv.to hW (ae _) hW.size))
 rw[HS.out] at HDs
 have HE1:=aa hk;have HE2:=aa hxr;have HE3:=aa hys
 have r1:w.cell? ⟨b1,o1+j*3+1,none⟩=some (.int .i64 x.rack):=hc1 1 _ rfl
 have r2:w.cell? ⟨b2,o2+j2*3+1,none⟩=some (.int .i64 y.site):=hc2 1 _ rfl
 have HR1:=aa r1;have HR2:=aa r2
 have i1:IntKind.i64.wrap (k - 1)=k - 1:=IntWalk.i64_in _ (by omega)
 have i2:IntKind.i64.wrap (x.rack - 1)=x.rack - 1:=IntWalk.i64_in _ (by omega)
 have i3:(0:Int)≤k - 1:=by omega
 have i4:k - 1<m.machs.length:=by omega
 have i5:(0:Int)≤x.rack - 1:=by omega
 have i6:x.rack - 1<m.racks.length:=by omega
 clear hR hR2 hx hy hc1 hc2 hk hxr hys r1 r2 k1 k2 x1 x2 hok hI1 hI2
 rw[HS.out]
 clear hv hs hf' hr hm hl hi hu
 go_enter func53,ntmps53
 go_upto_region 1 with (fail)
 refine bt (fun W=>Below w.heap.size w W∧W.heap[w.heap.size]? =some (.cells #[.slice Sa m.sites.length sc,.slice Fa m.feeds.length fc,.slice (some ⟨b2,o2,none⟩) m.racks.length rc,.slice (some ⟨b1,o1,none⟩) m.machs.length mc,.slice La m.links.length lc,.slice Ia m.items.length ic,.int .i64 m.dark,.int .i64 m.slots,.int .i64 m.reserve,.int .i64 m.failures,.slice Ua m.rules.length uc] 29 (0,0))) ⟨ac (B0 w) _,aN w _⟩ ?_
 intro W1 ⟨hBW,hmW⟩
 have HBW:=aa hBW;have HmW:=aa hmW
 have hzm:=blk_lt hmW
 have g1:W1.cell? ⟨b1,o1+j*3+1,none⟩=some (.int .i64 x.rack):=(HBW.out.cell (p:=⟨b1,o1+j*3+1,none⟩) hb1).trans HR1.out
 have g2:W1.cell? ⟨b2,o2+j2*3+1,none⟩=some (.int .i64 y.site):=(HBW.out.cell (p:=⟨b2,o2+j2*3+1,none⟩) hb2).trans HR2.out
 obtain⟨a0,a1,a2,a3,a4,a5,a6,a7,a8,a9,a10⟩:=cd hmW
 clear hBW hmW
 go_wp2_with(first
  |(go_at_call 166
    refine fu ?_
    rintro e w3 ⟨rfl,hw⟩
    obtain rfl:=hw.symm
    first|rw[HE1.out]|rw[HE2.out]|rw[HE3.out])
  |(go_at_call 168
    refine(HDs.out _ HBW.out).mono ?_
    rintro e w4 ⟨rfl,hb4⟩
    have HB4:=aa (ag HBW.out hb4)
    clear hb4))
 go_ret
 exact⟨by rw[HSi.out];rfl,HB4.out⟩
theorem Nj (m:aC) (v:MV) (l:List Int) (cl:Int) (acts:List ap) (cv av:Value) (w:World) (hv:m.In w w.heap.size v) (hc0:aq w w.heap.size cv l) (hl:l.length≤100000):
 am 19 #[.agg (m.cells v++ #[cv,.int .i64 cl,av])] w (.bool (gZ ⟨m,l,cl,acts⟩)):=by
 obtain⟨⟨Sa,sc,hs,hs1,hs2⟩,⟨Fa,fc,hf',hf1,hf2⟩,⟨Ra,rc,hr,hr1,hr2⟩,⟨Ma,mc,hm,hm1,hm2⟩,⟨La,lc,hl',hl1,hl2⟩,⟨Ia,ic,hi,hi1,hi2⟩,⟨Ua,uc,hu,hu1,hu2⟩⟩:=hv.cells
 refine zu fun HS=> ?_
 obtain⟨A,n,c,rfl,hn,hcn,hcm⟩:=hc0.form
 refine BT fun HM=> ?_
 have HS':=aa (show m.cells v++ #[.slice A n c,.int .i64 cl,av]= #[.slice Sa m.sites.length sc,.slice Fa m.feeds.length fc,.slice Ra m.racks.length rc,.slice Ma m.machs.length mc,.slice La m.links.length lc,.slice Ia m.items.length ic,.int .i64 m.dark,.int .i64 m.slots,.int .i64 m.reserve,.int .i64 m.failures,.slice Ua m.rules.length uc,.slice A n c,.int .i64 cl,av] from by rw[HM.out];rfl)
 have HIn:=aa hv
 have HVa:=aa (fun W (hW:Below w.heap.size w W)=>M7 m v W (HIn.out.to hW (ae _) hW.size))
 rw[HM.out] at HVa
 rw[hn] at hl
 have HL:=aa hc0;have HN:=aa hn
 obtain⟨ol,hol⟩: ∃q,cV (dE (dY m) [] l) l.length=q:=⟨_,rfl⟩
 have HO:=aa (show gZ ⟨m,l,cl,acts⟩=(dQ m&&(ol&&(decide (n=1)||decide (n=3)||decide (n=5)))&&aD cl 0 8) by unfold gZ;rw[BO,hol,hn])
 obtain⟨res,hres⟩: ∃q,gZ ⟨m,l,cl,acts⟩=q:=⟨_,rfl⟩
 obtain⟨mo,hmo⟩: ∃q,dQ m=q:=⟨_,rfl⟩
 rw[hres,hmo] at HO
 rw[hres,HS'.out]
 rw[hmo] at HVa
 rw[hn] at hol
 have HPr:=aa hol.symm
 have HMo:=aa hmo
 have HAt:=aa (fun k x (h:l[k]? =some x)=>Nh (m:=m) k x h)
 generalize dE (dY m) [] l=F at HPr HAt
 clear hc0 hn hol hres hmo hv hs hf' hr hm hl' hi hu HS
 go_enter func19,ntmps19
 go_upto_region 1 with (fail)
 refine bt (fun W=>Below w.heap.size w W∧W.heap[w.heap.size]? =some (.cells #[.slice Sa m.sites.length sc,.slice Fa m.feeds.length fc,.slice Ra m.racks.length rc,.slice Ma m.machs.length mc,.slice La m.links.length lc,.slice Ia m.items.length ic,.int .i64 m.dark,.int .i64 m.slots,.int .i64 m.reserve,.int .i64 m.failures,.slice Ua m.rules.length uc,.slice A n c,.int .i64 cl,av] 33 (0,0))) ⟨ac (B0 w) _,aN w _⟩ ?_
 intro W1 ⟨hBW,hmW⟩
 have HBW:=aa hBW;have HmW:=aa hmW
 obtain⟨a0,a1,a2,a3,a4,a5,a6,a7,a8,a9,a10,a11,a12,a13⟩:=dw hmW
 clear hBW hmW
 cases mo with
 |false=>
  go_wp2_with
   (go_at_call 52
    refine jJ ?_
    rintro e w2 ⟨rfl,hb2⟩
    have hm2:=ah HmW.out hb2
    obtain⟨b0,b1,b2,b3,b4,b5,b6,b7,b8,b9,b10,b11,b12,b13⟩:=dw hm2
    have HB2':=aa hb2
    refine gl fun HB2=> ?_
    clear hb2 hm2)
  go_ret
  exact⟨aV (by rw[HO.out];simp),HB2.out⟩
 |true=>
  have HSo:=aa (Nb HMo.out)
  by_cases hc1:cl<0
  ·exact BZ
  by_cases hc2:8<cl
  ·exact BZ
  have HCl:=aa (show aD cl 0 8=true by simp[aD];omega)
  rw[HCl.out] at HO
  by_cases hnn:n=1∨n=3∨n=5
  rotate_left
  ·have f1:((n:Int)!=1)=true:=by simp;omega
   have f3:((n:Int)!=3)=true:=by simp;omega
   have f5:((n:Int)!=5)=true:=by simp;omega
   have HOn:=aa (show(decide (n=1)||decide (n=3)||decide (n=5))=false by simp;omega)
   clear hnn
   go_wp2_with
    (go_at_call 52
     refine jJ ?_
     rintro e w2 ⟨rfl,hb2⟩
     have hm2:=ah HmW.out hb2
     obtain⟨b0,b1,b2,b3,b4,b5,b6,b7,b8,b9,b10,b11,b12,b13⟩:=dw hm2
     have HB2':=aa hb2
     refine gl fun HB2=> ?_
     clear hb2 hm2)
   go_ret
   exact⟨aV (by rw[HO.out,HOn.out];simp),HB2.out⟩
  have HOn:=aa (show(decide (n=1)||decide (n=3)||decide (n=5))=true by simp;omega)
  rw[HOn.out] at HO
  go_cut [36] (fun p wx=>p= .bool false∧Below W1.heap.size W1 wx)
  case first=>
   rcases hnn with hnn|hnn|hnn
   ·have f1:((n:Int)!=1)=false:=by simp[hnn]
    exact uI
   ·have f1:((n:Int)!=1)=true:=by simp[hnn]
    have f3:((n:Int)!=3)=false:=by simp[hnn]
    exact uI
   ·have f1:((n:Int)!=1)=true:=by simp[hnn]
    have f3:((n:Int)!=3)=true:=by simp[hnn]
    have f5:((n:Int)!=5)=false:=by simp[hnn]
    exact uI
  case rest=>
  obtain⟨rfl,hbc⟩:=hcut
  have HB2':=aa hbc
  clear hbc hnn hc1 hc2
  go_wp2_with fail
  go_loopw [3,4] (fun i _ wr=> ∃k:Nat,k≤n∧i= .int .i64 k∧(∀j,j<k→F j=true)∧Below W1.heap.size W1 wr) (fun i _ _=>n - (intOf i).toNat)
  case atStart=>exact⟨0,aY _,rfl,fun j hj=>by omega,HB2'.out⟩
  case round=>
   obtain⟨k,hk,rfl,hok,hB⟩:=hrel
   have HOk:=aa hok;have HB:=aa hB
   refine iF fun HBw=> ?_
   have hmr0:=ah HmW.out hB
   have c11:wr.cell? ⟨w.heap.size,11,none⟩=some (.slice A n c):=af hmr0 rfl
   clear hok hB
   by_cases hlt:k<n
   ·have hI0:(0:Int)≤k:=by omega
    have hI2:(k:Int)<n:=by omega
    obtain⟨x,hx⟩: ∃x,l[k]? =some x:=⟨_,List.getElem?_eq_getElem (by rw[HN.out];exact hlt)⟩
    have HF:=aa (HAt.out k x hx)
    obtain⟨ub,uo,hA,hub,hcs⟩:=aq.cell HL.out hx
    subst hA
    have cs:wr.cell? ⟨ub,uo+k,none⟩=some (.int .i64 x):=(HBw.out.cell (p:=⟨ub,uo+k,none⟩) hub).trans hcs
    have hmr:=hmr0
    clear hcs hmr0
    by_cases hx1:x<1
    ·have e1:decide (x<1)=true:=by simp[hx1]
     rw[Nc hx1] at HF
     clear hx1 hx
     refine uJ fun HR HSB=> ?_
     clear hmr
     go_upto_region 7 with (fail)
     refine lg fun hS=> ?_
     iterate 3 refine gP 34 49 ?_
     iterate 6 refine kP 34 49 ?_
     iterate 2 refine gP 34 49 ?_
     iterate 12 refine kP 34 49 ?_
     iterate 2 refine gP 34 49 ?_
     iterate 8 refine kP 34 49 ?_
     refine cj 33 82 ?_
     exact mr
    ·have e1:decide (x<1)=false:=by simp[hx1]
     by_cases hx2:(m.machs.length:Int)<x
     ·have e2:decide ((m.machs.length:Int)<x)=true:=by simp[hx2]
      rw[Nd hx2] at HF
      clear hx1 hx2 hx
      refine uJ fun HR HSB=> ?_
      clear hmr
      go_upto_region 7 with (fail)
      refine lg fun hS=> ?_
      iterate 11 refine gP 34 49 ?_
      iterate 12 refine kP 34 49 ?_
      iterate 2 refine gP 34 49 ?_
      iterate 8 refine kP 34 49 ?_
      refine cj 33 82 ?_
      exact mr
     ·have e2:decide ((m.machs.length:Int)<x)=false:=by simp[hx2]
      have hex:aM x m.machs.length=true:=by simp[aM,aD];omega
      have HDo:=aa (fun W (hW:Below w.heap.size w W)=>Ni m v x W (HIn.out.to hW (ae _) hW.size) HSo.out hex)
      rw[HM.out] at HDo
      by_cases h0:k=0
      ·have hf:=Nf hex
       rw[show l.take k=[] by rw[h0];rfl,hf] at HF
       have q0:decide ((0:Int)<(k:Int))=false:=decide_eq_false (by omega)
       have q0':decide (0<k)=false:=decide_eq_false (by omega)
       clear h0
       clear hx1 hx2 hx hex hf
       by_cases hd:fj m x=m.dark
       ·have e1:(fj m x==m.dark)=true:=by simp[hd]
        have hd':decide (fj m x=m.dark)=true:=by simp[hd]
        rw[hd'] at HF
        clear hd hd'
        refine uJ fun HR HSB=> ?_
        clear hmr
        go_upto_region 7 with (fail)
        refine lg fun hS=> ?_
        iterate 14 refine gP 34 49 ?_
        iterate 8 refine kP 34 49 ?_
        iterate 6 refine gP 34 49 ?_
        exact B3
       ·have e1:(fj m x==m.dark)=false:=by simp[hd]
        have hd':decide (fj m x=m.dark)=false:=by simp[hd]
        rw[hd'] at HF
        clear hd hd'
        have HFk:=aa (show F k=true from by rw[HF.out]<;>rfl)
        have HSB:=aa (fun W (h:Below wr.heap.size wr W)=>mU (ah hmr h))
        clear hmr
        go_upto_region 7 with (fail)
        refine lg fun hS=> ?_
        iterate 14 refine gP 34 49 ?_
        iterate 8 refine kP 34 49 ?_
        iterate 6 refine gP 34 49 ?_
        exact B4
      ·obtain⟨y,hy⟩: ∃y,l[k - 1]? =some y:=⟨_,List.getElem?_eq_getElem (by rw[HN.out];omega)⟩
       have hf:=Ng hex (BP (by omega) hy)
       rw[hf] at HF
       obtain⟨ub',uo',hA,_,hcp⟩:=aq.cell HL.out hy
       injection hA with hA
       injection hA with hA1 hA2 _
       subst hA1 hA2
       have cp:wr.cell? ⟨ub,uo+(k - 1),none⟩=some (.int .i64 y):=(HBw.out.cell (p:=⟨ub,uo+(k - 1),none⟩) hub).trans hcp
       refine BH fun q0 q0' q1 q2 q3 q3' q4=> ?_
       clear hx1 hx2 hx hex hf hy hcp
       by_cases hyx:y<x
       ·have q5:decide (x≤y)=false:=by simp;omega
        have q6:decide (y<x)=true:=by simp[hyx]
        rw[q6] at HF
        clear hyx q6
        by_cases hd:fj m x=m.dark
        ·have e1:(fj m x==m.dark)=true:=by simp[hd]
         have hd':decide (fj m x=m.dark)=true:=by simp[hd]
         rw[hd'] at HF
         clear hd hd'
         have HR:=aa (uH HPr.out hlt (by rw[HF.out]<;>rfl))
         have HSB:=aa (fun W (h:Below wr.heap.size wr W)=>And.intro (mU (ah hmr h)) (kc h cp))
         clear hmr cp
         go_upto_region 7 with (fail)
         refine lg fun hS=> ?_
         iterate 28 refine gP 34 49 ?_
         exact B3
        ·have e1:(fj m x==m.dark)=false:=by simp[hd]
         have hd':decide (fj m x=m.dark)=false:=by simp[hd]
         rw[hd'] at HF
         clear hd hd'
         have HFk:=aa (show F k=true from by rw[HF.out]<;>rfl)
         have HSB:=aa (fun W (h:Below wr.heap.size wr W)=>And.intro (mU (ah hmr h)) (kc h cp))
         clear hmr cp
         go_upto_region 7 with (fail)
         refine lg fun hS=> ?_
         iterate 28 refine gP 34 49 ?_
         exact B4
       ·have q5:decide (x≤y)=true:=by simp;omega
        have q6:decide (y<x)=false:=by simp[hyx]
        rw[q6] at HF
        clear hyx q6
        have HR:=aa (uH HPr.out hlt (by rw[HF.out]<;>rfl))
        have HSB:=aa (fun W (h:Below wr.heap.size wr W)=>And.intro (mU (ah hmr h)) (kc h cp))
        clear hmr cp
        go_upto_region 7 with (fail)
        refine lg fun hS=> ?_
        iterate 25 refine gP 34 49 ?_
        iterate 8 refine kP 34 49 ?_
        refine cj 33 82 ?_
        exact mr
   ·have hI2: ¬(k:Int)<n:=by omega
    have HR:=aa (show ol=true from by rw[HPr.out];exact iV fun j hj=>HOk.out j (by omega))
    go_wp2_with fail
    go_ret
    exact⟨aV (by rw[HO.out,HR.out];simp),HBw.out⟩
theorem Nk (x:ai) (w:World):am 31 #[.string (bs x)] w (.bool (cN x)):=by
 have HP:=aa (fun W=>(strings_HasPrefix (bs x) ⟨#[99,111,110,116,114,111,108,32]⟩ W).mono fun e w' (h:e= .returned (.bool (cN x))∧w'=W)=>h)
 go_enter func31,ntmps31
 go_wp2_with(go_at_call 32;refine(HP.out _).mono ?_;rintro e w3 ⟨rfl,hw⟩;obtain rfl:=hw.symm)
 go_ret
 exact⟨rfl,Below.refl _ _⟩
theorem uK (v:Value) (l:List ai) (w:World) (h:Sl w w.heap.size v (l.map de)):
 am 30 #[v,az 31 #[]] w (.int .i64 (eW l)):=by
 refine(xB (R1 de) (R1.ab de) v l 31 #[] (cJ l cN) w (Sl.k1 h) (enters_of func31 (by kernel_rfl) rfl) (fun j x cs W hx hb hcs hlen=>by
  have hcs':cs=[de x]:=hcs
  rw[dx hx,hcs']
  exact Nk x W)).mono fun e w' ⟨he,hb⟩=>⟨?_,hb⟩
 rw[he,rz]
 rfl
def oe:Array Value:= #[.slice none 0 0,.slice none 0 0,.slice none 0 0,.slice none 0 0,.slice none 0 0,.slice none 0 0,.int .i64 0,.int .i64 0,.int .i64 0,.int .i64 0,.slice none 0 0,.slice none 0 0,.int .i64 0,.slice none 0 0]
def B5 (w:World) (s:fX) (v:MV) (cv av:Value):Prop:=s.m.In w w.heap.size v∧aq w w.heap.size cv s.control∧aQ 10 jj w w.heap.size av s.acts
def gm (w:World) (r:Except (Nat×Nat) fX) (e:Ending) (w':World):Prop:=
 Below w.heap.size w w'∧match r with
  | .error x=>e= .returned (.tuple #[.agg oe,.int .i64 x.1,.int .i64 x.2])
  | .ok s=> ∃v cv av,e= .returned (.tuple #[.agg (s.m.cells v++ #[cv,.int .i64 s.clients,av]),.int .i64 0,.int .i64 0])∧B5 w' s v cv av∧∀b W,b<w.heap.size→KP w'.heap.size b w' W→B5 W s v cv av
theorem gm.err {w w':World} {r:Except (Nat×Nat) fX} {x:Nat×Nat} {e:Ending} (h:r= .error x) (he:e= .returned (.tuple #[.agg oe,.int .i64 x.1,.int .i64 x.2])) (hb:Below w.heap.size w w'):gm w r e w':=by
 subst h
 exact⟨hb,he⟩
theorem ke {a w w':World} {B:Nat} (h:Below B a w) (k:Below B w w'):Below B a w':=h.trans k
section
variable {W:World} {rt:Nat} {T:TypeId} {u0 u1 u2 u3 u4 u5 u6 u7 u8 u9 u10 u11 u12 u13:Value}
theorem Nl (hT:W.heap[rt]? =some (.cells #[u0,u1,u2,u3,u4,u5,u6,u7,u8,u9,u10,u11,u12,u13] T (0,0))) (v0 v1 v2 v3 v4 v5 v6 v7 v8 v9 v10 v11 v12 v13:Value):
 ((((((((((((((W.setCell ⟨rt,0,none⟩ v0).setCell ⟨rt,1,none⟩ v1).setCell ⟨rt,2,none⟩ v2).setCell ⟨rt,3,none⟩ v3).setCell ⟨rt,4,none⟩ v4).setCell ⟨rt,5,none⟩ v5).setCell ⟨rt,6,none⟩ v6).setCell ⟨rt,7,none⟩ v7).setCell ⟨rt,8,none⟩ v8).setCell ⟨rt,9,none⟩ v9).setCell ⟨rt,10,none⟩ v10).setCell ⟨rt,11,none⟩ v11).setCell ⟨rt,12,none⟩ v12).setCell ⟨rt,13,none⟩ v13).heap[rt]? =some (.cells #[v0,v1,v2,v3,v4,v5,v6,v7,v8,v9,v10,v11,v12,v13] T (0,0)):=
 (ay (ay (ay (ay (ay (ay (ay (ay (ay (ay (ay (ay (ay (ay hT 0 v0) 1 v1) 2 v2) 3 v3) 4 v4) 5 v5) 6 v6) 7 v7) 8 v8) 9 v9) 10 v10) 11 v11) 12 v12) 13 v13).trans (by kernel_rfl)
theorem Nm (B:Nat) (v0 v1 v2 v3 v4 v5 v6 v7 v8 v9 v10 v11 v12 v13:Value):
 KP B rt W ((((((((((((((W.setCell ⟨rt,0,none⟩ v0).setCell ⟨rt,1,none⟩ v1).setCell ⟨rt,2,none⟩ v2).setCell ⟨rt,3,none⟩ v3).setCell ⟨rt,4,none⟩ v4).setCell ⟨rt,5,none⟩ v5).setCell ⟨rt,6,none⟩ v6).setCell ⟨rt,7,none⟩ v7).setCell ⟨rt,8,none⟩ v8).setCell ⟨rt,9,none⟩ v9).setCell ⟨rt,10,none⟩ v10).setCell ⟨rt,11,none⟩ v11).setCell ⟨rt,12,none⟩ v12).setCell ⟨rt,13,none⟩ v13):=
 (((((((((((((((KP.refl B rt W).set (.inl rfl) v0).set (.inl rfl) v1).set (.inl rfl) v2).set (.inl rfl) v3).set (.inl rfl) v4).set (.inl rfl) v5).set (.inl rfl) v6).set (.inl rfl) v7).set (.inl rfl) v8).set (.inl rfl) v9).set (.inl rfl) v10).set (.inl rfl) v11).set (.inl rfl) v12).set (.inl rfl) v13)
theorem B6 (hT:W.heap[rt]? =some (.cells #[u0,u1,u2,u3,u4,u5,u6,u7,u8,u9,u10,u11,u12,u13] T (0,0))) (v0 v1 v2 v3 v4 v5 v6 v7 v8 v9 v10:Value):
 (((((((((((W.setCell ⟨rt,0,none⟩ v0).setCell ⟨rt,1,none⟩ v1).setCell ⟨rt,2,none⟩ v2).setCell ⟨rt,3,none⟩ v3).setCell ⟨rt,4,none⟩ v4).setCell ⟨rt,5,none⟩ v5).setCell ⟨rt,6,none⟩ v6).setCell ⟨rt,7,none⟩ v7).setCell ⟨rt,8,none⟩ v8).setCell ⟨rt,9,none⟩ v9).setCell ⟨rt,10,none⟩ v10).heap[rt]? =some (.cells #[v0,v1,v2,v3,v4,v5,v6,v7,v8,v9,v10,u11,u12,u13] T (0,0)):=
 (ay (ay (ay (ay (ay (ay (ay (ay (ay (ay (ay hT 0 v0) 1 v1) 2 v2) 3 v3) 4 v4) 5 v5) 6 v6) 7 v7) 8 v8) 9 v9) 10 v10).trans (by kernel_rfl)
theorem uL (B:Nat) (v0 v1 v2 v3 v4 v5 v6 v7 v8 v9 v10:Value):
 KP B rt W (((((((((((W.setCell ⟨rt,0,none⟩ v0).setCell ⟨rt,1,none⟩ v1).setCell ⟨rt,2,none⟩ v2).setCell ⟨rt,3,none⟩ v3).setCell ⟨rt,4,none⟩ v4).setCell ⟨rt,5,none⟩ v5).setCell ⟨rt,6,none⟩ v6).setCell ⟨rt,7,none⟩ v7).setCell ⟨rt,8,none⟩ v8).setCell ⟨rt,9,none⟩ v9).setCell ⟨rt,10,none⟩ v10):=
 ((((((((((((KP.refl B rt W).set (.inl rfl) v0).set (.inl rfl) v1).set (.inl rfl) v2).set (.inl rfl) v3).set (.inl rfl) v4).set (.inl rfl) v5).set (.inl rfl) v6).set (.inl rfl) v7).set (.inl rfl) v8).set (.inl rfl) v9).set (.inl rfl) v10)
theorem jk (hT:W.heap[rt]? =some (.cells #[u0,u1,u2,u3,u4,u5,u6,u7,u8,u9,u10,u11,u12,u13] T (0,0))):(W.cell? ⟨rt,0,none⟩=some u0∧W.cell? ⟨rt,1,none⟩=some u1∧W.cell? ⟨rt,2,none⟩=some u2∧W.cell? ⟨rt,3,none⟩=some u3∧W.cell? ⟨rt,4,none⟩=some u4∧W.cell? ⟨rt,5,none⟩=some u5∧W.cell? ⟨rt,6,none⟩=some u6∧W.cell? ⟨rt,7,none⟩=some u7∧W.cell? ⟨rt,8,none⟩=some u8∧W.cell? ⟨rt,9,none⟩=some u9∧W.cell? ⟨rt,10,none⟩=some u10∧W.cell? ⟨rt,11,none⟩=some u11∧W.cell? ⟨rt,12,none⟩=some u12∧W.cell? ⟨rt,13,none⟩=some u13)∧W.frozen? ⟨rt,0,none⟩=false∧W.frozen? ⟨rt,1,none⟩=false∧W.frozen? ⟨rt,2,none⟩=false∧W.frozen? ⟨rt,3,none⟩=false∧W.frozen? ⟨rt,4,none⟩=false∧W.frozen? ⟨rt,5,none⟩=false∧W.frozen? ⟨rt,6,none⟩=false∧W.frozen? ⟨rt,7,none⟩=false∧W.frozen? ⟨rt,8,none⟩=false∧W.frozen? ⟨rt,9,none⟩=false∧W.frozen? ⟨rt,10,none⟩=false∧W.frozen? ⟨rt,11,none⟩=false∧W.frozen? ⟨rt,12,none⟩=false∧W.frozen? ⟨rt,13,none⟩=false:=
 ⟨⟨af hT rfl,af hT rfl,af hT rfl,af hT rfl,af hT rfl,af hT rfl,af hT rfl,af hT rfl,af hT rfl,af hT rfl,af hT rfl,af hT rfl,af hT rfl,af hT rfl⟩,aW hT 0,aW hT 1,aW hT 2,aW hT 3,aW hT 4,aW hT 5,aW hT 6,aW hT 7,aW hT 8,aW hT 9,aW hT 10,aW hT 11,aW hT 12,aW hT 13⟩
theorem jK {a:Act} {R:Ending→World→Prop} {v0 v1 v2 v3 v4 v5 v6 v7 v8 v9 v10 v11 v12 v13 i e:Value} (h2:a.tmps.getD 2 undef= .pointer (some ⟨rt,0,none⟩)) (h3:a.tmps.getD 3 undef=i) (h4:a.tmps.getD 4 undef=e) (hd:a.defers=[])
 (hT:W.heap[rt]? =some (.cells #[u0,u1,u2,u3,u4,u5,u6,u7,u8,u9,u10,u11,u12,u13] T (0,0)))
 (hR: ∀W7,KP W.heap.size rt W W7→R (.returned (.tuple #[.agg #[v0,v1,v2,v3,v4,v5,v6,v7,v8,v9,v10,v11,v12,v13],i,e])) W7):
 bodyPost prog Tryz.f12 R .ret a ((((((((((((((W.setCell ⟨rt,0,none⟩ v0).setCell ⟨rt,1,none⟩ v1).setCell ⟨rt,2,none⟩ v2).setCell ⟨rt,3,none⟩ v3).setCell ⟨rt,4,none⟩ v4).setCell ⟨rt,5,none⟩ v5).setCell ⟨rt,6,none⟩ v6).setCell ⟨rt,7,none⟩ v7).setCell ⟨rt,8,none⟩ v8).setCell ⟨rt,9,none⟩ v9).setCell ⟨rt,10,none⟩ v10).setCell ⟨rt,11,none⟩ v11).setCell ⟨rt,12,none⟩ v12).setCell ⟨rt,13,none⟩ v13):=by
 have g7:=Nl hT v0 v1 v2 v3 v4 v5 v6 v7 v8 v9 v10 v11 v12 v13
 have hK:=Nm (W:=W) (rt:=rt) W.heap.size v0 v1 v2 v3 v4 v5 v6 v7 v8 v9 v10 v11 v12 v13
 generalize ((((((((((((((W.setCell ⟨rt,0,none⟩ v0).setCell ⟨rt,1,none⟩ v1).setCell ⟨rt,2,none⟩ v2).setCell ⟨rt,3,none⟩ v3).setCell ⟨rt,4,none⟩ v4).setCell ⟨rt,5,none⟩ v5).setCell ⟨rt,6,none⟩ v6).setCell ⟨rt,7,none⟩ v7).setCell ⟨rt,8,none⟩ v8).setCell ⟨rt,9,none⟩ v9).setCell ⟨rt,10,none⟩ v10).setCell ⟨rt,11,none⟩ v11).setCell ⟨rt,12,none⟩ v12).setCell ⟨rt,13,none⟩ v13)=W7 at g7 hK⊢
 obtain⟨f0,f1,f2,f3,f4,f5,f6,f7,f8,f9,f10,f11,f12,f13⟩:=dw g7
 refine bodyPost_ret (v:= .tuple #[.agg #[v0,v1,v2,v3,v4,v5,v6,v7,v8,v9,v10,v11,v12,v13],i,e]) ?_ hd (hR W7 hK)
 have h2':a.tmps[2]?.getD undef= .pointer (some ⟨rt,0,none⟩):=by simpa using h2
 have h3':a.tmps[3]?.getD undef=i:=by simpa using h3
 have h4':a.tmps[4]?.getD undef=e:=by simpa using h4
 simp[results,Tryz.f12,go_sem,h2',h3',h4',f0,f1,f2,f3,f4,f5,f6,f7,f8,f9,f10,f11,f12,f13]
end
theorem Nn (s:ByteArray) (w:World) (hs:65536<s.size):Calls prog 12 #[.string s] w (gm w (.error (0,8))):=by
 have hs':(65536:Int)<s.size:=by omega
 go_enter func12,ntmps12
 go_upto_region 1 with (fail)
 refine uM ?_
 intro W1 ⟨hBW,hT1⟩
 have HBW:=aa hBW;have HT1:=aa hT1
 clear hBW hT1
 generalize hrr:w.heap.size=rt at HT1⊢
 have hrt:w.heap.size≤rt:=by omega
 clear hrr
 have hT:=HT1.out
 obtain⟨q0,q1,q2,q3,q4,q5,q6,q7,q8,q9,q10,q11,q12,q13⟩:=dw hT
 obtain⟨z0,z1,z2,z3,z4,z5,z6,z7,z8,z9,z10,z11,z12,z13⟩:=qU hT
 have HTT:=aa hT
 clear hT
 go_wp2_with fail
 refine jK (by rfl) (by rfl) (by rfl) (by rfl) HTT.out (fun W7 hK=> ?_)
 exact gm.err rfl rfl (ke HBW.out ((hK.below (bN (blk_lt HTT.out))).mono hrt))
theorem No (sep:ai): ∀(k:Nat) (s:ai),1≤(Lib.splitK sep 0 k s).length
 |0,s=>by simp[Lib.splitK]
 |k+1,s=>by
  unfold Lib.splitK
  split<;>simp
theorem Sl.dropLast {w:World} {B n c:Nat} {A:Option Addr} {xs:List Value} (h:Sl w B (.slice A n c) xs):Sl w B (.slice A (n - 1) c) xs.dropLast:=by
 obtain⟨A',c',he,h1,h2,h3⟩:=h
 injection he with e1 e2 e3
 subst e1 e2 e3
 refine⟨A,c,by rw[List.length_dropLast],by rw[List.length_dropLast];omega,h2,fun hne=> ?_⟩
 have hx:xs≠[]:=fun e=>hne (by rw[e];rfl)
 obtain⟨b,o,hA,hb,hc⟩:=h3 hx
 refine⟨b,o,hA,hb,fun j u hj=>hc j u ?_⟩
 rw[List.getElem?_dropLast] at hj
 split at hj
 ·exact hj
 ·cases hj
theorem B7 (t:ai) (w:World) (hG:aT w) (hs:t.length≤65536):
 Calls prog 29 #[.string (bs t),.string ⟨#[10]⟩] w fun e w'=> ∃b o n c z,e= .returned (.slice (some ⟨b,o,none⟩) n c)∧Sl w' w'.heap.size (.slice (some ⟨b,o,none⟩) n c) ((Lib.split t [10]).map de)∧1≤n∧n≤65537∧n≤c∧(Lib.split t [10]).length=n∧(Lib.split t [10])[n - 1]? =some z∧w'.cell? ⟨b,o+(n - 1),none⟩=some (de z)∧Below w.heap.size w w':=by
 refine(uA (bs t) ⟨#[10]⟩ w hG (by rw[bq];omega) (by decide)).mono fun e w' ⟨v,he,hv,hvn,hb⟩=> ?_
 have hle:=Lib.countB_le ⟨#[10]⟩ (by decide) (bs t).size (bs t) (ae _)
 rw[bq] at hle
 rw[ql] at hv hvn
 have hv':Sl w' w'.heap.size v ((Lib.split t [10]).map de):=by
  unfold aL at hv
  rw[List.map_map] at hv
  exact hv
 have hvn':(Lib.split t [10]).length=Lib.countB (bs t) ⟨#[10]⟩+1:=by
  rw[List.length_map] at hvn;exact hvn
 obtain⟨A,c,rfl,h1,h2,h3⟩:=id hv'
 have hpos:=No [10] (Lib.count t [10]) t
 have hpos':1≤(Lib.split t [10]).length:=hpos
 obtain⟨b,o,rfl,hb',hc⟩:=h3 (fun e=>by
  have:=congrArg List.length e
  rw[List.length_map] at this
  simp at this
  rw[this] at hpos';simp at hpos')
 rw[List.length_map] at h1 hv' he
 obtain⟨z,hz⟩: ∃z,(Lib.split t [10])[(Lib.split t [10]).length - 1]? =some z:=⟨_,List.getElem?_eq_getElem (by omega)⟩
 exact⟨b,o,(Lib.split t [10]).length,c,z,he,hv',hpos',by omega,h1,rfl,hz,hc _ _ (by rw[List.getElem?_map,hz];rfl),hb⟩
end
end Go.Proofs.YthnkonlbfogkgaaGreatDoor
