/- A part of the proof. -/
import Derived.Test.YthnkonlbfogkgaaGreatDoorQbw
set_option linter.unusedVariables false
set_option linter.unusedSimpArgs false
set_option maxRecDepth 100000
set_option maxHeartbeats 32000000
namespace Go.Proofs.YthnkonlbfogkgaaGreatDoor
section
open Go Go.RowKit Go.MapKept Tryz
def iG (L:List ai) (i:Nat) (line:ai):Except (Nat×Nat) fX:=
 match dP (bb (L.take i)) with
  | .error x=> .error (ju (bb (L.take i)) x.1,x.2)
  | .ok ds=>match dL ds with
    | .error x=> .error (0,x.2)
    | .ok m=>match gC line with
      |none=> .error (i+1,3)
      |some c=>match dD (i+2) [] (L.drop (i+1)) with
       | .error x=> .error x
       | .ok acts=>if iT ⟨m,c.1,c.2,acts⟩ then .ok ⟨m,c.1,c.2,acts⟩ else .error (i+1,1)
section
variable {L:List ai} {i:Nat} {line:ai}
theorem Ny {x:Nat×Nat} (h:dP (bb (L.take i))= .error x):iG L i line= .error (ju (bb (L.take i)) x.1,x.2):=by unfold iG;rw[h]
theorem Nz {ds:List ar} {x:Nat×Nat} (h:dP (bb (L.take i))= .ok ds) (h2:dL ds= .error x):iG L i line= .error (0,x.2):=by unfold iG;rw[h];simp only[h2]
theorem NB {ds:List ar} {m:aC} (h:dP (bb (L.take i))= .ok ds) (h2:dL ds= .ok m):iG L i line=(match gC line with
        |none=> .error (i+1,3)
        |some c=>match dD (i+2) [] (L.drop (i+1)) with
         | .error x=> .error x
         | .ok acts=>if iT ⟨m,c.1,c.2,acts⟩ then .ok ⟨m,c.1,c.2,acts⟩ else .error (i+1,1)):=by unfold iG;rw[h];simp only[h2]
end
section
variable {k:Nat} {acc:List ap} {s:ai} {r:List ai}
theorem NC (h:s=[]∨s.head?=some 35):dD k acc (s::r)=dD (k+1) acc r:=by rw[dD,if_pos h]
theorem ND (h: ¬(s=[]∨s.head?=some 35)) (h2:el (ba (bs s))=none):dD k acc (s::r)= .error (k,3):=by rw[dD,if_neg h,h2]
theorem NE {y:ap} (h: ¬(s=[]∨s.head?=some 35)) (h2:el (ba (bs s))=some y) (h3:acc.length=1024):dD k acc (s::r)= .error (k,8):=by rw[dD,if_neg h,h2];simp only;rw[if_pos h3]
theorem NF {y:ap} (h: ¬(s=[]∨s.head?=some 35)) (h2:el (ba (bs s))=some y) (h3: ¬acc.length=1024):dD k acc (s::r)=dD (k+1) (acc++[y]) r:=by rw[dD,if_neg h,h2];simp only;rw[if_neg h3]
end
theorem NG {x:ai} (h:0<(bs x).size):(((bs x)[0].toNat:Int)==35)=decide (x.head?=some 35):=by
 cases x with
 |nil=>rw[bq] at h;simp at h
 |cons a l=>
  rw[ui (s:=bs (a::l)) (k:=0) (x:=a) (by rw[bL];rfl) h]
  rw[Bool.eq_iff_iff,beq_iff_eq,decide_eq_true_eq]
  constructor
  ·intro e
   have:a=35:=UInt8.toNat_inj.1 (by show a.toNat=35;omega)
   rw[this];rfl
  ·intro e
   injection e with e
   rw[e];rfl
theorem NH {W:World} {b:Nat} {T:TypeId} {u0 u1 u2 u3 u4 u5 u6 u7 u8 u9:Value} (hT:W.heap[b]? =some (.cells #[u0,u1,u2,u3,u4,u5,u6,u7,u8,u9] T (0,0))) (v0 v1 v2 v3 v4 v5 v6 v7 v8 v9:Value):
 ((((((((((W.setCell ⟨b,0,none⟩ v0).setCell ⟨b,1,none⟩ v1).setCell ⟨b,2,none⟩ v2).setCell ⟨b,3,none⟩ v3).setCell ⟨b,4,none⟩ v4).setCell ⟨b,5,none⟩ v5).setCell ⟨b,6,none⟩ v6).setCell ⟨b,7,none⟩ v7).setCell ⟨b,8,none⟩ v8).setCell ⟨b,9,none⟩ v9).heap[b]? =some (.cells #[v0,v1,v2,v3,v4,v5,v6,v7,v8,v9] T (0,0)):=
 (ay (ay (ay (ay (ay (ay (ay (ay (ay (ay hT 0 v0) 1 v1) 2 v2) 3 v3) 4 v4) 5 v5) 6 v6) 7 v7) 8 v8) 9 v9).trans (by kernel_rfl)
theorem Cm {w:World} (ob:Obj) (v0 v1 v2 v3 v4 v5 v6 v7 v8 v9:Value):
 Below w.heap.size w (((((((((((w.alloc ob).setCell ⟨w.heap.size,0,none⟩ v0).setCell ⟨w.heap.size,1,none⟩ v1).setCell ⟨w.heap.size,2,none⟩ v2).setCell ⟨w.heap.size,3,none⟩ v3).setCell ⟨w.heap.size,4,none⟩ v4).setCell ⟨w.heap.size,5,none⟩ v5).setCell ⟨w.heap.size,6,none⟩ v6).setCell ⟨w.heap.size,7,none⟩ v7).setCell ⟨w.heap.size,8,none⟩ v8).setCell ⟨w.heap.size,9,none⟩ v9):=
 aR (aR (aR (aR (aR (aR (aR (aR (aR (aR (ac (B0 w) ob) (ae _) v0) (ae _) v1) (ae _) v2) (ae _) v3) (ae _) v4) (ae _) v5) (ae _) v6) (ae _) v7) (ae _) v8) (ae _) v9
theorem mu {w:World} {base:Nat} {e:TypeId} {size n:Nat} {v:Value} {xs:List Value} (h:w.ownsRow base e size v n xs): ∃A k c,v= .slice A k c∧k=n:=by
 rcases h.2 with ⟨rfl,h0⟩|⟨g,cap,cur,rfl,_⟩
 ·exact⟨_,_,_,rfl,h0.symm⟩
 ·exact⟨_,_,_,rfl,rfl⟩
theorem NI:(Tryz.prog.info? 45).map (fun i=>(i.zero,i.size,i.bytes))=some (some (.agg #[.int .i64 0,.int .i64 0,.int .i64 0,.int .i64 0,.int .i64 0,.string ⟨#[]⟩,.int .i64 0,.int .i64 0,.slice none 0 0,.slice none 0 0]),10,120):=by kernel_rfl
theorem NK (t:ai) (w:World) (hG:bY w) (hs:t.length≤65536) (K:Nat) (line:ai) (hi0:eW (aX t)=K) (hl0:(aX t)[K]? =some line) (hc0:cN line=true):
 Calls prog 12 #[.string (bs t)] w (gm w (iG (aX t) K line)):=by
 have hsz:((bs t).size:Int)≤65536:=by rw[bq];omega
 have hG8:=hG.g.size
 have HG:=aa hG;have HI:=aa hi0;have HLi:=aa hl0;have hcl1:=aa hc0
 clear hG hi0 hl0 hc0
 obtain⟨res,hres⟩: ∃q,iG (aX t) K line=q:=⟨_,rfl⟩
 rw[hres]
 have HRes:=aa hres
 clear hres
 go_enter func12,ntmps12
 go_upto_region 1 with (fail)
 refine uM ?_
 intro W1 ⟨hBW,hT1⟩
 have HBW:=aa hBW;have HT1:=aa hT1
 clear hBW hT1
 go_upto_region 4 with
  (go_at_call 29
   refine(B7 t _ (HG.out.g.step HBW.out) hs).mono ?_
   rintro e w2 ⟨b,o,n,c,z,rfl,hv,hn1,hn2,hnc,hln,hlz,hcz,hb2⟩
   have HB2:=aa (ag HBW.out hb2);have HT2:=aa (ah HT1.out hb2);have HV2:=aa hv;have HLn:=aa hln;have HLz:=aa hlz
   clear hv hln hlz hb2)
 refine B8 fun i1 i2 i3 i4=> ?_
 have hlast:(Lib.split t [10]).getLast?=some z:=by
  rw[List.getLast?_eq_getElem?,HLn.out];exact HLz.out
 have HLast:=aa hlast
 clear hlast
 have hcz':w2.cell? ⟨b,o+(n - 1),none⟩=some (.string (bs z)):=hcz
 clear hcz
 obtain⟨bz,hbz⟩: ∃q,((bs z).toList==([]:List UInt8))=q:=⟨_,rfl⟩
 go_upto_if 32 with fail
 go_cut [5] (fun v wx=> ∃N,v= .slice (some ⟨b,o,none⟩) N c∧N≤n∧Sl w2 w2.heap.size (.slice (some ⟨b,o,none⟩) N c) ((aX t).map de)∧w2=wx)
 case first=>
  cases bz with
  |true=>
   have hz:z=[]:=by rw[beq_iff_eq,cD,bL] at hbz;exact hbz
   have hll:aX t=(Lib.split t [10]).dropLast:=by
    unfold aX
    simp only[HLast.out,hz,if_true]
   have HLs:Hid (Sl w2 w2.heap.size (.slice (some ⟨b,o,none⟩) (n - 1) c) ((aX t).map de)):=by
    refine aa ?_
    rw[hll,List.map_dropLast]
    exact HV2.out.dropLast
   have i5:(n:Int) - 1≤(c:Int):=by omega
   have i6:n - 1≤c:=by omega
   clear hll hz hbz
   go_wp2_with fail
   go_meet
   exact⟨n - 1,rfl,by omega,HLs.out,rfl⟩
  |false=>
   have hz: ¬z=[]:=by rw[beq_eq_false_iff_ne,cD,bL] at hbz;exact hbz
   have hll:aX t=Lib.split t [10]:=by
    unfold aX
    simp only[HLast.out,Option.some.injEq,hz,if_false]
   have HLs:Hid (Sl w2 w2.heap.size (.slice (some ⟨b,o,none⟩) n c) ((aX t).map de)):=by
    refine aa ?_
    rw[hll]
    exact HV2.out
   clear hll hz hbz
   go_wp2_with fail
   go_meet
   exact⟨n,rfl,by omega,HLs.out,rfl⟩
 case rest=>
 obtain⟨N,rfl,hNn,hLs,rfl⟩:=hcut
 obtain⟨L,hL⟩: ∃q,aX t=q:=⟨_,rfl⟩
 have hLb:=(mZ _ t (ae _)).2
 rw[hL] at hLs hLb HI HLi HRes
 have HLb:=aa (show(bb L).length≤65537 by omega)
 have HLs:=aa hLs
 have hN:L.length=N:=by
  obtain⟨A',c',he,_⟩:=hLs
  injection he with _ he _
  rw[List.length_map] at he
  exact he.symm
 have HNl:=aa hN
 have hKN:K<N:=by rw[←hN];exact(List.getElem?_eq_some_iff.1 HLi.out).1
 have HLc:Hid (∀W,Below w2.heap.size w2 W→∀(j:Nat) x,L[j]? =some x→W.cell? ⟨b,o+j,none⟩=some (.string (bs x))):=aa (by
  obtain⟨A',c',he,_,_,h3⟩:=hLs
  obtain⟨b',o',hA,hb,hc'⟩:=h3 (fun e=>by have:=congrArg List.length e;simp at this;rw[this] at hN;simp at hN;omega)
  injection he with he1 he2 he3
  rw[←he1] at hA
  injection hA with hA
  injection hA with h1 h2 _
  subst h1 h2
  intro W hW j x hx
  exact(hW.cell (p:=⟨b,o+j,none⟩) hb).trans (hc' j _ (by rw[List.getElem?_map,hx];rfl)))
 have hw2:w.heap.size≤w2.heap.size:=HB2.out.size
 have hlsz:line.length≤70000:=by have:=qr (co HLi.out);omega
 have hK0:(0:Int)≤(K:Int):=by omega
 have hK1: ¬(K:Int)<0:=by omega
 have hKc:(K:Int)≤c:=by omega
 have hKN':(K:Int)<N:=by omega
 have hKc':K≤c:=by omega
 clear hL hLs hLb hN hcz'
 go_wp2_with
  (go_at_call 30
   refine(uK _ L _ HLs.out).mono ?_
   rintro e w3 ⟨rfl,hb3⟩
   have HB3:=aa hb3;have HT3:=aa (ah HT2.out hb3)
   clear hb3
   rw[HI.out])
 generalize hrr:w.heap.size=rt at HT3⊢
 have hrt:rt≤w.heap.size:=by omega
 have hrw:w.heap.size≤rt:=by omega
 clear hrr
 go_loopw [7,9,50] (fun src _ i wr=> ∃j:Nat,j≤K∧i= .int .i64 j∧src= .string (bs (bb (L.take j)))∧wr=w3) (fun _ _ i _=>K - (intOf i).toNat)
 case atStart=>exact⟨0,aY _,rfl,rfl,rfl⟩
 case round=>
  obtain⟨j,hj,rfl,rfl,hw⟩:=hrel
  obtain rfl:=hw.symm
  by_cases hlt:j<K
  ·have hI1:(0:Int)≤j:=by omega
   have hI2:(j:Int)<K:=by omega
   obtain⟨x,hx⟩: ∃x,L[j]? =some x:=⟨_,List.getElem?_eq_getElem (by rw[HNl.out];omega)⟩
   have hcx:w3.cell? ⟨b,o+j,none⟩=some (.string (bs x)):=HLc.out w3 HB3.out j x hx
   have HSn:=aa (show bs (bb (L.take j))++(bs x++⟨#[10]⟩)=bs (bb (L.take (j+1))) by rw[Ck L hx,←fP,←fP];rfl)
   have hs1:(bs x).size≤70000:=by have:=qr (co hx);have:=HLb.out;rw[bq];omega
   have hs2:(bs (bb (L.take j))).size≤70000:=by have:=uO L j;have:=HLb.out;rw[bq];omega
   have hs3:(bs x++⟨#[10]⟩:ByteArray).size≤70001:=by rw[ByteArray.size_append];have:(⟨#[10]⟩:ByteArray).size=1:=rfl;omega
   clear hx
   go_wp2_with fail
   exact⟨⟨j+1,by omega,by go_num,by rw[←HSn.out],by trivial⟩,by simp[intOf];omega⟩
  ·have hI2: ¬(j:Int)<K:=by omega
   obtain rfl:K=j:=by omega
   obtain⟨S,hS⟩: ∃q,bb (L.take K)=q:=⟨_,rfl⟩
   have hSz:(bs S).size≤1000000:=by have:=uO L K;have:=HLb.out;rw[bq,←hS];omega
   rw[hS]
   have HS:=aa hS.symm
   have hpc:=Cf (bs S) w3 (HG.out.below (HB2.out.trans (HB3.out.mono hw2)) hG8)
   clear hS hlt
   rw[bL] at hpc
   cases hp:dP S with
   |error x=>
    obtain⟨x1,x2⟩:=x
    have HR:=aa (show iG L K line= .error (ju S x1,x2) by rw[HS.out];exact Ny (HS.out▸hp))
    have hx2: ¬x2=0:=Cg hp
    have e1:(((x2:Nat):Int)==0)=false:=by simp;omega
    have e2:(((x2:Nat):Int)!=0)=true:=by simp;omega
    rw[hp] at hpc
    have HPc:=aa hpc
    clear hx2 hp hpc
    go_wp2_with(first
     |(go_at_call 16
       refine HPc.out.mono ?_
       rintro e w4 ⟨hb4,rfl⟩
       have HB4:=aa (ag HB3.out hb4);have HT4:=aa (ah HT3.out hb4)
       obtain⟨⟨q0,q1,q2,q3,q4,q5,q6,q7,q8,q9,q10,q11,q12,q13⟩,z0,z1,z2,z3,z4,z5,z6,z7,z8,z9,z10,z11,z12,z13⟩:=jk HT4.out
       clear hb4)
     |(go_at_call 17
       refine(yY (bs S) x1 _ hSz).mono ?_
       rintro e w5 ⟨c5,rfl,hw⟩
       obtain rfl:=hw
       rw[bL]))
    refine jK (by rfl) (by rfl) (by rfl) (by rfl) HT4.out (fun W7 hk=> ?_)
    exact gm.err (by rw[←HRes.out,HR.out]) rfl (ke ((HB2.out).trans (HB4.out.mono hw2)) ((hk.below (bN (blk_lt HT4.out))).mono hrw))
   |ok ds=>
    have hdl:ds.length≤100000:=by have:=Ch hp;omega
    rw[hp] at hpc
    have HPc:=aa hpc
    clear hpc
    cases hm:dL ds with
    |error x=>
     obtain⟨x1,x2⟩:=x
     have HR:=aa (Nz (L:=L) (i:=K) (line:=line) (HS.out▸hp) hm)
     have hx2: ¬x2=0:=Cj hm
     have e1:(((x2:Nat):Int)==0)=false:=by simp;omega
     have e2:(((x2:Nat):Int)!=0)=true:=by simp;omega
     have hm0:=aa hm
     clear hx2 hm hp
     go_upto_region 21 with (first
      |(go_at_call 16
        refine HPc.out.mono ?_
        rintro e w4 ⟨hb4,v,rfl,hv4⟩
        have HB4:=aa (ag HB3.out hb4);have HT4:=aa (ah HT3.out hb4)
        obtain⟨dA,dn,dc,rfl,_,_,_⟩:=hv4.form
        refine Co fun HV4 HMc=> ?_
        rw[hm0.out] at HMc
        clear hv4
        clear hb4)
      |(go_at_call 18
        refine(HMc.out _ (ac (B0 w4) _)).mono ?_
        rintro e w5 ⟨hb5,rfl⟩
        have HB5:=aa (ag HB4.out (ag (ac (B0 w4) _) hb5));have HT5:=aa (ah HT4.out (ag (ac (B0 w4) _) hb5));have hsb:=ah (aN w4 _) hb5
        have hz45:w4.heap.size<w5.heap.size:=blk_lt hsb
        obtain⟨⟨q0,q1,q2,q3,q4,q5,q6,q7,q8,q9,q10,q11,q12,q13⟩,z0,z1,z2,z3,z4,z5,z6,z7,z8,z9,z10,z11,z12,z13⟩:=jk hsb
        skip
        have HS5:=aa hsb
        simp only[jH]
        clear hb5 hsb))
     refine bt (fun W'=>KP w5.heap.size w4.heap.size w5 W') (uL _ _ _ _ _ _ _ _ _ _ _ _) ?_
     intro W6 hk6
     have HT6:=aa (hk6.blk HT5.out (blk_lt HT5.out) (by have:=blk_lt HT4.out;omega))
     have HB6:=aa (HB5.out.trans ((hk6.below (by omega)).mono HB4.out.size))
     clear hk6 q0 q1 q2 q3 q4 q5 q6 q7 q8 q9 q10 q11 q12 q13 z0 z1 z2 z3 z4 z5 z6 z7 z8 z9 z10 z11 z12 z13
     obtain⟨⟨q0,q1,q2,q3,q4,q5,q6,q7,q8,q9,q10,q11,q12,q13⟩,z0,z1,z2,z3,z4,z5,z6,z7,z8,z9,z10,z11,z12,z13⟩:=jk HT6.out
     go_wp2_with fail
     refine jK (by rfl) (by rfl) (by rfl) (by rfl) HT6.out (fun W7 hk=> ?_)
     exact gm.err (by rw[←HRes.out,HR.out]) rfl (ke ((HB2.out).trans (HB6.out.mono hw2)) ((hk.below (bN (blk_lt HT6.out))).mono hrw))
    |ok m=>
     have hm0:=aa hm
     go_upto_region 21 with (first
      |(go_at_call 16
        refine HPc.out.mono ?_
        rintro e w4 ⟨hb4,v,rfl,hv4⟩
        have HB4:=aa (ag HB3.out hb4);have HT4:=aa (ah HT3.out hb4)
        obtain⟨dA,dn,dc,rfl,_,_,_⟩:=hv4.form
        refine Co fun HV4 HMc=> ?_
        rw[hm0.out] at HMc
        clear hv4
        clear hb4)
      |(go_at_call 18
        refine(HMc.out _ (ac (B0 w4) _)).mono ?_
        rintro e w5 ⟨hb5,v,rfl,hv5,Bm,Mm,hBm,hO5⟩
        have HB5:=aa (ag HB4.out (ag (ac (B0 w4) _) hb5));have HT5:=aa (ah HT4.out (ag (ac (B0 w4) _) hb5));have hsb:=ah (aN w4 _) hb5
        have hz45:w4.heap.size<w5.heap.size:=blk_lt hsb
        have hBm':w4.heap.size<Bm:=by have h:=hBm;simp at h;omega
        obtain⟨⟨Sa,sc,hs',hs1,hs2⟩,⟨Fa,fc,hf',hf1,hf2⟩,⟨Ra,rc,hr',hr1,hr2⟩,⟨Ma,mc,hm',hm1,hm2⟩,⟨La,lc,hl',hl1,hl2⟩,⟨Ia,ic,hi',hi1,hi2⟩,⟨Ua,uc,hu',hu1,hu2⟩⟩:=hv5.cells
        have HM:=aa (show m.cells v= #[.slice Sa m.sites.length sc,.slice Fa m.feeds.length fc,.slice Ra m.racks.length rc,.slice Ma m.machs.length mc,.slice La m.links.length lc,.slice Ia m.items.length ic,.int .i64 m.dark,.int .i64 m.slots,.int .i64 m.reserve,.int .i64 m.failures,.slice Ua m.rules.length uc] from by rw[aC.cells_def,hs',hf',hr',hm',hl',hi',hu'])
        rw[HM.out]
        have HO5:=aa hO5
        obtain⟨⟨q0,q1,q2,q3,q4,q5,q6,q7,q8,q9,q10,q11,q12,q13⟩,z0,z1,z2,z3,z4,z5,z6,z7,z8,z9,z10,z11,z12,z13⟩:=jk hsb
        skip
        have HS5:=aa hsb
        clear hb5 hsb hv5 hO5 hs' hf' hr' hm' hl' hi' hu' hBm))
     refine bt (fun W'=>W'.heap[w4.heap.size]? =some (.cells #[.slice Sa m.sites.length sc,.slice Fa m.feeds.length fc,.slice Ra m.racks.length rc,.slice Ma m.machs.length mc,.slice La m.links.length lc,.slice Ia m.items.length ic,.int .i64 m.dark,.int .i64 m.slots,.int .i64 m.reserve,.int .i64 m.failures,.slice Ua m.rules.length uc,.slice none 0 0,.int .i64 0,.slice none 0 0] 33 (0,0))∧KP w5.heap.size w4.heap.size w5 W') ⟨B6 HS5.out _ _ _ _ _ _ _ _ _ _ _,uL _ _ _ _ _ _ _ _ _ _ _ _⟩ ?_
     intro W6 ⟨hs6,hk6⟩
     have HT6:=aa (hk6.blk HT5.out (blk_lt HT5.out) (by have:=blk_lt HT4.out;omega))
     have HB6:=aa (HB5.out.trans ((hk6.below (by omega)).mono HB4.out.size))
     have HO6:=aa (HO5.out.gp (GP.of_kp hk6) hBm')
     have HS6:=aa hs6
     have hz6:=hk6.size
     have hcl:W6.cell? ⟨b,o+K,none⟩=some (.string (bs line)):=HLc.out W6 HB6.out K line HLi.out
     obtain⟨sb,hsb⟩: ∃q,w4.heap.size=q:=⟨_,rfl⟩
     have hsb8:8≤sb:=by have:=HB4.out.size;omega
     have hrs:rt<sb:=by rw[←hsb];exact blk_lt HT4.out
     have hws:w2.heap.size≤sb:=by rw[←hsb];exact HB4.out.size
     rw[hsb] at HS6 hBm'⊢
     clear hs6 hk6 hsb q0 q1 q2 q3 q4 q5 q6 q7 q8 q9 q10 q11 q12 q13 z0 z1 z2 z3 z4 z5 z6 z7 z8 z9 z10 z11 z12 z13
     have HRc:=aa (MM line sb 33 #[.slice Sa m.sites.length sc,.slice Fa m.feeds.length fc,.slice Ra m.racks.length rc,.slice Ma m.machs.length mc,.slice La m.links.length lc,.slice Ia m.items.length ic,.int .i64 m.dark,.int .i64 m.slots,.int .i64 m.reserve,.int .i64 m.failures,.slice Ua m.rules.length uc,.slice none 0 0,.int .i64 0,.slice none 0 0] W6 ((HG.out.below ((HB2.out).trans (HB6.out.mono hw2)) hG8).g) hcl1.out (by have:=hlsz;omega) hsb8 HS6.out rfl)
     have HRp:=aa (HRes.out.symm.trans (NB (L:=L) (i:=K) (line:=line) (HS.out▸hp) hm))
     clear hm hp
     cases hrc:gC line with
     |none=>
      rw[hrc] at HRp
      unfold qm at HRc
      rw[hrc] at HRc
      clear hrc
      go_wp2_with
       (go_at_call 33
        refine HRc.out.mono ?_
        rintro e w8 ⟨hg8,rfl⟩
        refine Cp fun HT8 HB8=> ?_
        obtain⟨⟨q0,q1,q2,q3,q4,q5,q6,q7,q8,q9,q10,q11,q12,q13⟩,z0,z1,z2,z3,z4,z5,z6,z7,z8,z9,z10,z11,z12,z13⟩:=jk HT8.out
        clear hg8)
      refine jK (by rfl) (by rfl) (by rfl) (by rfl) HT8.out (fun W7 hk=> ?_)
      rw[show(K:Int)+1=((K+1:Nat):Int) by omega]
      exact gm.err (HRp.out) rfl (ke ((HB2.out).trans (HB8.out.mono hw2)) ((hk.below (bN (blk_lt HT8.out))).mono hrw))
     |some cc=>
      obtain⟨cl,cn⟩:=cc
      rw[hrc] at HRp
      unfold qm at HRc
      rw[hrc] at HRc
      have hcl5:cl.length≤100000:=by have:=Nw hrc;simp only at this;omega
      clear hrc
      go_upto_region 25 with
       (go_at_call 33
        refine HRc.out.mono ?_
        rintro e w8 ⟨hg8,rfl,bl,nn,c8,hs8,hc8,hbl⟩
        refine Cp fun HT8 HB8=> ?_
        have HO8:=aa (HO6.out.gp (rb:=sb) ⟨hg8.os,hg8.tape,hg8.output,hg8.size,fun i hi h1 _=>hg8.block i hi (by simp;omega)⟩ hBm')
        have HS8:=aa (hs8.trans (by kernel_rfl:_=some (.cells #[.slice Sa m.sites.length sc,.slice Fa m.feeds.length fc,.slice Ra m.racks.length rc,.slice Ma m.machs.length mc,.slice La m.links.length lc,.slice Ia m.items.length ic,.int .i64 m.dark,.int .i64 m.slots,.int .i64 m.reserve,.int .i64 m.failures,.slice Ua m.rules.length uc,.slice (some ⟨bl,0,none⟩) nn c8,.int .i64 cn,.slice none 0 0] 33 (0,0))))
        have HC8:=aa hc8
        have hbl':sb<bl:=by have:=blk_lt HS6.out;omega
        have hsbz:sb<w8.heap.size:=by have:=blk_lt HS6.out;have:=hg8.size;omega
        have hz8:=hg8.size
        clear hg8 hs8 hc8 hbl)
      obtain⟨D,hD⟩: ∃q,L.drop (K+1)=q:=⟨_,rfl⟩
      obtain⟨R,hR⟩: ∃q,N - (K+1)=q:=⟨_,rfl⟩
      rw[hD] at HRp
      have HD:=aa hD
      have HDl:=aa (show D.length=R by rw[←hD,List.length_drop,HNl.out,hR])
      have k1:IntKind.i64.wrap ((K:Int)+1)=(K:Int)+1:=IntWalk.i64_in _ (by omega)
      have k2:((K:Int)+1).toNat=K+1:=by omega
      have k3:(0:Int)≤(K:Int)+1:=by omega
      have k4:(K:Int)+1≤N:=by omega
      have k5:K+1≤N:=by omega
      have k6:(K:Int)+1≤c:=by omega
      have k7:K+1≤c:=by omega
      clear hD hcl
      go_cut [99,100,101] (fun v n i wx=>(∃A cp,v= .slice A R cp∧(0<R→A=some ⟨b,o+(K+1),none⟩))∧n= .int .i64 R∧i= .int .i64 0∧w8=wx)
      case first=>
       have HRr:=aa hR
       clear hR
       by_cases hcc:K+1=c
       ·have HR0:=aa (show R=0 by rw[←HRr.out];omega)
        obtain rfl:c=K+1:=hcc.symm
        clear hcc
        go_wp2_with fail
        go_meet
        exact⟨⟨_,_,by rw[HRr.out],fun h=>by rw[HR0.out] at h;omega⟩,by rw[HRr.out],rfl,rfl⟩
       ·have hcc': ¬c - (K+1)=0:=by omega
        have hcc2: ¬c≤K+1:=by omega
        have hcc3: ¬c=K+1:=by omega
        go_wp2_with fail
        go_meet
        exact⟨⟨_,_,by rw[HRr.out],fun _=>rfl⟩,by rw[HRr.out],rfl,rfl⟩
      case rest=>
      obtain⟨⟨A,cp,rfl,hA⟩,rfl,rfl,rfl⟩:=hcut
      obtain⟨i0,hi,hz0,hz1,hz2⟩:=info_parts NI
      have hRc:R≤70000:=by omega
      clear hR
      go_wp2_with fail
      go_loopw [16,17,18,19,101] (fun _ _ _ _ i wr=> ∃(j:Nat) (acc:List ap) (rows:List (List Value)) (av:Value),j≤R∧i= .int .i64 j∧dD (K+2) [] D=dD (K+2+j) acc (D.drop j)∧acc.length≤1024∧KP w8.heap.size sb w8 wr∧wr.heap[sb]? =some (.cells #[.slice Sa m.sites.length sc,.slice Fa m.feeds.length fc,.slice Ra m.racks.length rc,.slice Ma m.machs.length mc,.slice La m.links.length lc,.slice Ia m.items.length ic,.int .i64 m.dark,.int .i64 m.slots,.int .i64 m.reserve,.int .i64 m.failures,.slice Ua m.rules.length uc,.slice (some ⟨bl,0,none⟩) nn c8,.int .i64 cn,av] 33 (0,0))∧ij wr w8.heap.size av rows acc∧wr.ownsRow w8.heap.size 45 10 av acc.length rows.flatten) (fun _ _ _ _ i _=>R - (intOf i).toNat)
      case atStart=>exact⟨0,[],[],.slice none 0 0,aY _,rfl,rfl,aY _,KP.refl _ _ _,HS8.out,⟨rfl,fun j x hx=>by simp at hx⟩,⟨rfl,.inl ⟨rfl,rfl⟩⟩⟩
      case round=>
       obtain⟨j,acc,rows,av,hj,rfl,hgo,hacc,hkp,hsr,hro,how⟩:=hrel
       have HBr:Hid (Below w2.heap.size w2 wr):=aa (HB8.out.trans ((hkp.below (by omega)).mono (by omega)))
       have HTr:=aa (hkp.blk HT8.out (blk_lt HT8.out) (by omega))
       have HGo:=aa hgo;have HKp:=aa hkp;have HSr:=aa hsr;have HRo:=aa hro;have HOw:=aa how
       have hzr:=hkp.size
       have hzsb:=blk_lt hsr
       clear hgo hkp hsr hro how
       by_cases hlt:j<R
       ·have hI1:(0:Int)≤j:=by omega
        have hI2:(j:Int)<R:=by omega
        obtain⟨x,hx⟩: ∃x,D[j]? =some x:=⟨_,List.getElem?_eq_getElem (by rw[HDl.out];exact hlt)⟩
        have HDr:=aa (kN hx)
        have hxL:L[K+1+j]? =some x:=by have h:=hx;rw[←HD.out,List.getElem?_drop] at h;exact h
        obtain rfl:=hA (by omega)
        have hcx:wr.cell? ⟨b,o+(K+1)+j,none⟩=some (.string (bs x)):=by rw[Nat.add_assoc];exact HLc.out wr HBr.out _ x hxL
        have hxs:(bs x).size≤70000:=by
         have:=qr (co hxL)
         have:=HLb.out
         rw[bq];omega
        clear hx hxL
        by_cases hx0:x=[]
        ·have HX:=aa (Or.inl hx0:x=[]∨x.head?=some 35)
         have e0:((bs x).toList==([]:List UInt8))=true:=by rw[beq_iff_eq,cD,bL];exact hx0
         clear hx0
         exact Cq
        ·have e0:((bs x).toList==([]:List UInt8))=false:=by
          rw[beq_eq_false_iff_ne,cD];exact hx0
         have hp0:0<(bs x).size:=by rw[bq];exact List.length_pos_iff.2 hx0
         have hpi:(0:Int)<((bs x).size:Int):=by omega
         have h35:(((bs x)[0].toNat:Int)==35)=decide (x.head?=some 35):=NG hp0
         by_cases hx1:x.head?=some 35
         ·have HX:=aa (Or.inr hx1:x=[]∨x.head?=some 35)
          have e1:(((bs x)[0].toNat:Int)==35)=true:=by rw[h35];simp[hx1]
          clear hx0 hx1 h35
          exact Cq
         ·have HX:=aa (fun h=>(h.elim hx0 hx1): ¬(x=[]∨x.head?=some 35))
          have e1:(((bs x)[0].toNat:Int)==35)=false:=by rw[h35];simp[hx1]
          clear hx0 hx1 h35
          have hw1:IntKind.i64.wrap ((K:Int)+(j:Int))=(K:Int)+j:=IntWalk.i64_in _ (by omega)
          have hw2':IntKind.i64.wrap ((K:Int)+(j:Int)+2)=(K:Int)+j+2:=IntWalk.i64_in _ (by omega)
          have hG8':=HG.out.below ((HB2.out).trans (HBr.out.mono hw2)) hG8
          cases hpa:el (ba (bs x)) with
          |none=>
           have HPn:=aa (Bk hpa (by omega) wr hG8'.g)
           have HE:=aa (show dD (K+2) [] D= .error (K+2+j,3) from HGo.out.trans (by rw[HDr.out];exact ND HX.out hpa))
           clear hpa hG8'
           go_upto_region 30 with
            (go_at_call 13
             refine HPn.out.mono ?_
             rintro e w9 ⟨rfl,hb9⟩
             have HB9:=aa hb9
             clear hb9)
           refine bt (fun W'=>Below w9.heap.size w9 W') (by first|exact ac (B0 w9) _|exact Cm _ _) ?_
           intro W10 hb10
           have HT10:=aa (ah HTr.out (ag HB9.out hb10))
           have HB10:=aa (HBr.out.trans ((ag HB9.out hb10).mono HBr.out.size))
           clear hb10
           exact Cr
          |some y=>
           have HPn:=aa (Bj hpa (by omega) wr hG8'.g)
           have hyl:=Nx hpa (by omega)
           have HAc:=aa (fun(h: ¬acc.length=1024)=>(show dD (K+2) [] D=dD (K+2+(j+1)) (acc++[y]) (D.drop (j+1)) from HGo.out.trans (by rw[HDr.out];exact NF HX.out hpa h)))
           have HAf:=aa (fun(h:acc.length=1024)=>(show dD (K+2) [] D= .error (K+2+j,8) from HGo.out.trans (by rw[HDr.out];exact NE HX.out hpa h)))
           simp only[ap.cells_def] at HPn
           clear hpa hG8'
           go_upto_region 30 with
            (go_at_call 13
             refine HPn.out.mono ?_
             rintro e w9 ⟨Am,nm,cm,At,nt,ct,rfl,hy9,hb9,hfm,hft⟩
             have HB9:=aa hb9;have HY9:=aa hy9;have HFm:=aa hfm;have HFt:=aa hft
             clear hb9 hy9 hfm hft)
           refine bt (fun W'=>Below w9.heap.size w9 W'∧W'.heap[w9.heap.size]? =some (.cells #[.int .i64 y.kind,.int .i64 y.a,.int .i64 y.b,.int .i64 y.c,.int .i64 y.ok,.string y.key,.int .i64 y.val,.int .i64 y.old,.slice Am nm cm,.slice At nt ct] 45 (0,0))) ⟨by first|exact ac (B0 w9) _|exact Cm _ _,by first|exact aN w9 _|exact(NH (aN w9 _) _ _ _ _ _ _ _ _ _ _)⟩ ?_
           intro W10 ⟨hb10,hab⟩
           have hbr:=ag HB9.out hb10
           have HT10:=aa (ah HTr.out hbr)
           have HB10:=aa (HBr.out.trans (hbr.mono HBr.out.size))
           have hs10:=ah HSr.out hbr
           have HS10:=aa hs10
           have s13:W10.cell? ⟨sb,13,none⟩=some av:=af hs10 rfl
           have HR10:=aa (HRo.out.kp (KP.of_below (pb:=sb) hbr (ae _) hbr.size) (by omega))
           have HO10:=aa (cB HOw.out hbr)
           have HK10:=aa (HKp.out.trans (KP.of_below hbr hzr hbr.size))
           have HY10:=aa ((HY9.out.below hb10 (ae _)).more hb10.size)
           have hz9:=HB9.out.size
           have hz10:=hb10.size
           obtain⟨ab,hab'⟩: ∃q,w9.heap.size=q:=⟨_,rfl⟩
           rw[hab'] at hab⊢
           obtain⟨aA,an,acp,hav,han⟩:=mu HOw.out
           obtain⟨ab0,ab1,ab2,ab3,ab4,ab5,ab6,ab7,ab8,ab9⟩:=D0 hab
           clear hb10 hbr hs10
           by_cases hfull:acc.length=1024
           ·have HE:=aa (HAf.out hfull)
            have e1024:((acc.length:Int)==1024)=true:=by simp[hfull]
            rw[hav,han] at s13
            clear hfull
            exact Cr
           ·have HE:=aa (HAc.out hfull)
            have e1024:((acc.length:Int)==1024)=false:=by simp;omega
            have hacc':acc.length<1024:=by omega
            rw[hav,han] at s13
            clear hfull
            have HNo:=aa (fun k (h:av.ownBlock=some k)=>World.ownsRow.lt HO10.out k h)
            go_wp2_with first
             |(at_builtin;refine wpList_append_own_at _ rfl (.tmp 135) (.tmp 137) _ rfl w8.heap.size 45 i0 _ 10 120 underlying31 hi hz0 hz1 hz2 rfl (by decide) av acc.length rows.flatten (by rw[hav,han];rfl) (HO10.out.alloc _) ⟨W10.heap.size,0,none⟩ 1 1 (y.cells (.slice Am nm cm) (.slice At nt ct)).toList rfl rfl (eE rfl) (by simp[Value.oneCell',ap.cells_def]) (by simp[maxLen];omega) (by omega) (by simp;omega) ?_
               intro av' w11 how11 hgr11 _ hob
               obtain⟨aB,bn,bcp,rfl,rfl⟩:=mu how11
               have hne:av.ownBlock≠some sb:=fun e=>by have:=(HNo.out sb e).1;omega
               have hs11:=eD (ah HS10.out (ac (B0 W10) _)) hgr11 (fun k hk e=>hne (by rw[hk,e]))
               have HS11:=aa hs11
               have s13':w11.cell? ⟨sb,13,none⟩=some (.slice aA acc.length acp):=by rw[←han,←hav];exact af hs11 rfl
               have f13:w11.frozen? ⟨sb,13,none⟩=false:=aW hs11 13
               have HO11:=aa how11
               have HK11:=aa ((HK10.out.alloc (ae _) _).grown (HO10.out.alloc _) hgr11 (ae _))
               have HR11:=aa (((HR10.out.kp (KP.of_below (pb:=sb) (ac (B0 W10) _) (ae _) (by simp)) (by omega)).snoc ⟨(HY10.out.below (ac (B0 W10) _) (ae _)).more (by simp),HFm.out.less (by omega),HFt.out.less (by omega),fun _ a n c e=>(fun e'=>by have h1:=HFm.out a n c e;have h2:=(World.ownsRow.lt HOw.out _ e').2;omega),fun _ a n c e=>(fun e'=>by have h1:=HFt.out a n c e;have h2:=(World.ownsRow.lt HOw.out _ e').2;omega),hyl.1,hyl.2⟩).grown hgr11 hob)
               clear how11 hgr11 hob hs11)
            refine⟨⟨j+1,acc++[y],rows++[(y.cells (.slice Am nm cm) (.slice At nt ct)).toList],.slice aB (acc.length+1) bcp,by omega,by go_num,HE.out,by simp;omega,HK11.out.set (.inl rfl) _,(ay HS11.out 13 (.slice aB (acc.length+1) bcp)).trans (by kernel_rfl),HR11.out.kp ((KP.refl _ _ _).set (.inl rfl) _) (by omega),?_⟩,by simp[intOf];omega⟩
            have ho:=dM HO11.out (p:=sb) (fun k hk e=>by have:=(World.ownsRow.lt HO11.out k hk).1;omega) 13 (.slice aB (acc.length+1) bcp)
            show World.ownsRow _ _ _ _ _ (acc++[y]).length (rows++[_]).flatten
            rw[List.length_append,List.flatten_append,List.flatten_singleton]
            exact ho
       ·have hI2: ¬(j:Int)<R:=by omega
        obtain rfl:R=j:=by omega
        have HE:=aa (show dD (K+2) [] D= .ok acc from HGo.out.trans (by rw[List.drop_eq_nil_of_le (by rw[HDl.out];omega)];rfl))
        have hsr:=HSr.out
        obtain⟨g0,g1,g2,g3,g4,g5,g6,g7,g8,g9,g10,g11,g12,g13⟩:=dw hsr
        have HVa:=aa (MQ ⟨m,cl,cn,acc⟩ v (.slice (some ⟨bl,0,none⟩) nn c8) av wr (HG.out.below ((HB2.out).trans (HBr.out.mono hw2)) hG8) (HO8.out.gp (GP.of_kp HKp.out) hBm').in_ (aq.at_blk HC8.out hzr (fun _ a n c e hlt=>HKp.out.block _ hlt (by injection e with e;injection e with e;subst e;simp;omega))) (HRo.out.sl HOw.out) hcl5)
        rw[HM.out] at HVa
        have HSm:=aa (show(#[.slice Sa m.sites.length sc,.slice Fa m.feeds.length fc,.slice Ra m.racks.length rc,.slice Ma m.machs.length mc,.slice La m.links.length lc,.slice Ia m.items.length ic,.int .i64 m.dark,.int .i64 m.slots,.int .i64 m.reserve,.int .i64 m.failures,.slice Ua m.rules.length uc]:Array Value)++ #[.slice (some ⟨bl,0,none⟩) nn c8,.int .i64 cn,av]= #[.slice Sa m.sites.length sc,.slice Fa m.feeds.length fc,.slice Ra m.racks.length rc,.slice Ma m.machs.length mc,.slice La m.links.length lc,.slice Ia m.items.length ic,.int .i64 m.dark,.int .i64 m.slots,.int .i64 m.reserve,.int .i64 m.failures,.slice Ua m.rules.length uc,.slice (some ⟨bl,0,none⟩) nn c8,.int .i64 cn,av] from rfl)
        obtain⟨aA,an,acp,hav,han⟩:=mu HOw.out
        obtain⟨vo,hvo⟩: ∃q,iT ⟨m,cl,cn,acc⟩=q:=⟨_,rfl⟩
        have HVo:=aa hvo
        rw[hvo] at HVa
        rw[HSm.out] at HVa
        rw[hav,han] at g13 HVa
        clear hvo hsr
        cases vo with
        |false=>
         go_wp2_with
          (go_at_call 21
           refine HVa.out.mono ?_
           rintro e w9 ⟨rfl,hb9⟩
           have HT9:=aa (ah HTr.out hb9)
           have HB9:=aa (HBr.out.trans (hb9.mono HBr.out.size))
           obtain⟨⟨q0,q1,q2,q3,q4,q5,q6,q7,q8,q9,q10,q11,q12,q13⟩,z0,z1,z2,z3,z4,z5,z6,z7,z8,z9,z10,z11,z12,z13⟩:=jk HT9.out
           clear hb9)
         refine jK (by rfl) (by rfl) (by rfl) (by rfl) HT9.out (fun W7 hk=> ?_)
         rw[show(K:Int)+1=((K+1:Nat):Int) by omega]
         exact gm.err (by rw[HRp.out,HE.out];simp only[HVo.out];rfl) rfl (ke ((HB2.out).trans (HB9.out.mono hw2)) ((hk.below (bN (blk_lt HT9.out))).mono hrw))
        |true=>
         go_wp2_with
          (go_at_call 21
           refine HVa.out.mono ?_
           rintro e w9 ⟨rfl,hb9⟩
           have HT9:=aa (ah HTr.out hb9)
           have HB9:=aa (HBr.out.trans (hb9.mono HBr.out.size))
           have HS9:=aa (ah HSr.out hb9)
           have hs9:=ah HSr.out hb9
           obtain⟨h0,h1,h2,h3,h4,h5,h6,h7,h8,h9,h10,h11,h12,h13⟩:=dw hs9
           have HB9':=aa hb9
           obtain⟨⟨q0,q1,q2,q3,q4,q5,q6,q7,q8,q9,q10,q11,q12,q13⟩,z0,z1,z2,z3,z4,z5,z6,z7,z8,z9,z10,z11,z12,z13⟩:=jk HT9.out
           rw[hav,han] at h13
           clear hb9 hs9)
         refine jK (by rfl) (by rfl) (by rfl) (by rfl) HT9.out (fun W7 hk=> ?_)
         refine⟨((HB2.out).trans (HB9.out.mono hw2)).trans ((hk.below (bN (blk_lt HT9.out))).mono hrw),?_⟩
         rw[HRp.out,HE.out]
         simp only[HVo.out,if_true]
         have hkr:KP wr.heap.size rt wr W7:=(KP.of_below HB9'.out (ae _) HB9'.out.size).trans (hk.mono HB9'.out.size)
         have hO7:=(HO8.out.gp (GP.of_kp HKp.out) hBm').gp (GP.of_kp hkr) (by omega)
         have hC7:=aq.at_blk (aq.at_blk HC8.out hzr (fun _ a n c e hlt=>HKp.out.block _ hlt (by injection e with e;injection e with e;subst e;simp;omega))) hkr.size (fun _ a n c e hlt=>hkr.block _ hlt (by injection e with e;injection e with e;subst e;simp;omega))
         have hR7:=HRo.out.kp hkr (by omega)
         have hW7:=j8 HOw.out hkr (ae _) (by omega)
         refine⟨v,.slice (some ⟨bl,0,none⟩) nn c8,av,?_,⟨hO7.in_,hC7,hR7.sl hW7⟩,fun b' W' hb' hk'=>⟨(hO7.gp (GP.of_kp hk') (by omega)).in_,aq.at_blk hC7 hk'.size (fun _ a n c e hlt=>hk'.block _ hlt (by injection e with e;injection e with e;subst e;simp;omega)),(hR7.kp hk' (by omega)).sl (j8 hW7 hk' (ae _) (by omega))⟩⟩
         show _=Ending.returned (.tuple #[.agg (m.cells v++ #[.slice (some ⟨bl,0,none⟩) nn c8,.int .i64 cn,av]),.int .i64 0,.int .i64 0])
         rw[HM.out,HSm.out,hav,han]
         rfl
theorem NL (t:ai) (w:World) (hG:bY w):Calls prog 12 #[.string (bs t)] w (gm w (fk t)):=by
 by_cases hs:65536<t.length
 ·have e:fk t= .error (0,8):=by unfold fk;rw[if_pos hs]
  rw[e];exact Nn _ w (by rw[bq];exact hs)
 ·cases hf:(aX t).findIdx? cN with
  |none=>
   have hf':(aX t).findIdx? (fun s=>fA.isPrefixOf s)=none:=hf
   have e:fk t= .error ((aX t).length+1,3):=by
    unfold fk;rw[if_neg hs,hf']
   rw[e];exact Np t w hG (by omega) (by unfold eW;rw[hf])
  |some i=>
   have hf':(aX t).findIdx? (fun s=>fA.isPrefixOf s)=some i:=hf
   obtain⟨h1,h2,_⟩:=List.findIdx?_eq_some_iff_getElem.1 hf
   have e:fk t=iG (aX t) i (aX t)[i]:=by
    unfold fk iG
    rw[if_neg hs,hf']
    simp only[List.getD_eq_getElem?_getD,List.getElem?_eq_getElem h1,Option.getD_some]
    rfl
   rw[e];exact NK t w hG (by omega) i _ (by unfold eW;rw[hf]) (List.getElem?_eq_getElem h1) h2
theorem Cs: ∀l:List ai,l.length≤(bb l).length
 |[]=>aY _
 |x::l=>by
  have:=Cs l
  have e:bb (x::l)=x++[10]++bb l:=by simp[bb]
  rw[e];simp;omega
theorem Ct (t:ai):(aX t).length≤t.length+1:=by
 have h1:=(mZ _ t (ae _)).2
 have h2:=Cs (aX t)
 omega
theorem uP {w:World} {base:Nat} {v:Value} {l:List ai} (h:w.ownsRow base 9 1 v l.length (l.map de)):aI w w.heap.size v l:=by
 have h2:=Sl.of_own h
 unfold aI aL
 rw[List.map_map]
 exact h2
theorem NN {l:List ai} (h:eW l= -1): ∀x∈l,cN x=false:=by
 unfold eW at h
 split at h
 ·omega
 ·rename_i hf
  exact List.findIdx?_eq_none_iff.1 hf
theorem uQ (t:ai) (A:Option Addr) (n c:Nat) (cl:Int) (w:World) (hG:bY w) (ht:t.length≤1048576) (hs:3000<t.length∨0≤eW (aX t)∨10<n):
 am 4 #[.string (bs t),.slice A n c,.int .i64 cl] w (.bool true):=by
 have HAw:=aa (fun W (h:aT W)=>Bl W h)
 have HG:=aa hG
 have hsz:(bs t).size≤2000000:=by rw[bq];omega
 have HLi:=aa (fun W=>Br (bs t) W hsz)
 have HTd:=aa (bL t)
 obtain⟨L,hL⟩: ∃q,aX t=q:=⟨_,rfl⟩
 have hLl:L.length≤2000000:=by have:=Ct t;rw[hL] at this;omega
 obtain⟨ci,hci⟩: ∃q,eW L=q:=⟨_,rfl⟩
 have HLl:=aa hLl
 have HCi:=aa hci
 rw[hL] at hs
 have HL:=aa hL
 clear hG hLl hL hci
 rw[HCi.out] at hs
 have hb:((bs t).size:Int)=t.length:=by rw[bq]
 by_cases h1:3000<t.length
 ·have i1:decide ((3000:Int)<((bs t).size:Int))=true:=by rw[decide_eq_true_eq];omega
  have i1':(3000:Int)<((bs t).size:Int):=by omega
  clear hs h1 hb
  go_enter func4,ntmps4
  go_wp2_with(first
   |(go_at_call 10
     refine(HLi.out w).mono ?_
     rintro e w1 ⟨v1,rfl,ho1,hb1⟩
     rw[HTd.out,HL.out] at ho1
     obtain⟨lA,ln,lc,rfl,hln⟩:=mu ho1
     have HL1:=aa (uP ho1)
     have HN1:=aa hln
     have HB1:=aa hb1
     clear ho1 hb1 hln)
   |(go_at_call 9
     refine(HAw.out _ (HG.out.g.step HB1.out)).mono ?_
     rintro e w9 ⟨rfl,hb9⟩))
  go_ret
  exact⟨rfl,ag HB1.out hb9⟩
 ·have i1:decide ((3000:Int)<((bs t).size:Int))=false:=by rw[decide_eq_false_iff_not];omega
  have i1': ¬(3000:Int)<((bs t).size:Int):=by omega
  by_cases h2:0≤ci
  ·have i2:decide ((0:Int)≤ci)=true:=by rw[decide_eq_true_eq];exact h2
   exact Cu
  ·have i2:decide ((0:Int)≤ci)=false:=by rw[decide_eq_false_iff_not];exact h2
   have i3':(10:Int)<(n:Int):=by omega
   have i3:decide ((10:Int)<(n:Int))=true:=by rw[decide_eq_true_eq];exact i3'
   exact Cu
theorem NO (t:ai) (A:Option Addr) (n c:Nat) (ctl:List Int) (cl:Int) (w:World) (hG:bY w) (ht:t.length≤3000) (hc:eW (aX t)= -1) (hv:aq w w.heap.size (.slice A n c) ctl) (hn:ctl.length=n) (hn10:n≤10) (hcl:aj cl):
 am 4 #[.string (bs t),.slice A n c,.int .i64 cl] w (.bool true):=by
 have HMl:=aa (EX t ctl cl ht (NN hc) hv.2 hcl (by omega))
 have hT1:=(mZ _ t (ae _)).2
 have HAw:=aa (fun W (h:aT W)=>Bl W h)
 have HG:=aa hG
 have hsz:(bs t).size≤2000000:=by rw[bq];omega
 have HLi:=aa (fun W=>Br (bs t) W hsz)
 have HTd:=aa (bL t)
 obtain⟨L,hL⟩: ∃q,aX t=q:=⟨_,rfl⟩
 have hLl:L.length≤2000000:=by have:=Ct t;rw[hL] at this;omega
 obtain⟨ci,hci⟩: ∃q,eW L=q:=⟨_,rfl⟩
 have HLl:=aa hLl
 have HCi:=aa hci
 skip
 have HL:=aa hL
 clear hG hLl hL hci
 rw[HL.out] at HMl hT1
 rw[HL.out] at hc
 have hci1:ci= -1:=HCi.out.symm.trans hc
 have HCi:=aa (HCi.out.trans hci1)
 clear hci1 hc
 obtain⟨T,hT⟩: ∃q,bb L=q:=⟨_,rfl⟩
 rw[hT] at HMl hT1
 obtain⟨CL,hCL⟩: ∃q,dO ⟨{},ctl,cl,[]⟩=q:=⟨_,rfl⟩
 have hCz:CL.length≤1000:=by rw[←hCL];exact xo hv.2 hcl (show ctl.length≤10 by omega)
 have HTx':=aa (show bb (L++[CL])=T++CL++[10] by rw[uh,hT];simp)
 rw[hCL,HTx'.out] at HMl
 have HTx:=aa (show bs T++bs CL++⟨#[10]⟩=bs (T++CL++[10]) by show bs T++bs CL++bs [10]=_;rw[fP,fP])
 obtain⟨U,hU⟩: ∃q,T++CL++[10]=q:=⟨_,rfl⟩
 rw[hU] at HMl HTx
 have HSp:=aa (fun W (h:bY W)=>NL U W h)
 have HPp:=aa (fun W (h:bY W)=>Cf (bs T) W h)
 rw[bL] at HPp
 have HCL:=aa hCL;have HT:=aa hT;have HV:=aa hv;have HCl:=aa (show ctl.length≤10 by omega);have HI:=aa hcl;have HN:=aa hn
 have hTz:(bs T).size≤1000000:=by rw[bq];omega
 have hTz1:(bs T).size≤3001:=by rw[bq];omega
 have hCz1:(bs CL).size≤1000:=by rw[bq];exact hCz
 have hTC:(bs T++bs CL:ByteArray).size≤4001:=by rw[ByteArray.size_append];omega
 have i1:decide ((3000:Int)<((bs t).size:Int))=false:=by rw[decide_eq_false_iff_not,bq];omega
 have i1': ¬(3000:Int)<((bs t).size:Int):=by rw[bq];omega
 have i3:decide ((10:Int)<(n:Int))=false:=by rw[decide_eq_false_iff_not];omega
 have i3': ¬(10:Int)<(n:Int):=by omega
 have HTz:=aa (show T.length≤3001 by omega)
 clear hCL hT hU hv hcl hn hT1 hCz ht hn10
 go_enter func4,ntmps4
 go_wp2_with(first
  |(go_at_call 10
    refine(HLi.out w).mono ?_
    rintro e w1 ⟨v1,rfl,ho1,hb1⟩
    rw[HTd.out,HL.out] at ho1
    obtain⟨lA,ln,lc,rfl,hln⟩:=mu ho1
    have HL1:=aa (uP ho1)
    have HN1:=aa hln
    have HB1:=aa hb1
    clear ho1 hb1 hln)
  |(go_at_call 11
    refine(Bn _ L w1 HL1.out HLl.out).mono ?_
    rintro e w2 ⟨rfl,hb2⟩
    rw[HCi.out]
    have HB2:=aa (ag HB1.out hb2)
    have HL2:=aa ((HL1.out.below hb2 (ae _)).more hb2.size)
    clear hb2))
 have HLn:=HN1
 go_loopw [8,10,41] (fun src _ i wr=> ∃j:Nat,j≤ln∧i= .int .i64 j∧src= .string (bs (bb (L.take j)))∧wr=w2) (fun _ _ i _=>ln - (intOf i).toNat)
 case atStart=>exact⟨0,aY _,rfl,rfl,rfl⟩
 case round=>
  obtain⟨j,hj,rfl,rfl,hw⟩:=hrel
  obtain rfl:=hw.symm
  by_cases hlt:j<ln
  ·have hI1:(0:Int)≤j:=by omega
   have hI2:(j:Int)<ln:=by omega
   have hj9:j<2000000:=by have:=HLn.out;have:=HLl.out;omega
   obtain⟨x,hx⟩: ∃x,L[j]? =some x:=⟨_,List.getElem?_eq_getElem (by have:=HLn.out;omega)⟩
   obtain⟨b,o,rfl,hb,hcx⟩:=aI.cell HL2.out hx
   have HSn:=aa (show bs (bb (L.take j))++(bs x++⟨#[10]⟩)=bs (bb (L.take (j+1))) by rw[Ck L hx,←fP,←fP];rfl)
   have hs1:(bs x).size≤70000:=by have:=qr (co hx);rw[HT.out] at this;have:=HTz.out;rw[bq];omega
   have hs2:(bs (bb (L.take j))).size≤70000:=by have:=uO L j;rw[HT.out] at this;have:=HTz.out;rw[bq];omega
   have hs3:(bs x++⟨#[10]⟩:ByteArray).size≤70001:=by rw[ByteArray.size_append];have:(⟨#[10]⟩:ByteArray).size=1:=rfl;omega
   clear hx hb
   go_wp2_with fail
   exact⟨⟨j+1,by omega,by go_num,by rw[←HSn.out],by trivial⟩,by simp[intOf];omega⟩
  ·have hI2: ¬(j:Int)<ln:=by omega
   obtain rfl:ln=j:=by omega
   rw[show L.take ln=L by rw[List.take_of_length_le (by have:=HLn.out;omega)],HT.out]
   have hw2:=HB2.out.size
   clear hlt
   go_upto_region 11 with (fail)
   refine bt (fun W=>Below w.heap.size w W∧W.heap[w2.heap.size]? =some (.cells #[.slice none 0 0,.slice none 0 0,.slice none 0 0,.slice none 0 0,.slice none 0 0,.slice none 0 0,.int .i64 0,.int .i64 0,.int .i64 0,.int .i64 0,.slice none 0 0,.slice A n c,.int .i64 cl,.slice none 0 0] 33 (0,0))) ⟨ac HB2.out _,aN w2 _⟩ ?_
   intro w4 ⟨hBs,hSs⟩
   have HBs:=aa hBs;have HSs:=aa hSs
   obtain⟨a0,a1,a2,a3,a4,a5,a6,a7,a8,a9,a10,a11,a12,a13⟩:=dw hSs
   generalize w2.heap.size=sb at HSs a0 a1 a2 a3 a4 a5 a6 a7 a8 a9 a10 a11 a12 a13 hw2⊢
   clear hBs hSs
   cases hp:dP T with
   |error x=>
    obtain⟨x1,x2⟩:=x
    have hM:fk U= .error (ju T x1,x2):=by
     have h:=HMl.out
     rw[hp] at h
     exact h
    have hx2: ¬x2=0:=Cg hp
    have e2:(((x2:Nat):Int)!=0)=true:=by simp;omega
    rw[hM] at HSp
    rw[hp] at HPp
    clear hM hp hx2 HMl
    go_upto_region 12 with (first
     |(go_at_call 15
       refine qs ?_
       rintro e w5 ⟨rfl,hb5⟩
       rw[HCL.out]
       have HB5:=aa (ag HBs.out hb5);have HS5:=aa (ah HSs.out hb5)
       clear hb5)
     |(go_at_call 12
       rw[HTx.out]
       refine(HSp.out _ (HG.out.step HB5.out)).mono ?_
       rintro e w6 ⟨hb6,rfl⟩
       simp only[oe]
       have HB6:=aa (ag HB5.out hb6);have HS6:=aa (ah HS5.out hb6)
       clear hb6))
    refine uR ?_
    intro wx ⟨hxx,hkx⟩
    have hzs:=blk_lt HS6.out
    have HBx:=aa (ag HB6.out hkx);have HX6:=aa hkx;have HSx:=aa (ah HS6.out hkx);have HXx:=aa hxx
    have hzx:=hkx.size
    clear hkx hxx
    go_wp2_with(first
     |(go_at_call 16
       refine(HPp.out _ (HG.out.step HBx.out)).mono ?_
       rintro e w7 ⟨hb7,rfl⟩
       have HB7:=aa (ag HBx.out hb7);have HS7:=aa (ah HSx.out hb7)
       clear hb7)
     |(go_at_call 17
       refine(yY (bs T) x1 _ hTz).mono ?_
       rintro e w8 ⟨c8,rfl,hw⟩
       obtain rfl:=hw
       rw[bL])
     |(go_at_call 9
       refine(HAw.out _ (HG.out.g.step HB7.out)).mono ?_
       rintro e w9 ⟨rfl,hb9⟩))
    go_ret
    exact⟨rfl,ag HB7.out hb9⟩
   |ok ds=>
    have hdl:Hid (ds.length≤100000):=by have:=Ch hp;exact aa (by omega)
    cases hm0:dL ds with
    |error x=>
     obtain⟨x1,x2⟩:=x
     have hM:fk U= .error (0,x2):=by
      have h:=HMl.out
      rw[hp] at h
      simp only[hm0] at h
      exact h
     have hx2: ¬x2=0:=Cj hm0
     have e2:(((x2:Nat):Int)!=0)=true:=by simp;omega
     have hm:=aa hm0
     rw[hM] at HSp
     rw[hp] at HPp
     clear hM hp hx2 HMl hm0
     go_upto_region 12 with (first
      |(go_at_call 15
        refine qs ?_
        rintro e w5 ⟨rfl,hb5⟩
        rw[HCL.out]
        have HB5:=aa (ag HBs.out hb5);have HS5:=aa (ah HSs.out hb5)
        clear hb5)
      |(go_at_call 12
        rw[HTx.out]
        refine(HSp.out _ (HG.out.step HB5.out)).mono ?_
        rintro e w6 ⟨hb6,rfl⟩
        simp only[oe]
        have HB6:=aa (ag HB5.out hb6);have HS6:=aa (ah HS5.out hb6)
        clear hb6))
     refine uR ?_
     intro wx ⟨hxx,hkx⟩
     have hzs:=blk_lt HS6.out
     have HBx:=aa (ag HB6.out hkx);have HX6:=aa hkx;have HSx:=aa (ah HS6.out hkx);have HXx:=aa hxx
     have hzx:=hkx.size
     clear hkx hxx
     go_upto_region 17 with (first
      |(go_at_call 16
        refine(HPp.out _ (HG.out.step HBx.out)).mono ?_
        rintro e w7 ⟨hb7,dv,rfl,hv7⟩
        have HB7:=aa (ag HBx.out hb7);have HS7:=aa (ah HSx.out hb7)
        obtain⟨dA,dn,dc,rfl,_,_,_⟩:=hv7.form
        have HV7:=aa hv7;have HX7:=aa (ag HX6.out hb7);have HXb7:=aa (ah HXx.out hb7)
        clear hv7
        clear hb7)
      |(go_at_call 18
        refine uS ?_
        rw[hm.out]
        rintro e w8 ⟨hb8,rfl⟩
        simp only[jH]
        have HB8:=aa (ag HB7.out hb8);have HX8:=aa (ag HX7.out hb8);have HXb8:=aa (ah HXb7.out hb8);have HS8:=aa (ah HS7.out hb8)
        clear hb8))
     refine bt (fun W=>Below w.heap.size w W) (ac HB8.out _) ?_
     intro wm hBm
     have HBm:=aa hBm
     clear hBm
     go_wp2_with(first
      |(go_at_call 9
        refine(HAw.out _ (HG.out.g.step HBm.out)).mono ?_
        rintro e w9 ⟨rfl,hb9⟩))
     go_ret
     exact⟨rfl,ag HBm.out hb9⟩
    |ok m=>
     have hm:=aa hm0
     have hM0:if gZ ⟨m,ctl,cl,[]⟩ then fk U= .ok ⟨m,ctl,cl,[]⟩ else ∃e,(e=1∨e=3)∧fk U= .error (L.length+1,e):=by
      have h:=HMl.out
      rw[hp] at h
      simp only[hm0] at h
      exact h
     rw[hp] at HPp
     clear hp HMl hm0
     obtain⟨vo,hvo⟩: ∃q,gZ ⟨m,ctl,cl,[]⟩=q:=⟨_,rfl⟩
     have HVv:=aa hvo
     rw[hvo] at hM0
     cases vo with
     |true=>
      rw[if_pos rfl] at hM0
      rw[hM0] at HSp
      clear hM0 hvo
      go_upto_region 12 with (first
       |(go_at_call 15
         refine qs ?_
         rintro e w5 ⟨rfl,hb5⟩
         rw[HCL.out]
         have HB5:=aa (ag HBs.out hb5);have HS5:=aa (ah HSs.out hb5)
         clear hb5)
       |(go_at_call 12
         rw[HTx.out]
         refine(HSp.out _ (HG.out.step HB5.out)).mono ?_
         rintro e w6 ⟨hb6,vx,cx,ax,rfl,hscn,hkeep⟩
         have hvx:=hscn.1
         obtain⟨⟨Sx,sx,hs',hs1,hs2⟩,⟨Fx,fx,hf',hf1,hf2⟩,⟨Rx,rx,hr',hr1,hr2⟩,⟨Mx,mx,hm',hm1,hm2⟩,⟨Lx,lx,hl',hl1,hl2⟩,⟨Ix,ix,hi',hi1,hi2⟩,⟨Ux,ux,hu',hu1,hu2⟩⟩:=hvx.cells
         have HMx:=aa (show m.cells vx= #[.slice Sx m.sites.length sx,.slice Fx m.feeds.length fx,.slice Rx m.racks.length rx,.slice Mx m.machs.length mx,.slice Lx m.links.length lx,.slice Ix m.items.length ix,.int .i64 m.dark,.int .i64 m.slots,.int .i64 m.reserve,.int .i64 m.failures,.slice Ux m.rules.length ux] from by rw[aC.cells_def,hs',hf',hr',hm',hl',hi',hu'])
         obtain⟨hvx0,hcx,hax⟩:=hscn
         obtain⟨Ca,Cn,Cc,rfl,_,_,_⟩:=hcx.form
         obtain⟨Aa,An,Ac,rfl,_,_,_⟩:=hax.form
         have HXc:=aa (show m.cells vx++ #[.slice Ca Cn Cc,.int .i64 cl,.slice Aa An Ac]= #[.slice Sx m.sites.length sx,.slice Fx m.feeds.length fx,.slice Rx m.racks.length rx,.slice Mx m.machs.length mx,.slice Lx m.links.length lx,.slice Ix m.items.length ix,.int .i64 m.dark,.int .i64 m.slots,.int .i64 m.reserve,.int .i64 m.failures,.slice Ux m.rules.length ux,.slice Ca Cn Cc,.int .i64 cl,.slice Aa An Ac] from by rw[HMx.out];rfl)
         rw[HXc.out]
         have HKeep:=aa hkeep
         have hsb5:=blk_lt HS5.out
         clear hvx hvx0 hcx hax hkeep hs' hf' hr' hm' hl' hi' hu' hs1 hs2 hf1 hf2 hr1 hr2 hm1 hm2 hl1 hl2 hi1 hi2 hu1 hu2
         have HB6:=aa (ag HB5.out hb6);have HS6:=aa (ah HS5.out hb6)
         clear hb6))
      refine bt (fun W=>W.heap[w6.heap.size]? =some (.cells #[.slice Sx m.sites.length sx,.slice Fx m.feeds.length fx,.slice Rx m.racks.length rx,.slice Mx m.machs.length mx,.slice Lx m.links.length lx,.slice Ix m.items.length ix,.int .i64 m.dark,.int .i64 m.slots,.int .i64 m.reserve,.int .i64 m.failures,.slice Ux m.rules.length ux,.slice Ca Cn Cc,.int .i64 cl,.slice Aa An Ac] 33 (0,0))∧Below w6.heap.size w6 W) ⟨aN w6 _,ac (B0 w6) _⟩ ?_
      intro wx ⟨hxx,hkx⟩
      have hzs:=blk_lt HS6.out
      have HBx:=aa (ag HB6.out hkx);have HX6:=aa hkx;have HSx:=aa (ah HS6.out hkx);have HXx:=aa hxx
      have hzx:=hkx.size
      clear hkx hxx
      go_upto_region 19 with (first
       |(go_at_call 16
         refine(HPp.out _ (HG.out.step HBx.out)).mono ?_
         rintro e w7 ⟨hb7,dv,rfl,hv7⟩
         have HB7:=aa (ag HBx.out hb7);have HS7:=aa (ah HSx.out hb7)
         obtain⟨dA,dn,dc,rfl,_,_,_⟩:=hv7.form
         have HV7:=aa hv7;have HX7:=aa (ag HX6.out hb7);have HXb7:=aa (ah HXx.out hb7)
         clear hv7
         clear hb7)
       |(go_at_call 18
         refine uS ?_
         rw[hm.out]
         rintro e w8 ⟨hb8,v,rfl,hv8,Bm,Mm,hBm8,hO8⟩
         obtain⟨⟨Sa,sc,hs',hs1,hs2⟩,⟨Fa,fc,hf',hf1,hf2⟩,⟨Ra,rc,hr',hr1,hr2⟩,⟨Ma,mc,hm',hm1,hm2⟩,⟨La,lc,hl',hl1,hl2⟩,⟨Ia,ic,hi',hi1,hi2⟩,⟨Ua,uc,hu',hu1,hu2⟩⟩:=hv8.cells
         refine Cv fun HMc=> ?_
         rw[HMc.out]
         have HO8:=aa hO8
         have hsbB:sb<Bm:=by have:=blk_lt HS7.out;omega
         clear hv8 hO8 hBm8 hs' hf' hr' hm' hl' hi' hu' hs1 hs2 hf1 hf2 hr1 hr2 hm1 hm2 hl1 hl2 hi1 hi2 hu1 hu2
         have HB8:=aa (ag HB7.out hb8);have HX8:=aa (ag HX7.out hb8);have HXb8:=aa (ah HXb7.out hb8);have HS8:=aa (ah HS7.out hb8)
         clear hb8))
      refine Cw ?_
      intro wm ⟨hmm,hkm⟩
      have hzb:=blk_lt HS8.out
      have HBm:=aa (ag HB8.out hkm);have hSm:=ah HS8.out hkm
      have hXm0:=ah HXb8.out hkm
      have HXm:=aa hXm0
      clear hXm0
      have HB8m:=aa hkm
      obtain⟨b0,b1,b2,b3,b4,b5,b6,b7,b8,b9,b10⟩:=cd hmm
      obtain⟨⟨q0,q1,q2,q3,q4,q5,q6,q7,q8,q9,q10,q11,q12,q13⟩,z0,z1,z2,z3,z4,z5,z6,z7,z8,z9,z10,z11,z12,z13⟩:=jk hSm
      have HSm:=aa hSm
      have hzm:=blk_lt hSm
      clear hkm hmm hSm
      go_upto_region 20 with (fail)
      refine Cx ?_
      intro wn ⟨hSn,hkn⟩
      refine Cy fun HBn hXm hzxb HXn HOn hz6m HKn hz6n=> ?_
      clear q0 q1 q2 q3 q4 q5 q6 q7 q8 q9 q10 q11 q12 q13 z0 z1 z2 z3 z4 z5 z6 z7 z8 z9 z10 z11 z12 z13 b0 b1 b2 b3 b4 b5 b6 b7 b8 b9 b10
      obtain⟨t0,t1,t2,t3,t4,t5,t6,t7,t8,t9,t10,t11,t12,t13⟩:=dw hSn
      refine Cz fun HSn HMs HVs=> ?_
      rw[HMs.out,HVv.out] at HVs
      clear hSn hkn hXm
      have HKp:=HKeep.out
      have HSm:=aa (fun W (h:Below wn.heap.size wn W)=>MR m ctl cl [] vx v (.slice Ca Cn Cc) (.slice A n c) (.slice Aa An Ac) (.slice none 0 0) W (HKp sb W hsb5 (HKn.out.trans (KP.of_below (pb:=sb) h hz6n h.size))).1 (HOn.out.in_.to h (ae _) h.size) (HKp sb W hsb5 (HKn.out.trans (KP.of_below (pb:=sb) h hz6n h.size))).2.1 (((HV.out.below (HBn.out.trans (h.mono HBn.out.size)) (ae _)).more (HBn.out.trans (h.mono HBn.out.size)).size)) (HKp sb W hsb5 (HKn.out.trans (KP.of_below (pb:=sb) h hz6n h.size))).2.2 (aQ.nil_ _ _))
      rw[HMs.out,HXc.out] at HSm
      clear HKp
      go_wp2_with(first
       |(go_at_call 19
         refine(HVs.out _ (by first|exact B0 _|exact au (B0 _))).mono ?_
         rintro e w10 ⟨rfl,hb10⟩
         have HB10:=aa (ag HBn.out hb10);have hs10:=ah HSn.out hb10;have hx10:=ah HXn.out hb10
         have HN10:=aa hb10
         obtain⟨u0,u1,u2,u3,u4,u5,u6,u7,u8,u9,u10,u11,u12,u13⟩:=dw hs10
         obtain⟨g0,g1,g2,g3,g4,g5,g6,g7,g8,g9,g10,g11,g12,g13⟩:=dw hx10
         clear hb10 hs10 hx10)
       |(go_at_call 14
         refine(HSm.out _ (by first|exact HN10.out|exact au HN10.out)).mono ?_
         rintro e w11 ⟨rfl,hb11⟩
         have HB11:=aa (ag HB10.out hb11)
         clear hb11)
       |(go_at_call 9
         refine(HAw.out _ (HG.out.g.step HB11.out)).mono ?_
         rintro e w9 ⟨rfl,hb9⟩))
      go_ret
      exact⟨rfl,ag HB11.out hb9⟩
     |false=>
      rw[if_neg (by decide)] at hM0
      obtain⟨x2,hx2,hM0⟩:=hM0
      rw[←HLn.out] at hM0
      rw[hM0] at HSp
      have e5:IntKind.i64.wrap ((ln:Int)+1)=(ln:Int)+1:=IntWalk.i64_in _ (by have:=HLl.out;rw[←HLn.out] at this;omega)
      clear hM0 hvo
      rcases hx2 with rfl|rfl
      ·skip
       exact CB
      ·skip
       exact CB
end
end Go.Proofs.YthnkonlbfogkgaaGreatDoor
