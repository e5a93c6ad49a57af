/- A part of the proof. -/
import Derived.Test.YthnkonlbfogkgaaGreatDoorQbp
set_option linter.unusedVariables false
set_option linter.unusedSimpArgs false
set_option maxRecDepth 100000
set_option maxHeartbeats 32000000
namespace Go.Proofs.YthnkonlbfogkgaaGreatDoor
section
open Go Go.RowKit Go.MapKept Tryz
def cW (l:List Nat):Int:=cS (l.drop (l.length - 1)) 0
theorem Lc (l:List Nat) (k:Nat):cW (l++[k])=(k:Int):=by
 unfold cW cS
 simp
theorem Ld (rb Mb:Nat) (t:br) (d:ar) (rv nv:Value) (w:World) (hr:w.cell? ⟨rb,0,none⟩=some (.map (some Mb))) (hM:aZ dI w Mb (dr t))
 (hrv:aI w w.heap.size rv d.refs) (hnv:aq w w.heap.size nv (d.nums.map fun x:Nat=>(x:Int))) (hv:dF d=true) (hk10:10≤d.kind):
 Calls prog 50 #[ptr rb,.agg #[.int .i64 d.kind,.string (bs d.name),rv,nv,.int .i64 d.by_,.bool d.always]] w fun e w'=>
  ∃o,e= .returned (.agg ((gO t d).vals o))∧w'.ownsRow w.heap.size 3 1 o (gO t d).ms.length ((gO t d).ms.map (Value.int .i64))∧Below w.heap.size w w':=by
 have hVL:=gJ hv
 refine mL fun i0 hi hz0 hz1 hz2=> ?_
 obtain⟨RA,rn,rc,rfl,hrn,_,_⟩:=hrv.sk.form
 obtain⟨NA,nn,nc,rfl,hnn,_,_⟩:=hnv.sk.form
 rw[List.length_map] at hnn
 have hk17:=hVL.1
 have hwr:IntKind.i64.wrap ((d.kind:Int) - 10)=(d.kind:Int) - 10:=IntWalk.i64_in _ (by omega)
 have hrn17:rn≤17:=by have:=hVL.2.2.1;omega
 have hnn4:nn≤4:=by have:=hVL.2.2.2.1;omega
 have HNum:=aa (fun W (hW:Below w.heap.size w W)=>td rb Mb t (.slice RA rn rc) d.refs W (kc hW hr) (hM.later hW) ((hrv.below hW (ae _)).more hW.size) (by omega))
 rw[hrn] at HNum
 have HRD:=aa (show ∀o,(gO t d).vals o= #[.int .i64 ((d.kind:Int) - 10),.int .i64 (cF (d.refs.map (bE t)) 0),.int .i64 (if d.kind=14 then cF (d.refs.map (bE t)) 1 else 0),.int .i64 (cW d.nums),.int .i64 d.by_,.bool d.always,o] from fun o=>rfl)
 have HRn:=aa hrn;have HNn:=aa hnn;have HVL:=aa hVL;have HNv:=aa hnv
 have HMs:=aa (show(gO t d).ms=if d.kind=13 then fS ((d.refs.map (bE t)).drop 1) else[] from rfl)
 generalize gO t d=rl at HRD HMs
 obtain⟨L,hL⟩: ∃L,d.refs.map (bE t)=L:=⟨_,rfl⟩
 rw[hL] at HNum HRD HMs
 have hLn:L.length=rn:=by rw[←hL,List.length_map,hrn]
 have HLn:=aa hLn
 obtain⟨n0,hn0⟩: ∃n0,(L++[0,0])[0]? =some n0:=⟨_,List.getElem?_eq_getElem (by simp)⟩
 have hn00:cF L 0=n0:=by
  unfold cF
  rw[List.getD_eq_getElem?_getD]
  cases L with
  |nil=>simp at hn0⊢;exact hn0
  |cons a l=>simp at hn0⊢;exact hn0
 rw[hn00] at HRD
 simp only[ptr] at HNum⊢
 clear hr hM hrv hnv hrn hnn hVL hv hL hn00
 go_enter func50,ntmps50
 go_upto_region 1 with (fail)
 refine bt (fun W=>Below w.heap.size w W∧W.heap[w.heap.size]? =some (.cells #[.int .i64 d.kind,.string (bs d.name),.slice RA rn rc,.slice NA nn nc,.int .i64 d.by_,.bool d.always] 87 (0,0))∧W.heap[w.heap.size+1]? =some (.cells #[.int .i64 0,.int .i64 0,.int .i64 0,.int .i64 0,.int .i64 0,.bool false,.slice none 0 0] 110 (0,0))) ⟨ac (ac (B0 w) _) _,(gE w _ _ _ _).1,(gE w _ _ _ _).2⟩ ?_
 intro W1 ⟨hBW,hxW,hiW⟩
 have x2:W1.cell? ⟨w.heap.size,2,none⟩=some (.slice RA rn rc):=af hxW rfl
 have HBW:=aa hBW;have HxW:=aa hxW;have HiW:=aa hiW
 have hzi:=blk_lt hiW
 clear hBW hxW hiW
 go_upto_region 2 with (first
  |(go_at_call 49
    refine(HNum.out _ HBW.out).mono ?_
    rintro e w2 ⟨u,rfl,hu,hb2⟩
    have HOu:=aa hu;have HB2:=aa hb2
    clear hu hb2)
  |(at_builtin;refine wpList_append_own _ rfl (.tmp 12) (.tmp 13) _ rfl W1.heap.size 3 i0 _ 1 8 underlying30 hi hz0 hz1 hz2 rfl (by decide) _ rn (L.map fun x=>Value.int .i64 x) rfl (HOu.out.alloc _) ⟨w2.heap.size,0,none⟩ 2 2 [.int .i64 0,.int .i64 0] rfl rfl (eE rfl) (by simp[Value.oneCell']) (by simp[maxLen];omega) (by omega) (by have:=HB2.out.size;simp;omega) ?_
    intro v' w3 hown' hgrow _
    have HOW:=aa hown'
    have HB3:=aa (ir (HOu.out.alloc (.cells #[.int .i64 0,.int .i64 0] 3)) (ac HB2.out _) (ae _) hgrow)
    clear hown' hgrow))
 have hX3:=HxW.out
 have hx3:=ah hX3 HB3.out
 have hi3:=ah HiW.out HB3.out
 have y0:w3.cell? ⟨w.heap.size,0,none⟩=some (.int .i64 d.kind):=af hx3 rfl
 have y2:w3.cell? ⟨w.heap.size,2,none⟩=some (.slice RA rn rc):=af hx3 rfl
 have y4:w3.cell? ⟨w.heap.size,4,none⟩=some (.int .i64 d.by_):=af hx3 rfl
 have y5:w3.cell? ⟨w.heap.size,5,none⟩=some (.bool d.always):=af hx3 rfl
 have hxs:((L.map fun x=>Value.int .i64 x)++[.int .i64 0,.int .i64 0])=(L++[0,0]).map (Value.int .i64):=by simp
 have hsl:=Sl.of_own HOW.out
 rw[hxs] at hsl
 obtain⟨VA,vc,hve,hv1,hv2,hv3⟩:=hsl
 rw[List.length_map,List.length_append,HLn.out] at hve hv1
 subst hve
 obtain⟨gb,go,rfl,hgb,hcg⟩:=hv3 (by simp)
 have yn0:w3.cell? ⟨gb,go,none⟩=some (.int .i64 n0):=hcg 0 _ (by rw[List.getElem?_map,hn0];rfl)
 have HCg:=aa hcg
 have hb0:(0:Int)<(rn:Int)+2:=by omega
 have hv1':rn+2≤vc:=hv1
 obtain⟨b6,hb6⟩: ∃b,w3.heap.size=b:=⟨_,rfl⟩
 have HX3:=aa hx3;have HI3:=aa hi3
 have hz3:=HB3.out.size
 have hzW:=HBW.out.size
 clear hcg hx3 hX3 hi3 hv1 hv3 hxs hn0 x2
 refine bP (S:=fun w'=>w'.cell? ⟨w.heap.size,0,none⟩=some (.int .i64 d.kind)∧w'.cell? ⟨w.heap.size,4,none⟩=some (.int .i64 d.by_)∧w'.cell? ⟨w.heap.size,5,none⟩=some (.bool d.always)∧w'.cell? ⟨gb,go,none⟩=some (.int .i64 n0)∧Below w3.heap.size w3 w') 13 13 (by exact⟨y0,y4,y5,yn0,au (B0 w3)⟩) fun hS=> ?_
 iterate 11 refine gP 13 15 ?_
 refine cP 11 fun K hK=> ?_
 go_simp
 refine AP fun hS=> ?_
 clear hK
 refine ak ?_
 refine cP 12 fun K hK=> ?_
 go_simp
 refine AP fun hS=> ?_
 clear hK
 refine ak ?_
 refine eP ?_
 go_upto_region 3 with (fail)
 refine bt (fun W=>Below w3.heap.size w3 W∧W.heap[w3.heap.size]? =some (.cells #[.int .i64 ((d.kind:Int) - 10),.int .i64 n0,.int .i64 0,.int .i64 (0:Int),.int .i64 d.by_,.bool d.always,.slice none 0 0] 110 (0,0))) ⟨by first|exact au (ac (B0 w3) _)|exact ac (au (B0 w3)) _,by first|exact aN w3 _|exact aN w3.drew _⟩ ?_
 intro W4 ⟨hB4,hG4⟩
 clear y0 y2 y4 y5 yn0 hS
 rw[hb6] at hG4
 have HB4:=aa hB4
 have hz4:=hB4.size
 have hzb:=blk_lt hG4
 have HX4:=aa (ah HX3.out hB4)
 have HI4:=aa (ah HI3.out hB4)
 have HG4:=aa hG4
 have x3:W4.cell? ⟨w.heap.size,3,none⟩=some (.slice NA nn nc):=af HX4.out rfl
 clear hB4 hG4
 try simp only[hb6]
 go_wp2_with fail
 go_loopw [29] (fun i wr=> ∃k:Nat,k≤nn∧i= .int .i64 k∧wr.heap[b6]? =some (.cells #[.int .i64 ((d.kind:Int) - 10),.int .i64 n0,.int .i64 0,.int .i64 (cW (d.nums.take k)),.int .i64 d.by_,.bool d.always,.slice none 0 0] 110 (0,0))∧KP W4.heap.size b6 W4 wr) (fun i _=>nn - (intOf i).toNat)
 case atStart=>exact⟨0,aY _,rfl,HG4.out,KP.refl _ _ _⟩
 case round=>
  obtain⟨k,hk,rfl,hGk,hKk⟩:=hrel
  have HKk:=aa hKk
  have HGk:=aa hGk
  by_cases hlt:k<nn
  ·have hI1:(0:Int)≤k:=by omega
   have hI2:(k:Int)<nn:=by omega
   obtain⟨q,hq⟩: ∃q,d.nums[k]? =some q:=⟨_,List.getElem?_eq_getElem (by rw[HNn.out];exact hlt)⟩
   have HLq:=aa (show cW (d.nums.take (k+1))=(q:Int) by rw[List.take_add_one,hq];exact Lc _ _)
   obtain⟨qb,qo,rfl,hqb,hcq⟩:=aq.cell HNv.out (j:=k) (x:=(q:Int)) (by rw[List.getElem?_map,hq];rfl)
   have hqn: ¬qb=b6:=by omega
   have cq:wr.cell? ⟨qb,qo+k,none⟩=some (.int .i64 q):=(hKk.cell (qo+k) (by omega) hqn).trans (((ag (ag HBW.out HB3.out) HB4.out).cell (p:=⟨qb,qo+k,none⟩) hqb).trans hcq)
   have g3:wr.cell? ⟨b6,3,none⟩=some (.int .i64 (cW (d.nums.take k))):=af hGk rfl
   have z3:=aW hGk 3
   clear hGk hKk hq hcq
   go_wp2_with fail
   refine⟨⟨k+1,by omega,by go_num,?_,HKk.out.set (.inl rfl) _⟩,by simp[intOf];omega⟩
   rw[HLq.out]
   exact ay HGk.out 3 _
  ·have hI: ¬(k:Int)<nn:=by omega
   have hLa:cW (d.nums.take k)=cW d.nums:=by rw[List.take_of_length_le (by rw[HNn.out];omega)]
   rw[hLa] at HGk
   have HZk:Hid (Below w.heap.size w wr):=(ag (ag HBW.out HB3.out) HB4.out).trans ((HKk.out.below (by omega)).mono (by omega))
   have HXk:=aa (HKk.out.blk HX4.out (blk_lt HX4.out) (by omega))
   have HIk:=aa (HKk.out.blk HI4.out (blk_lt HI4.out) (by omega))
   have hkd:wr.cell? ⟨w.heap.size,0,none⟩=some (.int .i64 d.kind):=af HXk.out rfl
   have hkr:wr.cell? ⟨w.heap.size,2,none⟩=some (.slice RA rn rc):=af HXk.out rfl
   have hzk:=HKk.out.size
   have hgb4:gb<W4.heap.size:=by omega
   clear hGk hKk hLa
   by_cases h13:d.kind=13
   ·have e13:((d.kind:Int)==13)=true:=by simp;omega
    have h14: ¬d.kind=14:=by omega
    have hrn2:2≤rn:=by have:=HVL.out.2.2.2.2.2.2.2.2.2.2.2.1 h13;have:=HRn.out;omega
    have hJ1:(1:Int)≤(rn:Int):=by omega
    have hJ2:(rn:Int)≤(rn:Int)+2:=by omega
    have hvc1: ¬vc=1:=by omega
    have H13:=aa h13;have H14:=aa h14
    clear h13 h14
    have HSl:=aa (show ∀W,Below wr.heap.size wr W→Sl W W.heap.size (.slice (some ⟨gb,go+1,none⟩) (rn - 1) (vc - 1)) ((L.drop 1).map (Value.int .i64)) from fun W hW=>by
     refine⟨some ⟨gb,go+1,none⟩,vc - 1,by rw[List.length_map,List.length_drop,HLn.out],by rw[List.length_map,List.length_drop,HLn.out];omega,aP (Nat.sub_le _ _) hv2,fun _=>⟨gb,go+1,rfl,by have:=hW.size;omega,fun j u hu=> ?_⟩⟩
     have hne: ¬gb=b6:=by omega
     refine(hW.cell (p:=⟨gb,go+1+j,none⟩) (show gb<wr.heap.size by omega)).trans ((HKk.out.cell (go+1+j) hgb4 hne).trans ((HB4.out.cell (p:=⟨gb,go+1+j,none⟩) hgb).trans ?_))
     rw[show go+1+j=go+(1+j) by omega]
     refine HCg.out (1+j) u ?_
     rw[List.getElem?_map,List.getElem?_drop] at hu
     rw[List.getElem?_map,List.getElem?_append_left (by
      have h1:1+j<L.length:=by
       rcases Nat.lt_or_ge (1+j) L.length with h|h
       ·exact h
       ·rw[List.getElem?_eq_none h] at hu;simp at hu
      exact h1)]
     exact hu)
    have HSo:=aa (fun W Bs (h1:Bs<W.heap.size) (h2:W.cell? ⟨Bs,0,none⟩=some (.slice (some ⟨gb,go+1,none⟩) (rn - 1) (vc - 1))) h3=>Ar Bs (.slice (some ⟨gb,go+1,none⟩) (rn - 1) (vc - 1)) (L.drop 1) (by rw[List.length_drop,HLn.out];omega) W h1 h2 h3)
    rw[Ax,List.length_drop,HLn.out] at HSo
    go_upto_region 13 with (first
     |(go_at_call 151
       refine(Ak (some ⟨gb,go+1,none⟩) (rn - 1) (vc - 1) _).mono ?_
       rintro e w6 ⟨rfl,rfl⟩
       simp only[az,ptr])
     |(go_at_call 150
       refine(HSo.out _ wr.heap.size (by simp) (af (aN wr _) rfl) (HSl.out _ (ac (B0 wr) _))).mono ?_
       rintro e w7 ⟨o7,rfl,ho7,hb7⟩
       obtain⟨SA,sn,sc7,rfl⟩:=bT ho7
       have HO7:=aa ho7
       have HB7:Hid (Below wr.heap.size wr w7):=ag (ac (B0 wr) _) hb7
       have hg7:=ah HGk.out HB7.out
       have g6:w7.cell? ⟨b6,6,none⟩=some (.slice none 0 0):=af hg7 rfl
       have z6:=aW hg7 6
       have HG7:=aa hg7
       clear ho7 hb7 hg7))
    refine bt (fun W=>W.heap[b6]? =some (.cells #[.int .i64 ((d.kind:Int) - 10),.int .i64 n0,.int .i64 0,.int .i64 (cW d.nums),.int .i64 d.by_,.bool d.always,.slice SA sn sc7] 110 (0,0))∧KP w7.heap.size b6 w7 W) ⟨ay HG7.out 6 _,KP.set (KP.refl _ _ _) (.inl rfl) _⟩ ?_
    intro W9 ⟨hG9,hK9⟩
    have HG6:=aa hG9;have HI6:=aa (hK9.blk (ah HIk.out HB7.out) (blk_lt (ah HIk.out HB7.out)) (by omega))
    obtain⟨p0,p1,p2,p3,p4,p5,p6⟩:=cZ HG6.out
    obtain⟨q0,q1,q2,q3,q4,q5,q6⟩:=cZ HI6.out
    obtain⟨z0,z1,z2,z3,z4,z5,z6⟩:=jU HI6.out
    go_wp2_with fail
    have g7:((((((((((((((W9).setCell ⟨w.heap.size+1,0,none⟩ (.int .i64 ((d.kind:Int) - 10)))).setCell ⟨w.heap.size+1,1,none⟩ (.int .i64 n0))).setCell ⟨w.heap.size+1,2,none⟩ (.int .i64 0))).setCell ⟨w.heap.size+1,3,none⟩ (.int .i64 (cW d.nums)))).setCell ⟨w.heap.size+1,4,none⟩ (.int .i64 d.by_))).setCell ⟨w.heap.size+1,5,none⟩ (.bool d.always))).setCell ⟨w.heap.size+1,6,none⟩ (.slice SA sn sc7)).heap[w.heap.size+1]? =some (.cells #[.int .i64 ((d.kind:Int) - 10),.int .i64 n0,.int .i64 0,.int .i64 (cW d.nums),.int .i64 d.by_,.bool d.always,.slice SA sn sc7] 110 (0,0)):=(ay (ay (ay (ay (ay (ay (ay (HI6.out) 0 (.int .i64 ((d.kind:Int) - 10))) 1 (.int .i64 n0)) 2 (.int .i64 0)) 3 (.int .i64 (cW d.nums))) 4 (.int .i64 d.by_)) 5 (.bool d.always)) 6 (.slice SA sn sc7)).trans rfl
    have hKP:KP W9.heap.size (w.heap.size+1) W9 ((((((((((((((W9).setCell ⟨w.heap.size+1,0,none⟩ (.int .i64 ((d.kind:Int) - 10)))).setCell ⟨w.heap.size+1,1,none⟩ (.int .i64 n0))).setCell ⟨w.heap.size+1,2,none⟩ (.int .i64 0))).setCell ⟨w.heap.size+1,3,none⟩ (.int .i64 (cW d.nums)))).setCell ⟨w.heap.size+1,4,none⟩ (.int .i64 d.by_))).setCell ⟨w.heap.size+1,5,none⟩ (.bool d.always))).setCell ⟨w.heap.size+1,6,none⟩ (.slice SA sn sc7)):=KP.set (KP.set (KP.set (KP.set (KP.set (KP.set (KP.set (KP.refl _ _ _) (.inl rfl) _) (.inl rfl) _) (.inl rfl) _) (.inl rfl) _) (.inl rfl) _) (.inl rfl) _) (.inl rfl) _
    generalize ((((((((((((((W9).setCell ⟨w.heap.size+1,0,none⟩ (.int .i64 ((d.kind:Int) - 10)))).setCell ⟨w.heap.size+1,1,none⟩ (.int .i64 n0))).setCell ⟨w.heap.size+1,2,none⟩ (.int .i64 0))).setCell ⟨w.heap.size+1,3,none⟩ (.int .i64 (cW d.nums)))).setCell ⟨w.heap.size+1,4,none⟩ (.int .i64 d.by_))).setCell ⟨w.heap.size+1,5,none⟩ (.bool d.always))).setCell ⟨w.heap.size+1,6,none⟩ (.slice SA sn sc7))=W7 at g7 hKP⊢
    obtain⟨f0,f1,f2,f3,f4,f5,f6⟩:=cZ g7
    refine bodyPost_ret (v:= .agg #[.int .i64 ((d.kind:Int) - 10),.int .i64 n0,.int .i64 0,.int .i64 (cW d.nums),.int .i64 d.by_,.bool d.always,.slice SA sn sc7]) ?_ rfl ?_
    ·simp[results,Tryz.f50,go_sem,f0,f1,f2,f3,f4,f5,f6]
    ·refine⟨.slice SA sn sc7,by rw[HRD.out,if_neg H14.out],?_,((HZk.out.trans (HB7.out.mono (by have:=HZk.out.size;omega))).trans ((hK9.below (by have:=HB7.out.size;omega)).mono (by omega))).trans ((hKP.below (by have:=hK9.size;have:=HB7.out.size;omega)).mono (Nat.le_succ _))⟩
     rw[HMs.out,if_pos H13.out]
     have h7:=HO7.out
     have hsl:(fS (L.drop 1)).length=rn - 1:=by rw[(lX _).length_eq,List.length_drop,HLn.out]
     rw[←hsl] at h7
     have hbz:=HZk.out.size
     exact pQ (j8 (j8 h7 hK9 (ae _) (by simp;omega)) hKP (ae _) (by simp;omega)) (by simp;omega)
   ·have e13:((d.kind:Int)==13)=false:=by simp;omega
    by_cases h14:d.kind=14
    ·have e14:((d.kind:Int)==14)=true:=by simp;omega
     have hrn2:rn=2:=by have:=HVL.out.2.2.2.2.2.2.2.2.2.2.2.2.1 h14;have:=HRn.out;omega
     obtain⟨n1,hn1⟩: ∃n1,L[1]? =some n1:=⟨_,List.getElem?_eq_getElem (by rw[HLn.out];omega)⟩
     have HN1:=aa (show cF L 1=n1 by unfold cF;rw[List.getD_eq_getElem?_getD,hn1];rfl)
     have hne: ¬gb=b6:=by omega
     have cn1:wr.cell? ⟨gb,go+1,none⟩=some (.int .i64 n1):=(HKk.out.cell (go+1) hgb4 hne).trans ((HB4.out.cell (p:=⟨gb,go+1,none⟩) hgb).trans (HCg.out 1 _ (by rw[List.getElem?_map,List.getElem?_append_left (by rw[HLn.out];omega),hn1];rfl)))
     have hb1:(1:Int)<(rn:Int)+2:=by omega
     have g2:wr.cell? ⟨b6,2,none⟩=some (.int .i64 0):=af HGk.out rfl
     have z2:=aW HGk.out 2
     have H14:=aa h14;have H13:=aa h13
     clear hn1 hrn2 h14 h13
     go_upto_region 13 with (fail)
     refine bt (fun W=>W.heap[b6]? =some (.cells #[.int .i64 ((d.kind:Int) - 10),.int .i64 n0,.int .i64 n1,.int .i64 (cW d.nums),.int .i64 d.by_,.bool d.always,.slice none 0 0] 110 (0,0))∧KP wr.heap.size b6 wr W) ⟨ay HGk.out 2 _,KP.set (KP.refl _ _ _) (.inl rfl) _⟩ ?_
     intro W9 ⟨hG9,hK9⟩
     have HG6:=aa hG9;have HI6:=aa (hK9.blk HIk.out (blk_lt HIk.out) (by omega))
     obtain⟨p0,p1,p2,p3,p4,p5,p6⟩:=cZ HG6.out
     obtain⟨q0,q1,q2,q3,q4,q5,q6⟩:=cZ HI6.out
     obtain⟨z0,z1,z2,z3,z4,z5,z6⟩:=jU HI6.out
     go_wp2_with fail
     have g7:((((((((((((((W9).setCell ⟨w.heap.size+1,0,none⟩ (.int .i64 ((d.kind:Int) - 10)))).setCell ⟨w.heap.size+1,1,none⟩ (.int .i64 n0))).setCell ⟨w.heap.size+1,2,none⟩ (.int .i64 n1))).setCell ⟨w.heap.size+1,3,none⟩ (.int .i64 (cW d.nums)))).setCell ⟨w.heap.size+1,4,none⟩ (.int .i64 d.by_))).setCell ⟨w.heap.size+1,5,none⟩ (.bool d.always))).setCell ⟨w.heap.size+1,6,none⟩ (.slice none 0 0)).heap[w.heap.size+1]? =some (.cells #[.int .i64 ((d.kind:Int) - 10),.int .i64 n0,.int .i64 n1,.int .i64 (cW d.nums),.int .i64 d.by_,.bool d.always,.slice none 0 0] 110 (0,0)):=(ay (ay (ay (ay (ay (ay (ay (HI6.out) 0 (.int .i64 ((d.kind:Int) - 10))) 1 (.int .i64 n0)) 2 (.int .i64 n1)) 3 (.int .i64 (cW d.nums))) 4 (.int .i64 d.by_)) 5 (.bool d.always)) 6 (.slice none 0 0)).trans rfl
     have hKP:KP W9.heap.size (w.heap.size+1) W9 ((((((((((((((W9).setCell ⟨w.heap.size+1,0,none⟩ (.int .i64 ((d.kind:Int) - 10)))).setCell ⟨w.heap.size+1,1,none⟩ (.int .i64 n0))).setCell ⟨w.heap.size+1,2,none⟩ (.int .i64 n1))).setCell ⟨w.heap.size+1,3,none⟩ (.int .i64 (cW d.nums)))).setCell ⟨w.heap.size+1,4,none⟩ (.int .i64 d.by_))).setCell ⟨w.heap.size+1,5,none⟩ (.bool d.always))).setCell ⟨w.heap.size+1,6,none⟩ (.slice none 0 0)):=KP.set (KP.set (KP.set (KP.set (KP.set (KP.set (KP.set (KP.refl _ _ _) (.inl rfl) _) (.inl rfl) _) (.inl rfl) _) (.inl rfl) _) (.inl rfl) _) (.inl rfl) _) (.inl rfl) _
     generalize ((((((((((((((W9).setCell ⟨w.heap.size+1,0,none⟩ (.int .i64 ((d.kind:Int) - 10)))).setCell ⟨w.heap.size+1,1,none⟩ (.int .i64 n0))).setCell ⟨w.heap.size+1,2,none⟩ (.int .i64 n1))).setCell ⟨w.heap.size+1,3,none⟩ (.int .i64 (cW d.nums)))).setCell ⟨w.heap.size+1,4,none⟩ (.int .i64 d.by_))).setCell ⟨w.heap.size+1,5,none⟩ (.bool d.always))).setCell ⟨w.heap.size+1,6,none⟩ (.slice none 0 0))=W7 at g7 hKP⊢
     obtain⟨f0,f1,f2,f3,f4,f5,f6⟩:=cZ g7
     refine bodyPost_ret (v:= .agg #[.int .i64 ((d.kind:Int) - 10),.int .i64 n0,.int .i64 n1,.int .i64 (cW d.nums),.int .i64 d.by_,.bool d.always,.slice none 0 0]) ?_ rfl ?_
     ·simp[results,Tryz.f50,go_sem,f0,f1,f2,f3,f4,f5,f6]
     ·refine⟨.slice none 0 0,by rw[HRD.out,if_pos H14.out,HN1.out],?_,(HZk.out.trans ((hK9.below (by omega)).mono (by omega))).trans ((hKP.below (by have:=hK9.size;omega)).mono (Nat.le_succ _))⟩
      rw[HMs.out,if_neg H13.out]
      exact World.ownsRow_nil _ _ _ _
    ·have e14:((d.kind:Int)==14)=false:=by simp;omega
     go_upto_region 13 with (fail)
     have HG6:=aa HGk.out;have HI6:=aa HIk.out
     obtain⟨p0,p1,p2,p3,p4,p5,p6⟩:=cZ HG6.out
     obtain⟨q0,q1,q2,q3,q4,q5,q6⟩:=cZ HI6.out
     obtain⟨z0,z1,z2,z3,z4,z5,z6⟩:=jU HI6.out
     go_wp2_with fail
     have g7:((((((((((((((wr).setCell ⟨w.heap.size+1,0,none⟩ (.int .i64 ((d.kind:Int) - 10)))).setCell ⟨w.heap.size+1,1,none⟩ (.int .i64 n0))).setCell ⟨w.heap.size+1,2,none⟩ (.int .i64 0))).setCell ⟨w.heap.size+1,3,none⟩ (.int .i64 (cW d.nums)))).setCell ⟨w.heap.size+1,4,none⟩ (.int .i64 d.by_))).setCell ⟨w.heap.size+1,5,none⟩ (.bool d.always))).setCell ⟨w.heap.size+1,6,none⟩ (.slice none 0 0)).heap[w.heap.size+1]? =some (.cells #[.int .i64 ((d.kind:Int) - 10),.int .i64 n0,.int .i64 0,.int .i64 (cW d.nums),.int .i64 d.by_,.bool d.always,.slice none 0 0] 110 (0,0)):=(ay (ay (ay (ay (ay (ay (ay (HI6.out) 0 (.int .i64 ((d.kind:Int) - 10))) 1 (.int .i64 n0)) 2 (.int .i64 0)) 3 (.int .i64 (cW d.nums))) 4 (.int .i64 d.by_)) 5 (.bool d.always)) 6 (.slice none 0 0)).trans rfl
     have hKP:KP wr.heap.size (w.heap.size+1) wr ((((((((((((((wr).setCell ⟨w.heap.size+1,0,none⟩ (.int .i64 ((d.kind:Int) - 10)))).setCell ⟨w.heap.size+1,1,none⟩ (.int .i64 n0))).setCell ⟨w.heap.size+1,2,none⟩ (.int .i64 0))).setCell ⟨w.heap.size+1,3,none⟩ (.int .i64 (cW d.nums)))).setCell ⟨w.heap.size+1,4,none⟩ (.int .i64 d.by_))).setCell ⟨w.heap.size+1,5,none⟩ (.bool d.always))).setCell ⟨w.heap.size+1,6,none⟩ (.slice none 0 0)):=KP.set (KP.set (KP.set (KP.set (KP.set (KP.set (KP.set (KP.refl _ _ _) (.inl rfl) _) (.inl rfl) _) (.inl rfl) _) (.inl rfl) _) (.inl rfl) _) (.inl rfl) _) (.inl rfl) _
     generalize ((((((((((((((wr).setCell ⟨w.heap.size+1,0,none⟩ (.int .i64 ((d.kind:Int) - 10)))).setCell ⟨w.heap.size+1,1,none⟩ (.int .i64 n0))).setCell ⟨w.heap.size+1,2,none⟩ (.int .i64 0))).setCell ⟨w.heap.size+1,3,none⟩ (.int .i64 (cW d.nums)))).setCell ⟨w.heap.size+1,4,none⟩ (.int .i64 d.by_))).setCell ⟨w.heap.size+1,5,none⟩ (.bool d.always))).setCell ⟨w.heap.size+1,6,none⟩ (.slice none 0 0))=W7 at g7 hKP⊢
     obtain⟨f0,f1,f2,f3,f4,f5,f6⟩:=cZ g7
     refine bodyPost_ret (v:= .agg #[.int .i64 ((d.kind:Int) - 10),.int .i64 n0,.int .i64 0,.int .i64 (cW d.nums),.int .i64 d.by_,.bool d.always,.slice none 0 0]) ?_ rfl ?_
     ·simp[results,Tryz.f50,go_sem,f0,f1,f2,f3,f4,f5,f6]
     ·refine⟨.slice none 0 0,by rw[HRD.out,if_neg h14],?_,HZk.out.trans ((hKP.below (by omega)).mono (Nat.le_succ _))⟩
      rw[HMs.out,if_neg h13]
      exact World.ownsRow_nil _ _ _ _
def dX (Mb:Nat) (m:aC) (v:MV):Array Value:= #[.map (some Mb),v.s,v.f,v.r,v.m,v.l,v.i,.int .i64 m.dark,.int .i64 m.slots,.int .i64 m.reserve,.int .i64 m.failures,v.u]
def dz (w:World) (rb B M Mb:Nat) (m:aC):Prop:=rb<B∧B≤w.heap.size∧∃v,w.heap[rb]? =some (.cells (dX Mb m v) 101 (0,0))∧bI w B M m v
section
variable {w w':World} {rb B M Mb:Nat} {m:aC} {v:MV}
theorem dz.addS {s:ai} (hrb:rb<B) (hB:B≤w.heap.size) (hO:bI w B M m v) (hp:ev w rb B 101 (dX Mb m v) 1 9 1 v.s m.sites.length (m.sites.map de) [de s] w'):dz w' rb B (M+1) Mb {m with sites:=m.sites++[s]}∧KP B rb w w':=by
 obtain⟨v',h1,h2,h3,h4⟩:=hp
 exact⟨⟨hrb,aP hB h4.size,{v with s:=v'},h1,hO.addS hrb h4 h3 s h2⟩,h4.kp hB (fun k hk=>(World.ownsRow.lt hO.s_ k hk).1)⟩
theorem dz.addF {s:ai} (hrb:rb<B) (hB:B≤w.heap.size) (hO:bI w B M m v) (hp:ev w rb B 101 (dX Mb m v) 2 9 1 v.f m.feeds.length (m.feeds.map de) [de s] w'):dz w' rb B (M+1) Mb {m with feeds:=m.feeds++[s]}∧KP B rb w w':=by
 obtain⟨v',h1,h2,h3,h4⟩:=hp
 exact⟨⟨hrb,aP hB h4.size,{v with f:=v'},h1,hO.addF hrb h4 h3 s h2⟩,h4.kp hB (fun k hk=>(World.ownsRow.lt hO.f_ k hk).1)⟩
theorem dz.addR {x:eN} (hrb:rb<B) (hB:B≤w.heap.size) (hO:bI w B M m v) (hI:aj x.site∧aj x.feed) (hp:ev w rb B 101 (dX Mb m v) 3 128 3 v.r m.racks.length (m.racks.map nP).flatten (nP x) w'):dz w' rb B (M+1) Mb {m with racks:=m.racks++[x]}∧KP B rb w w':=by
 obtain⟨v',h1,h2,h3,h4⟩:=hp
 exact⟨⟨hrb,aP hB h4.size,{v with r:=v'},h1,hO.addR hrb h4 h3 x h2 hI⟩,h4.kp hB (fun k hk=>(World.ownsRow.lt hO.r_ k hk).1)⟩
theorem dz.addM {x:fR} (hrb:rb<B) (hB:B≤w.heap.size) (hO:bI w B M m v) (hI:aj x.rack∧aj x.cap) (hp:ev w rb B 101 (dX Mb m v) 4 130 3 v.m m.machs.length (m.machs.map nQ).flatten (nQ x) w'):dz w' rb B (M+1) Mb {m with machs:=m.machs++[x]}∧KP B rb w w':=by
 obtain⟨v',h1,h2,h3,h4⟩:=hp
 exact⟨⟨hrb,aP hB h4.size,{v with m:=v'},h1,hO.addM hrb h4 h3 x h2 hI⟩,h4.kp hB (fun k hk=>(World.ownsRow.lt hO.m_ k hk).1)⟩
theorem dz.addL {x:gq} (hrb:rb<B) (hB:B≤w.heap.size) (hO:bI w B M m v) (hI:aj x.a∧aj x.b∧aj x.cap) (hp:ev w rb B 101 (dX Mb m v) 5 132 3 v.l m.links.length (m.links.map nR).flatten (nR x) w'):dz w' rb B (M+1) Mb {m with links:=m.links++[x]}∧KP B rb w w':=by
 obtain⟨v',h1,h2,h3,h4⟩:=hp
 exact⟨⟨hrb,aP hB h4.size,{v with l:=v'},h1,hO.addL hrb h4 h3 x h2 hI⟩,h4.kp hB (fun k hk=>(World.ownsRow.lt hO.l_ k hk).1)⟩
theorem dz.addI {x:bQ} {o:Value} {rows:List (List Value)} (hrb:rb<B) (hB:B≤w.heap.size) (hO:bI w B M m v) (hrows:w.ownsRow B 135 7 v.i m.items.length rows.flatten) (hX:gG iB bQ.on lU w B rows m.items)
 (hp:ev w rb B 101 (dX Mb m v) 6 135 7 v.i m.items.length rows.flatten (iB x o) w') (hoo:w'.ownsRow B 3 1 o x.on.length (x.on.map (Value.int .i64))) (hI: ∀y∈x.on,aj y) (hG:lU x):dz w' rb B (M+1) Mb {m with items:=m.items++[x]}∧KP B rb w w':=by
 obtain⟨v',h1,h2,h3,h4⟩:=hp
 exact⟨⟨hrb,aP hB h4.size,{v with i:=v'},h1,hO.addI hrb h4 h3 x o rows hrows hX h2 hoo hI hG⟩,h4.kp hB (fun k hk=>(World.ownsRow.lt hrows k hk).1)⟩
theorem dz.addU {x:aU} {o:Value} {rows:List (List Value)} (hrb:rb<B) (hB:B≤w.heap.size) (hO:bI w B M m v) (hrows:w.ownsRow B 110 7 v.u m.rules.length rows.flatten) (hX:gG jC aU.ms lV w B rows m.rules)
 (hp:ev w rb B 101 (dX Mb m v) 11 110 7 v.u m.rules.length rows.flatten (jC x o) w') (hoo:w'.ownsRow B 3 1 o x.ms.length (x.ms.map (Value.int .i64))) (hI: ∀y∈x.ms,aj y) (hG:lV x):dz w' rb B (M+1) Mb {m with rules:=m.rules++[x]}∧KP B rb w w':=by
 obtain⟨v',h1,h2,h3,h4⟩:=hp
 exact⟨⟨hrb,aP hB h4.size,{v with u:=v'},h1,hO.addU hrb h4 h3 x o rows hrows hX h2 hoo hI hG⟩,h4.kp hB (fun k hk=>(World.ownsRow.lt hrows k hk).1)⟩
theorem bI.renum (h:bI w B M m v) (a b c e:Int) (hn:aj a∧aj b∧aj c∧aj e):bI w B M {m with dark:=a,slots:=b,reserve:=c,failures:=e} v:=
 ⟨h.s_,h.f_,h.r_,h.m_,h.l_,h.i_,h.u_,h.sf,h.len,h.rI,h.mI,h.lI,hn⟩
end
structure eV (w:World) (rb B M Mb qb mb Bu:Nat) (t:br) (d:ar) (m:aC) (rv nv u:Value):Prop where
 at_:dz w rb B M Mb m
 q:w.heap[qb]? =some (.cells #[ptr rb] 98 (0,0))
 mm:w.heap[mb]? =some (.cells #[.pointer (some ⟨rb,1,none⟩)] 181 (0,0))
 qB:qb<B
 mB:mb<B
 qne: ¬mb=rb
 fm:aZ dI w Mb (dr t)
 rvs:aI w rb rv d.refs
 nvs:aq w rb nv (d.nums.map fun x:Nat=>(x:Int))
 us:w.ownsRow Bu 3 1 u d.refs.length ((d.refs.map (bE t)).map (Value.int .i64))
 val:dF d=true
 Mle:M≤100000
 I: ∀s,aj (bE t s)
 byI:aj d.by_
theorem fq {n:Nat} (h:n≤1048576):aj (n:Int):=by constructor<;>omega
theorem Le {d:ar} (h:dF d=true): ∀k∈d.nums,k≤1048576:=by
 unfold dF at h
 rw[Bool.and_eq_true,List.all_eq_true] at h
 exact fun k hk=>by simpa using h.2 k hk
theorem kW {d:ar} (h:dF d=true) (i:Nat):aj (cS d.nums i):=by
 unfold cS
 rw[List.getD_eq_getElem?_getD]
 cases hg:d.nums[i]? with
 |none=>exact fq (by decide)
 |some k=>exact fq (Le h k (co hg))
section
variable {w:World} {rb B M Mb qb mb Bu:Nat} {t:br} {d:ar} {m:aC} {rv nv u:Value}
theorem eV.u_at (h:eV w rb B M Mb qb mb Bu t d m rv nv u) {i:Nat} (hi:i<d.refs.length): ∃ab ao c,u= .slice (some ⟨ab,ao,none⟩) d.refs.length c∧(∀j,j<d.refs.length→w.cell? ⟨ab,ao+j,none⟩=some (.int .i64 (cF (d.refs.map (bE t)) j))):=by
 obtain⟨A,c,he,_,_,h3⟩:=Sl.of_own h.us
 obtain⟨ab,ao,rfl,_,hc⟩:=h3 (by intro e;have:=congrArg List.length e;simp at this;rw[this] at hi;simp at hi)
 refine⟨ab,ao,c,by rw[he];simp,fun j hj=>hc j _ ?_⟩
 have:(d.refs.map (bE t))[j]? =some (cF (d.refs.map (bE t)) j):=by
  unfold cF
  rw[List.getD_eq_getElem?_getD,List.getElem?_eq_getElem (by rw[List.length_map];exact hj)]
  rfl
 rw[List.getElem?_map,this]
 rfl
theorem eV.n_at (h:eV w rb B M Mb qb mb Bu t d m rv nv u) (hi:0<d.nums.length): ∃b o c,nv= .slice (some ⟨b,o,none⟩) d.nums.length c∧b<rb∧(∀j,j<d.nums.length→w.cell? ⟨b,o+j,none⟩=some (.int .i64 (cS d.nums j))):=by
 obtain⟨NA,nn,nc,rfl,hnn,_,_⟩:=h.nvs.sk.form
 obtain⟨A,c,he,_,_,h3⟩:=h.nvs.1
 obtain⟨b,o,rfl,hb,hc⟩:=h3 (by intro e;have:=congrArg List.length e;simp at this;rw[this] at hi;simp at hi)
 refine⟨b,o,c,by rw[he];simp,hb,fun j hj=>hc j _ ?_⟩
 have:(d.nums.map fun x:Nat=>(x:Int))[j]? =some (cS d.nums j):=by
  unfold cS
  rw[List.getElem?_map,List.getD_eq_getElem?_getD,List.getElem?_eq_getElem hj]
  rfl
 rw[List.getElem?_map,this]
 rfl
theorem eV.ntI64 (h:eV w rb B M Mb qb mb Bu t d m rv nv u) (i:Nat):aj (cF (d.refs.map (bE t)) i):=by
 unfold cF
 rw[List.getD_eq_getElem?_getD,List.getElem?_map]
 cases d.refs[i]? with
 |none=>exact fq (n:=0) (by decide)
 |some s=>exact h.I s
def jc (w:World) (rb B M Mb:Nat) (m':aC) (e:Ending) (w':World):Prop:=(∃x,e= .returned x)∧dz w' rb B (M+1) Mb m'∧KP B rb w w'
theorem Lf (h:eV w rb B M Mb qb mb Bu t d m rv nv u) (hk:d.kind=0):Calls prog 135 #[.agg #[.int .i64 d.kind,.string (bs d.name),rv,nv,.int .i64 d.by_,.bool d.always],u,ptr mb] w (jc w rb B M Mb (cb t m d)):=by
 obtain⟨hrb,hB,v,hr,hO⟩:=h.at_
 obtain⟨RA,rn,rc,rfl,_,_,_⟩:=h.rvs.sk.form
 obtain⟨NA,nn,nc,rfl,_,_,_⟩:=h.nvs.sk.form
 obtain⟨UA,um,uc,rfl⟩:=bT h.us
 have e:cb t m d={m with sites:=m.sites++[d.name]}:=by simp only[cb,hk]
 rw[e]
 refine(JC rb mb B 0 0 0 0 d RA NA UA rn rc nn nc um m.sites.length uc 0 0 0 (dX Mb m v) _ v.s _ w hr rfl h.mm hrb h.mB hB hO.s_ (by have:=hO.len;have:=h.Mle;omega)).mono ?_
 rintro e w' ⟨h1,h2⟩
 exact⟨h1,dz.addS hrb hB hO h2⟩
theorem Lg (h:eV w rb B M Mb qb mb Bu t d m rv nv u) (hk:d.kind=1):Calls prog 136 #[.agg #[.int .i64 d.kind,.string (bs d.name),rv,nv,.int .i64 d.by_,.bool d.always],u,ptr mb] w (jc w rb B M Mb (cb t m d)):=by
 obtain⟨hrb,hB,v,hr,hO⟩:=h.at_
 obtain⟨RA,rn,rc,rfl,_,_,_⟩:=h.rvs.sk.form
 obtain⟨NA,nn,nc,rfl,_,_,_⟩:=h.nvs.sk.form
 obtain⟨UA,um,uc,rfl⟩:=bT h.us
 have e:cb t m d={m with feeds:=m.feeds++[d.name]}:=by simp only[cb,hk]
 rw[e]
 refine(JD rb mb B 0 0 0 0 d RA NA UA rn rc nn nc um m.feeds.length uc 0 0 0 (dX Mb m v) _ v.f _ w hr rfl h.mm hrb h.mB hB hO.f_ (by have:=hO.len;have:=h.Mle;omega)).mono ?_
 rintro e w' ⟨h1,h2⟩
 exact⟨h1,dz.addF hrb hB hO h2⟩
theorem Lh (h:eV w rb B M Mb qb mb Bu t d m rv nv u) (hk:d.kind=2):Calls prog 137 #[.agg #[.int .i64 d.kind,.string (bs d.name),rv,nv,.int .i64 d.by_,.bool d.always],u,ptr mb] w (jc w rb B M Mb (cb t m d)):=by
 obtain⟨hrb,hB,v,hr,hO⟩:=h.at_
 have hl:=(gJ h.val).2.2.2.2.1 hk
 obtain⟨RA,rn,rc,rfl,_,_,_⟩:=h.rvs.sk.form
 obtain⟨NA,nn,nc,rfl,_,_,_⟩:=h.nvs.sk.form
 obtain⟨ab,ao,c,rfl,hc⟩:=h.u_at (i:=0) (by omega)
 have e:cb t m d={m with racks:=m.racks++[⟨d.name,cF (d.refs.map (bE t)) 0,cF (d.refs.map (bE t)) 1⟩]}:=by simp only[cb,hk]
 rw[e,hl]
 refine(JE rb mb B ab ao 0 0 d RA NA none rn rc nn nc 0 m.racks.length c _ _ 0 (dX Mb m v) _ v.r _ w hr rfl h.mm hrb h.mB hB hO.r_ (by have:=hO.len;have:=h.Mle;omega) (fun e=>bk hO.r_ h.us (by decide) ab e rfl) (hc 0 (by omega)) (hc 1 (by omega))).mono ?_
 rintro e w' ⟨h1,h2⟩
 exact⟨h1,dz.addR hrb hB hO ⟨h.ntI64 0,h.ntI64 1⟩ h2⟩
theorem Li (h:eV w rb B M Mb qb mb Bu t d m rv nv u) (hk:d.kind=3):Calls prog 138 #[.agg #[.int .i64 d.kind,.string (bs d.name),rv,nv,.int .i64 d.by_,.bool d.always],u,ptr mb] w (jc w rb B M Mb (cb t m d)):=by
 obtain⟨hrb,hB,v,hr,hO⟩:=h.at_
 have hl:=(gJ h.val).2.2.2.2.2.1 hk
 obtain⟨RA,rn,rc,rfl,_,_,_⟩:=h.rvs.sk.form
 obtain⟨nb,no,nc,rfl,hnb,hn⟩:=h.n_at (by omega)
 obtain⟨ab,ao,c,rfl,hc⟩:=h.u_at (i:=0) (by omega)
 have e:cb t m d={m with machs:=m.machs++[⟨d.name,cF (d.refs.map (bE t)) 0,cS d.nums 0⟩]}:=by simp only[cb,hk]
 rw[e,hl.1,hl.2]
 refine(JF rb mb B ab ao nb no d RA none none rn rc 0 nc 0 m.machs.length c _ 0 _ (dX Mb m v) _ v.m _ w hr rfl h.mm hrb h.mB hB hO.m_ (by have:=hO.len;have:=h.Mle;omega) (fun e=>bk hO.m_ h.us (by decide) ab e rfl) (hc 0 (by omega)) (Nat.lt_trans hnb hrb) (hn 0 (by omega))).mono ?_
 rintro e w' ⟨h1,h2⟩
 exact⟨h1,dz.addM hrb hB hO ⟨h.ntI64 0,kW h.val 0⟩ h2⟩
theorem Lj {a b:Int} (ha:aj a) (hb:aj b):aj (min a b)∧aj (max a b):=by
 obtain⟨a1,a2⟩:=ha
 obtain⟨b1,b2⟩:=hb
 constructor<;>constructor<;>omega
theorem Lk (h:eV w rb B M Mb qb mb Bu t d m rv nv u) (hk:d.kind=4):Calls prog 139 #[.agg #[.int .i64 d.kind,.string (bs d.name),rv,nv,.int .i64 d.by_,.bool d.always],u,ptr mb] w (jc w rb B M Mb (cb t m d)):=by
 obtain⟨hrb,hB,v,hr,hO⟩:=h.at_
 have hl:=(gJ h.val).2.2.2.2.2.2.1 hk
 obtain⟨RA,rn,rc,rfl,_,_,_⟩:=h.rvs.sk.form
 obtain⟨nb,no,nc,rfl,hnb,hn⟩:=h.n_at (by omega)
 obtain⟨ab,ao,c,rfl,hc⟩:=h.u_at (i:=0) (by omega)
 have e:cb t m d={m with links:=m.links++[⟨min (cF (d.refs.map (bE t)) 0) (cF (d.refs.map (bE t)) 1),max (cF (d.refs.map (bE t)) 0) (cF (d.refs.map (bE t)) 1),cS d.nums 0⟩]}:=by simp only[cb,hk]
 rw[e,hl.1,hl.2]
 have hmm:=Lj (h.ntI64 0) (h.ntI64 1)
 refine(JG rb mb B ab ao nb no d RA none none rn rc 0 nc 0 m.links.length c _ _ _ (dX Mb m v) _ v.l _ w hr rfl h.mm hrb h.mB hB hO.l_ (by have:=hO.len;have:=h.Mle;omega) (fun e=>bk hO.l_ h.us (by decide) ab e rfl) (hc 0 (by omega)) (hc 1 (by omega)) (Nat.lt_trans hnb hrb) (hn 0 (by omega))).mono ?_
 rintro e w' ⟨h1,h2⟩
 exact⟨h1,dz.addL hrb hB hO ⟨hmm.1,hmm.2,kW h.val 0⟩ h2⟩
theorem ua (h:eV w rb B M Mb qb mb Bu t d m rv nv u) {kind count:Int} (h1:aj kind) (h2:aj count):lU (dS t d kind count)∧(∀y∈(dS t d kind count).on,aj y)∧(dS t d kind count).on=fS (d.refs.map (bE t)):=by
 have hnn: ∀i,aj (cS (d.nums.drop (d.nums.length - 3)) i):=fun i=>by
  have:=kW h.val (d.nums.length - 3+i)
  unfold cS at this⊢
  rw[List.getD_eq_getElem?_getD] at this⊢
  rw[List.getElem?_drop]
  exact this
 refine⟨⟨h1,h2,hnn 0,hnn 1,hnn 2⟩,fun y hy=> ?_,rfl⟩
 have hy':y∈d.refs.map (bE t):=(lX _).mem_iff.1 hy
 obtain⟨s,_,rfl⟩:=List.mem_map.1 hy'
 exact h.I s
theorem Ll {B:Nat} {l:List Int} {o:Value} {n:Nat} (h:w.ownsRow B 3 1 o n (l.map (Value.int .i64))) (hn:l.length=n):w.ownsRow B 3 1 o l.length (l.map (Value.int .i64)):=by rw[hn];exact h
theorem Lm (h:eV w rb B M Mb qb mb Bu t d m rv nv u) (hk:d.kind=5):Calls prog 140 #[.agg #[.int .i64 d.kind,.string (bs d.name),rv,nv,.int .i64 d.by_,.bool d.always],u,ptr mb,ptr qb] w (jc w rb B M Mb (cb t m d)):=by
 obtain⟨hrb,hB,v,hr,hO⟩:=h.at_
 have hV:=gJ h.val
 have hl:=hV.2.2.2.2.2.2.2.1 hk
 obtain⟨rows,hrows,hX⟩:=hO.i_
 obtain⟨A,c,he,_⟩:=Sl.of_own h.us
 rw[List.length_map,List.length_map] at he
 have e:cb t m d={m with items:=m.items++[dS t d 0 d.refs.length]}:=by simp only[cb,hk,List.length_map]
 rw[e,he]
 obtain⟨g1,g2,g3⟩:=ua h (kind:=0) (count:=d.refs.length) (fq (n:=0) (by decide)) (fq (by have:=hV.2.2.1;omega))
 refine(Ko rb mb qb Mb B t d A d.refs.length c 0 0 rv nv (dX Mb m v) _ v.i m.items.length _ w hr rfl rfl h.fm (h.rvs.more (bN hrb)) (h.nvs.more (bN hrb)) (by have:=hV.2.2.1;omega) (by omega) h.mm h.q hrb h.mB h.qB hB hrows (by have:=hO.len;have:=h.Mle;omega)).mono ?_
 exact ud
theorem Ln (h:eV w rb B M Mb qb mb Bu t d m rv nv u) (hk:d.kind=6):Calls prog 142 #[.agg #[.int .i64 d.kind,.string (bs d.name),rv,nv,.int .i64 d.by_,.bool d.always],u,ptr mb,ptr qb] w (jc w rb B M Mb (cb t m d)):=by
 obtain⟨hrb,hB,v,hr,hO⟩:=h.at_
 have hV:=gJ h.val
 have hl:=hV.2.2.2.2.2.2.2.2.1 hk
 obtain⟨rows,hrows,hX⟩:=hO.i_
 obtain⟨A,c,he,_⟩:=Sl.of_own h.us
 rw[List.length_map,List.length_map] at he
 have e:cb t m d={m with items:=m.items++[dS t d 1 (cS d.nums 0)]}:=by simp only[cb,hk]
 rw[e,he]
 obtain⟨g1,g2,g3⟩:=ua h (kind:=1) (count:=cS d.nums 0) (fq (n:=1) (by decide)) (kW h.val 0)
 refine(Kp rb mb qb Mb B t d A d.refs.length c 1 (cS d.nums 0) rv nv (dX Mb m v) _ v.i m.items.length _ w hr rfl rfl h.fm (h.rvs.more (bN hrb)) (h.nvs.more (bN hrb)) (by have:=hV.2.2.1;omega) (by omega) (by unfold cS;rw[List.getElem?_map,List.getD_eq_getElem?_getD,List.getElem?_eq_getElem (by omega)];rfl) h.mm h.q hrb h.mB h.qB hB hrows (by have:=hO.len;have:=h.Mle;omega)).mono ?_
 exact ud
theorem Lo (h:eV w rb B M Mb qb mb Bu t d m rv nv u) (hk:d.kind=7):Calls prog 143 #[.agg #[.int .i64 d.kind,.string (bs d.name),rv,nv,.int .i64 d.by_,.bool d.always],u,ptr mb,ptr qb] w (jc w rb B M Mb (cb t m d)):=by
 obtain⟨hrb,hB,v,hr,hO⟩:=h.at_
 have hV:=gJ h.val
 have hl:=hV.2.2.2.2.2.2.2.2.2.1 hk
 obtain⟨rows,hrows,hX⟩:=hO.i_
 obtain⟨A,c,he,_⟩:=Sl.of_own h.us
 rw[List.length_map,List.length_map] at he
 have e:cb t m d={m with items:=m.items++[dS t d 2 1]}:=by simp only[cb,hk]
 rw[e,he]
 obtain⟨g1,g2,g3⟩:=ua h (kind:=2) (count:=1) (fq (n:=2) (by decide)) (fq (n:=1) (by decide))
 refine(Kq rb mb qb Mb B t d A d.refs.length c 0 0 rv nv (dX Mb m v) _ v.i m.items.length _ w hr rfl rfl h.fm (h.rvs.more (bN hrb)) (h.nvs.more (bN hrb)) (by have:=hV.2.2.1;omega) (by omega) h.mm h.q hrb h.mB h.qB hB hrows (by have:=hO.len;have:=h.Mle;omega)).mono ?_
 exact ud
theorem Lp (h:eV w rb B M Mb qb mb Bu t d m rv nv u) (hk:d.kind=8) (hBu:B≤Bu):Calls prog 144 #[.agg #[.int .i64 d.kind,.string (bs d.name),rv,nv,.int .i64 d.by_,.bool d.always],u,ptr mb] w (jc w rb B M Mb (cb t m d)):=by
 obtain⟨hrb,hB,v,hr,hO⟩:=h.at_
 have hl:=(gJ h.val).2.2.2.2.2.2.2.2.2.2.1 hk
 obtain⟨RA,rn,rc,rfl,_,_,_⟩:=h.rvs.sk.form
 obtain⟨nb,no,nc,rfl,hnb,hn⟩:=h.n_at (by omega)
 obtain⟨ab,ao,c,rfl,hc⟩:=h.u_at (i:=0) (by omega)
 have hab:=(World.ownsRow.lt h.us ab rfl).1
 have e:cb t m d={m with dark:=cF (d.refs.map (bE t)) 0,slots:=cS d.nums 0,reserve:=cS d.nums 1}:=by simp only[cb,hk]
 rw[e,hl.1,hl.2]
 refine(JB rb mb ab ao nb no d RA rn rc 0 nc 0 c _ _ _ (dX Mb m v) _ _ _ _ w hr rfl rfl rfl h.mm h.qne (fun e=>by omega) (fun e=>by omega) (hc 0 (by omega)) (hn 0 (by omega)) (hn 1 (by omega))).mono ?_
 rintro e w' ⟨h1,h2,h3⟩
 exact⟨h1,⟨hrb,aP hB h3.size,v,h2,((hO.gp (GP.of_kp h3) hrb).more (Nat.le_succ _)).renum _ _ _ _ ⟨h.ntI64 0,kW h.val 0,kW h.val 1,hO.nums.2.2.2⟩⟩,h3.mono hB⟩
theorem Lq (h:eV w rb B M Mb qb mb Bu t d m rv nv u) (hk:d.kind=9):Calls prog 145 #[.agg #[.int .i64 d.kind,.string (bs d.name),rv,nv,.int .i64 d.by_,.bool d.always],u,ptr mb] w (jc w rb B M Mb (cb t m d)):=by
 obtain⟨hrb,hB,v,hr,hO⟩:=h.at_
 obtain⟨RA,rn,rc,rfl,_,_,_⟩:=h.rvs.sk.form
 obtain⟨NA,nn,nc,rfl,_,_,_⟩:=h.nvs.sk.form
 obtain⟨UA,um,uc,rfl⟩:=bT h.us
 have e:cb t m d={m with failures:=d.by_}:=by simp only[cb,hk]
 rw[e]
 refine(JA rb mb d RA NA UA rn rc nn nc um uc (dX Mb m v) _ _ w hr rfl h.mm).mono ?_
 rintro e w' ⟨h1,h2,h3⟩
 exact⟨h1,⟨hrb,aP hB h3.size,v,h2,((hO.gp (GP.of_kp h3) hrb).more (Nat.le_succ _)).renum _ _ _ _ ⟨hO.nums.1,hO.nums.2.1,hO.nums.2.2.1,h.byI⟩⟩,h3.mono hB⟩
end
end
section
open Go Go.RowKit Tryz
theorem ue (b r:List ar) (t:br) (d:ar):dm b t (d::r)=
 if dF d=false then .error (b.length,1) else if kO t b d=true then .error (b.length,5)
 else dm (b++[d]) (if d.name=[] then t else t++[(d.name,d.kind,fF (b++[d]) (bM d.kind))]) r:=by
 cases hv:dF d with
 |false=>rw[zT hv];rfl
 |true=>
  cases hb:kO t b d with
  |true=>rw[zU hv hb];rfl
  |false=>rw[zV hv hb];rfl
theorem uf: ∀(r b:List ar) (t:br) (x:Nat×Nat),dm b t r= .error x→x.2=1∨x.2=5
 |[],b,t,x,h=>by rw[ti] at h;cases h
 |d::r,b,t,x,h=>by
  rw[ue] at h
  split at h
  ·injection h with h;subst h;exact .inl rfl
  ·split at h
   ·injection h with h;subst h;exact .inr rfl
   ·exact uf r _ _ x h
theorem AQ: ∀(r b:List ar) (t t':br),dm b t r= .ok t'→∀d∈r,dF d=true
 |[],b,t,t',h,d,hd=>by simp at hd
 |x::r,b,t,t',h,d,hd=>by
  rw[ue] at h
  split at h
  ·cases h
  ·split at h
   ·cases h
   ·rename_i h1 h2
    rcases List.mem_cons.1 hd with rfl|hd
    ·simpa using h1
    ·exact AQ r _ _ t' h d hd
theorem AR: ∀(r b:List ar) (t t':br),dm b t r= .ok t'→(∀x∈t,x.2.2≤b.length)→∀x∈t',x.2.2≤b.length+r.length
 |[],b,t,t',h,ht,x,hx=>by
  rw[ti] at h
  injection h with h
  subst h
  exact aP (ht x hx) (Nat.le_add_right _ _)
 |d::r,b,t,t',h,ht,x,hx=>by
  rw[ue] at h
  split at h
  ·cases h
  ·split at h
   ·cases h
   ·have:=AR r _ _ t' h (fun y hy=>by
     rw[List.length_append,List.length_singleton]
     split at hy
     ·exact Nat.le_succ_of_le (ht y hy)
     ·rcases List.mem_append.1 hy with hy|hy
      ·exact Nat.le_succ_of_le (ht y hy)
      ·rw[List.mem_singleton.1 hy]
       have:=List.length_filter_le (fun x:ar=>decide (bM x.kind=bM d.kind)) (b++[d])
       rw[List.length_append,List.length_singleton] at this
       exact this) x hx
    simp only[List.length_append,List.length_cons,List.length_nil] at this⊢
    omega
theorem Lr {l:List ar} {t:br} (h:dm [] [] l= .ok t) (hl:l.length≤1000000) (s:ai):aj (bE t s):=by
 unfold bE dR
 cases hf:t.find? (fun x=>decide (x.1=s)) with
 |none=>exact fq (n:=0) (by decide)
 |some x=>
  have:=AR l [] [] t h (fun x hx=>by simp at hx) x (List.mem_of_find?_eq_some hf)
  exact fq (n:=x.2.2) (by simp at this;omega)
theorem AS {t:br} {i:Nat} {m:aC} {d:ar} {r:List ar} (h: ¬ez t d=0):fH t i m (d::r)= .error (i,ez t d):=by rw[fH,if_pos h]
theorem AT {t:br} {i:Nat} {m:aC} {d:ar} {r:List ar} (h:ez t d=0):fH t i m (d::r)=fH t (i+1) (cb t m d) r:=by rw[fH,if_neg (by simp[h])]
theorem Ls {l:List ar} {x:Nat×Nat} (h:dm [] [] l= .error x):dL l= .error x:=by unfold dL;rw[h]
theorem Lt {l:List ar} {t:br} {x:Nat×Nat} (h:dm [] [] l= .ok t) (h2:fH t 0 {} l= .error x):dL l= .error x:=by unfold dL;rw[h];simp only[h2]
theorem Lu {l:List ar} {t:br} {m:aC} (h:dm [] [] l= .ok t) (h2:fH t 0 {} l= .ok m) (h3:(l.any fun d=>decide (d.kind=8))=false):dL l= .error (l.length,6):=by unfold dL;rw[h];simp only[h2,h3];rfl
theorem Lv {l:List ar} {t:br} {m:aC} (h:dm [] [] l= .ok t) (h2:fH t 0 {} l= .ok m) (h3:(l.any fun d=>decide (d.kind=8))=true):dL l=if dQ m then .ok m else .error (l.length,2):=by unfold dL;rw[h];simp only[h2,h3];rfl
theorem Lw {t:br} {d:ar} (hv:dF d=true) (hI: ∀s,aj (bE t s)) (hby:aj d.by_):lV (gO t d)∧∀y∈(gO t d).ms,aj y:=by
 have hnt: ∀i,aj (cF (d.refs.map (bE t)) i):=fun i=>by
  unfold cF
  rw[List.getD_eq_getElem?_getD,List.getElem?_map]
  cases d.refs[i]? with
  |none=>exact fq (n:=0) (by decide)
  |some s=>exact hI s
 have hk:=(gJ hv).1
 refine⟨⟨⟨?_,?_⟩,hnt 0,?_,?_,hby⟩,fun y hy=> ?_⟩
 ·show -9223372036854775808≤(d.kind:Int) - 10;omega
 ·show(d.kind:Int) - 10≤9223372036854775807;omega
 ·show aj (if d.kind=14 then cF (d.refs.map (bE t)) 1 else 0)
  split
  ·exact hnt 1
  ·exact fq (n:=0) (by decide)
 ·show aj (cS (d.nums.drop (d.nums.length - 1)) 0)
  have:=kW hv (d.nums.length - 1)
  unfold cS at this⊢
  rw[List.getD_eq_getElem?_getD] at this⊢
  rw[List.getElem?_drop]
  exact this
 ·have hy':y∈(if d.kind=13 then fS ((d.refs.map (bE t)).drop 1) else[]):=hy
  split at hy'
  ·have h2:=(lX _).mem_iff.1 hy'
   obtain⟨s,_,rfl⟩:=List.mem_map.1 (List.mem_of_mem_drop h2)
   exact hI s
  ·simp at hy'
theorem Ly {t:br} {m:aC} {d:ar} (h:10≤d.kind):cb t m d={m with rules:=m.rules++[gO t d]}:=by
 obtain⟨kind,nm,rf,nu,b,al⟩:=d
 dsimp only at h
 match kind,h with
 |k+10,_=>rfl
theorem bI.nil_ (w:World) (B:Nat):bI w B 0 {} ⟨.slice none 0 0,.slice none 0 0,.slice none 0 0,.slice none 0 0,.slice none 0 0,.slice none 0 0,.slice none 0 0⟩:=
 ⟨World.ownsRow_nil _ _ _ _,World.ownsRow_nil _ _ _ _,World.ownsRow_nil _ _ _ _,World.ownsRow_nil _ _ _ _,World.ownsRow_nil _ _ _ _,⟨[],World.ownsRow_nil _ _ _ _,rfl,fun j x h=>by simp at h⟩,⟨[],World.ownsRow_nil _ _ _ _,rfl,fun j x h=>by simp at h⟩,
  fun k h=>by simp[Value.ownBlock] at h,by simp,fun x h=>by simp at h,fun x h=>by simp at h,fun x h=>by simp at h,⟨fq (n:=0) (by decide),fq (n:=0) (by decide),fq (n:=0) (by decide),fq (n:=0) (by decide)⟩⟩
end
end Go.Proofs.YthnkonlbfogkgaaGreatDoor
