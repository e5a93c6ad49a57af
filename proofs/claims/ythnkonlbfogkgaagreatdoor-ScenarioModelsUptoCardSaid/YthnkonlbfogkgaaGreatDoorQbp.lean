/- A part of the proof. -/
import Derived.Test.YthnkonlbfogkgaaGreatDoorQbo
set_option linter.unusedVariables false
set_option linter.unusedSimpArgs false
set_option maxRecDepth 100000
set_option maxHeartbeats 32000000
namespace Go.Proofs.YthnkonlbfogkgaaGreatDoor
section
open Go Go.RowKit Go.MapKept Tryz
theorem pQ {w:World} {B B':Nat} {e:TypeId} {size:Nat} {v:Value} {n:Nat} {xs:List Value} (h:w.ownsRow B e size v n xs) (hB:B'≤B):w.ownsRow B' e size v n xs:=
 ⟨h.1,h.2.imp id fun⟨g,cap,cur,e1,hb,hrest⟩=>⟨g,cap,cur,e1,aP hB hb,hrest⟩⟩
theorem Ko (rb mb pb Mb B:Nat) (t:br) (d:ar) (A:Option Addr) (nl c m:Nat) (k2:Int) (rv nv:Value) (C:Array Value) (T:TypeId) (v:Value) (n:Nat) (xs:List Value) (w:World) (hr:w.heap[rb]? =some (.cells C T (0,0))) (hC0:C[0]? =some (.map (some Mb))) (hC:C[6]? =some v)
 (hM:aZ dI w Mb (dr t)) (hrv:aI w B rv d.refs) (hnv:aq w B nv (d.nums.map fun x:Nat=>(x:Int))) (hl:d.refs.length≤100000) (hmn:d.nums.length=m+3)
 (hm:w.heap[mb]? =some (.cells #[.pointer (some ⟨rb,1,none⟩)] 181 (0,0))) (hp:w.heap[pb]? =some (.cells #[ptr rb] 98 (0,0))) (hrB:rb<B) (hmB:mb<B) (hpB:pb<B) (hBw:B≤w.heap.size) (hown:w.ownsRow B 135 7 v n xs) (hn:n≤1000000):
 Calls prog 140 #[.agg #[.int .i64 d.kind,.string (bs d.name),rv,nv,.int .i64 d.by_,.bool d.always],.slice A nl c,ptr mb,ptr pb] w fun e w'=>(∃u,e= .returned u)∧∃o,ev w rb B T C 6 135 7 v n xs (iB (dS t d 0 nl) o) w'∧w'.ownsRow w.heap.size 3 1 o d.refs.length ((fS (d.refs.map (bE t))).map (Value.int .i64)):=by
 refine tI fun i0 hi hz0 hz1 hz2 hlt HLT=> ?_
 have hvr:v.ownBlock≠some rb:=fun e=>by have:=(hlt rb e).1;omega
 have hvm:v.ownBlock≠some mb:=fun e=>by have:=(hlt mb e).1;omega
 have hvp:v.ownBlock≠some pb:=fun e=>by have:=(hlt pb e).1;omega
 have hvx:v.ownBlock≠some w.heap.size:=fun e=>by have:=(hlt _ e).2;omega
 obtain⟨RA,rn,rc,rfl,hrn,_,_⟩:=hrv.sk.form
 obtain⟨NA,nn,nc,rfl,hnn,_,_⟩:=hnv.sk.form
 rw[List.length_map,hmn] at hnn
 subst hnn
 obtain⟨k0,hk0⟩: ∃k0,d.nums[0]? =some k0:=⟨_,List.getElem?_eq_getElem (by omega)⟩
 obtain⟨qb,qo,rfl,hqB,hcq⟩:=aq.cell hnv (j:=0) (x:=k0) (by rw[List.getElem?_map,hk0];rfl)
 rw[Nat.add_zero] at hcq
 have hvq:v.ownBlock≠some qb:=fun e=>by have:=(hlt qb e).1;omega
 have HUn:=aa (fun W (hW:Below w.heap.size w W)=>tG rb Mb t d 0 nl m (.slice RA rn rc) (.slice (some ⟨qb,qo,none⟩) (m+3) nc) W ((hW.cell (p:=⟨rb,0,none⟩) (aF hrB hBw)).trans (af hr hC0)) (hM.later hW) ((hrv.below hW hBw).more (aP hBw hW.size)) ((hnv.below hW hBw).more (aP hBw hW.size)) hl hmn)
 have HU:=aa (fun o=>bQ.vals_def (dS t d 0 nl) o)
 simp only[ptr] at HUn hp⊢
 generalize dS t d 0 nl=u at HUn HU
 have HRn:=aa hrn
 clear hrv hnv hM hl hmn hrn hk0
 go_enter func140,ntmps140
 go_upto_region 1 with (fail)
 refine tJ ?_
 intro W1 ⟨hBW,hxW⟩
 have hzW:=hBW.size
 have hb0:(0:Int)<(m:Int)+3:=by omega
 obtain⟨x0,x1,x2,x3,x4,x5⟩:=iq hxW
 refine jB fun hrW c0=> ?_
 refine tK fun c1 c2=> ?_
 refine tL fun HOW HUn=> ?_
 have HBW:=aa hBW;have HrW:=aa hrW
 clear hBW hxW hrW hr hm hp hC hC0 hown hlt hcq
 go_wp2_with fail
 refine bP (S:=fun w'=>w'.cell? ⟨mb,0,none⟩=some (.pointer (some ⟨rb,1,none⟩))∧w'.cell? ⟨rb,6,none⟩=some (v)∧w'.cell? ⟨pb,0,none⟩=some (.pointer (some ⟨rb,0,none⟩))∧w'.cell? ⟨w.heap.size,0,none⟩=some (.int .i64 d.kind)∧w'.cell? ⟨w.heap.size,1,none⟩=some (.string (bs d.name))∧w'.cell? ⟨w.heap.size,2,none⟩=some (.slice RA rn rc)∧w'.cell? ⟨w.heap.size,3,none⟩=some (.slice (some ⟨qb,qo,none⟩) (m+3) nc)∧w'.cell? ⟨w.heap.size,4,none⟩=some (.int .i64 d.by_)∧w'.cell? ⟨w.heap.size,5,none⟩=some (.bool d.always)) 12 15 (by exact⟨c0,c1,c2,x0,x1,x2,x3,x4,x5⟩) fun hS=> ?_
 iterate 9 refine gP 15 6 ?_
 refine cP 9 fun K hK=> ?_
 go_simp
 refine(HUn.out _ (au (B0 W1))).mono ?_
 rintro e w4 ⟨o,rfl,ho,hb4⟩
 obtain⟨OA,om,oc,rfl⟩:=bT ho
 refine tM fun HB4 HO4 HOW4=> ?_
 rw[HU.out]
 clear ho hb4
 try go_simp
 clear hS
 refine Ay fun hS=> ?_
 clear hK
 refine ak ?_
 refine cP 10 fun K hK=> ?_
 go_simp
 refine Az fun hS=> ?_
 clear hK
 refine ak ?_
 refine cP 11 fun K hK=> ?_
 refine tO ?_
 intro gg cap w3 hown3 hgrow hat hlt
 refine AA fun hS=> ?_
 clear hK
 refine ak ?_
 refine cQ 12 fun K hK=> ?_
 go_simp
 refine hK.out _ _ ?_
 clear hK
 refine ak ?_
 refine cQ 13 fun K hK=> ?_
 go_simp
 refine hK.out _ _ ?_
 clear hK
 refine ak ?_
 refine tQ fun f1=> ?_
 refine cQ 14 fun K hK=> ?_
 exact tR
theorem Kp (rb mb pb Mb B:Nat) (t:br) (d:ar) (A:Option Addr) (nl c m:Nat) (k2:Int) (rv nv:Value) (C:Array Value) (T:TypeId) (v:Value) (n:Nat) (xs:List Value) (w:World) (hr:w.heap[rb]? =some (.cells C T (0,0))) (hC0:C[0]? =some (.map (some Mb))) (hC:C[6]? =some v)
 (hM:aZ dI w Mb (dr t)) (hrv:aI w B rv d.refs) (hnv:aq w B nv (d.nums.map fun x:Nat=>(x:Int))) (hl:d.refs.length≤100000) (hmn:d.nums.length=m+3) (hk2:(d.nums.map fun x:Nat=>(x:Int))[0]? =some k2)
 (hm:w.heap[mb]? =some (.cells #[.pointer (some ⟨rb,1,none⟩)] 181 (0,0))) (hp:w.heap[pb]? =some (.cells #[ptr rb] 98 (0,0))) (hrB:rb<B) (hmB:mb<B) (hpB:pb<B) (hBw:B≤w.heap.size) (hown:w.ownsRow B 135 7 v n xs) (hn:n≤1000000):
 Calls prog 142 #[.agg #[.int .i64 d.kind,.string (bs d.name),rv,nv,.int .i64 d.by_,.bool d.always],.slice A nl c,ptr mb,ptr pb] w fun e w'=>(∃u,e= .returned u)∧∃o,ev w rb B T C 6 135 7 v n xs (iB (dS t d 1 k2) o) w'∧w'.ownsRow w.heap.size 3 1 o d.refs.length ((fS (d.refs.map (bE t))).map (Value.int .i64)):=by
 refine tI fun i0 hi hz0 hz1 hz2 hlt HLT=> ?_
 have hvr:v.ownBlock≠some rb:=fun e=>by have:=(hlt rb e).1;omega
 have hvm:v.ownBlock≠some mb:=fun e=>by have:=(hlt mb e).1;omega
 have hvp:v.ownBlock≠some pb:=fun e=>by have:=(hlt pb e).1;omega
 have hvx:v.ownBlock≠some w.heap.size:=fun e=>by have:=(hlt _ e).2;omega
 obtain⟨RA,rn,rc,rfl,hrn,_,_⟩:=hrv.sk.form
 obtain⟨NA,nn,nc,rfl,hnn,_,_⟩:=hnv.sk.form
 rw[List.length_map,hmn] at hnn
 subst hnn
 obtain⟨k0,hk0⟩: ∃k0,d.nums[0]? =some k0:=⟨_,List.getElem?_eq_getElem (by omega)⟩
 obtain⟨qb,qo,rfl,hqB,hcq⟩:=aq.cell hnv (j:=0) (x:=k0) (by rw[List.getElem?_map,hk0];rfl)
 rw[Nat.add_zero] at hcq
 have hvq:v.ownBlock≠some qb:=fun e=>by have:=(hlt qb e).1;omega
 have hkk:(k0:Int)=k2:=by rw[List.getElem?_map,hk0] at hk2;simpa using hk2
 rw[hkk] at hcq
 have HUn:=aa (fun W (hW:Below w.heap.size w W)=>tG rb Mb t d 1 k2 m (.slice RA rn rc) (.slice (some ⟨qb,qo,none⟩) (m+3) nc) W ((hW.cell (p:=⟨rb,0,none⟩) (aF hrB hBw)).trans (af hr hC0)) (hM.later hW) ((hrv.below hW hBw).more (aP hBw hW.size)) ((hnv.below hW hBw).more (aP hBw hW.size)) hl hmn)
 have HU:=aa (fun o=>bQ.vals_def (dS t d 1 k2) o)
 simp only[ptr] at HUn hp⊢
 generalize dS t d 1 k2=u at HUn HU
 have HRn:=aa hrn
 clear hrv hnv hM hl hmn hrn hk0
 go_enter func142,ntmps142
 go_upto_region 1 with (fail)
 refine tJ ?_
 intro W1 ⟨hBW,hxW⟩
 have hzW:=hBW.size
 have hb0:(0:Int)<(m:Int)+3:=by omega
 obtain⟨x0,x1,x2,x3,x4,x5⟩:=iq hxW
 refine jB fun hrW c0=> ?_
 refine tK fun c1 c2=> ?_
 have q0:W1.cell? ⟨qb,qo,none⟩=some (.int .i64 k2):=(hBW.cell (p:=⟨qb,qo,none⟩) (aF hqB hBw)).trans hcq
 refine tL fun HOW HUn=> ?_
 have HBW:=aa hBW;have HrW:=aa hrW
 clear hBW hxW hrW hr hm hp hC hC0 hown hlt hcq
 go_wp2_with fail
 refine bP (S:=fun w'=>w'.cell? ⟨mb,0,none⟩=some (.pointer (some ⟨rb,1,none⟩))∧w'.cell? ⟨rb,6,none⟩=some (v)∧w'.cell? ⟨pb,0,none⟩=some (.pointer (some ⟨rb,0,none⟩))∧w'.cell? ⟨w.heap.size,0,none⟩=some (.int .i64 d.kind)∧w'.cell? ⟨w.heap.size,1,none⟩=some (.string (bs d.name))∧w'.cell? ⟨w.heap.size,2,none⟩=some (.slice RA rn rc)∧w'.cell? ⟨w.heap.size,3,none⟩=some (.slice (some ⟨qb,qo,none⟩) (m+3) nc)∧w'.cell? ⟨w.heap.size,4,none⟩=some (.int .i64 d.by_)∧w'.cell? ⟨w.heap.size,5,none⟩=some (.bool d.always)∧w'.cell? ⟨qb,qo,none⟩=some (.int .i64 k2)) 14 17 (by exact⟨c0,c1,c2,x0,x1,x2,x3,x4,x5,q0⟩) fun hS=> ?_
 iterate 11 refine gP 17 6 ?_
 refine cP 11 fun K hK=> ?_
 go_simp
 refine(HUn.out _ (au (B0 W1))).mono ?_
 rintro e w4 ⟨o,rfl,ho,hb4⟩
 obtain⟨OA,om,oc,rfl⟩:=bT ho
 refine tM fun HB4 HO4 HOW4=> ?_
 rw[HU.out]
 clear ho hb4
 try go_simp
 clear hS
 refine hK.out _ _ (by exact⟨kc (HB4.out) c0,kc (HB4.out) c1,kc (HB4.out) c2,kc (HB4.out) x0,kc (HB4.out) x1,kc (HB4.out) x2,kc (HB4.out) x3,kc (HB4.out) x4,kc (HB4.out) x5,kc (HB4.out) q0⟩) (fun hS=> ?_)
 clear hK
 refine ak ?_
 refine cP 12 fun K hK=> ?_
 go_simp
 refine hK.out _ _ (by exact⟨((ac (B0 _) _).cell (p:=⟨mb,0,none⟩) (aH _ _ (hS.1))).trans (hS.1),((ac (B0 _) _).cell (p:=⟨rb,6,none⟩) (aH _ _ (hS.2.1))).trans (hS.2.1),((ac (B0 _) _).cell (p:=⟨pb,0,none⟩) (aH _ _ (hS.2.2.1))).trans (hS.2.2.1),((ac (B0 _) _).cell (p:=⟨w.heap.size,0,none⟩) (aH _ _ (hS.2.2.2.1))).trans (hS.2.2.2.1),((ac (B0 _) _).cell (p:=⟨w.heap.size,1,none⟩) (aH _ _ (hS.2.2.2.2.1))).trans (hS.2.2.2.2.1),((ac (B0 _) _).cell (p:=⟨w.heap.size,2,none⟩) (aH _ _ (hS.2.2.2.2.2.1))).trans (hS.2.2.2.2.2.1),((ac (B0 _) _).cell (p:=⟨w.heap.size,3,none⟩) (aH _ _ (hS.2.2.2.2.2.2.1))).trans (hS.2.2.2.2.2.2.1),((ac (B0 _) _).cell (p:=⟨w.heap.size,4,none⟩) (aH _ _ (hS.2.2.2.2.2.2.2.1))).trans (hS.2.2.2.2.2.2.2.1),((ac (B0 _) _).cell (p:=⟨w.heap.size,5,none⟩) (aH _ _ (hS.2.2.2.2.2.2.2.2.1))).trans (hS.2.2.2.2.2.2.2.2.1),((ac (B0 _) _).cell (p:=⟨qb,qo,none⟩) (aH _ _ (hS.2.2.2.2.2.2.2.2.2))).trans (hS.2.2.2.2.2.2.2.2.2)⟩) (fun hS=> ?_)
 clear hK
 refine ak ?_
 refine cP 13 fun K hK=> ?_
 refine tO ?_
 intro gg cap w3 hown3 hgrow hat hlt
 refine hK.out _ _ (by exact⟨(bC hgrow (aH _ _ (hS.1)) hvm).trans (hS.1),(bC hgrow (aH _ _ (hS.2.1)) hvr).trans (hS.2.1),(bC hgrow (aH _ _ (hS.2.2.1)) hvp).trans (hS.2.2.1),(bC hgrow (aH _ _ (hS.2.2.2.1)) hvx).trans (hS.2.2.2.1),(bC hgrow (aH _ _ (hS.2.2.2.2.1)) hvx).trans (hS.2.2.2.2.1),(bC hgrow (aH _ _ (hS.2.2.2.2.2.1)) hvx).trans (hS.2.2.2.2.2.1),(bC hgrow (aH _ _ (hS.2.2.2.2.2.2.1)) hvx).trans (hS.2.2.2.2.2.2.1),(bC hgrow (aH _ _ (hS.2.2.2.2.2.2.2.1)) hvx).trans (hS.2.2.2.2.2.2.2.1),(bC hgrow (aH _ _ (hS.2.2.2.2.2.2.2.2.1)) hvx).trans (hS.2.2.2.2.2.2.2.2.1),(bC hgrow (aH _ _ (hS.2.2.2.2.2.2.2.2.2)) hvq).trans (hS.2.2.2.2.2.2.2.2.2)⟩) (fun hS=> ?_)
 clear hK
 refine ak ?_
 refine cQ 14 fun K hK=> ?_
 go_simp
 refine hK.out _ _ ?_
 clear hK
 refine ak ?_
 refine cQ 15 fun K hK=> ?_
 go_simp
 refine hK.out _ _ ?_
 clear hK
 refine ak ?_
 refine tQ fun f1=> ?_
 refine cQ 16 fun K hK=> ?_
 exact tR
theorem Kq (rb mb pb Mb B:Nat) (t:br) (d:ar) (A:Option Addr) (nl c m:Nat) (k2:Int) (rv nv:Value) (C:Array Value) (T:TypeId) (v:Value) (n:Nat) (xs:List Value) (w:World) (hr:w.heap[rb]? =some (.cells C T (0,0))) (hC0:C[0]? =some (.map (some Mb))) (hC:C[6]? =some v)
 (hM:aZ dI w Mb (dr t)) (hrv:aI w B rv d.refs) (hnv:aq w B nv (d.nums.map fun x:Nat=>(x:Int))) (hl:d.refs.length≤100000) (hmn:d.nums.length=m+3)
 (hm:w.heap[mb]? =some (.cells #[.pointer (some ⟨rb,1,none⟩)] 181 (0,0))) (hp:w.heap[pb]? =some (.cells #[ptr rb] 98 (0,0))) (hrB:rb<B) (hmB:mb<B) (hpB:pb<B) (hBw:B≤w.heap.size) (hown:w.ownsRow B 135 7 v n xs) (hn:n≤1000000):
 Calls prog 143 #[.agg #[.int .i64 d.kind,.string (bs d.name),rv,nv,.int .i64 d.by_,.bool d.always],.slice A nl c,ptr mb,ptr pb] w fun e w'=>(∃u,e= .returned u)∧∃o,ev w rb B T C 6 135 7 v n xs (iB (dS t d 2 1) o) w'∧w'.ownsRow w.heap.size 3 1 o d.refs.length ((fS (d.refs.map (bE t))).map (Value.int .i64)):=by
 refine tI fun i0 hi hz0 hz1 hz2 hlt HLT=> ?_
 have hvr:v.ownBlock≠some rb:=fun e=>by have:=(hlt rb e).1;omega
 have hvm:v.ownBlock≠some mb:=fun e=>by have:=(hlt mb e).1;omega
 have hvp:v.ownBlock≠some pb:=fun e=>by have:=(hlt pb e).1;omega
 have hvx:v.ownBlock≠some w.heap.size:=fun e=>by have:=(hlt _ e).2;omega
 obtain⟨RA,rn,rc,rfl,hrn,_,_⟩:=hrv.sk.form
 obtain⟨NA,nn,nc,rfl,hnn,_,_⟩:=hnv.sk.form
 rw[List.length_map,hmn] at hnn
 subst hnn
 obtain⟨k0,hk0⟩: ∃k0,d.nums[0]? =some k0:=⟨_,List.getElem?_eq_getElem (by omega)⟩
 obtain⟨qb,qo,rfl,hqB,hcq⟩:=aq.cell hnv (j:=0) (x:=k0) (by rw[List.getElem?_map,hk0];rfl)
 rw[Nat.add_zero] at hcq
 have hvq:v.ownBlock≠some qb:=fun e=>by have:=(hlt qb e).1;omega
 have HUn:=aa (fun W (hW:Below w.heap.size w W)=>tG rb Mb t d 2 1 m (.slice RA rn rc) (.slice (some ⟨qb,qo,none⟩) (m+3) nc) W ((hW.cell (p:=⟨rb,0,none⟩) (aF hrB hBw)).trans (af hr hC0)) (hM.later hW) ((hrv.below hW hBw).more (aP hBw hW.size)) ((hnv.below hW hBw).more (aP hBw hW.size)) hl hmn)
 have HU:=aa (fun o=>bQ.vals_def (dS t d 2 1) o)
 simp only[ptr] at HUn hp⊢
 generalize dS t d 2 1=u at HUn HU
 have HRn:=aa hrn
 clear hrv hnv hM hl hmn hrn hk0
 go_enter func143,ntmps143
 go_upto_region 1 with (fail)
 refine tJ ?_
 intro W1 ⟨hBW,hxW⟩
 have hzW:=hBW.size
 have hb0:(0:Int)<(m:Int)+3:=by omega
 obtain⟨x0,x1,x2,x3,x4,x5⟩:=iq hxW
 refine jB fun hrW c0=> ?_
 refine tK fun c1 c2=> ?_
 refine tL fun HOW HUn=> ?_
 have HBW:=aa hBW;have HrW:=aa hrW
 clear hBW hxW hrW hr hm hp hC hC0 hown hlt hcq
 go_wp2_with fail
 refine bP (S:=fun w'=>w'.cell? ⟨mb,0,none⟩=some (.pointer (some ⟨rb,1,none⟩))∧w'.cell? ⟨rb,6,none⟩=some (v)∧w'.cell? ⟨pb,0,none⟩=some (.pointer (some ⟨rb,0,none⟩))∧w'.cell? ⟨w.heap.size,0,none⟩=some (.int .i64 d.kind)∧w'.cell? ⟨w.heap.size,1,none⟩=some (.string (bs d.name))∧w'.cell? ⟨w.heap.size,2,none⟩=some (.slice RA rn rc)∧w'.cell? ⟨w.heap.size,3,none⟩=some (.slice (some ⟨qb,qo,none⟩) (m+3) nc)∧w'.cell? ⟨w.heap.size,4,none⟩=some (.int .i64 d.by_)∧w'.cell? ⟨w.heap.size,5,none⟩=some (.bool d.always)) 10 13 (by exact⟨c0,c1,c2,x0,x1,x2,x3,x4,x5⟩) fun hS=> ?_
 iterate 7 refine gP 13 6 ?_
 refine cP 7 fun K hK=> ?_
 go_simp
 refine(HUn.out _ (au (B0 W1))).mono ?_
 rintro e w4 ⟨o,rfl,ho,hb4⟩
 obtain⟨OA,om,oc,rfl⟩:=bT ho
 refine tM fun HB4 HO4 HOW4=> ?_
 rw[HU.out]
 clear ho hb4
 try go_simp
 clear hS
 refine Ay fun hS=> ?_
 clear hK
 refine ak ?_
 refine cP 8 fun K hK=> ?_
 go_simp
 refine Az fun hS=> ?_
 clear hK
 refine ak ?_
 refine cP 9 fun K hK=> ?_
 refine tO ?_
 intro gg cap w3 hown3 hgrow hat hlt
 refine AA fun hS=> ?_
 clear hK
 refine ak ?_
 refine cQ 10 fun K hK=> ?_
 go_simp
 refine hK.out _ _ ?_
 clear hK
 refine ak ?_
 refine cQ 11 fun K hK=> ?_
 go_simp
 refine hK.out _ _ ?_
 clear hK
 refine ak ?_
 refine tQ fun f1=> ?_
 refine cQ 12 fun K hK=> ?_
 exact tR
def AB (o:Option Nat) (k:Nat):Bool:=match o with|some j=>decide (k=j)|none=>decide (bM k=5)
def dW (k:Nat):List (Option Nat):=
 if k=2 then[some 0,some 1] else if k=3 then[some 2] else if k=4 then[some 0,some 0] else if k=8 then[some 0] else if k=10 then[some 5]
 else if k=11 then[none] else if k=12 then[none] else if k=16 then[none] else if k=13 then[none] else if k=14 then[none,none] else[]
def pR (d:ar):List (Option Nat):=dW d.kind++List.replicate (d.refs.length - (dW d.kind).length) (some 3)
theorem tU (d:ar):pR d=dW d.kind++List.replicate (d.refs.length - (dW d.kind).length) (some 3):=rfl
def ge (w:World) (u:Value) (o:Option Nat):Prop:=match o with
 |some k=> ∃b,u= .func (.func 318) #[] #[ptr b]∧w.heap[b]? =some (.cells #[.int .i64 k] 3 (0,0))
 |none=>u= .func (.func 225) #[] #[]
def gh (w w':World):Prop:= ∀(b:Nat) (C:Array Value) (t:TypeId) (z:Nat×Nat),w.heap[b]? =some (.cells C t z)→w'.heap[b]? =some (.cells C t z)
theorem gh.of_below {w w':World} (h:Below w.heap.size w w'):gh w w':=fun b C t z hb=>ah hb h
theorem gh.of_turns {enc:Int→Value} {w w':World} {M:Nat} {f:Int→Option Value} (hM:aZ enc w M f) (h:cM w w' M):gh w w':=fun b C t z hb=>by
 have hne: ¬b=M:=fun e=>by
  subst e
  obtain⟨l,hl,_⟩:=hM
  have hl':w.heap[b]? =some (.map (bj 0 (bS enc l)).toArray (bS enc l).length):=hl
  rw[hb] at hl'
  cases hl'
 rw[h.2.2 b hne]
 exact hb
theorem ge.keep {w w':World} {u:Value} {o:Option Nat} (h:ge w u o) (hk:gh w w'):ge w' u o:=by
 cases o with
 |none=>exact h
 |some k=>
  obtain⟨b,rfl,hb⟩:=h
  exact⟨b,rfl,hk _ _ _ _ hb⟩
def df (w:World) (B:Nat) (v:Value) (fs:List (Option Nat)):Prop:=
 ∃us,w.ownsRow B 185 1 v fs.length us∧∀(i:Nat) u o,us[i]? =some u→fs[i]? =some o→ge w u o
theorem Kr {w w':World} {B:Nat} {e:TypeId} {size:Nat} {v:Value} {n:Nat} {xs:List Value} (h:w.ownsRow B e size v n xs) (hk:gh w w'):w'.ownsRow B e size v n xs:=by
 refine⟨h.1,?_⟩
 rcases h.2 with hn|⟨g,cap,cur,h1,h2,h3,h4⟩
 ·exact .inl hn
 ·exact .inr ⟨g,cap,cur,h1,h2,hk _ _ _ _ h3,h4⟩
theorem df.keep {w w':World} {B:Nat} {v:Value} {fs:List (Option Nat)} (h:df w B v fs) (hk:gh w w'):df w' B v fs:=by
 obtain⟨us,h1,h2⟩:=h
 exact⟨us,Kr h1 hk,fun i u o hu ho=>(h2 i u o hu ho).keep hk⟩
theorem df.nil_ (w:World) (B:Nat):df w B (.slice none 0 0) []:=⟨[],World.ownsRow_nil _ _ _ _,fun i u o h=>by simp at h⟩
theorem AC: ∀(l l':List (Value×Value)) (i:Nat),bj i l=bj i l'→l=l'
 |[],[],_,_=>rfl
 |[],_::_,_,h=>by simp[bj] at h
 |_::_,[],_,h=>by simp[bj] at h
 |(a,b)::r,(c,d)::r',i,h=>by
  simp only[bj,List.cons.injEq] at h
  obtain⟨h1,h2⟩:=h
  injection h1 with h3 h4
  rw[AC r r' _ h2,h3,h4]
theorem aZ.uniq {w:World} {b:Nat} {f g:Int→Option Value} (h:aZ cC w b f) (k:aZ cC w b g) (x:Int):f x=g x:=by
 obtain⟨l,h1,_,h3⟩:=h
 obtain⟨l',k1,_,k3⟩:=k
 have h1':w.heap[b]? =some (.map (bj 0 (bS cC l)).toArray (bS cC l).length):=h1
 have k1':w.heap[b]? =some (.map (bj 0 (bS cC l')).toArray (bS cC l').length):=k1
 rw[h1'] at k1'
 injection k1' with e
 injection e with e _
 have e2:=AC _ _ _ (List.toArray_inj e)
 have e3:l=l':=by
  unfold bS at e2
  refine List.map_inj_right (f:=fun p:Int×Value=>(cC p.1,p.2)) (fun a b hab=> ?_) |>.1 e2
  obtain⟨a1,a2⟩:=a
  obtain⟨b1,b2⟩:=b
  simp only[Prod.mk.injEq] at hab
  obtain⟨p,q⟩:=hab
  injection p with _ p
  subst p q
  rfl
 rw[h3,k3,e3]
inductive kT where
 |mk|ex (s k:Nat)|sl (s:Nat) (fs:List (Option Nat))|ins (k s:Nat) (fs:List (Option Nat))|mv|fa|ld|lk|as_|no
def Ks:List kT:=
 .mk:: .ex 5 0:: .ex 6 1:: .sl 7 [some 0,some 1]:: .ins 2 7 [some 0,some 1]:: .ex 8 2:: .sl 9 [some 2]:: .ins 3 9 [some 2]::
 .ex 10 0:: .ex 11 0:: .sl 12 [some 0,some 0]:: .ins 4 12 [some 0,some 0]:: .ex 13 0:: .sl 14 [some 0]:: .ins 8 14 [some 0]::
 .ex 15 5:: .sl 16 [some 5]:: .ins 10 16 [some 5]:: .sl 17 [none]:: .ins 11 17 [none]:: .sl 18 [none]:: .ins 12 18 [none]:: .sl 19 [none]:: .ins 16 19 [none]::
 .sl 20 [none]:: .ins 13 20 [none]:: .sl 21 [none,none]:: .ins 14 21 [none,none]:: .mv:: .fa:: .ld:: .lk:: .as_::[]
def wd (i:Nat):kT:=Ks.getD i .no
def YD (B xb kd:Nat) (d:kT) (a:Act) (w:World):Prop:=match d with
 | .mk=> ∃M:Nat,a.tmps[4]? =some (.map (some M))
 | .ex s k=> ∃u,a.tmps[s]? =some u∧ge w u (some k)
 | .sl s fs=> ∃v,a.tmps[s]? =some v∧df w B v fs
 | .ins k s fs=> ∃(M:Nat) (f:Int→Option Value) (v:Value),a.tmps[4]? =some (.map (some M))∧aZ cC w M f∧f (k:Int)=some v∧df w B v fs
 | .mv=> ∃(M:Nat) (f:Int→Option Value),a.tmps[22]? =some (.map (some M))∧aZ cC w M f∧df w B ((f (kd:Int)).getD (.slice none 0 0)) (dW kd)
 | .fa=>a.tmps[23]? =some (.pointer (some ⟨xb,0,none⟩))
 | .ld=>a.tmps[24]? =some (.int .i64 kd)
 | .lk=> ∃v,a.tmps[25]? =some v∧df w B v (dW kd)
 | .as_=> ∃v,a.tmps[3]? =some v∧df w B v (dW kd)
 | .no=>True
def pS:kT→List Nat
 | .mk=>[4]| .ex s _=>[s]| .sl s _=>[s]| .ins _ _ _=>[4]| .mv=>[22]| .fa=>[23]| .ld=>[24]| .lk=>[25]| .as_=>[3]| .no=>[]
theorem j9 {a:Act} {s t:Nat} (u:Value) (h: ¬s=t):(a.put (some s) u).tmps[t]? =a.tmps[t]? :=by
 simp[Act.put,Array.getElem?_setIfInBounds_ne h]
theorem iD {a:Act} {s:Nat} (u:Value) (h:s<a.tmps.size):(a.put (some s) u).tmps[s]? =some u:=by
 simp[Act.put,Array.getElem?_setIfInBounds_self_of_lt h]
theorem YD.other {B xb kd:Nat} {d:kT} {a:Act} {w w':World} (h:YD B xb kd d a w) (hb:Below w.heap.size w w') {s:Nat} (u:Value) (hs:(pS d).contains s=false):YD B xb kd d (a.put (some s) u) w':=by
 have hk:=gh.of_below hb
 have ne: ∀t,pS d=[t]→(a.put (some s) u).tmps[t]? =a.tmps[t]? :=fun t ht=>j9 u (fun e=>by rw[ht,e] at hs;simp at hs)
 cases d with
 |mk=>obtain⟨M,h1⟩:=h;exact⟨M,(ne 4 rfl).trans h1⟩
 |ex t k=>obtain⟨v,h1,h2⟩:=h;exact⟨v,(ne t rfl).trans h1,h2.keep hk⟩
 |sl t fs=>obtain⟨v,h1,h2⟩:=h;exact⟨v,(ne t rfl).trans h1,h2.keep hk⟩
 |ins k t fs=>obtain⟨M,f,v,h1,h2,h3,h4⟩:=h;exact⟨M,f,v,(ne 4 rfl).trans h1,h2.later hb,h3,h4.keep hk⟩
 |mv=>obtain⟨M,f,h1,h2,h3⟩:=h;exact⟨M,f,(ne 22 rfl).trans h1,h2.later hb,h3.keep hk⟩
 |fa=>exact(ne 23 rfl).trans h
 |ld=>exact(ne 24 rfl).trans h
 |lk=>obtain⟨v,h1,h2⟩:=h;exact⟨v,(ne 25 rfl).trans h1,h2.keep hk⟩
 |as_=>obtain⟨v,h1,h2⟩:=h;exact⟨v,(ne 3 rfl).trans h1,h2.keep hk⟩
 |no=>trivial
def pT (k:Nat):kT→Bool
 | .ins j _ _=> !decide (j=k)| .mv=>false|_=>true
theorem YD.stored {B xb kd:Nat} {d:kT} {a:Act} {w w':World} (h:YD B xb kd d a w) {M k:Nat} {f:Int→Option Value} {v:Value} (hs:a.tmps[4]? =some (.map (some M))) (hM:aZ cC w M f) (hM':aZ cC w' M (aS f (k:Int) v)) (ht:cM w w' M) (hd:pT k d=true):YD B xb kd d a w':=by
 have hk:=gh.of_turns hM ht
 cases d with
 |mk=>exact h
 |ex t j=>obtain⟨u,h1,h2⟩:=h;exact⟨u,h1,h2.keep hk⟩
 |sl t fs=>obtain⟨u,h1,h2⟩:=h;exact⟨u,h1,h2.keep hk⟩
 |ins j t fs=>
  obtain⟨M2,g,u,h1,h2,h3,h4⟩:=h
  rw[hs] at h1
  injection h1 with h1;injection h1 with h1;injection h1 with h1
  subst h1
  have hj: ¬j=k:=by simpa[pT] using hd
  refine⟨M,_,u,hs,hM',?_,h4.keep hk⟩
  rw[xN _ _ (by omega),←h2.uniq hM]
  exact h3
 |mv=>cases hd
 |fa=>exact h
 |ld=>exact h
 |lk=>obtain⟨u,h1,h2⟩:=h;exact⟨u,h1,h2.keep hk⟩
 |as_=>obtain⟨u,h1,h2⟩:=h;exact⟨u,h1,h2.keep hk⟩
 |no=>trivial
def kU:List Nat:=[2,3,4,8,10,11,12,16,13,14]
structure ka (W0:World) (B xb kd:Nat) (t0 t1 t2:Value) (ds:List Deferred) (a:Act) (w:World):Prop where
 size:a.tmps.size=37
 s0:a.tmps[0]? =some t0
 s1:a.tmps[1]? =some t1
 s2:a.tmps[2]? =some t2
 defers:a.defers=ds
 below:Below W0.heap.size W0 w
 big:B≤W0.heap.size
 map: ∀M:Nat,a.tmps[4]? =some (.map (some M))→W0.heap.size≤M∧∃f:Int→Option Value,aZ cC w M f∧∀k:Nat,k∉kU→f (k:Int)=none
theorem ka.put {W0:World} {B xb kd:Nat} {t0 t1 t2:Value} {ds:List Deferred} {a:Act} {w w':World} (h:ka W0 B xb kd t0 t1 t2 ds a w) (hb:Below w.heap.size w w') {s:Nat} (u:Value) (hs: ¬s=0∧¬s=1∧¬s=2∧¬s=4):ka W0 B xb kd t0 t1 t2 ds (a.put (some s) u) w':=
 ⟨by simp[Act.put,h.size],(j9 u hs.1).trans h.s0,(j9 u hs.2.1).trans h.s1,(j9 u hs.2.2.1).trans h.s2,h.defers,ag h.below hb,h.big,fun M hM=>by
  rw[j9 u hs.2.2.2] at hM
  obtain⟨h1,f,h2,h3⟩:=h.map M hM
  exact⟨h1,f,h2.later hb,h3⟩⟩
theorem AD (fn:Fn) (caps:Array Value) (w:World):(Instr.buildSlice 183 1 #[(0,.func fn #[] caps)]).run prog w= .ok (.slice (some ⟨w.heap.size,0,none⟩) 1 1) (w.alloc (.cells #[.func fn #[] caps] 185 (0,0))):=by
 go_simp
theorem AE (fn fn':Fn) (caps caps':Array Value) (w:World):(Instr.buildSlice 183 2 #[(0,.func fn #[] caps),(1,.func fn' #[] caps')]).run prog w= .ok (.slice (some ⟨w.heap.size,0,none⟩) 2 2) (w.alloc (.cells #[.func fn #[] caps,.func fn' #[] caps'] 185 (0,0))):=by
 go_simp
theorem ge.form {w:World} {u:Value} {o:Option Nat} (h:ge w u o): ∃fn caps,u= .func fn #[] caps:=by
 cases o with
 |none=>exact⟨_,_,h⟩
 |some k=>obtain⟨b,rfl,_⟩:=h;exact⟨_,_,rfl⟩
theorem df.made1 {w:World} {B:Nat} {u:Value} {o:Option Nat} (hB:B≤w.heap.size) (h:ge w u o):df (w.alloc (.cells #[u] 185 (0,0))) B (.slice (some ⟨w.heap.size,0,none⟩) 1 1) [o]:=
 ⟨[u],⟨rfl,.inr ⟨w.heap.size,1,#[u],rfl,hB,aN w _,ae _,by simp[maxLen],rfl,rfl⟩⟩,fun i u' o' hu ho=>by
   match i with
   |0=>simp at hu ho;subst hu ho;exact h.keep (gh.of_below (ac (B0 w) _))
   |i+1=>simp at hu⟩
theorem df.made2 {w:World} {B:Nat} {u u':Value} {o o':Option Nat} (hB:B≤w.heap.size) (h:ge w u o) (h':ge w u' o'):df (w.alloc (.cells #[u,u'] 185 (0,0))) B (.slice (some ⟨w.heap.size,0,none⟩) 2 2) [o,o']:=
 ⟨[u,u'],⟨rfl,.inr ⟨w.heap.size,2,#[u,u'],rfl,hB,aN w _,ae _,by simp[maxLen],rfl,rfl⟩⟩,fun i x y hu ho=>by
   match i with
   |0=>simp at hu ho;subst hu ho;exact h.keep (gh.of_below (ac (B0 w) _))
   |1=>simp at hu ho;subst hu ho;exact h'.keep (gh.of_below (ac (B0 w) _))
   |i+2=>simp at hu⟩
theorem iE {a:Act} {s:Nat} {v:Value} (h:a.tmps[s]? =some v):a.eval (.tmp s)=v:=by
 simp[Act.eval,Array.getD_eq_getD_getElem?,h]
section
variable {Q:Exit→Act→World→Prop} {ops:Array Oper} {W0:World} {B xb kd:Nat} {t0 t1 t2:Value} {ds:List Deferred} {i:Nat} {o:Oper}
def gI (ops:Array Oper) (i s:Nat):Bool:=(List.range 33).all fun j=>decide (j=i)||ch .any ops j i|| !(pS (wd j)).contains s
def AF (ops:Array Oper) (i k:Nat):Bool:=(List.range 33).all fun j=>decide (j=i)||ch .any ops j i||pT k (wd j)
theorem tV {s j:Nat} (h:gI ops i s=true) (hn:ops.size=33) (hj:j≠i) (hl:j<ops.size) (hw:ch .any ops j i=false):(pS (wd j)).contains s=false:=by
 have:=List.all_eq_true.1 h j (List.mem_range.2 (by omega))
 simp only[hw,decide_eq_false hj,Bool.false_or,Bool.not_eq_true'] at this
 exact this
theorem Kt {k j:Nat} (h:AF ops i k=true) (hn:ops.size=33) (hj:j≠i) (hl:j<ops.size) (hw:ch .any ops j i=false):pT k (wd j)=true:=by
 have:=List.all_eq_true.1 h j (List.mem_range.2 (by omega))
 simp only[hw,decide_eq_false hj,Bool.false_or] at this
 exact this
def gi (Q:Exit→Act→World→Prop) (ops:Array Oper) (W0:World) (B xb kd:Nat) (t0 t1 t2:Value) (ds:List Deferred) (i:Nat) (o:Oper):Prop:=
 ∀a w,ka W0 B xb kd t0 t1 t2 ds a w→(∀j,ch .any ops i j=true→YD B xb kd (wd j) a w)→
  wpOp prog ops Q i (fun a' w'=>ka W0 B xb kd t0 t1 t2 ds a' w'∧YD B xb kd (wd i) a' w'∧∀j,j≠i→j<ops.size→ch .any ops j i=false→YD B xb kd (wd j) a w→YD B xb kd (wd j) a' w') a w
theorem AG {s:Nat} {v:Value} {a:Act} {w w':World} (ho:ops[i]? =some o) (hg:o.guard=none) (hd:o.dst=some s) (hp:gI ops i s=true) (hn:ops.size=33) (hs: ¬s=0∧¬s=1∧¬s=2∧¬s=4) (hF:ka W0 B xb kd t0 t1 t2 ds a w)
 (hrun:(execOp a.eval o).run prog w= .ok (.value v) w') (hb:Below w.heap.size w w') (hY:YD B xb kd (wd i) (a.put (some s) v) w'):
 wpOp prog ops Q i (fun a' w'=>ka W0 B xb kd t0 t1 t2 ds a' w'∧YD B xb kd (wd i) a' w'∧∀j,j≠i→j<ops.size→ch .any ops j i=false→YD B xb kd (wd j) a w→YD B xb kd (wd j) a' w') a w:=by
 refine xr ho hg hrun ?_
 rw[hd]
 exact⟨hF.put hb v hs,hY,fun j hj hl hw hy=>hy.other hb v (tV hp hn hj hl hw)⟩
theorem Ku (ho:ops[i]? =some o) (hg:o.guard=none) (hd:o.dst=some 4) (hop:o.op= .makeMap 237 none) (hw:wd i= .mk) (hp:gI ops i 4=true) (hn:ops.size=33):gi Q ops W0 B xb kd t0 t1 t2 ds i o:=by
 intro a w hF hdep
 have hrun:(execOp a.eval o).run prog w= .ok (.value (.map (some w.heap.size))) (w.alloc (.map #[] 0)):=by
  simp only[execOp,hop,Option.map_none,Sem.run_bind,run_makeMap,Result.andThen_ok,Sem.run_pure]
 refine xr ho hg hrun ?_
 have hb:=ac (B0 w) (.map #[] 0)
 rw[hd,hw]
 have h4:=iD (a:=a) (s:=4) (.map (some w.heap.size)) (by rw[hF.size];decide)
 refine⟨⟨by simp[Act.put,hF.size],(j9 _ (by decide)).trans hF.s0,(j9 _ (by decide)).trans hF.s1,(j9 _ (by decide)).trans hF.s2,hF.defers,ag hF.below hb,hF.big,fun M hM=> ?_⟩,⟨_,h4⟩,fun j hj hl hw hy=>hy.other hb _ (tV hp hn hj hl hw)⟩
 rw[h4] at hM
 injection hM with hM;injection hM with hM;injection hM with hM
 subst hM
 exact⟨hF.below.size,_,aZ.made cC w,fun _ _=>rfl⟩
theorem kV {s k:Nat} (ho:ops[i]? =some o) (hg:o.guard=none) (hd:o.dst=some s) (hop:o.op= .call {callee:= .value (.func 224),args:= #[.const (.int .i64 k)],argTypes:= #[3]}) (hw:wd i= .ex s k) (hp:gI ops i s=true) (hn:ops.size=33)
 (hs:s<37∧¬s=0∧¬s=1∧¬s=2∧¬s=4):gi Q ops W0 B xb kd t0 t1 t2 ds i o:=by
 intro a w hF hdep
 have hrun:(execOp a.eval o).run prog w= .ok (.enter 224 #[.int .i64 k]) w:=by
  simp only[execOp,hop]
  go_simp
 refine E1 ho hg hrun ?_
 refine(zJ k w).mono ?_
 rintro e w' ⟨b,rfl,hbb,hbl,hb⟩
 refine⟨_,rfl,?_⟩
 rw[hd,hw]
 exact⟨hF.put hb _ hs.2,⟨_,iD _ (by rw[hF.size];exact hs.1),b,rfl,hbl⟩,fun j hj hl hw hy=>hy.other hb _ (tV hp hn hj hl hw)⟩
theorem tX {s k0 s0 j0:Nat} (ho:ops[i]? =some o) (hg:o.guard=none) (hd:o.dst=some s) (hop:o.op= .buildSlice 183 1 #[(0,.tmp s0)]) (hw:wd i= .sl s [some k0]) (hp:gI ops i s=true) (hn:ops.size=33)
 (hs:s<37∧¬s=0∧¬s=1∧¬s=2∧¬s=4) (h0:ch .any ops i j0=true) (hw0:wd j0= .ex s0 k0):gi Q ops W0 B xb kd t0 t1 t2 ds i o:=by
 intro a w hF hdep
 have hy0:=hdep j0 h0
 rw[hw0] at hy0
 obtain⟨u,hu,hv⟩:=hy0
 obtain⟨fn,caps,rfl⟩:=hv.form
 have hrun:(execOp a.eval o).run prog w= .ok (.value (.slice (some ⟨w.heap.size,0,none⟩) 1 1)) (w.alloc (.cells #[.func fn #[] caps] 185 (0,0))):=by
  simp only[execOp,hop,List.map_toArray,List.map_cons,List.map_nil,iE hu,Sem.run_bind,AD,Result.andThen_ok,Sem.run_pure]
 refine pU ?_
 rw[hw]
 exact⟨_,iD _ (by rw[hF.size];exact hs.1),df.made1 (aP hF.big hF.below.size) hv⟩
theorem AH {s k0 k1 s0 s1 j0 j1:Nat} (ho:ops[i]? =some o) (hg:o.guard=none) (hd:o.dst=some s) (hop:o.op= .buildSlice 183 2 #[(0,.tmp s0),(1,.tmp s1)]) (hw:wd i= .sl s [some k0,some k1]) (hp:gI ops i s=true) (hn:ops.size=33)
 (hs:s<37∧¬s=0∧¬s=1∧¬s=2∧¬s=4) (h0:ch .any ops i j0=true) (hw0:wd j0= .ex s0 k0) (h1:ch .any ops i j1=true) (hw1:wd j1= .ex s1 k1):gi Q ops W0 B xb kd t0 t1 t2 ds i o:=by
 intro a w hF hdep
 have hy0:=hdep j0 h0
 rw[hw0] at hy0
 obtain⟨u,hu,hv⟩:=hy0
 obtain⟨fn,caps,rfl⟩:=hv.form
 have hy1:=hdep j1 h1
 rw[hw1] at hy1
 obtain⟨u',hu',hv'⟩:=hy1
 obtain⟨fn',caps',rfl⟩:=hv'.form
 have hrun:(execOp a.eval o).run prog w= .ok (.value (.slice (some ⟨w.heap.size,0,none⟩) 2 2)) (w.alloc (.cells #[.func fn #[] caps,.func fn' #[] caps'] 185 (0,0))):=by
  simp only[execOp,hop,List.map_toArray,List.map_cons,List.map_nil,iE hu,iE hu',Sem.run_bind,AE,Result.andThen_ok,Sem.run_pure]
 refine pU ?_
 rw[hw]
 exact⟨_,iD _ (by rw[hF.size];exact hs.1),df.made2 (aP hF.big hF.below.size) hv hv'⟩
theorem pV {s:Nat} (ho:ops[i]? =some o) (hg:o.guard=none) (hd:o.dst=some s) (hop:o.op= .buildSlice 183 1 #[(0,.func 225)]) (hw:wd i= .sl s [none]) (hp:gI ops i s=true) (hn:ops.size=33)
 (hs:s<37∧¬s=0∧¬s=1∧¬s=2∧¬s=4):gi Q ops W0 B xb kd t0 t1 t2 ds i o:=by
 intro a w hF hdep
 have hrun:(execOp a.eval o).run prog w= .ok (.value (.slice (some ⟨w.heap.size,0,none⟩) 1 1)) (w.alloc (.cells #[.func (.func 225) #[] #[]] 185 (0,0))):=by
  simp only[execOp,hop,List.map_toArray,List.map_cons,List.map_nil,Act.eval,Sem.run_bind,AD,Result.andThen_ok,Sem.run_pure]
 refine pU ?_
 rw[hw]
 exact⟨_,iD _ (by rw[hF.size];exact hs.1),df.made1 (o:=none) (aP hF.big hF.below.size) rfl⟩
theorem Kv {s:Nat} (ho:ops[i]? =some o) (hg:o.guard=none) (hd:o.dst=some s) (hop:o.op= .buildSlice 183 2 #[(0,.func 225),(1,.func 225)]) (hw:wd i= .sl s [none,none]) (hp:gI ops i s=true) (hn:ops.size=33)
 (hs:s<37∧¬s=0∧¬s=1∧¬s=2∧¬s=4):gi Q ops W0 B xb kd t0 t1 t2 ds i o:=by
 intro a w hF hdep
 have hrun:(execOp a.eval o).run prog w= .ok (.value (.slice (some ⟨w.heap.size,0,none⟩) 2 2)) (w.alloc (.cells #[.func (.func 225) #[] #[],.func (.func 225) #[] #[]] 185 (0,0))):=by
  simp only[execOp,hop,List.map_toArray,List.map_cons,List.map_nil,Act.eval,Sem.run_bind,AE,Result.andThen_ok,Sem.run_pure]
 refine pU ?_
 rw[hw]
 exact⟨_,iD _ (by rw[hF.size];exact hs.1),df.made2 (o:=none) (o':=none) (aP hF.big hF.below.size) rfl rfl⟩
theorem jb {k s j0:Nat} {fs:List (Option Nat)} (ho:ops[i]? =some o) (hg:o.guard=none) (hd:o.dst=none) (hop:o.op= .insert 237 (.tmp 4) (.const (.int .i64 k)) (.tmp s)) (hw:wd i= .ins k s fs) (hp:AF ops i k=true) (hn:ops.size=33)
 (hk:k∈kU) (hm:ch .any ops i 0=true) (h0:ch .any ops i j0=true) (hw0:wd j0= .sl s fs):gi Q ops W0 B xb kd t0 t1 t2 ds i o:=by
 intro a w hF hdep
 have hm0:YD B xb kd .mk a w:=hdep 0 hm
 obtain⟨M,hM⟩:=hm0
 obtain⟨hM0,f,hf,hfk⟩:=hF.map M hM
 have hy0:=hdep j0 h0
 rw[hw0] at hy0
 obtain⟨v,hv,hW⟩:=hy0
 obtain⟨ob,hr,hf'⟩:=oZ (P:=prog) underlying237 underlying3 aO hf (k:Int) v
 have ht:=lz w M ob
 have hrun:(execOp a.eval o).run prog w= .ok .skip (ChangeMaps.setBlock w M ob):=by
  have hr':(Instr.mapUpdate 237 (.map (some M)) (.int .i64 k) v).run prog w= .ok () (ChangeMaps.setBlock w M ob):=hr
  have hc:a.eval (.const (.int .i64 k))= .int .i64 k:=rfl
  simp only[execOp,hop,hc,iE hM,iE hv,Sem.run_bind,hr',Result.andThen_ok,Sem.run_pure]
 refine E0 ho hg hrun ?_
 rw[hd,hw]
 generalize ChangeMaps.setBlock w M ob=w' at hf' ht
 have hput:a.put none undef=a:=rfl
 rw[hput]
 refine⟨⟨hF.size,hF.s0,hF.s1,hF.s2,hF.defers,ht.1 _ _ hF.below hM0,hF.big,fun M' hM'=> ?_⟩,⟨M,_,v,hM,hf',FP _ _ _,hW.keep (gh.of_turns hf ht)⟩,fun j hj hl hw hy=>hy.stored hM hf hf' ht (Kt hp hn hj hl hw)⟩
 rw[hM] at hM'
 injection hM' with hM';injection hM' with hM';injection hM' with hM'
 subst hM'
 refine⟨hM0,_,hf',fun k' hk'=> ?_⟩
 rw[xN _ _ (fun e=>by have:k'=k:=by omega
                      exact hk' (this▸hk))]
 exact hfk k' hk'
def nS:List (Nat×Nat×Nat):=[(2,4,7),(3,7,9),(4,11,12),(8,14,14),(10,17,16),(11,19,17),(12,21,18),(16,23,19),(13,25,20),(14,27,21)]
theorem Kw: ∀p∈nS,wd p.2.1= .ins p.1 p.2.2 (dW p.1):=by
 intro p hp
 simp only[nS,List.mem_cons,List.not_mem_nil,or_false] at hp
 rcases hp with rfl|rfl|rfl|rfl|rfl|rfl|rfl|rfl|rfl|rfl<;>rfl
theorem Kx {k:Nat} (h:k∈kU): ∃p∈nS,p.1=k:=by
 simp only[kU,List.mem_cons,List.not_mem_nil,or_false] at h
 rcases h with rfl|rfl|rfl|rfl|rfl|rfl|rfl|rfl|rfl|rfl<;>simp[nS]
theorem Ky {k:Nat} (h:k∉kU):dW k=[]:=by
 simp only[kU,List.mem_cons,List.not_mem_nil,or_false,not_or] at h
 unfold dW
 repeat rw[if_neg (by omega)]
theorem Kz (ho:ops[i]? =some o) (hg:o.guard=none) (hd:o.dst=some 22) (hop:o.op= .move (.tmp 4)) (hw:wd i= .mv) (hp:gI ops i 22=true) (hn:ops.size=33)
 (hall:((nS.all fun p=>ch .any ops i p.2.1)&&ch .any ops i 0)=true):gi Q ops W0 B xb kd t0 t1 t2 ds i o:=by
 intro a w hF hdep
 simp only[Bool.and_eq_true,List.all_eq_true] at hall
 have hm0:YD B xb kd .mk a w:=hdep 0 hall.2
 obtain⟨M,hM⟩:=hm0
 obtain⟨hM0,f,hf,hfk⟩:=hF.map M hM
 have hrun:(execOp a.eval o).run prog w= .ok (.value (.map (some M))) w:=by
  simp only[execOp,hop,iE hM,Sem.run_pure]
 refine nT ?_
 rw[hw]
 refine⟨M,f,iD _ (by rw[hF.size];decide),hf,?_⟩
 by_cases hk:kd∈kU
 ·obtain⟨p,hpm,rfl⟩:=Kx hk
  have hy:=hdep p.2.1 (hall.1 p hpm)
  rw[Kw p hpm] at hy
  obtain⟨M',g,v,h1,h2,h3,h4⟩:=hy
  rw[hM] at h1
  injection h1 with h1;injection h1 with h1;injection h1 with h1
  subst h1
  rw[hf.uniq h2,h3]
  exact h4
 ·rw[hfk kd hk,Ky hk]
  exact df.nil_ _ _
theorem KA (ho:ops[i]? =some o) (hg:o.guard=none) (hd:o.dst=some 23) (hop:o.op= .fieldAddr 87 (.tmp 1) 0) (hw:wd i= .fa) (hp:gI ops i 23=true) (hn:ops.size=33) (ht1:t1= .pointer (some ⟨xb,0,none⟩)):gi Q ops W0 B xb kd t0 t1 t2 ds i o:=by
 intro a w hF hdep
 have h1:=hF.s1
 rw[ht1] at h1
 have hrun:(execOp a.eval o).run prog w= .ok (.value (.pointer (some ⟨xb,0,none⟩))) w:=by
  simp only[execOp,hop,iE h1]
  go_simp
 refine nT ?_
 rw[hw]
 exact iD _ (by rw[hF.size];decide)
theorem KB (ho:ops[i]? =some o) (hg:o.guard=none) (hd:o.dst=some 24) (hop:o.op= .load 3 (.tmp 23)) (hw:wd i= .ld) (hp:gI ops i 24=true) (hn:ops.size=33) (h0:ch .any ops i 29=true)
 (hzx:xb<W0.heap.size) (hx0:W0.cell? ⟨xb,0,none⟩=some (.int .i64 kd)):gi Q ops W0 B xb kd t0 t1 t2 ds i o:=by
 intro a w hF hdep
 have h1:a.tmps[23]? =some (.pointer (some ⟨xb,0,none⟩)):=hdep 29 h0
 have hc:w.cell? ⟨xb,0,none⟩=some (.int .i64 kd):=(hF.below.cell (p:=⟨xb,0,none⟩) hzx).trans hx0
 have hrun:(execOp a.eval o).run prog w= .ok (.value (.int .i64 kd)) w:=by
  simp only[execOp,hop,iE h1]
  go_simp
 refine nT ?_
 rw[hw]
 exact iD _ (by rw[hF.size];decide)
theorem KC (ho:ops[i]? =some o) (hg:o.guard=none) (hd:o.dst=some 25) (hop:o.op= .lookup 237 (.tmp 22) (.tmp 24) false) (hw:wd i= .lk) (hp:gI ops i 25=true) (hn:ops.size=33)
 (h0:ch .any ops i 28=true) (h1:ch .any ops i 30=true):gi Q ops W0 B xb kd t0 t1 t2 ds i o:=by
 intro a w hF hdep
 obtain⟨M,f,hM,hf,hW⟩:YD B xb kd .mv a w:=hdep 28 h0
 have hk:a.tmps[24]? =some (.int .i64 kd):=hdep 30 h1
 have hr:=fL (P:=prog) underlying237 underlying3 aO hf (kd:Int) false (zeroValue183 _)
 simp only[Bool.false_eq_true,if_false] at hr
 have hrun:(execOp a.eval o).run prog w= .ok (.value ((f (kd:Int)).getD (.slice none 0 0))) w:=by
  have hr':(Instr.lookup 237 (.map (some M)) (.int .i64 kd) false).run prog w= .ok ((f (kd:Int)).getD (.slice none 0 0)) w:=hr
  simp only[execOp,hop,iE hM,iE hk,Sem.run_bind,hr',Result.andThen_ok,Sem.run_pure]
 refine nT ?_
 rw[hw]
 exact⟨_,iD _ (by rw[hF.size];decide),hW⟩
theorem KD (ho:ops[i]? =some o) (hg:o.guard=none) (hd:o.dst=some 3) (hop:o.op= .assign (.tmp 25)) (hw:wd i= .as_) (hp:gI ops i 3=true) (hn:ops.size=33) (h0:ch .any ops i 31=true):gi Q ops W0 B xb kd t0 t1 t2 ds i o:=by
 intro a w hF hdep
 obtain⟨v,hv,hW⟩:YD B xb kd .lk a w:=hdep 31 h0
 have hrun:(execOp a.eval o).run prog w= .ok (.value v) w:=by
  simp only[execOp,hop,iE hv,Sem.run_pure]
 refine nT ?_
 rw[hw]
 exact⟨_,iD _ (by rw[hF.size];decide),hW⟩
end
def tY (S:Nat→Oper→Prop):Nat→List Oper→Prop
 |_,[]=>True
 |i,o::r=>S i o∧tY S (i+1) r
theorem AI {S:Nat→Oper→Prop}: ∀(l:List Oper) (n:Nat),tY S n l→∀(j:Nat) o,l[j]? =some o→S (n+j) o
 |[],_,_,j,o,h=>by simp at h
 |x::r,n,h,0,o,ho=>by simp at ho;subst ho;exact h.1
 |x::r,n,h,j+1,o,ho=>by
  have:=AI r (n+1) h.2 j o (by simpa using ho)
  rw[show n+(j+1)=n+1+j by omega]
  exact this
theorem KE {xs:Array Value} (h:xs.size=37): ∃u0 u1 u2 u3 u4 u5 u6 u7 u8 u9 u10 u11 u12 u13 u14 u15 u16 u17 u18 u19 u20 u21 u22 u23 u24 u25 u26 u27 u28 u29 u30 u31 u32 u33 u34 u35 u36,xs=List.toArray (u0::u1::u2::u3::u4::u5::u6::u7::u8::u9::u10::u11::u12::u13::u14::u15::u16::u17::u18::u19::u20::u21::u22::u23::u24::u25::u26::u27::u28::u29::u30::u31::u32::u33::u34::u35::u36::[]):=by
 obtain⟨l⟩:=xs
 match l,h with
 |u0::u1::u2::u3::u4::u5::u6::u7::u8::u9::u10::u11::u12::u13::u14::u15::u16::u17::u18::u19::u20::u21::u22::u23::u24::u25::u26::u27::u28::u29::u30::u31::u32::u33::u34::u35::u36::[],_=>exact⟨u0,u1,u2,u3,u4,u5,u6,u7,u8,u9,u10,u11,u12,u13,u14,u15,u16,u17,u18,u19,u20,u21,u22,u23,u24,u25,u26,u27,u28,u29,u30,u31,u32,u33,u34,u35,u36,rfl⟩
theorem KF {Q:Exit→Act→World→Prop} {W0:World} {B xb kd:Nat} {t0 t1 t2:Value} {ds:List Deferred} (ops:Array Oper) (h:tY (gi Q ops W0 B xb kd t0 t1 t2 ds) 0 ops.toList): ∀i o,ops[i]? =some o→gi Q ops W0 B xb kd t0 t1 t2 ds i o:=fun i o ho=>by
 have:=AI _ 0 h i o (by rw[Array.getElem?_toList];exact ho)
 rwa [Nat.zero_add] at this
def tZ (v:Value):Nat:=match v with| .slice _ n _=>n|_=>0
theorem df.form {w:World} {B:Nat} {v:Value} {fs:List (Option Nat)} (h:df w B v fs): ∃A c,v= .slice A fs.length c:=by
 obtain⟨us,h1,_⟩:=h
 rcases h1.2 with ⟨rfl,h0⟩|⟨g,cap,cur,rfl,_⟩
 ·exact⟨none,0,by rw[h0]⟩
 ·exact⟨_,_,rfl⟩
theorem df.grown {W w':World} {B n:Nat} {v v' cl:Value} {us:List Value} {fs:List (Option Nat)} {o:Option Nat} (hown:W.ownsRow B 185 1 v n us) (hn:fs.length=n) (hall: ∀(i:Nat) u o,us[i]? =some u→fs[i]? =some o→ge W u o)
 (hown':w'.ownsRow B 185 1 v' (n+1) (us++[cl])) (hg:W.grownBy w' v.ownBlock) (hcl:ge W cl o):df w' B v' (fs++[o]):=by
 have far: ∀u o,ge W u o→ge w' u o:=by
  intro u o h
  cases o with
  |none=>exact h
  |some k=>
   obtain⟨b,rfl,hb⟩:=h
   refine⟨b,rfl,eD hb hg (fun j hj e=> ?_)⟩
   subst e
   rcases hown.2 with ⟨rfl,_⟩|⟨g,cap,cur,rfl,_,hg2,_⟩
   ·simp[Value.ownBlock] at hj
   ·have:g=b:=by simpa[Value.ownBlock] using hj
    subst this
    rw[hg2] at hb
    injection hb with hb
    injection hb with _ hb _
    revert hb
    decide
 have hl:us.length=fs.length:=by rw[hown.1,hn,Nat.mul_one]
 refine⟨us++[cl],by rw[List.length_append,hn];exact hown',fun i u o' hu ho=> ?_⟩
 rcases Nat.lt_or_ge i us.length with hi|hi
 ·rw[List.getElem?_append_left hi] at hu
  rw[List.getElem?_append_left (by rw[←hl];exact hi)] at ho
  exact far _ _ (hall i u o' hu ho)
 ·rw[List.getElem?_append_right hi] at hu
  rw[List.getElem?_append_right (by rw[←hl];exact hi)] at ho
  have h0:i - us.length=0:=by
   have:=(List.getElem?_eq_some_iff.1 hu).1
   simp at this
   omega
  rw[h0] at hu
  rw[←hl,h0] at ho
  simp at hu ho
  subst hu ho
  exact far _ _ hcl
theorem KG {w:World} {B:Nat} {e:TypeId} {size:Nat} {v:Value} {n:Nat} {xs:List Value} (h:w.ownsRow B e size v n xs):tZ v=n:=by
 rcases h.2 with ⟨rfl,h0⟩|⟨g,cap,cur,rfl,_⟩
 ·exact h0.symm
 ·rfl
theorem KH (w:World):Calls prog 224 #[.int .i64 3] w fun e w'=> ∃b,e= .returned (.func (.func 318) #[] #[ptr b])∧w.heap.size≤b∧w'.heap[b]? =some (.cells #[.int .i64 3] 3 (0,0))∧Below w.heap.size w w':=zJ 3 w
theorem KI (d:ar) (rv nv:Value) (w:World) (hrv:aI w w.heap.size rv d.refs) (hl:d.refs.length≤100000) (hfx:(dW d.kind).length≤d.refs.length):
 Calls prog 146 #[.agg #[.int .i64 d.kind,.string (bs d.name),rv,nv,.int .i64 d.by_,.bool d.always]] w fun e w'=> ∃v,e= .returned v∧df w' w.heap.size v (pR d)∧Below w.heap.size w w':=by
 obtain⟨RA,rn,rc,rfl,hrn,_,_⟩:=hrv.sk.form
 obtain⟨i0,hi,hz0,hz1,hz2⟩:=info_parts (show(Tryz.prog.info? 185).map (fun i=>(i.zero,i.size,i.bytes))=some (some .nilFunc,1,8) by kernel_rfl)
 go_enter func146,ntmps146
 go_upto_region 1 with (fail)
 refine AJ ?_
 intro W1 ⟨hBW,hxW⟩
 have hzx:=blk_lt hxW
 have hx0:W1.cell? ⟨w.heap.size,0,none⟩=some (.int .i64 d.kind):=af hxW rfl
 have hx2:W1.cell? ⟨w.heap.size,2,none⟩=some (.slice RA rn rc):=af hxW rfl
 have hzB:w.heap.size≤W1.heap.size:=hBW.size
 have HBW:=aa hBW;have HX2:=aa hx2;have HRN:=aa hrn;have HFX:=aa hfx
 clear hBW hxW hrv hrn hfx
 refine EZ (ka W1 W1.heap.size w.heap.size d.kind (.agg #[.int .i64 d.kind,.string (bs d.name),.slice RA rn rc,nv,.int .i64 d.by_,.bool d.always]) (.pointer (some ⟨w.heap.size,0,none⟩)) (.slice none 0 0) []) (fun i a w'=>YD W1.heap.size w.heap.size d.kind (wd i) a w') (by kernel_rfl) (by kernel_rfl) ?_ (KF _ ?_) ?_
 ·exact⟨rfl,rfl,rfl,rfl,rfl,au (B0 W1),ae _,fun M hM=>by cases hM⟩
 ·refine And.intro (Ku (by kernel_rfl) rfl rfl rfl rfl (by kernel_rfl) rfl) ?_
  refine And.intro (kV (s:=5) (k:=0) (by kernel_rfl) rfl rfl rfl rfl (by kernel_rfl) rfl (by decide)) ?_
  refine And.intro (kV (s:=6) (k:=1) (by kernel_rfl) rfl rfl rfl rfl (by kernel_rfl) rfl (by decide)) ?_
  refine And.intro (AH (s:=7) (k0:=0) (k1:=1) (s0:=5) (s1:=6) (j0:=1) (j1:=2) (by kernel_rfl) rfl rfl rfl rfl (by kernel_rfl) rfl (by decide) (by kernel_rfl) rfl (by kernel_rfl) rfl) ?_
  refine And.intro (jb (k:=2) (s:=7) (fs:=[some 0,some 1]) (j0:=3) (by kernel_rfl) rfl rfl rfl rfl (by kernel_rfl) rfl (by decide) (by kernel_rfl) (by kernel_rfl) rfl) ?_
  refine And.intro (kV (s:=8) (k:=2) (by kernel_rfl) rfl rfl rfl rfl (by kernel_rfl) rfl (by decide)) ?_
  refine And.intro (tX (s:=9) (k0:=2) (s0:=8) (j0:=5) (by kernel_rfl) rfl rfl rfl rfl (by kernel_rfl) rfl (by decide) (by kernel_rfl) rfl) ?_
  refine And.intro (jb (k:=3) (s:=9) (fs:=[some 2]) (j0:=6) (by kernel_rfl) rfl rfl rfl rfl (by kernel_rfl) rfl (by decide) (by kernel_rfl) (by kernel_rfl) rfl) ?_
  refine And.intro (kV (s:=10) (k:=0) (by kernel_rfl) rfl rfl rfl rfl (by kernel_rfl) rfl (by decide)) ?_
  refine And.intro (kV (s:=11) (k:=0) (by kernel_rfl) rfl rfl rfl rfl (by kernel_rfl) rfl (by decide)) ?_
  refine And.intro (AH (s:=12) (k0:=0) (k1:=0) (s0:=10) (s1:=11) (j0:=8) (j1:=9) (by kernel_rfl) rfl rfl rfl rfl (by kernel_rfl) rfl (by decide) (by kernel_rfl) rfl (by kernel_rfl) rfl) ?_
  refine And.intro (jb (k:=4) (s:=12) (fs:=[some 0,some 0]) (j0:=10) (by kernel_rfl) rfl rfl rfl rfl (by kernel_rfl) rfl (by decide) (by kernel_rfl) (by kernel_rfl) rfl) ?_
  refine And.intro (kV (s:=13) (k:=0) (by kernel_rfl) rfl rfl rfl rfl (by kernel_rfl) rfl (by decide)) ?_
  refine And.intro (tX (s:=14) (k0:=0) (s0:=13) (j0:=12) (by kernel_rfl) rfl rfl rfl rfl (by kernel_rfl) rfl (by decide) (by kernel_rfl) rfl) ?_
  refine And.intro (jb (k:=8) (s:=14) (fs:=[some 0]) (j0:=13) (by kernel_rfl) rfl rfl rfl rfl (by kernel_rfl) rfl (by decide) (by kernel_rfl) (by kernel_rfl) rfl) ?_
  refine And.intro (kV (s:=15) (k:=5) (by kernel_rfl) rfl rfl rfl rfl (by kernel_rfl) rfl (by decide)) ?_
  refine And.intro (tX (s:=16) (k0:=5) (s0:=15) (j0:=15) (by kernel_rfl) rfl rfl rfl rfl (by kernel_rfl) rfl (by decide) (by kernel_rfl) rfl) ?_
  refine And.intro (jb (k:=10) (s:=16) (fs:=[some 5]) (j0:=16) (by kernel_rfl) rfl rfl rfl rfl (by kernel_rfl) rfl (by decide) (by kernel_rfl) (by kernel_rfl) rfl) ?_
  refine And.intro (pV (s:=17) (by kernel_rfl) rfl rfl rfl rfl (by kernel_rfl) rfl (by decide)) ?_
  refine And.intro (jb (k:=11) (s:=17) (fs:=[none]) (j0:=18) (by kernel_rfl) rfl rfl rfl rfl (by kernel_rfl) rfl (by decide) (by kernel_rfl) (by kernel_rfl) rfl) ?_
  refine And.intro (pV (s:=18) (by kernel_rfl) rfl rfl rfl rfl (by kernel_rfl) rfl (by decide)) ?_
  refine And.intro (jb (k:=12) (s:=18) (fs:=[none]) (j0:=20) (by kernel_rfl) rfl rfl rfl rfl (by kernel_rfl) rfl (by decide) (by kernel_rfl) (by kernel_rfl) rfl) ?_
  refine And.intro (pV (s:=19) (by kernel_rfl) rfl rfl rfl rfl (by kernel_rfl) rfl (by decide)) ?_
  refine And.intro (jb (k:=16) (s:=19) (fs:=[none]) (j0:=22) (by kernel_rfl) rfl rfl rfl rfl (by kernel_rfl) rfl (by decide) (by kernel_rfl) (by kernel_rfl) rfl) ?_
  refine And.intro (pV (s:=20) (by kernel_rfl) rfl rfl rfl rfl (by kernel_rfl) rfl (by decide)) ?_
  refine And.intro (jb (k:=13) (s:=20) (fs:=[none]) (j0:=24) (by kernel_rfl) rfl rfl rfl rfl (by kernel_rfl) rfl (by decide) (by kernel_rfl) (by kernel_rfl) rfl) ?_
  refine And.intro (Kv (s:=21) (by kernel_rfl) rfl rfl rfl rfl (by kernel_rfl) rfl (by decide)) ?_
  refine And.intro (jb (k:=14) (s:=21) (fs:=[none,none]) (j0:=26) (by kernel_rfl) rfl rfl rfl rfl (by kernel_rfl) rfl (by decide) (by kernel_rfl) (by kernel_rfl) rfl) ?_
  refine And.intro (Kz (by kernel_rfl) rfl rfl rfl rfl (by kernel_rfl) rfl (by kernel_rfl)) ?_
  refine And.intro (KA (by kernel_rfl) rfl rfl rfl rfl (by kernel_rfl) rfl rfl) ?_
  refine And.intro (KB (by kernel_rfl) rfl rfl rfl rfl (by kernel_rfl) rfl (by kernel_rfl) hzx hx0) ?_
  refine And.intro (KC (by kernel_rfl) rfl rfl rfl rfl (by kernel_rfl) rfl (by kernel_rfl) (by kernel_rfl)) ?_
  refine And.intro (KD (by kernel_rfl) rfl rfl rfl rfl (by kernel_rfl) rfl (by kernel_rfl)) ?_
  exact trivial
 intro a W2 hF hY
 obtain⟨v,hv,hW⟩:YD W1.heap.size w.heap.size d.kind .as_ a W2:=hY 32 (by decide)
 obtain⟨s1,s2,s3,s4,s5,hB2,_,_⟩:=hF
 obtain⟨tm,dl⟩:=a
 obtain⟨u0,u1,u2,u3,u4,u5,u6,u7,u8,u9,u10,u11,u12,u13,u14,u15,u16,u17,u18,u19,u20,u21,u22,u23,u24,u25,u26,u27,u28,u29,u30,u31,u32,u33,u34,u35,u36,rfl⟩:=KE s1
 simp only[List.getElem?_toArray,List.getElem?_cons_zero,List.getElem?_cons_succ,Option.some.injEq] at s2 s3 s4 hv
 dsimp only at s5
 subst s2 s3 s4 s5 hv
 have HB2:=aa hB2;have HW:=aa hW
 clear hY hB2 hW
 obtain⟨F,hFd⟩: ∃F,(dW d.kind).length=F:=⟨_,rfl⟩
 have HFd:=aa hFd
 have HFX2:Hid (F≤rn):=by show F≤rn;rw[←hFd,←HRN.out];exact HFX.out
 rw[HRN.out] at hl
 clear hFd
 go_wp2_with fail
 go_loopw [3] (fun v wr=> ∃k:Nat,F+k≤rn∧df wr W1.heap.size v (dW d.kind++List.replicate k (some 3))∧Below W1.heap.size W1 wr) (fun v _=>rn - tZ v)
 case atStart=>exact⟨0,by have:=HFX2.out;omega,by simpa using HW.out,HB2.out⟩
 case round=>
  obtain⟨k,hk,hWk,hBk⟩:=hrel
  obtain⟨A,c,rfl⟩:=hWk.form
  have hlen:(dW d.kind++List.replicate k (some 3)).length=F+k:=by rw[List.length_append,HFd.out,List.length_replicate]
  have hx2r:wr.cell? ⟨w.heap.size,2,none⟩=some (.slice RA rn rc):=(hBk.cell (p:=⟨w.heap.size,2,none⟩) hzx).trans HX2.out
  obtain⟨us,hown,hall⟩:=hWk
  rw[hlen] at hown⊢
  have HOW:=aa hown;have HAL:=aa hall;have HLen:=aa hlen;have HBk:=aa hBk
  have hzk:=hBk.size
  clear hown hall hlen hBk
  by_cases hlt:F+k<rn
  ·have hI:((F+k:Nat):Int)<rn:=by omega
   go_wp2_with first
    |(go_at_call 224
      refine(KH _).mono ?_
      rintro e w3 ⟨b,rfl,hbb,hbl,hb3⟩
      have HBL:=aa hbl;have HB3:=aa hb3
      clear hbl hb3
      simp only[ptr])
    |(at_builtin;go_loud (refine wpList_append_own _ rfl (.tmp 32) (.tmp 34) _ rfl W1.heap.size 185 i0 _ 1 8 underlying183 hi hz0 hz1 hz2 rfl (by decide) _ (F+k) us rfl ((cB HOW.out HB3.out).alloc _) ⟨w3.heap.size,0,none⟩ 1 1 [.func (.func 318) #[] #[.pointer (some ⟨b,0,none⟩)]] rfl rfl (eE rfl) (by simp[Value.oneCell']) (by simp[maxLen];omega) (by omega) (by have:=HB3.out.size;simp;omega) ?_)
      intro v' w4 hown' hgrow _
      have HOW2:=aa hown'
      have HG:=aa hgrow
      have HB4:=aa (ir ((cB HOW.out HB3.out).alloc (.cells #[.func (.func 318) #[] #[.pointer (some ⟨b,0,none⟩)]] 185)) (ac (ag HBk.out HB3.out) _) (ae _) hgrow)
      clear hown' hgrow)
   refine⟨⟨k+1,by omega,?_,HB4.out⟩,by have:=KG HOW2.out;show rn - tZ v'<rn - (F+k);omega⟩
   have h:=df.grown (fs:=dW d.kind++List.replicate k (some 3)) (o:=some 3) ((cB HOW.out HB3.out).alloc _) HLen.out (fun i u o hu ho=>(HAL.out i u o hu ho).keep (gh.of_below (ac HB3.out _))) HOW2.out HG.out ⟨b,rfl,ah HBL.out (ac (B0 w3) _)⟩
   rw[List.append_assoc,←List.replicate_succ'] at h
   exact h
  ·have hI: ¬((F+k:Nat):Int)<rn:=by omega
   go_wp2_with fail
   go_ret
   refine⟨_,rfl,?_,ag HBW.out HBk.out⟩
   have hke:k=rn - F:=by omega
   have h:df wr w.heap.size (.slice A (F+k) c) (dW d.kind++List.replicate k (some 3)):=⟨us,by
    rw[HLen.out]
    exact⟨HOW.out.1,HOW.out.2.imp id fun⟨g,cap,cur,e1,hb,hrest⟩=>⟨g,cap,cur,e1,aP hzB hb,hrest⟩⟩,HAL.out⟩
   rw[tU,HRN.out,HFd.out,←hke]
   exact h
theorem KJ (d:ar) (hk:d.kind<17) (i k:Nat):AB ((dW d.kind).getD i (some 3)) k=lr d i k:=by
 obtain⟨kind,nm,rf,nu,b,al⟩:=d
 dsimp only at hk
 have:kind=0∨kind=1∨kind=2∨kind=3∨kind=4∨kind=5∨kind=6∨kind=7∨kind=8∨kind=9∨kind=10∨kind=11∨kind=12∨kind=13∨kind=14∨kind=15∨kind=16:=by omega
 rcases this with rfl|rfl|rfl|rfl|rfl|rfl|rfl|rfl|rfl|rfl|rfl|rfl|rfl|rfl|rfl|rfl|rfl<;>rcases i with _|_|i<;>rfl
theorem AK {d:ar} {nm:Bool} {a b n:Nat} {x y:Bool} (h:ee d nm a b n x y=true):a≤d.refs.length∧d.refs.length≤b∧d.nums.length=n:=by
 unfold ee at h
 simp only[Bool.and_eq_true,decide_eq_true_eq] at h
 exact⟨h.1.1.1.1.1,h.1.1.1.1.2,h.1.1.1.2⟩
theorem gJ {d:ar} (h:dF d=true):d.kind<17∧(dW d.kind).length≤d.refs.length∧d.refs.length≤17∧d.nums.length≤4∧
 (d.kind=2→d.refs.length=2)∧(d.kind=3→d.refs.length=1∧d.nums.length=1)∧(d.kind=4→d.refs.length=2∧d.nums.length=1)∧(d.kind=5→d.nums.length=3)∧(d.kind=6→d.nums.length=4)∧(d.kind=7→d.nums.length=3)∧
 (d.kind=8→d.refs.length=1∧d.nums.length=2)∧(d.kind=13→2≤d.refs.length)∧(d.kind=14→d.refs.length=2)∧(10≤d.kind→d.nums.length≤1)∧(10≤d.kind→d.kind≠15→1≤d.refs.length):=by
 unfold dF at h
 rw[Bool.and_eq_true,Bool.and_eq_true] at h
 have h:=h.1.1
 unfold lq at h
 obtain⟨kind,nm,rf,nu,b,al⟩:=d
 dsimp only at h⊢
 split at h<;>first|(simp at h;done)|skip
 all_goals
  first
   |(rw[Bool.and_eq_true,Bool.and_eq_true] at h;obtain⟨h1,h2,h3⟩:=AK h.1.1)
   |obtain⟨h1,h2,h3⟩:=AK h
  dsimp only at h1 h2 h3
  simp[dW]
  omega
theorem KK {d:ar} (h:dF d=true) {i:Nat} (hi:i<d.refs.length): ∃o,(pR d)[i]? =some o∧∀k,AB o k=lr d i k:=by
 have hv:=gJ h
 refine⟨(dW d.kind).getD i (some 3),?_,fun k=>KJ d hv.1 i k⟩
 rw[tU]
 rcases Nat.lt_or_ge i (dW d.kind).length with hl|hl
 ·rw[List.getElem?_append_left hl,List.getD_eq_getElem?_getD,List.getElem?_eq_getElem hl];rfl
 ·rw[List.getElem?_append_right hl,List.getD_eq_getElem?_getD,List.getElem?_eq_none hl,List.getElem?_replicate,if_pos (by omega)];rfl
theorem KL {d:ar} (h:dF d=true):(pR d).length=d.refs.length:=by
 have hv:=gJ h
 rw[tU,List.length_append,List.length_replicate]
 omega
theorem KM {t:br} {d:ar} {i:Nat} {s:ai} {r:List ai} (h:dR t s=none):fv t d i (s::r)=4:=by rw[fv,h]
theorem KN {t:br} {d:ar} {i:Nat} {s:ai} {r:List ai} {x:Nat×Nat} (h:dR t s=some x) (hw:lr d i x.1=false):fv t d i (s::r)=7:=by
 rw[fv,h]
 simp[hw]
theorem KO {t:br} {d:ar} {i:Nat} {s:ai} {r:List ai} {x:Nat×Nat} (h:dR t s=some x) (hw:lr d i x.1=true):fv t d i (s::r)=fv t d (i+1) r:=by
 rw[fv,h]
 simp[hw]
theorem AM {t:br} {d:ar} {e:Nat} (h:fv t d 0 d.refs=e) (he:e≠0):ez t d=e:=by
 unfold ez
 simp[h,he]
theorem KQ {t:br} {d:ar} (h:fv t d 0 d.refs=0) (hn: ¬(eh d).Nodup):ez t d=5:=by
 unfold ez
 simp[h,hn]
theorem KR {t:br} {d:ar} (h:fv t d 0 d.refs=0) (hn:(eh d).Nodup) (hk:(d.kind=4∨d.kind=14)∧d.refs[0]? =d.refs[1]?):ez t d=2:=by
 unfold ez
 simp[h,hn,hk]
theorem KS {t:br} {d:ar} (h:fv t d 0 d.refs=0) (hn:(eh d).Nodup) (hk: ¬((d.kind=4∨d.kind=14)∧d.refs[0]? =d.refs[1]?)):ez t d=0:=by
 unfold ez
 simp only[h,hn]
 simp[hk]
section
variable {κ:Type} [DecidableEq κ] {enc:κ→Value} {P:Program} {ops:Array Oper} {o:Oper} {a:Act} {w:World} {K:Act→World→Prop} {Q:Exit→Act→World→Prop} {E:Prop}
theorem eU (hg:o.guard=none) (m x v:Operand) (t:TypeId) (hop:o.op=Op.mapUpdate t m x v∨o.op=Op.insert t m x v)
 (kt e:TypeId) (d:TypeDesc) (ht:P.underlying t=some (.map kt e)) (hk:P.underlying kt=some d) (En:j6 d enc) (b:Nat) (f:κ→Option Value) (hm:a.eval m= .map (some b)) (hb:aZ enc w b f)
 (k:κ) (val:Value) (hx:a.eval x=enc k) (hv:a.eval v=val)
 (hK: ∀w',aZ enc w' b (aS f k val)→cM w w' b→K (a.put o.dst undef) w'):
 if Region.wanted o (yielded ops a.tmps)=true then Oper.wp P o a w K Q else E:=by
 have hw:Region.wanted o (yielded ops a.tmps)=true:=by simp[Region.wanted,hg]
 rw[if_pos hw]
 obtain⟨ob,hrun,hM⟩:=oZ ht hk En hb k val
 unfold Oper.wp
 have h4:=hK _ hM (lz _ _ _)
 clear hM hK
 generalize ChangeMaps.setBlock w b ob=W at hrun h4
 exact qM
theorem lY (hg:o.guard=none) (m x:Operand) (t:TypeId) (c:Bool) (hop:o.op=Op.lookup t m x c)
 (kt e:TypeId) (d:TypeDesc) (ht:P.underlying t=some (.map kt e)) (hk:P.underlying kt=some d) (En:j6 d enc) (b:Nat) (f:κ→Option Value) (hm:a.eval m= .map (some b)) (hb:aZ enc w b f)
 (k:κ) (z:Value) (hx:a.eval x=enc k) (hz:(zeroValue e).run P w= .ok z w) (u:Value) (hu:(if c then .tuple #[(f k).getD z,.bool (f k).isSome] else(f k).getD z)=u)
 (hK:K (a.put o.dst u) w):if Region.wanted o (yielded ops a.tmps)=true then Oper.wp P o a w K Q else E:=by
 have hw:Region.wanted o (yielded ops a.tmps)=true:=by simp[Region.wanted,hg]
 rw[if_pos hw]
 have hrun:=fL ht hk En hb k c hz
 rw[hu] at hrun
 unfold Oper.wp
 simp[execOp,hop,hm,hx,hrun,Result.andThen]
 exact hK
theorem AN (hg:o.guard=none) (t:TypeId) (hop:o.op=Op.makeMap t none) (hK: ∀w',aZ enc w' w.heap.size (fun _=>none)→Below w.heap.size w w'→K (a.put o.dst (.map (some w.heap.size))) w'):
 if Region.wanted o (yielded ops a.tmps)=true then Oper.wp P o a w K Q else E:=by
 have hw:Region.wanted o (yielded ops a.tmps)=true:=by simp[Region.wanted,hg]
 rw[if_pos hw]
 unfold Oper.wp
 have hrun:(execOp a.eval o).run P w= .ok (.value (.map (some w.heap.size))) (w.alloc (.map #[] 0)):=by
  simp only[execOp,hop,Option.map_none,Sem.run_bind,run_makeMap,Result.andThen_ok,Sem.run_pure]
 rw[hrun]
 exact hK _ (aZ.made enc w) (ac (B0 w) _)
end
def LF (r q:Value):Int→Option Value:=fun k=>if k=5 then some r else if k=6 then some r else if k=13 then some q else none
def jG (r q:Value) (k:Nat):Value:=if k=5∨k=6 then r else if k=13 then q else .slice none 0 0
theorem lZ (r q:Value) (k:Nat):(if(false:Bool)=true then Value.tuple #[(LF r q (k:Int)).getD (.slice none 0 0),.bool (LF r q (k:Int)).isSome] else(LF r q (k:Int)).getD (.slice none 0 0))=jG r q k:=by
 simp only[Bool.false_eq_true,if_false,LF,jG]
 by_cases h1:k=5
 ·subst h1;simp
 ·by_cases h2:k=6
  ·subst h2;simp
  ·by_cases h3:k=13
   ·subst h3;simp
   ·rw[if_neg (by omega),if_neg (by omega),if_neg (by omega),if_neg (by omega),if_neg h3];rfl
theorem KT (r q:Value) (k:Int):LF r q k=aS (aS (aS (fun _=>none) 5 r) 6 r) 13 q k:=by
 exact nU
theorem KU (r q:Value) (k:Int):LF r q k=aS (aS (aS (fun _=>none) 5 r) 13 q) 6 r k:=by
 exact nU
theorem KV (r q:Value) (k:Int):LF r q k=aS (aS (aS (fun _=>none) 6 r) 5 r) 13 q k:=by
 exact nU
theorem KW (r q:Value) (k:Int):LF r q k=aS (aS (aS (fun _=>none) 6 r) 13 q) 5 r k:=by
 exact nU
theorem KX (r q:Value) (k:Int):LF r q k=aS (aS (aS (fun _=>none) 13 q) 5 r) 6 r k:=by
 exact nU
theorem KY (r q:Value) (k:Int):LF r q k=aS (aS (aS (fun _=>none) 13 q) 6 r) 5 r k:=by
 simp only[iW,LF]
theorem AO {w W:World} {d:ar} {r q:Value} (h13: ¬d.kind=13) (h:aI w w.heap.size r d.refs) (hW:Below w.heap.size w W):aI W W.heap.size (jG r q d.kind) (eh d):=by
 unfold jG eh
 by_cases h5:d.kind=5∨d.kind=6
 ·rw[if_pos h5,if_pos h5]
  exact(h.below hW (ae _)).more hW.size
 ·rw[if_neg h5,if_neg h5,if_neg h13,if_neg h13]
  exact aI.nil_ _ _
theorem KZ {w:World} {B sb so n c:Nat} {l:List ai} (h0:0<n) (hn:l.length=n) (h:aI w B (.slice (some ⟨sb,so,none⟩) n c) l):aI w B (.slice (some ⟨sb,so+1,none⟩) (n - 1) (c - 1)) (l.drop 1):=by
 obtain⟨A,c',he,h1,h2,h3⟩:=h
 injection he with e1 e2 e3
 subst e1 e3
 simp only[List.length_map] at e2 h1
 refine⟨some ⟨sb,so+1,none⟩,c - 1,?_,?_,aP (Nat.sub_le _ _) h2,fun hne=> ?_⟩
 ·simp only[List.length_map,List.length_drop]
  rw[hn]
 ·simp only[List.length_map,List.length_drop]
  omega
 ·obtain⟨b,o,e4,hb,hc⟩:=h3 (fun e=>hne (by
   rw[List.map_eq_nil_iff,List.map_eq_nil_iff] at e
   rw[e];rfl))
  injection e4 with e4
  injection e4 with e5 e6 _
  subst e5 e6
  refine⟨sb,so+1,rfl,hb,fun j u hu=> ?_⟩
  rw[show so+1+j=so+(1+j) by omega]
  refine hc (1+j) u ?_
  rw[←hu]
  simp only[List.getElem?_map,List.getElem?_drop]
theorem K7 {w W:World} {d:ar} {sb so rn rc:Nat} (h0:0<rn) (hn:d.refs.length=rn) (h:aI w w.heap.size (.slice (some ⟨sb,so,none⟩) rn rc) d.refs) (hW:Below w.heap.size w W):
 aI W W.heap.size (jG (.slice (some ⟨sb,so,none⟩) rn rc) (.slice (some ⟨sb,so+1,none⟩) (rn - 1) (rc - 1)) d.kind) (eh d):=by
 have hw:=(h.below hW (ae _)).more hW.size
 unfold jG eh
 by_cases h5:d.kind=5∨d.kind=6
 ·rw[if_pos h5,if_pos h5]
  exact hw
 ·rw[if_neg h5,if_neg h5]
  by_cases h13:d.kind=13
  ·rw[if_pos h13,if_pos h13]
   exact KZ h0 hn hw
  ·rw[if_neg h13,if_neg h13]
   exact aI.nil_ _ _
theorem K8 (l:List ai):((l.map bs).map fun x=>x.data.toList)=l:=by
 rw[List.map_map]
 conv=>rhs;rw[←List.map_id l]
 refine List.map_congr_left fun x _=> ?_
 show(bs x).data.toList=x
 exact bL x
theorem K9 (d:ar):(eh d).length≤d.refs.length:=by
 unfold eh
 split
 ·exact ae _
 ·split
  ·rw[List.length_drop];omega
  ·simp
theorem Lb (B:Nat) (v:Value) (zs:List (List UInt8)) (w:World) (h:w.ownsRow B 9 1 v zs.length (zs.map Go.Proofs.encStr)) (hz:zs.length≤1000000):
 Calls prog 149 #[v] w fun e w'=> ∃A c,e= .returned (.slice A (Lib.compact zs).length c)∧Below B w w':=by
 by_cases h0:zs.length=0
 ·have hz0:zs=[]:=List.eq_nil_of_length_eq_zero h0
  subst hz0
  obtain⟨p,c,rfl⟩: ∃p c,v= .slice p 0 c:=by
   rcases h.2 with ⟨hv,_⟩|⟨g,cap,cur,hv,_⟩
   ·exact⟨none,0,hv⟩
   ·exact⟨_,_,hv⟩
  refine(slices_Compact_string_empty p c w).mono ?_
  rintro e w' ⟨rfl,rfl⟩
  exact⟨p,c,by simp[Lib.compact,Lib.compactUpTo],Below.refl _ _⟩
 ·obtain⟨g,cap,rfl,hg1,hg2,hg3,hg4,hg5,hH⟩:=Go.Lib.holds_of_ownsRow h (by
   intro e
   have:=h.2
   rw[e] at this
   rcases this with ⟨_,h1⟩|⟨g,cap,cur,hv,_⟩
   ·exact h0 h1
   ·cases hv)
  have hgB:=(World.ownsRow.lt h g rfl).1
  refine(slices_Compact_string g 0 cap zs w hH (by omega) (by assumption)).mono ?_
  rintro e w' ⟨rfl,q,rfl⟩
  refine⟨_,_,rfl,?_⟩
  exact Go.Lib.below_putRow (Below.refl B w) hgB
end
end Go.Proofs.YthnkonlbfogkgaaGreatDoor
