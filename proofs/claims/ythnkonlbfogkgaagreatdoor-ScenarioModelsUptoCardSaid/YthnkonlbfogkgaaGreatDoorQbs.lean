/- A part of the proof. -/
import Derived.Test.YthnkonlbfogkgaaGreatDoorQbq
import Derived.Test.YthnkonlbfogkgaaGreatDoorQbr
set_option linter.unusedVariables false
set_option linter.unusedSimpArgs false
set_option maxRecDepth 100000
set_option maxHeartbeats 32000000
namespace Go.Proofs.YthnkonlbfogkgaaGreatDoor
section
open Go Go.RowKit Go.MapKept Tryz
theorem LH (f:Fn) (a b:Array Value) (w:World):(Go.binOp .neq 107 (.func f a b) .nilFunc).run prog w= .ok (.bool true) w:=by kernel_rfl
theorem LI (w:World):(Go.binOp .neq 107 .nilFunc .nilFunc).run prog w= .ok (.bool false) w:=by kernel_rfl
def jH:Array Value:= #[.slice none 0 0,.slice none 0 0,.slice none 0 0,.slice none 0 0,.slice none 0 0,.slice none 0 0,.int .i64 0,.int .i64 0,.int .i64 0,.int .i64 0,.slice none 0 0]
def kX (w:World) (r:Except (Nat×Nat) aC) (e:Ending) (w':World):Prop:=
 Below w.heap.size w w'∧match r with
  | .error x=>e= .returned (.tuple #[.agg jH,.int .i64 x.1,.int .i64 x.2])
  | .ok m=> ∃v,e= .returned (.tuple #[.agg (m.cells v),.int .i64 0,.int .i64 0])∧m.In w' w'.heap.size v∧∃B M,w.heap.size≤B∧bI w' B M m v
theorem kX.err {w w':World} {r:Except (Nat×Nat) aC} {x:Nat×Nat} {e:Ending} (h:r= .error x) (he:e= .returned (.tuple #[.agg jH,.int .i64 x.1,.int .i64 x.2])) (hb:Below w.heap.size w w'):kX w r e w':=by
 subst h
 exact⟨hb,he⟩
theorem LJ {W:World} {rt:Nat} {T:TypeId} {u0 u1 u2 u3 u4 u5 u6 u7 u8 u9 u10:Value} (hT:W.heap[rt]? =some (.cells #[u0,u1,u2,u3,u4,u5,u6,u7,u8,u9,u10] T (0,0))) (v0 v1 v2 v3 v4 v5 v6 v7 v8 v9 v10:Value):
 (((((((((((W.setCell ⟨rt,0,none⟩ v0).setCell ⟨rt,1,none⟩ v1).setCell ⟨rt,2,none⟩ v2).setCell ⟨rt,3,none⟩ v3).setCell ⟨rt,4,none⟩ v4).setCell ⟨rt,5,none⟩ v5).setCell ⟨rt,6,none⟩ v6).setCell ⟨rt,7,none⟩ v7).setCell ⟨rt,8,none⟩ v8).setCell ⟨rt,9,none⟩ v9).setCell ⟨rt,10,none⟩ v10).heap[rt]? =some (.cells #[v0,v1,v2,v3,v4,v5,v6,v7,v8,v9,v10] T (0,0))∧KP W.heap.size rt W (((((((((((W.setCell ⟨rt,0,none⟩ v0).setCell ⟨rt,1,none⟩ v1).setCell ⟨rt,2,none⟩ v2).setCell ⟨rt,3,none⟩ v3).setCell ⟨rt,4,none⟩ v4).setCell ⟨rt,5,none⟩ v5).setCell ⟨rt,6,none⟩ v6).setCell ⟨rt,7,none⟩ v7).setCell ⟨rt,8,none⟩ v8).setCell ⟨rt,9,none⟩ v9).setCell ⟨rt,10,none⟩ v10):=
 ⟨(ay (ay (ay (ay (ay (ay (ay (ay (ay (ay (ay hT 0 v0) 1 v1) 2 v2) 3 v3) 4 v4) 5 v5) 6 v6) 7 v7) 8 v8) 9 v9) 10 v10).trans (by kernel_rfl),(KP.set (KP.set (KP.set (KP.set (KP.set (KP.set (KP.set (KP.set (KP.set (KP.set (KP.set (KP.refl _ _ _) (.inl rfl) _) (.inl rfl) _) (.inl rfl) _) (.inl rfl) _) (.inl rfl) _) (.inl rfl) _) (.inl rfl) _) (.inl rfl) _) (.inl rfl) _) (.inl rfl) _) (.inl rfl) _)⟩
theorem LK {a:Act} {W:World} {rt:Nat} {T:TypeId} {R:Ending→World→Prop} {u0 u1 u2 u3 u4 u5 u6 u7 u8 u9 u10 v0 v1 v2 v3 v4 v5 v6 v7 v8 v9 v10 i e:Value} (h2:a.tmps.getD 2 undef= .pointer (some ⟨rt,0,none⟩)) (h3:a.tmps.getD 3 undef=i) (h4:a.tmps.getD 4 undef=e) (hd:a.defers=[])
 (hT:W.heap[rt]? =some (.cells #[u0,u1,u2,u3,u4,u5,u6,u7,u8,u9,u10] T (0,0)))
 (hR: ∀W7,KP W.heap.size rt W W7→R (.returned (.tuple #[.agg #[v0,v1,v2,v3,v4,v5,v6,v7,v8,v9,v10],i,e])) W7):
 bodyPost prog Tryz.f18 R .ret a (((((((((((W.setCell ⟨rt,0,none⟩ v0).setCell ⟨rt,1,none⟩ v1).setCell ⟨rt,2,none⟩ v2).setCell ⟨rt,3,none⟩ v3).setCell ⟨rt,4,none⟩ v4).setCell ⟨rt,5,none⟩ v5).setCell ⟨rt,6,none⟩ v6).setCell ⟨rt,7,none⟩ v7).setCell ⟨rt,8,none⟩ v8).setCell ⟨rt,9,none⟩ v9).setCell ⟨rt,10,none⟩ v10):=by
 obtain⟨g7,hK⟩:=LJ hT v0 v1 v2 v3 v4 v5 v6 v7 v8 v9 v10
 generalize ((((((((((W.setCell ⟨rt,0,none⟩ v0).setCell ⟨rt,1,none⟩ v1).setCell ⟨rt,2,none⟩ v2).setCell ⟨rt,3,none⟩ v3).setCell ⟨rt,4,none⟩ v4).setCell ⟨rt,5,none⟩ v5).setCell ⟨rt,6,none⟩ v6).setCell ⟨rt,7,none⟩ v7).setCell ⟨rt,8,none⟩ v8).setCell ⟨rt,9,none⟩ v9).setCell ⟨rt,10,none⟩ v10=W7 at g7 hK⊢
 obtain⟨f0,f1,f2,f3,f4,f5,f6,f7,f8,f9,f10⟩:=cd g7
 refine bodyPost_ret (v:= .tuple #[.agg #[v0,v1,v2,v3,v4,v5,v6,v7,v8,v9,v10],i,e]) ?_ hd (hR W7 hK)
 have h2':a.tmps[2]?.getD undef= .pointer (some ⟨rt,0,none⟩):=by simpa using h2
 have h3':a.tmps[3]?.getD undef=i:=by simpa using h3
 have h4':a.tmps[4]?.getD undef=e:=by simpa using h4
 simp[results,Tryz.f18,go_sem,h2',h3',h4',f0,f1,f2,f3,f4,f5,f6,f7,f8,f9,f10]
theorem Bc (v:Value) (l:List ar) (w:World) (hG:bY w) (hv:aQ 6 fy w w.heap.size v l) (hl:l.length≤100000):Calls prog 18 #[v] w (kX w (dL l)):=by
 obtain⟨A,n,c,rfl,hn,hc,hcm⟩:=hv.form
 have hnf:=fun f a b w=>LH f a b w
 have hnf0:=fun w=>LI w
 refine fU fun hmm=> ?_
 have HG:=aa hG;have HV:=aa hv;have HN:=aa hn
 have hg8:=hG.g.size
 clear hG hv hn
 go_enter func18,ntmps18
 go_upto_region 2 with (fail)
 refine bt (fun W=>Below w.heap.size w W∧W.heap[w.heap.size]? =some (.cells jH 29 (0,0))∧aZ dI W (w.heap.size+1) (fun _=>none)∧W.heap[w.heap.size+2]? =some (.cells (dX (w.heap.size+1) {} ⟨.slice none 0 0,.slice none 0 0,.slice none 0 0,.slice none 0 0,.slice none 0 0,.slice none 0 0,.slice none 0 0⟩) 101 (0,0))) ?_ ?_
 ·refine⟨ac (ac (ac (B0 w) _) _) _,ah (ah (aN w _) (ac (B0 _) _)) (ac (B0 _) _),?_,?_⟩
  ·have h:=aZ.made dI (w.alloc (.cells jH 29 (0,0)))
   rw[World.size_alloc] at h
   exact h.later (ac (B0 _) _)
  ·have h:=aN ((w.alloc (.cells jH 29 (0,0))).alloc (.map #[] 0)) (.cells (dX (w.heap.size+1) {} ⟨.slice none 0 0,.slice none 0 0,.slice none 0 0,.slice none 0 0,.slice none 0 0,.slice none 0 0,.slice none 0 0⟩) 101 (0,0))
   rw[World.size_alloc,World.size_alloc] at h
   exact h
 intro W1 ⟨hBW,hTW,hMW,hRW⟩
 obtain⟨rt,hrt⟩: ∃b,b=w.heap.size:=⟨_,rfl⟩
 obtain⟨Mb,hMb⟩: ∃b,b=w.heap.size+1:=⟨_,rfl⟩
 obtain⟨rb,hrb⟩: ∃b,b=w.heap.size+2:=⟨_,rfl⟩
 rw[←hrt] at hTW
 rw[←hMb] at hMW
 rw[←hMb,←hrb] at hRW
 rw[←hrb,←hMb,←hrt]
 have hzw:=hBW.size
 have hzR:=blk_lt hRW
 have hrc0:W1.cell? ⟨rb,0,none⟩=some (.map (some Mb)):=af hRW rfl
 have HCo0:=J4 rb Mb (.slice A n c) l W1 (HG.out.step hBW) (by omega) hrc0 (hMW.of_eq (fun k=>rfl)) (HV.out.to fy.ab hBW (ae _) hBW.size) hl
 have HBW:=aa hBW;have HTW:=aa hTW;have HRW:=aa hRW
 have HZR:=aa hzR;have HZW:=aa hzw
 have HRT:=aa hrt;have HMb:=aa hMb;have HRb:=aa hrb
 have hrtM: ¬rt=Mb:=by omega
 have hrbM: ¬rb=Mb:=by omega
 have hrtb: ¬rt=rb:=by omega
 simp only[ptr] at HCo0
 clear hBW hTW hMW hRW hrc0
 cases hcol:dm [] [] l with
 |error x=>
  have HE:=aa (Ls hcol)
  have hx2:=uf l [] [] x hcol
  have HCo:=aa (HCo0.mono (R':=fun e w'=>KP W1.heap.size Mb W1 w'∧e= .returned (.tuple #[.int .i64 x.1,.int .i64 x.2])) (fun e w' h=>⟨h.1,by have h2:=h.2;rw[hcol] at h2;exact h2⟩))
  clear HCo0 hcol hrt hMb hrb
  obtain⟨x1,x2⟩:=x
  have hx2':x2=1∨x2=5:=hx2
  clear hx2
  rcases hx2' with rfl|rfl
  ·exact Bd
  ·exact Bd
 |ok t=>
  have HVa:=aa (AQ l [] [] t hcol)
  have HNu:=aa (Lr hcol (by omega))
  have HCol:=aa hcol
  have HCo:=aa (HCo0.mono (R':=fun e w'=>KP W1.heap.size Mb W1 w'∧e= .returned (.tuple #[.int .i64 0,.int .i64 0])∧aZ dI w' Mb (dr t)) (fun e w' h=>⟨h.1,by have h2:=h.2;rw[hcol] at h2;exact h2⟩))
  clear HCo0 hcol hrt hMb hrb
  have HAd:=aa (fun W=>Jz rb W)
  simp only[ptr] at HAd
  go_upto_region 6 with (first
   |(go_at_call 46
     refine HCo.out.mono ?_
     rintro e w2 ⟨hK2,rfl,hF2⟩
     have HK2:=aa hK2;have HF2:=aa hF2
     clear hK2 hF2)
   |(go_at_call 47
     refine(HAd.out _).mono ?_
     rintro e w3 ⟨Ma,qb,mb,rfl,hA3,hq1,hq2,hq3,hq4,hq5,hb3⟩
     have HA3:=aa hA3;have HQ4:=aa hq4;have HQ5:=aa hq5;have HB3:=aa hb3
     clear hA3 hq4 hq5 hb3))
  have HT3:=aa (ah (HK2.out.blk HTW.out (blk_lt HTW.out) hrtM) HB3.out)
  have hR3:=ah (HK2.out.blk HRW.out (blk_lt HRW.out) hrbM) HB3.out
  have HF3:=aa (HF2.out.later HB3.out)
  have hrt:=HRT.out
  have hMb:=HMb.out
  have hrb:=HRb.out
  have hz2:=HK2.out.size
  have hz3:=HB3.out.size
  have hzm3:=HA3.out.lt
  have hzq3:=blk_lt HQ4.out
  have hzb3:=blk_lt HQ5.out
  obtain⟨B,hB⟩: ∃b,b=w3.heap.size:=⟨_,rfl⟩
  have HM0:Hid (dz w3 rb B 0 Mb {}):=⟨by omega,by omega,_,hR3,bI.nil_ _ _⟩
  have HBW3:Hid (Below w.heap.size w w3):=(HBW.out.trans ((HK2.out.below (by omega)).mono (by omega))).trans (HB3.out.mono (by omega))
  have HZ:=aa (show rb<B∧Mb<B∧Ma<B∧qb<B∧mb<B∧rt<B∧w.heap.size≤rt∧rt<rb∧rt<Mb∧Mb<rb∧rb<qb∧rb<mb∧rb<Ma∧B=w3.heap.size from by omega)
  clear hR3 hz2 hz3 hzm3 hzq3 hzb3 hB hq1 hq2 hq3 hrtM hrbM hrtb hzw hzR hrt hMb hrb
  go_wp2_with fail
  go_loopw [9,32] (fun dk i wr=> ∃(k:Nat) (m:aC),k≤n∧i= .int .i64 k∧dk= .bool ((l.take k).any fun d=>decide (d.kind=8))∧fH t 0 {} l=fH t k m (l.drop k)∧dz wr rb B k Mb m∧KP B rb w3 wr) (fun _ i _=>n - (intOf i).toNat)
  case atStart=>exact⟨0,{},aY _,rfl,rfl,rfl,HM0.out,KP.refl _ _ _⟩
  case round=>
   obtain⟨k,m,hk,rfl,rfl,hse,hAt,hKk⟩:=hrel
   obtain⟨dk,hdk⟩: ∃b,((l.take k).any fun d=>decide (d.kind=8))=b:=⟨_,rfl⟩
   rw[hdk]
   have HSe:=aa hse;have HAt:=aa hAt;have HKk:=aa hKk;have HDk:=aa hdk
   have HBrb:Hid (Below rb w3 wr):=hKk.below (bN HZ.out.1)
   have HBwr:Hid (Below w.heap.size w wr):=HBW3.out.trans (HBrb.out.mono (by have:=HZ.out;omega))
   have HTr:Hid (wr.heap[rt]? =_):=hKk.blk HT3.out HZ.out.2.2.2.2.2.1 (by have:=HZ.out;omega)
   have HFr:=aa (HF3.out.blk (hKk.block Mb HZ.out.2.1 (by have:=HZ.out;omega)))
   have HQr:=aa (hKk.blk HQ4.out HZ.out.2.2.2.1 (by have:=HZ.out;omega))
   have HMr:=aa (hKk.blk HQ5.out HZ.out.2.2.2.2.1 (by have:=HZ.out;omega))
   have HAr:=aa (HA3.out.blk (hKk.block Ma HZ.out.2.2.1 (by have:=HZ.out;omega)))
   clear hse hAt hKk hdk
   by_cases hlt:k<n
   ·have hI1:(0:Int)≤k:=by omega
    have hI2:(k:Int)<n:=by omega
    obtain⟨d,hd⟩: ∃d,l[k]? =some d:=⟨_,List.getElem?_eq_getElem (by rw[HN.out];exact hlt)⟩
    have hdrop:l.drop k=d::l.drop (k+1):=kN hd
    have htake:l.take (k+1)=l.take k++[d]:=by rw[List.take_add_one,hd];rfl
    rw[hdrop] at HSe
    have hval:=HVa.out d (co hd)
    have HVal:=aa hval
    have HDk2:=aa (show((l.take (k+1)).any fun d=>decide (d.kind=8))=(dk||decide (d.kind=8)) by rw[htake,List.any_append,HDk.out];simp)
    have HVk:Hid (aQ 6 fy wr w.heap.size (.slice A n c) l):=HV.out.below fy.ab HBwr.out (ae _)
    obtain⟨b,o,cs,rfl,hbb,hcl6,hR,hcell⟩:=HVk.out.at_ hd
    obtain⟨rv,nv,rfl,hsr,hsn,hb1,hb2⟩:=hR
    obtain⟨RA,rn,rc,rfl,_,_,_⟩:=hsr.sk.form
    obtain⟨NA,nn,nc,rfl,_,_,_⟩:=hsn.sk.form
    have HSr:=aa hsr;have HSn:=aa hsn
    refine j5 fun h0 h1 h2=> ?_
    have h3:=hcell 3 _ rfl
    have h4:=hcell 4 _ rfl
    have h5:=hcell 5 _ rfl
    simp only[Nat.add_zero] at h0
    clear hcell hcl6 hsr hsn hd hdrop htake hval
    go_upto_region 10 with (fail)
    refine bt (fun W=>Below wr.heap.size wr W∧W.heap[wr.heap.size]? =some (.cells #[.int .i64 d.kind,.string (bs d.name),.slice RA rn rc,.slice NA nn nc,.int .i64 d.by_,.bool d.always] 87 (0,0))) ⟨by first|exact aR (ac (B0 wr) _) (ae _) _|exact ac (B0 wr) _,by first|exact heap_alloc_new wr _|exact(ay (ay (ay (ay (ay (ay (heap_alloc_new wr _) _ _) _ _) _ _) _ _) _ _) _ _).trans rfl⟩ ?_
    intro W2 ⟨hB2,hx2⟩
    obtain⟨xb,hxb⟩: ∃b,wr.heap.size=b:=⟨_,rfl⟩
    have hzx:=blk_lt hx2
    simp only[hxb] at hx2 hzx⊢
    obtain⟨ax0,ax1,ax2,ax3,ax4,ax5⟩:=iq hx2
    have HXb:=aa hxb
    have HB2:=aa hB2;have HX2:=aa hx2
    have hzB:=HAt.out.2.1
    have hrW2:W2.cell? ⟨rb,0,none⟩=some (.map (some Mb)):=by
     obtain⟨v,hv,_⟩:=HAt.out.2.2
     exact af (ah hv hB2) rfl
    have hwz:=HBwr.out.size
    have hwz2:=hB2.size
    have HCk:=aa (Lz rb Mb t d (.slice RA rn rc) (.slice NA nn nc) W2 hrW2 (HFr.out.later hB2) ((HSr.out.below hB2 hwz).more (by omega)) HVal.out)
    simp only[ptr] at HCk
    clear hB2 hx2 h0 h1 h2 h3 h4 h5 hxb hrW2
    by_cases hce:ez t d=0
    ·have HSo:=aa (HSe.out.trans (AT hce))
     have HCk0:=aa (HCk.out.mono (R':=fun e w'=>e= .returned (.int .i64 0)∧Below W2.heap.size W2 w') (fun e w' h=>⟨by rw[h.1,hce];rfl,h.2⟩))
     clear HCk hce
     go_upto_region 13 with (first
      |(go_at_call 48
        refine HCk0.out.mono ?_
        rintro e w5 ⟨rfl,hb5⟩
        have HB5:Hid (Below wr.heap.size wr w5):=HB2.out.trans (hb5.mono hwz2)
        have HX5:=aa (ah HX2.out hb5)
        clear hb5))
     obtain⟨bx0,bx1,bx2,bx3,bx4,bx5⟩:=iq HX5.out
     obtain⟨k8b,hk8⟩: ∃b,decide (d.kind=8)=b:=⟨_,rfl⟩
     go_cut [9] from 45 to 78 (fun p wx=>p= .bool (dk||k8b)∧w5=wx)
     case first=>
      cases dk with
      |true=>
       go_wp2_with fail
       go_meet
       exact⟨rfl,rfl⟩
      |false=>
       cases k8b with
       |true=>
        have e8:((d.kind:Int)==8)=true:=by have:=of_decide_eq_true hk8;simp;omega
        clear hk8
        go_wp2_with fail
        go_meet
        exact⟨rfl,rfl⟩
       |false=>
        have e8:((d.kind:Int)==8)=false:=by have:=of_decide_eq_false hk8;simp;omega
        clear hk8
        go_wp2_with fail
        go_meet
        exact⟨rfl,rfl⟩
     case rest=>
     obtain⟨rfl,rfl⟩:=hcut
     have HD8:=aa hk8
     have hzr5:=HB5.out.size
     have hAt:=HAt.out
     obtain⟨hrbB,hBr,v,hrv,hOv⟩:=hAt
     have HOr:=aa hOv
     have HRv:=aa (ah hrv HB5.out)
     have HOv:=aa (hOv.gp (GP.of_below HB5.out) hrbB)
     have HF5:=aa (HFr.out.later HB5.out)
     have HQ5':=aa (ah HQr.out HB5.out)
     have HM5':=aa (ah HMr.out HB5.out)
     have hby:aj d.by_:=fq (by omega)
     have HNum:=aa (fun W (hW:Below w5.heap.size w5 W)=>td rb Mb t (.slice RA rn rc) d.refs W ((hW.cell (p:=⟨rb,0,none⟩) (blk_lt HRv.out)).trans (af HRv.out rfl)) (HF5.out.later hW) (((HSr.out.below HB5.out hwz).below hW (by omega)).more (by have:=hW.size;omega)) (by have:=(gJ HVal.out).2.2.1;omega))
     have HKc:Hid (KP B rb w3 w5):=HKk.out.trans (KP.of_below HB5.out hBr hzr5)
     have HAH:=aa (show ∀W Bu u,Below w5.heap.size w5 W→W.ownsRow Bu 3 1 u d.refs.length ((d.refs.map (bE t)).map (Value.int .i64))→eV W rb B k Mb qb mb Bu t d m (.slice RA rn rc) (.slice NA nn nc) u from fun W Bu u hW hu=>
      ⟨⟨hrbB,by have:=hW.size;omega,v,ah HRv.out hW,HOv.out.gp (GP.of_below hW) hrbB⟩,ah HQ5'.out hW,ah HM5'.out hW,HZ.out.2.2.2.1,HZ.out.2.2.2.2.1,by have:=HZ.out;omega,HF5.out.later hW,((HSr.out.below HB5.out hwz).below hW (by omega)).more (by have:=HZ.out;omega),((HSn.out.below HB5.out hwz).below hW (by omega)).more (by have:=HZ.out;omega),hu,HVal.out,by have:=HN.out;omega,HNu.out,hby⟩)
     have hlkA: ∀u,addF qb mb (d.kind:Int)=u→(Instr.lookup 104 (.map (some Ma)) (.int .i64 d.kind) false).run prog w5= .ok (u.getD .nilFunc) w5:=fun u hu=>by
      have h:=fL (P:=prog) underlying104 underlying3 aO (HAr.out.later HB5.out) (d.kind:Int) false (zeroValue107 _)
      rw[hu] at h
      exact h
     have HLkA:=aa hlkA
     simp only[ptr] at HNum
     clear hrv hOv hlkA hk8
     by_cases hkc:d.kind=0
     ·have HKd:=aa hkc
      have hlk:(Instr.lookup 104 (.map (some Ma)) (.int .i64 d.kind) false).run prog w5= .ok (.func (.func 135) #[] #[.pointer (some ⟨mb,0,none⟩)]) w5:=HLkA.out (some (.func (.func 135) #[] #[.pointer (some ⟨mb,0,none⟩)])) (by rw[hkc];rfl)
      clear hkc
      go_upto_region 16 with (fail)
      refine je fun hS=> ?_
      iterate 5 refine gT 7 57 ?_
      refine cP 5 fun K hK=> ?_
      go_simp
      refine jf ?_
      rintro e w6 ⟨u,rfl,hu,hb6⟩
      refine jg fun HB6 HH=> ?_
      obtain⟨UA,um,uc,rfl⟩:=bT hu
      clear hu hb6
      try go_simp
      clear hS
      refine jh fun hS=> ?_
      clear hK
      refine ak ?_
      refine cQ 6 fun K hK=> ?_
      go_simp
      refine(Lf HH.out HKd.out).mono ?_
      exact ji
     by_cases hkc:d.kind=1
     ·have HKd:=aa hkc
      have hlk:(Instr.lookup 104 (.map (some Ma)) (.int .i64 d.kind) false).run prog w5= .ok (.func (.func 136) #[] #[.pointer (some ⟨mb,0,none⟩)]) w5:=HLkA.out (some (.func (.func 136) #[] #[.pointer (some ⟨mb,0,none⟩)])) (by rw[hkc];rfl)
      clear hkc
      go_upto_region 16 with (fail)
      refine je fun hS=> ?_
      iterate 5 refine gT 7 57 ?_
      refine cP 5 fun K hK=> ?_
      go_simp
      refine jf ?_
      rintro e w6 ⟨u,rfl,hu,hb6⟩
      refine jg fun HB6 HH=> ?_
      obtain⟨UA,um,uc,rfl⟩:=bT hu
      clear hu hb6
      try go_simp
      clear hS
      refine jh fun hS=> ?_
      clear hK
      refine ak ?_
      refine cQ 6 fun K hK=> ?_
      go_simp
      refine(Lg HH.out HKd.out).mono ?_
      exact ji
     by_cases hkc:d.kind=2
     ·have HKd:=aa hkc
      have hlk:(Instr.lookup 104 (.map (some Ma)) (.int .i64 d.kind) false).run prog w5= .ok (.func (.func 137) #[] #[.pointer (some ⟨mb,0,none⟩)]) w5:=HLkA.out (some (.func (.func 137) #[] #[.pointer (some ⟨mb,0,none⟩)])) (by rw[hkc];rfl)
      clear hkc
      go_upto_region 16 with (fail)
      refine je fun hS=> ?_
      iterate 5 refine gT 7 57 ?_
      refine cP 5 fun K hK=> ?_
      go_simp
      refine jf ?_
      rintro e w6 ⟨u,rfl,hu,hb6⟩
      refine jg fun HB6 HH=> ?_
      obtain⟨UA,um,uc,rfl⟩:=bT hu
      clear hu hb6
      try go_simp
      clear hS
      refine jh fun hS=> ?_
      clear hK
      refine ak ?_
      refine cQ 6 fun K hK=> ?_
      go_simp
      refine(Lh HH.out HKd.out).mono ?_
      exact ji
     by_cases hkc:d.kind=3
     ·have HKd:=aa hkc
      have hlk:(Instr.lookup 104 (.map (some Ma)) (.int .i64 d.kind) false).run prog w5= .ok (.func (.func 138) #[] #[.pointer (some ⟨mb,0,none⟩)]) w5:=HLkA.out (some (.func (.func 138) #[] #[.pointer (some ⟨mb,0,none⟩)])) (by rw[hkc];rfl)
      clear hkc
      go_upto_region 16 with (fail)
      refine je fun hS=> ?_
      iterate 5 refine gT 7 57 ?_
      refine cP 5 fun K hK=> ?_
      go_simp
      refine jf ?_
      rintro e w6 ⟨u,rfl,hu,hb6⟩
      refine jg fun HB6 HH=> ?_
      obtain⟨UA,um,uc,rfl⟩:=bT hu
      clear hu hb6
      try go_simp
      clear hS
      refine jh fun hS=> ?_
      clear hK
      refine ak ?_
      refine cQ 6 fun K hK=> ?_
      go_simp
      refine(Li HH.out HKd.out).mono ?_
      exact ji
     by_cases hkc:d.kind=4
     ·have HKd:=aa hkc
      have hlk:(Instr.lookup 104 (.map (some Ma)) (.int .i64 d.kind) false).run prog w5= .ok (.func (.func 139) #[] #[.pointer (some ⟨mb,0,none⟩)]) w5:=HLkA.out (some (.func (.func 139) #[] #[.pointer (some ⟨mb,0,none⟩)])) (by rw[hkc];rfl)
      clear hkc
      go_upto_region 16 with (fail)
      refine je fun hS=> ?_
      iterate 5 refine gT 7 57 ?_
      refine cP 5 fun K hK=> ?_
      go_simp
      refine jf ?_
      rintro e w6 ⟨u,rfl,hu,hb6⟩
      refine jg fun HB6 HH=> ?_
      obtain⟨UA,um,uc,rfl⟩:=bT hu
      clear hu hb6
      try go_simp
      clear hS
      refine jh fun hS=> ?_
      clear hK
      refine ak ?_
      refine cQ 6 fun K hK=> ?_
      go_simp
      refine(Lk HH.out HKd.out).mono ?_
      exact ji
     by_cases hkc:d.kind=5
     ·have HKd:=aa hkc
      have hlk:(Instr.lookup 104 (.map (some Ma)) (.int .i64 d.kind) false).run prog w5= .ok (.func (.func 140) #[] #[.pointer (some ⟨mb,0,none⟩),.pointer (some ⟨qb,0,none⟩)]) w5:=HLkA.out (some (.func (.func 140) #[] #[.pointer (some ⟨mb,0,none⟩),.pointer (some ⟨qb,0,none⟩)])) (by rw[hkc];rfl)
      clear hkc
      go_upto_region 16 with (fail)
      refine je fun hS=> ?_
      iterate 5 refine gT 7 57 ?_
      refine cP 5 fun K hK=> ?_
      go_simp
      refine jf ?_
      rintro e w6 ⟨u,rfl,hu,hb6⟩
      refine jg fun HB6 HH=> ?_
      obtain⟨UA,um,uc,rfl⟩:=bT hu
      clear hu hb6
      try go_simp
      clear hS
      refine jh fun hS=> ?_
      clear hK
      refine ak ?_
      refine cQ 6 fun K hK=> ?_
      go_simp
      refine(Lm HH.out HKd.out).mono ?_
      exact ji
     by_cases hkc:d.kind=6
     ·have HKd:=aa hkc
      have hlk:(Instr.lookup 104 (.map (some Ma)) (.int .i64 d.kind) false).run prog w5= .ok (.func (.func 142) #[] #[.pointer (some ⟨mb,0,none⟩),.pointer (some ⟨qb,0,none⟩)]) w5:=HLkA.out (some (.func (.func 142) #[] #[.pointer (some ⟨mb,0,none⟩),.pointer (some ⟨qb,0,none⟩)])) (by rw[hkc];rfl)
      clear hkc
      go_upto_region 16 with (fail)
      refine je fun hS=> ?_
      iterate 5 refine gT 7 57 ?_
      refine cP 5 fun K hK=> ?_
      go_simp
      refine jf ?_
      rintro e w6 ⟨u,rfl,hu,hb6⟩
      refine jg fun HB6 HH=> ?_
      obtain⟨UA,um,uc,rfl⟩:=bT hu
      clear hu hb6
      try go_simp
      clear hS
      refine jh fun hS=> ?_
      clear hK
      refine ak ?_
      refine cQ 6 fun K hK=> ?_
      go_simp
      refine(Ln HH.out HKd.out).mono ?_
      exact ji
     by_cases hkc:d.kind=7
     ·have HKd:=aa hkc
      have hlk:(Instr.lookup 104 (.map (some Ma)) (.int .i64 d.kind) false).run prog w5= .ok (.func (.func 143) #[] #[.pointer (some ⟨mb,0,none⟩),.pointer (some ⟨qb,0,none⟩)]) w5:=HLkA.out (some (.func (.func 143) #[] #[.pointer (some ⟨mb,0,none⟩),.pointer (some ⟨qb,0,none⟩)])) (by rw[hkc];rfl)
      clear hkc
      go_upto_region 16 with (fail)
      refine je fun hS=> ?_
      iterate 5 refine gT 7 57 ?_
      refine cP 5 fun K hK=> ?_
      go_simp
      refine jf ?_
      rintro e w6 ⟨u,rfl,hu,hb6⟩
      refine jg fun HB6 HH=> ?_
      obtain⟨UA,um,uc,rfl⟩:=bT hu
      clear hu hb6
      try go_simp
      clear hS
      refine jh fun hS=> ?_
      clear hK
      refine ak ?_
      refine cQ 6 fun K hK=> ?_
      go_simp
      refine(Lo HH.out HKd.out).mono ?_
      exact ji
     by_cases hkc:d.kind=8
     ·have HKd:=aa hkc
      have hlk:(Instr.lookup 104 (.map (some Ma)) (.int .i64 d.kind) false).run prog w5= .ok (.func (.func 144) #[] #[.pointer (some ⟨mb,0,none⟩)]) w5:=HLkA.out (some (.func (.func 144) #[] #[.pointer (some ⟨mb,0,none⟩)])) (by rw[hkc];rfl)
      clear hkc
      go_upto_region 16 with (fail)
      refine je fun hS=> ?_
      iterate 5 refine gT 7 57 ?_
      refine cP 5 fun K hK=> ?_
      go_simp
      refine jf ?_
      rintro e w6 ⟨u,rfl,hu,hb6⟩
      refine jg fun HB6 HH=> ?_
      obtain⟨UA,um,uc,rfl⟩:=bT hu
      clear hu hb6
      try go_simp
      clear hS
      refine jh fun hS=> ?_
      clear hK
      refine ak ?_
      refine cQ 6 fun K hK=> ?_
      go_simp
      refine(Lp HH.out HKd.out (show B≤w5.heap.size from aP HAt.out.2.1 hzr5)).mono ?_
      exact ji
     by_cases hkc:d.kind=9
     ·have HKd:=aa hkc
      have hlk:(Instr.lookup 104 (.map (some Ma)) (.int .i64 d.kind) false).run prog w5= .ok (.func (.func 145) #[] #[.pointer (some ⟨mb,0,none⟩)]) w5:=HLkA.out (some (.func (.func 145) #[] #[.pointer (some ⟨mb,0,none⟩)])) (by rw[hkc];rfl)
      clear hkc
      go_upto_region 16 with (fail)
      refine je fun hS=> ?_
      iterate 5 refine gT 7 57 ?_
      refine cP 5 fun K hK=> ?_
      go_simp
      refine jf ?_
      rintro e w6 ⟨u,rfl,hu,hb6⟩
      refine jg fun HB6 HH=> ?_
      obtain⟨UA,um,uc,rfl⟩:=bT hu
      clear hu hb6
      try go_simp
      clear hS
      refine jh fun hS=> ?_
      clear hK
      refine ak ?_
      refine cQ 6 fun K hK=> ?_
      go_simp
      refine(Lq HH.out HKd.out).mono ?_
      exact ji
     have hk10:10≤d.kind:=by omega
     obtain⟨i0,hi,hz0,hz1,hz2⟩:=info_parts (show(Tryz.prog.info? 110).map (fun i=>(i.zero,i.size,i.bytes))=some (some (.agg #[.int .i64 0,.int .i64 0,.int .i64 0,.int .i64 0,.int .i64 0,.bool false,.slice none 0 0]),7,72) by kernel_rfl)
     have hlk:(Instr.lookup 104 (.map (some Ma)) (.int .i64 d.kind) false).run prog w5= .ok .nilFunc w5:=HLkA.out none (Jy qb mb (by omega))
     have HAddR:=aa (Ly (t:=t) (m:=m) hk10)
     have HGr:=aa (Lw HVal.out HNu.out hby)
     have HRu:=aa (fun W (hW:Below w5.heap.size w5 W)=>Ld rb Mb t d (.slice RA rn rc) (.slice NA nn nc) W ((hW.cell (p:=⟨rb,0,none⟩) (blk_lt HRv.out)).trans (af HRv.out rfl)) (HF5.out.later hW) (((HSr.out.below HB5.out hwz).below hW (by omega)).more (by have:=hW.size;omega)) (((HSn.out.below HB5.out hwz).below hW (by omega)).more (by have:=hW.size;omega)) HVal.out hk10)
     have HU:=aa (fun o=>aU.vals_def (gO t d) o)
     simp only[ptr] at HRu
     generalize gO t d=rl at HAddR HGr HRu HU
     obtain⟨rows,hrows,hX⟩:=HOr.out.u_
     have hltr:=World.ownsRow.lt hrows
     have hvr:v.u.ownBlock≠some rb:=fun e=>by have:=(hltr rb e).1;omega
     have hvx:v.u.ownBlock≠some xb:=fun e=>by have:=(hltr xb e).2;have:=HXb.out;omega
     have HRows:=aa (cB hrows HB5.out)
     have HX5r:=aa (hX.gp (rb:=rb) (ob:=none) (GP.of_below HB5.out) hrbB (fun _ _ _ _ _ _ e=>by cases e))
     have c11:w5.cell? ⟨rb,11,none⟩=some v.u:=af HRv.out rfl
     have HLT:=aa hltr
     have hrl:m.rules.length≤100000:=by have:=HOr.out.len;have:=HN.out;omega
     clear hrows hX hltr
     go_upto_region 17 with (fail)
     refine bP (S:=fun w'=>w'.cell? ⟨xb,0,none⟩=some (.int .i64 d.kind)∧w'.cell? ⟨xb,1,none⟩=some (.string (bs d.name))∧w'.cell? ⟨xb,2,none⟩=some (.slice RA rn rc)∧w'.cell? ⟨xb,3,none⟩=some (.slice NA nn nc)∧w'.cell? ⟨xb,4,none⟩=some (.int .i64 d.by_)∧w'.cell? ⟨xb,5,none⟩=some (.bool d.always)∧w'.cell? ⟨rb,11,none⟩=some (v.u)) 11 15 (by exact⟨bx0,bx1,bx2,bx3,bx4,bx5,c11⟩) fun hS=> ?_
     iterate 8 refine gP 15 64 ?_
     refine cP 8 fun K hK=> ?_
     go_simp
     refine(HRu.out _ (au (B0 w5))).mono ?_
     rintro e w6 ⟨o,rfl,ho,hb6⟩
     obtain⟨OA,om,oc,rfl⟩:=bT ho
     have HB6:Hid (Below w5.heap.size w5 w6):=ag (au (B0 w5)) hb6
     have HO6:=aa ho
     have HOW6:=aa (cB HRows.out HB6.out)
     rw[HU.out]
     clear ho hb6
     try go_simp
     clear hS
     refine hK.out _ _ (by exact⟨kc (HB6.out) bx0,kc (HB6.out) bx1,kc (HB6.out) bx2,kc (HB6.out) bx3,kc (HB6.out) bx4,kc (HB6.out) bx5,kc (HB6.out) c11⟩) (fun hS=> ?_)
     clear hK
     refine ak ?_
     refine cP 9 fun K hK=> ?_
     go_simp
     refine hK.out _ _ (by exact⟨((ac (B0 _) _).cell (p:=⟨xb,0,none⟩) (aH _ _ (hS.1))).trans (hS.1),((ac (B0 _) _).cell (p:=⟨xb,1,none⟩) (aH _ _ (hS.2.1))).trans (hS.2.1),((ac (B0 _) _).cell (p:=⟨xb,2,none⟩) (aH _ _ (hS.2.2.1))).trans (hS.2.2.1),((ac (B0 _) _).cell (p:=⟨xb,3,none⟩) (aH _ _ (hS.2.2.2.1))).trans (hS.2.2.2.1),((ac (B0 _) _).cell (p:=⟨xb,4,none⟩) (aH _ _ (hS.2.2.2.2.1))).trans (hS.2.2.2.2.1),((ac (B0 _) _).cell (p:=⟨xb,5,none⟩) (aH _ _ (hS.2.2.2.2.2.1))).trans (hS.2.2.2.2.2.1),((ac (B0 _) _).cell (p:=⟨rb,11,none⟩) (aH _ _ (hS.2.2.2.2.2.2))).trans (hS.2.2.2.2.2.2)⟩) (fun hS=> ?_)
     clear hK
     refine ak ?_
     refine cP 10 fun K hK=> ?_
     refine step_append_lies _ (by rfl) _ _ _ (by rfl) B 110 i0 _ 7 72 underlying27 hi hz0 hz1 hz2 rfl (by omega) _ _ _ (by rfl) ((HOW6.out).alloc _) ⟨_,0,none⟩ 1 1 (jC rl (.slice OA om oc)) (by rfl) (by rfl) (eE rfl) (by simp[jC,Value.oneCell']) (by omega) (by simp[maxLen];omega) (by first|omega|(simp;omega)) (by have:=HB6.out.size;first|omega|(simp;omega)) _ rfl ?_
     intro gg cap w7 hown3 hgrow hat hlt
     refine hK.out _ _ (by exact⟨(bC hgrow (aH _ _ (hS.1)) hvx).trans (hS.1),(bC hgrow (aH _ _ (hS.2.1)) hvx).trans (hS.2.1),(bC hgrow (aH _ _ (hS.2.2.1)) hvx).trans (hS.2.2.1),(bC hgrow (aH _ _ (hS.2.2.2.1)) hvx).trans (hS.2.2.2.1),(bC hgrow (aH _ _ (hS.2.2.2.2.1)) hvx).trans (hS.2.2.2.2.1),(bC hgrow (aH _ _ (hS.2.2.2.2.2.1)) hvx).trans (hS.2.2.2.2.2.1),(bC hgrow (aH _ _ (hS.2.2.2.2.2.2)) hvr).trans (hS.2.2.2.2.2.2)⟩) (fun hS=> ?_)
     clear hK
     refine ak ?_
     refine cQ 11 fun K hK=> ?_
     go_simp
     refine hK.out _ _ ?_
     clear hK
     refine ak ?_
     refine cQ 12 fun K hK=> ?_
     go_simp
     refine hK.out _ _ ?_
     clear hK
     refine ak ?_
     refine cQ 13 fun K hK=> ?_
     go_simp
     refine hK.out _ _ ?_
     clear hK
     refine ak ?_
     have f1:w7.frozen? ⟨rb,11,none⟩=false:=aW (eD (ah (ah HRv.out HB6.out) (ac (B0 _) _)) hgrow (fun j hj e=>hvr (by rw[hj,e]))) 11
     refine cQ 14 fun K hK=> ?_
     go_simp
     refine hK.out _ _ ?_
     clear hK
     refine ak ?_
     refine eP ?_
     go_wp2_with fail
     have hz6:=HB6.out.size
     have hBr5:B≤w5.heap.size:=aP HAt.out.2.1 hzr5
     have hp:=ev.mk' (w:=w5) (T:=101) (C:=dX Mb m v) (off:=11) (ah (ah HRv.out HB6.out) (ac (B0 _) _)) (ag HB6.out (ac (B0 _) _)) hgrow hvr hown3 hat (by first|omega|(simp;omega)) (hat.elim (fun h e=>hvr (by rw[h,e])) (fun h e=>by simp at h;omega))
     have ho4:=HO6.out
     have hlo:=World.ownsRow.lt ho4
     have hz0':w5.drew.heap.size=w5.heap.size:=rfl
     rw[hz0'] at hlo ho4
     have hoo:=dM (p:=rb) (pQ (World.ownsRow.kept (cB ho4 (ac (B0 w6) (.cells (jC rl (.slice OA om oc)).toArray 110))) hgrow (by
      cases hq:Value.ownBlock (.slice OA om oc) with
      |none=>exact .inl rfl
      |some j=>exact .inr (fun e=>by have:=hlo j hq;have:=HLT.out j e.symm;omega))) hBr5) (fun j hj e=>by have:=hlo j hj;omega) 11 (.slice (some ⟨gg,0,none⟩) (m.rules.length+1) cap)
     obtain⟨hA7,hK7⟩:=dz.addU hrbB hBr5 HOv.out HRows.out HX5r.out hp hoo HGr.out.2 HGr.out.1
     rw[←HAddR.out] at hA7
     refine⟨⟨k+1,cb t m d,by omega,by go_num,by rw[HDk2.out,HD8.out],HSo.out,hA7,HKc.out.trans hK7⟩,by simp[intOf];omega⟩
    ·have HE:=aa (Lt HCol.out (HSe.out.trans (AS hce)))
     have hcne:((ez t d:Int)==0)=false:=by simp;omega
     generalize ez t d=ce at HCk HE hcne
     clear hce
     go_upto_region 12 with (first
      |(go_at_call 48
        refine HCk.out.mono ?_
        rintro e w5 ⟨rfl,hb5⟩
        have HB5:=aa hb5
        clear hb5))
     have ht5:w5.heap[rt]? =some (.cells #[.slice none 0 0,.slice none 0 0,.slice none 0 0,.slice none 0 0,.slice none 0 0,.slice none 0 0,.int .i64 0,.int .i64 0,.int .i64 0,.int .i64 0,.slice none 0 0] 29 (0,0)):=ah (ah HTr.out HB2.out) HB5.out
     obtain⟨q0,q1,q2,q3,q4,q5,q6,q7,q8,q9,q10⟩:=cd ht5
     obtain⟨z0,z1,z2,z3,z4,z5,z6,z7,z8,z9,z10⟩:=mV ht5
     have HTT:=aa ht5
     go_wp2_with fail
     refine nZ fun W7 hKP=> ?_
     exact kX.err HE.out rfl ((HBwr.out.trans ((HB2.out.mono hwz).trans (HB5.out.mono (by omega)))).trans ((hKP.below (by have:=HZ.out;have:=HB5.out.size;omega)).mono (by have:=HZ.out;omega)))
   ·have hI: ¬(k:Int)<n:=by omega
    have HS2:=aa (show fH t 0 {} l= .ok m from by
     have h:=HSe.out
     rw[List.drop_eq_nil_of_le (by rw[HN.out];omega)] at h
     exact h)
    have HD2:=aa (show(l.any fun d=>decide (d.kind=8))=dk from by
     have h:=HDk.out
     rw[List.take_of_length_le (by rw[HN.out];omega)] at h
     exact h)
    clear HSe HDk
    cases dk with
    |false=>
     have HE:=aa (Lu HCol.out HS2.out HD2.out)
     go_upto_region 20 with (fail)
     have ht5:wr.heap[rt]? =some (.cells #[.slice none 0 0,.slice none 0 0,.slice none 0 0,.slice none 0 0,.slice none 0 0,.slice none 0 0,.int .i64 0,.int .i64 0,.int .i64 0,.int .i64 0,.slice none 0 0] 29 (0,0)):=HTr.out
     obtain⟨q0,q1,q2,q3,q4,q5,q6,q7,q8,q9,q10⟩:=cd ht5
     obtain⟨z0,z1,z2,z3,z4,z5,z6,z7,z8,z9,z10⟩:=mV ht5
     have HTT:=aa ht5
     go_wp2_with fail
     refine nZ fun W7 hKP=> ?_
     exact kX.err HE.out (by
      show _=Ending.returned (.tuple #[.agg jH,.int .i64 (l.length:Nat),.int .i64 6])
      rw[HN.out];rfl) (HBwr.out.trans ((hKP.below (by have:=HZ.out;have:=HAt.out.2.1;omega)).mono (by have:=HZ.out;omega)))
    |true=>
     have HE:=aa (Lv HCol.out HS2.out HD2.out)
     obtain⟨hrbB,hBr,⟨vs,vf,vr,vm,vl,vi,vu⟩,hrv,hOv⟩:=HAt.out
     have o1:wr.ownsRow B _ _ vs _ _:=hOv.s_
     have o2:wr.ownsRow B _ _ vf _ _:=hOv.f_
     have o3:wr.ownsRow B _ _ vr _ _:=hOv.r_
     have o4:wr.ownsRow B _ _ vm _ _:=hOv.m_
     have o5:wr.ownsRow B _ _ vl _ _:=hOv.l_
     obtain⟨rowsI,o6,_⟩:=hOv.i_
     obtain⟨rowsU,o7,_⟩:=hOv.u_
     have o6:wr.ownsRow B _ _ vi _ _:=o6
     have o7:wr.ownsRow B _ _ vu _ _:=o7
     obtain⟨A1,n1,c1,rfl⟩:=bT o1
     obtain⟨A2,n2,c2,rfl⟩:=bT o2
     obtain⟨A3,n3,c3,rfl⟩:=bT o3
     obtain⟨A4,n4,c4,rfl⟩:=bT o4
     obtain⟨A5,n5,c5,rfl⟩:=bT o5
     obtain⟨A6,n6,c6,rfl⟩:=bT o6
     obtain⟨A7,n7,c7,rfl⟩:=bT o7
     clear o1 o2 o3 o4 o5 o6 o7
     obtain⟨v,hvv⟩: ∃v:MV,v=⟨.slice A1 n1 c1,.slice A2 n2 c2,.slice A3 n3 c3,.slice A4 n4 c4,.slice A5 n5 c5,.slice A6 n6 c6,.slice A7 n7 c7⟩:=⟨_,rfl⟩
     rw[←hvv] at hOv
     have HVV:=aa hvv
     have HCv:=aa (zA m v wr (HG.out.below HBwr.out hg8) hOv.in_)
     have HMc:=aa (show m.cells v= #[.slice A1 n1 c1,.slice A2 n2 c2,.slice A3 n3 c3,.slice A4 n4 c4,.slice A5 n5 c5,.slice A6 n6 c6,.int .i64 m.dark,.int .i64 m.slots,.int .i64 m.reserve,.int .i64 m.failures,.slice A7 n7 c7] from by rw[hvv];rfl)
     clear hvv
     rw[HMc.out] at HCv
     have HOv:=aa hOv
     have HRv:=aa hrv
     have r0:wr.cell? ⟨rb,1,none⟩=some (.slice A1 n1 c1):=af hrv rfl
     have r1:wr.cell? ⟨rb,2,none⟩=some (.slice A2 n2 c2):=af hrv rfl
     have r2:wr.cell? ⟨rb,3,none⟩=some (.slice A3 n3 c3):=af hrv rfl
     have r3:wr.cell? ⟨rb,4,none⟩=some (.slice A4 n4 c4):=af hrv rfl
     have r4:wr.cell? ⟨rb,5,none⟩=some (.slice A5 n5 c5):=af hrv rfl
     have r5:wr.cell? ⟨rb,6,none⟩=some (.slice A6 n6 c6):=af hrv rfl
     have r6:wr.cell? ⟨rb,7,none⟩=some (.int .i64 m.dark):=af hrv rfl
     have r7:wr.cell? ⟨rb,8,none⟩=some (.int .i64 m.slots):=af hrv rfl
     have r8:wr.cell? ⟨rb,9,none⟩=some (.int .i64 m.reserve):=af hrv rfl
     have r9:wr.cell? ⟨rb,10,none⟩=some (.int .i64 m.failures):=af hrv rfl
     have r10:wr.cell? ⟨rb,11,none⟩=some (.slice A7 n7 c7):=af hrv rfl
     clear hrv hOv
     obtain⟨mo,hmo⟩: ∃b,dQ m=b:=⟨_,rfl⟩
     rw[hmo] at HCv HE
     cases mo with
     |false=>
      go_upto_region 22 with (first
       |(go_at_call 51
         refine HCv.out.mono ?_
         rintro e w5 ⟨rfl,hb5⟩
         have HB5:=aa hb5
         clear hb5))
      clear r0 r1 r2 r3 r4 r5 r6 r7 r8 r9 r10
      refine Be fun ht5=> ?_
      obtain⟨q0,q1,q2,q3,q4,q5,q6,q7,q8,q9,q10⟩:=cd ht5
      obtain⟨z0,z1,z2,z3,z4,z5,z6,z7,z8,z9,z10⟩:=mV ht5
      have HTT:=aa ht5
      go_wp2_with fail
      refine nZ fun W7 hKP=> ?_
      exact kX.err HE.out (by
       show _=Ending.returned (.tuple #[.agg jH,.int .i64 (l.length:Nat),.int .i64 2])
       rw[HN.out];rfl) ((HBwr.out.trans (HB5.out.mono (by have:=HBwr.out.size;omega))).trans ((hKP.below (by have:=HZ.out;have:=HAt.out.2.1;have:=HB5.out.size;omega)).mono (by have:=HZ.out;omega)))
     |true=>
      go_upto_region 23 with (first
       |(go_at_call 51
         refine HCv.out.mono ?_
         rintro e w5 ⟨rfl,hb5⟩
         have HB5:=aa hb5
         clear hb5))
      clear r0 r1 r2 r3 r4 r5 r6 r7 r8 r9 r10
      refine Be fun ht5=> ?_
      have hrv5:=ah HRv.out HB5.out
      have s0:w5.cell? ⟨rb,1,none⟩=some (.slice A1 n1 c1):=af hrv5 rfl
      have s1:w5.cell? ⟨rb,2,none⟩=some (.slice A2 n2 c2):=af hrv5 rfl
      have s2:w5.cell? ⟨rb,3,none⟩=some (.slice A3 n3 c3):=af hrv5 rfl
      have s3:w5.cell? ⟨rb,4,none⟩=some (.slice A4 n4 c4):=af hrv5 rfl
      have s4:w5.cell? ⟨rb,5,none⟩=some (.slice A5 n5 c5):=af hrv5 rfl
      have s5:w5.cell? ⟨rb,6,none⟩=some (.slice A6 n6 c6):=af hrv5 rfl
      have s6:w5.cell? ⟨rb,7,none⟩=some (.int .i64 m.dark):=af hrv5 rfl
      have s7:w5.cell? ⟨rb,8,none⟩=some (.int .i64 m.slots):=af hrv5 rfl
      have s8:w5.cell? ⟨rb,9,none⟩=some (.int .i64 m.reserve):=af hrv5 rfl
      have s9:w5.cell? ⟨rb,10,none⟩=some (.int .i64 m.failures):=af hrv5 rfl
      have s10:w5.cell? ⟨rb,11,none⟩=some (.slice A7 n7 c7):=af hrv5 rfl
      clear hrv5
      obtain⟨q0,q1,q2,q3,q4,q5,q6,q7,q8,q9,q10⟩:=cd ht5
      obtain⟨z0,z1,z2,z3,z4,z5,z6,z7,z8,z9,z10⟩:=mV ht5
      have HTT:=aa ht5
      go_wp2_with fail
      refine nZ fun W7 hKP=> ?_
      have hz:=HZ.out
      have hO7:=(HOv.out.gp (rb:=rt) (GP.of_below HB5.out) (by omega)).gp (GP.of_kp hKP) (by omega)
      rw[HE.out,if_pos trivial]
      exact⟨(HBwr.out.trans (HB5.out.mono (by have:=HBwr.out.size;omega))).trans ((hKP.below (by have:=HB5.out.size;omega)).mono (by omega)),v,by rw[HMc.out];rfl,hO7.in_,_,_,by omega,hO7⟩
end
section
open Go Go.RowKit Go.MapKept Go.ChangeMaps Tryz
theorem mh {u:Nat} (h:u<10):Lib.decDigits u=[UInt8.ofNat (48+u)]:=Lib.decDigits_one h
theorem Bf {u:Nat} (h: ¬u<10):Lib.decDigits u=Lib.decDigits (u / 10)++[UInt8.ofNat (48+u%10)]:=by
 conv=>lhs;rw[Lib.decDigits]
 rw[dif_neg h]
theorem LL:Lib.itoa 0=[48]:=by rw[Lib.itoa,if_neg (by decide)];exact mh (by decide)
theorem LM:Lib.itoa 1=[49]:=by rw[Lib.itoa,if_neg (by decide)];exact mh (by decide)
theorem ug:Lib.itoa 2=[50]:=by rw[Lib.itoa,if_neg (by decide)];exact mh (by decide)
theorem LN:Lib.itoa 5=[53]:=by rw[Lib.itoa,if_neg (by decide)];exact mh (by decide)
theorem LO:Lib.itoa (-1)=[45,49]:=by rw[Lib.itoa,if_pos (by decide)];exact congrArg (45:: ·) (mh (by decide))
theorem LP:Lib.itoa 128=[49,50,56]:=by
 rw[Lib.itoa,if_neg (by decide)]
 show Lib.decDigits 128=_
 rw[Bf (by decide),show 128 / 10=12 from rfl,Bf (u:=12) (by decide),show 12 / 10=1 from rfl,mh (by decide)]
 rfl
def mi:ap:={aK 5 with a:=2,ss:=[128,0]}
def gK:ap:={aK 10 with a:=1,b:=2,ok:=2,key:=bs [107],val:=5,old:= -1}
def Bg:List UInt8:=[99,114,97,115,104,32,50,32,49,50,56,32,48]
def Bh:List UInt8:=[114,101,113,117,101,115,116,32,49,32,50,32,99,97,115,32,107,32,45,49,32,53]
def Bi:List UInt8:=[116,105,99,107,32,48,50]
theorem LQ:cL mi=true:=by decide
theorem LR:cL gK=true:=by decide
theorem LS:gR mi=Bg:=by
 have hA:bF mi=[Lib.itoa 2,Lib.itoa 128,Lib.itoa 0]:=rfl
 rw[gR,hA,ug,LP,LL];rfl
theorem LU:gR gK=Bh:=by
 have hA:bF gK=[Lib.itoa 1,Lib.itoa 2,[99,97,115],[107],Lib.itoa (-1),Lib.itoa 5]:=rfl
 rw[gR,hA,LM,ug,LN,LO];rfl
theorem LV:gK.Num:=⟨⟨by decide,by decide⟩,⟨by decide,by decide⟩,aj.zero,⟨by decide,by decide⟩,⟨by decide,by decide⟩,by simp[gK,aK],by simp[gK,aK]⟩
theorem LW:el (ba (bs Bh))=some gK:=by rw[←LU];exact EE gK LV LR
theorem LX:el (ba (bs Bi))=none:=by
 have h1:ba (bs Bi)=[bp 3,[48,50]].map bs:=by
  have:=wO (bp 3) [[48,50]] (by
   intro x hx
   simp only[List.mem_cons,List.not_mem_nil,or_false] at hx
   rcases hx with rfl|rfl
   ·exact wU 3 (by decide)
   ·intro c hc
    simp only[List.mem_cons,List.not_mem_nil,or_false] at hc
    rcases hc with rfl|rfl<;>decide)
  exact this
 rw[h1]
 have h2:bg (bs [48,50])=none:=by
  have e:Lib.atoiAll (bs [48,50]).data.toList= .ok 2:=by decide
  unfold bg
  rw[e]
  simp only
  rw[ug,if_neg (by decide)]
 have h3:cr 3 [bs [48,50]]=none:=by
  unfold cr
  repeat rw[if_neg (by decide)]
  unfold dN bW
  rw[if_pos (by simp)]
  simp[bi,h2]
 simp only[List.map_cons,List.map_nil,el,oO 3 (by decide),Option.bind_some,h3]
 rfl
theorem Bj {s:ByteArray} {y:ap} (h:el (ba s)=some y) (hs:s.size≤100000) (w:World) (hG:aT w):
 Calls prog 13 #[.string s] w fun e w'=> ∃Am nm cm At nt ct,e= .returned (.tuple #[.agg (y.cells (.slice Am nm cm) (.slice At nt ct)),.int .i64 0])∧y.In w' w'.heap.size (.slice Am nm cm) (.slice At nt ct)∧Below w.heap.size w w'∧da w.heap.size (.slice Am nm cm)∧da w.heap.size (.slice At nt ct):=
 (yu s w hG hs).mono fun e w' ⟨hb,hp⟩=>by
   rw[h] at hp
   obtain⟨m,t,he,hI,hf1,hf2⟩:=hp
   obtain⟨Am,nm,cm,rfl,_,_,_⟩:=hI.ms.form
   obtain⟨At,nt,ct,rfl,_,_,_⟩:=hI.ss.form
   exact⟨_,_,_,_,_,_,he,hI,hb,hf1,hf2⟩
theorem LY {s:ByteArray} {y:ap} (h:el (ba s)=some y) (hs:s.size≤100000) (w:World) (hG:aT w):
 Calls prog 13 #[.string s] w fun e w'=> ∃Am nm cm At nt ct,e= .returned (.tuple #[.agg (y.cells (.slice Am nm cm) (.slice At nt ct)),.int .i64 0])∧y.In w' w'.heap.size (.slice Am nm cm) (.slice At nt ct)∧Below w.heap.size w w':=
 (Bj h hs w hG).mono fun e w' ⟨Am,nm,cm,At,nt,ct,he,hI,hb,_⟩=>⟨Am,nm,cm,At,nt,ct,he,hI,hb⟩
theorem Bk {s:ByteArray} (h:el (ba s)=none) (hs:s.size≤100000) (w:World) (hG:aT w):
 am 13 #[.string s] w (.tuple #[.agg #[.int .i64 0,.int .i64 0,.int .i64 0,.int .i64 0,.int .i64 0,.string ⟨#[]⟩,.int .i64 0,.int .i64 0,.slice none 0 0,.slice none 0 0],.int .i64 3]):=
 (yu s w hG hs).mono fun e w' ⟨hb,hp⟩=>by
   rw[h] at hp
   exact⟨hp,hb⟩
theorem LZ {W:World} {h:Nat} (h0:W.cell? ⟨h,0,none⟩=some (.int .i64 128)) (h1:W.cell? ⟨h,1,none⟩=some (.int .i64 0)) (hh:h<W.heap.size):mi.In W W.heap.size (.slice none 0 0) (.slice (some ⟨h,0,none⟩) 2 2):=
 ⟨⟨by decide,by decide⟩,⟨by decide,by decide⟩,aj.zero,aj.zero,aj.zero,aY _,aj.zero,aj.zero,aq.nil_ _ _,aq.of2 h0 h1 hh ⟨by decide,by decide⟩ aj.zero⟩
theorem L4 (W:World):gK.In W W.heap.size (.slice none 0 0) (.slice none 0 0):=
 ⟨⟨by decide,by decide⟩,⟨by decide,by decide⟩,⟨by decide,by decide⟩,aj.zero,⟨by decide,by decide⟩,by decide,⟨by decide,by decide⟩,⟨by decide,by decide⟩,aq.nil_ _ _,aq.nil_ _ _⟩
theorem L5 (h:Nat) (W:World) (hG:aT W) (h0:W.cell? ⟨h,0,none⟩=some (.int .i64 128)) (h1:W.cell? ⟨h,1,none⟩=some (.int .i64 0)) (hh:h<W.heap.size):
 am 27 #[.agg #[.int .i64 5,.int .i64 2,.int .i64 0,.int .i64 0,.int .i64 0,.string ⟨#[]⟩,.int .i64 0,.int .i64 0,.slice none 0 0,.slice (some ⟨h,0,none⟩) 2 2]] W (.string ⟨#[99,114,97,115,104,32,50,32,49,50,56,32,48]⟩):=by
 have c:=GX mi (.slice none 0 0) (.slice (some ⟨h,0,none⟩) 2 2) W hG (LZ h0 h1 hh) (by decide) (by decide)
 have e:ot mi=Bg:=by unfold ot;rw[if_pos LQ,LS]
 rw[e] at c
 exact c
theorem L6 (Am At:Option Addr) (nm cm nt ct:Nat) (W:World) (hI:gK.In W W.heap.size (.slice Am nm cm) (.slice At nt ct)):
 am 28 #[.agg #[.int .i64 10,.int .i64 1,.int .i64 2,.int .i64 0,.int .i64 2,.string ⟨#[107]⟩,.int .i64 5,.int .i64 (-1),.slice Am nm cm,.slice At nt ct],.agg #[.int .i64 10,.int .i64 1,.int .i64 2,.int .i64 0,.int .i64 2,.string ⟨#[107]⟩,.int .i64 5,.int .i64 (-1),.slice none 0 0,.slice none 0 0]] W (.bool true):=by
 have c:=vz gK gK (.slice Am nm cm) (.slice At nt ct) (.slice none 0 0) (.slice none 0 0) W hI (L4 W)
 rw[wQ] at c
 exact c
theorem Bl (w:World) (hG:aT w):am 9 #[] w (.bool true):=by
 have HG:=aa hG
 have HPB:Hid (∀W,aT W→Calls prog 13 #[.string ⟨#[114,101,113,117,101,115,116,32,49,32,50,32,99,97,115,32,107,32,45,49,32,53]⟩] W fun e w'=> ∃Am nm cm At nt ct,e= .returned (.tuple #[.agg #[.int .i64 10,.int .i64 1,.int .i64 2,.int .i64 0,.int .i64 2,.string ⟨#[107]⟩,.int .i64 5,.int .i64 (-1),.slice Am nm cm,.slice At nt ct],.int .i64 0])∧gK.In w' w'.heap.size (.slice Am nm cm) (.slice At nt ct)∧Below W.heap.size W w'):=fun W h=>LY LW (by decide) W h
 have HPC:=aa (fun W (h:aT W)=>Bk LX (by decide) W h)
 clear hG
 go_enter func9,ntmps9
 go_wp2_with fail
 refine(HPB.out _ (HG.out.step (ac (ac (B0 w) _) _))).mono ?_
 rintro e w1 ⟨Am,nm,cm,At,nt,ct,rfl,hI1,hb1⟩
 have HB1:=aa (ag (ac (ac (B0 w) _) _) hb1)
 have hz1:w.heap.size+1<w1.heap.size:=by have h:=hb1.size;simp at h;omega
 have hz0:w.heap.size<w1.heap.size:=by omega
 have HI1:=aa hI1
 obtain⟨hc1,hf1⟩:=ck hb1
 clear hI1 hb1
 go_wp2_with fail
 refine(HPC.out _ (HG.out.step (ac HB1.out _))).mono ?_
 rintro e w2 ⟨rfl,hb2⟩
 have HB2:=aa (ag (ac HB1.out _) hb2)
 have hy1:w1.heap.size<w2.heap.size:=by have h:=hb2.size;simp at h;omega
 have hz2:w.heap.size+1<w2.heap.size:=by omega
 have hz3:w.heap.size<w2.heap.size:=by omega
 have HI2:=aa ((HI1.out.below (ag (ac (B0 w1) _) hb2) (ae _)).more (ag (ac (B0 w1) _) hb2).size)
 obtain⟨hc2,hf2⟩:=ck hb2
 clear hb2
 go_wp2_with fail
 refine(L5 _ _ (HG.out.step (ac HB2.out _)) (by go_simp) (by go_simp) (by simp;omega)).mono ?_
 rintro e w3 ⟨rfl,hb3⟩
 have HB3:=aa (ag (ac HB2.out _) hb3)
 have hy3:w1.heap.size<w3.heap.size:=by have h:=hb3.size;simp at h;omega
 have HI3:=aa ((HI2.out.below (ag (ac (B0 w2) _) hb3) (ae _)).more (ag (ac (B0 w2) _) hb3).size)
 obtain⟨hc3,hf3⟩:=ck hb3
 clear hb3
 go_wp2_with fail
 refine(L6 Am At nm cm nt ct w3 HI3.out).mono ?_
 rintro e w4 ⟨rfl,hb4⟩
 go_wp2_with fail
 go_ret
 exact⟨rfl,ag HB3.out hb4⟩
end
section
open Go Go.RowKit Go.MapKept Tryz
def eW (l:List ai):Int:=match l.findIdx? cN with|some i=>(i:Int)|none=> -1
theorem L7 {l:List ai} {k:Nat} {s:ai} (h: ∀x∈l.take k,cN x=false) (hs:l[k]? =some s) (hc:cN s=true):eW l=k:=by
 have hk:=(List.getElem?_eq_some_iff.1 hs).1
 have e:l=l.take k++s::l.drop (k+1):=by
  rw[←kN hs,List.take_append_drop]
 have h2:=rh (l.take k) s (l.drop (k+1)) h hc
 rw[←e,List.length_take,Nat.min_eq_left (bN hk)] at h2
 unfold eW
 have h3:l.findIdx? cN=some k:=h2
 rw[h3]
theorem L8 {l:List ai} (h: ∀x∈l,cN x=false):eW l= -1:=by
 unfold eW
 have:l.findIdx? cN=none:=by
  rw[List.findIdx?_eq_none_iff]
  exact h
 rw[this]
theorem L9 (s:ai) (k:Nat):((bs s).extract 0 k).toList=s.take k:=by
 rw[cD]
 simp[ByteArray.data_extract,bL,Array.toList_extract]
theorem Mc (s:ai):(s.take 8==[99,111,110,116,114,111,108,32])=cN s:=by
 rw[Bool.eq_iff_iff,beq_iff_eq]
 unfold cN
 rw[List.isPrefixOf_iff_prefix,List.prefix_iff_eq_take]
 exact⟨fun h=>h.symm,fun h=>h.symm⟩
theorem Md {s:ai} (h:s.length<8):cN s=false:=by
 rw[Bool.eq_false_iff]
 intro hc
 unfold cN at hc
 rw[List.isPrefixOf_iff_prefix] at hc
 have:=hc.length_le
 simp[fA] at this
 omega
theorem Bn (v:Value) (l:List ai) (w:World) (hv:aI w w.heap.size v l) (hl:l.length≤2000000):
 am 11 #[v] w (.int .i64 (eW l)):=by
 obtain⟨A,n,c,rfl,hn,hc,hcm⟩:=hv.sk.form
 have HV:=aa hv;have HN:=aa hn
 rw[hn] at hl
 clear hv hn
 go_enter func11,ntmps11
 go_wp2_with fail
 go_loopw [3] (fun i wr=> ∃k:Nat,k≤n∧i= .int .i64 k∧(∀x∈l.take k,cN x=false)∧Below w.heap.size w wr) (fun i _=>n - (intOf i).toNat)
 case atStart=>exact⟨0,aY _,rfl,fun x hx=>by simp at hx,B0 w⟩
 case round=>
  obtain⟨k,hk,rfl,hno,hBk⟩:=hrel
  have HNo:=aa hno;have HBk:=aa hBk
  clear hno
  by_cases hlt:k<n
  ·have hI1:(0:Int)≤k:=by omega
   have hI2:(k:Int)<n:=by omega
   obtain⟨s,hs⟩: ∃s,l[k]? =some s:=⟨_,List.getElem?_eq_getElem (by rw[HN.out];exact hlt)⟩
   have htake:l.take (k+1)=l.take k++[s]:=by rw[List.take_add_one,hs];rfl
   obtain⟨b,o,rfl,hb,hcell⟩:=aI.cell HV.out hs
   have hcw:wr.cell? ⟨b,o+k,none⟩=some (.string (bs s)):=(hBk.cell (p:=⟨b,o+k,none⟩) hb).trans hcell
   have HE:=aa (fun h=>L7 HNo.out hs h)
   have HNx:=aa (show cN s=false→∀x∈l.take (k+1),cN x=false from fun h x hx=>by
    rw[htake] at hx
    rcases List.mem_append.1 hx with hx|hx
    ·exact HNo.out x hx
    ·rw[List.mem_singleton.1 hx];exact h)
   clear hs htake hcell hBk
   by_cases h8:8≤s.length
   ·have hsz:(8:Int)≤((bs s).size:Int):=by rw[bq];omega
    have hP:(((bs s).extract 0 8).toList==[99,111,110,116,114,111,108,32])=cN s:=by rw[L9,Mc]
    cases hcs:cN s with
    |true=>
     have HE2:=aa (HE.out hcs)
     rw[hcs] at hP
     clear hcs
     go_wp2_with fail
     go_ret
     exact⟨by rw[HE2.out];rfl,HBk.out⟩
    |false=>
     have HN2:=aa (HNx.out hcs)
     rw[hcs] at hP
     clear hcs
     go_wp2_with fail
     exact⟨⟨k+1,by omega,by go_num,HN2.out,HBk.out⟩,by simp[intOf];omega⟩
   ·have hsz: ¬(8:Int)≤((bs s).size:Int):=by rw[bq];omega
    have HN2:=aa (HNx.out (Md (by omega)))
    go_wp2_with fail
    exact⟨⟨k+1,by omega,by go_num,HN2.out,HBk.out⟩,by simp[intOf];omega⟩
  ·go_wp2_with fail
   go_ret
   refine⟨?_,HBk.out⟩
   have h:=HNo.out
   rw[List.take_of_length_le (by rw[HN.out];omega)] at h
   rw[L8 h]
   rfl
theorem Bo (sep:ai): ∀(l:List ai) (a:ai),l≠[]→fi sep (l++[a])=fi sep l++sep++a
 |[],a,h=>absurd rfl h
 |[b],a,h=>rfl
 |b::c::l,a,h=>by
  have ih:=Bo sep (c::l) a (by simp)
  show b++sep++fi sep (c::l++[a])=_
  rw[ih]
  show _=b++sep++fi sep (c::l)++sep++a
  simp
def gj (l:List Int):ai:=fA++fi [44,32] (l.map Lib.itoa)
theorem Me {l:List Int} (h: ∀x∈l,aj x) (hl:l.length≤10):(gj l).length≤1000:=by
 have h2:=rq 20 (l.map Lib.itoa) (fun x hx=>by
  obtain⟨y,hy,rfl⟩:=List.mem_map.1 hx
  exact rp (h y hy))
 rw[List.length_map] at h2
 unfold gj
 rw[List.length_append]
 have:fA.length=8:=rfl
 omega
theorem Mf (a0 a1 a2 a3 a4 a5 a6 a7 a8 a9 a10 cv av:Value) (l:List Int) (cl:Int) (w:World) (hv:aq w w.heap.size cv l) (hl:l.length≤10) (hcl:aj cl) (m:aC) (acts:List ap):
 am 15 #[.agg #[a0,a1,a2,a3,a4,a5,a6,a7,a8,a9,a10,cv,.int .i64 cl,av]] w (.string (bs (dO ⟨m,l,cl,acts⟩))):=by
 obtain⟨A,n,c,rfl,hn,hc,hcm⟩:=hv.form
 have HV:=aa hv;have HN:=aa hn
 rw[hn] at hl
 clear hv hn
 go_enter func15,ntmps15
 go_upto_region 1 with (fail)
 refine bt (fun W=>Below w.heap.size w W∧W.heap[w.heap.size]? =some (.cells #[a0,a1,a2,a3,a4,a5,a6,a7,a8,a9,a10,.slice A n c,.int .i64 cl,av] 33 (0,0))) ⟨ac (B0 w) _,aN w _⟩ ?_
 intro W1 ⟨hBW,hxW⟩
 have hzx:=blk_lt hxW
 have HBW:=aa hBW;have HxW:=aa hxW
 clear hBW hxW
 go_wp2_with fail
 go_loopw [3,4] (fun s i wr=> ∃k:Nat,k≤n∧i= .int .i64 k∧s= .string (bs (gj (l.take k)))∧Below W1.heap.size W1 wr) (fun _ i _=>n - (intOf i).toNat)
 case atStart=>exact⟨0,aY _,rfl,rfl,B0 W1⟩
 case round=>
  obtain⟨k,hk,rfl,rfl,hb⟩:=hrel
  have HBk:=aa hb
  have hs:(bs (gj (l.take k))).size≤1000:=by
   rw[bq]
   exact Me (fun x hx=>HV.out.2 x (List.mem_of_mem_take hx)) (by rw[List.length_take];omega)
  have hxr:=ah HxW.out hb
  have c1:wr.cell? ⟨w.heap.size,11,none⟩=some (.slice A n c):=af hxr rfl
  have c2:wr.cell? ⟨w.heap.size,12,none⟩=some (.int .i64 cl):=af hxr rfl
  have HBw:Hid (Below w.heap.size w wr):=ag HBW.out hb
  clear hxr hb
  by_cases hlt:k<n
  ·have hI1:(0:Int)≤k:=by omega
   have hI2:(k:Int)<n:=by omega
   obtain⟨x,hx⟩: ∃x,l[k]? =some x:=⟨_,List.getElem?_eq_getElem (by rw[HN.out];exact hlt)⟩
   obtain⟨b,o,rfl,hbb,hcell⟩:=aq.cell HV.out hx
   have cx:wr.cell? ⟨b,o+k,none⟩=some (.int .i64 x):=(HBw.out.cell (p:=⟨b,o+k,none⟩) hbb).trans hcell
   have hIx:aj x:=HV.out.2 x (co hx)
   have htk:l.take (k+1)=l.take k++[x]:=by rw[List.take_add_one,hx];rfl
   have hs2:(bs (Lib.itoa x)).size≤21:=by rw[bq];exact Lib.itoa_length_le _ hIx.1 hIx.2
   by_cases h0:k=0
   ·have HS:=aa (show bs (gj (l.take (k+1)))=bs (gj (l.take k))++bs (Lib.itoa x) by
     rw[htk,h0,fP];rfl)
    have hg: ¬(0:Int)<k:=by omega
    exact Bp
   ·have hs3:(bs (gj (l.take k))++⟨#[44,32]⟩:ByteArray).size≤1002:=by
     rw[ByteArray.size_append];have:(⟨#[44,32]⟩:ByteArray).size=2:=rfl
     omega
    have HS:=aa (show bs (gj (l.take (k+1)))=bs (gj (l.take k))++⟨#[44,32]⟩++bs (Lib.itoa x) by
     show _=bs (gj (l.take k))++bs [44,32]++bs (Lib.itoa x)
     rw[htk,fP,fP]
     congr 1
     unfold gj
     rw[List.map_append,List.map_singleton,Bo _ _ _ (by
      intro e
      have:=congrArg List.length e
      rw[List.length_map,List.length_take,HN.out] at this
      simp at this
      omega)]
     simp)
    have hg:(0:Int)<k:=by omega
    exact Bp
  ·have hI: ¬(k:Int)<n:=by omega
   have hs2:(bs (Lib.itoa cl)).size≤21:=by rw[bq];exact Lib.itoa_length_le _ hcl.1 hcl.2
   have hs3:(bs (gj (l.take k))++⟨#[32,99,108,105,101,110,116,115,32]⟩:ByteArray).size≤1009:=by
    rw[ByteArray.size_append];have:(⟨#[32,99,108,105,101,110,116,115,32]⟩:ByteArray).size=9:=rfl
    omega
   have HS:=aa (show bs (dO ⟨m,l,cl,acts⟩)=bs (gj (l.take k))++⟨#[32,99,108,105,101,110,116,115,32]⟩++bs (Lib.itoa cl) by
    show _=bs (gj (l.take k))++bs dV++bs (Lib.itoa cl)
    rw[List.take_of_length_le (by rw[HN.out];omega),fP,fP]
    rfl)
   go_wp2_with(go_at_call 38;refine(uW _ hcl _).mono ?_;rintro e w1 ⟨rfl,hb1⟩)
   go_ret
   exact⟨og HS.out.symm,ag HBw.out hb1⟩
theorem Bq: ∀(out:List ai) (r:ai),(∀x∈out,bK 10 x)→aX (bb out++r)=out++aX r
 |[],r,_=>rfl
 |x::out,r,h=>by
  have e:bb (x::out)++r=x++10::(bb out++r):=by simp[bb]
  rw[e,xm x _ (h x (by simp)),Bq out r (fun y hy=>h y (by simp[hy]))]
  rfl
theorem uh (out:List ai) (c:ai):bb (out++[c])=bb out++(c++[10]):=by simp[bb]
theorem Mg {s:ByteArray} {k:Nat} {x:UInt8} (h:s.data.toList[k]? =some x):s.extract k (k+1)=bs [x]:=by
 rw[←dZ (s.extract k (k+1))]
 congr 1
 have e:(s.extract k (k+1)).data.toList=(s.data.toList.drop k).take 1:=by
  simp[ByteArray.data_extract,Array.toList_extract]
 rw[e,kN h]
 rfl
theorem ui {s:ByteArray} {k:Nat} {x:UInt8} (h:s.data.toList[k]? =some x) (hk:k<s.size):s[k]=x:=by
 show s.data[k]=x
 rw[Array.getElem?_toList] at h
 exact(Array.getElem?_eq_some_iff.1 h).2
theorem Br (s:ByteArray) (w:World) (hs:s.size≤2000000):
 Calls prog 10 #[.string s] w fun e w'=> ∃v,e= .returned v∧w'.ownsRow w.heap.size 9 1 v (aX s.data.toList).length ((aX s.data.toList).map de)∧Below w.heap.size w w':=by
 refine nH fun i0 hi hz0 hz1 hz2=> ?_
 obtain⟨t,ht⟩: ∃t,s.data.toList=t:=⟨_,rfl⟩
 have hst:s=bs t:=by rw[←ht,dZ]
 have htl:t.length=s.size:=by rw[hst,bq]
 rw[ht]
 have HTd:=aa ht
 have HT:=aa hst;have HTL:=aa htl
 clear ht hst htl
 go_enter func10,ntmps10
 go_wp2_with fail
 go_loopw [3,4,5] (fun v cur i wr=> ∃(k:Nat) (out:List ai) (c:ai),k≤s.size∧i= .int .i64 k∧cur= .string (bs c)∧t.take k=bb out++c∧(∀x∈out,bK 10 x)∧bK 10 c∧c.length≤k∧out.length≤k∧wr.ownsRow w.heap.size 9 1 v out.length (out.map de)∧Below w.heap.size w wr) (fun _ _ i _=>s.size - (intOf i).toNat)
 case atStart=>exact⟨0,[],[],aY _,rfl,rfl,rfl,fun x hx=>by simp at hx,fun x hx=>by simp at hx,ae _,ae _,World.ownsRow_made w #[] 0 (ae _) (by simp[maxLen]) rfl,ac (B0 w) _⟩
 case round=>
  obtain⟨k,out,c,hk,rfl,rfl,htk,hout,hc,hck,hok,hown,hB⟩:=hrel
  have HTk:=aa htk;have HOut:=aa hout;have HC:=aa hc;have HO:=aa hown;have HB:=aa hB
  have hBz:=hB.size
  have hsz:(bs c).size≤2000000:=by rw[bq];omega
  clear htk hout hc hown hB
  by_cases hlt:k<s.size
  ·have hI1:(0:Int)≤k:=by omega
   have hI2:(k:Int)<s.size:=by omega
   obtain⟨x,hx⟩: ∃x,t[k]? =some x:=⟨_,List.getElem?_eq_getElem (by rw[HTL.out];exact hlt)⟩
   have hx':s.data.toList[k]? =some x:=by rw[HTd.out];exact hx
   have HX:=aa (ui hx' hlt)
   have HEx:=aa (Mg hx')
   have htk2:t.take (k+1)=t.take k++[x]:=by rw[List.take_add_one,hx];rfl
   have HTk2:=aa htk2
   clear hx hx' htk2
   by_cases h10:x=10
   ·have e10:((s[k].toNat:Int)==10)=true:=by rw[HX.out,h10];rfl
    have H10:=aa h10
    clear h10
    go_wp2_with first
     |(at_builtin;refine wpList_append_own _ rfl (.tmp 17) (.tmp 19) _ rfl w.heap.size 9 i0 _ 1 16 underlying22 hi hz0 hz1 hz2 rfl (by decide) _ out.length (out.map de) rfl (HO.out.alloc _) ⟨wr.heap.size,0,none⟩ 1 1 [.string (bs c)] rfl rfl (eE rfl) (by simp[Value.oneCell']) (by simp[maxLen];omega) (by omega) (by simp;omega) ?_
       intro v' w3 hown' hgrow _
       have HOW:=aa hown'
       have HB3:=aa (ir (HO.out.alloc (.cells #[.string (bs c)] 9)) (ac HB.out _) (ae _) hgrow)
       clear hown' hgrow)
    refine⟨⟨k+1,out++[c],[],by omega,by go_num,rfl,?_,fun y hy=> ?_,fun y hy=>by simp at hy,aY _,by simp;omega,?_,HB3.out⟩,by simp[intOf];omega⟩
    ·rw[HTk2.out,HTk.out,uh,H10.out];simp
    ·rcases List.mem_append.1 hy with hy|hy
     ·exact HOut.out y hy
     ·rw[List.mem_singleton.1 hy];exact HC.out
    ·rw[List.length_append,List.map_append]
     exact HOW.out
   ·have e10:((s[k].toNat:Int)==10)=false:=by
     rw[HX.out,beq_eq_false_iff_ne]
     intro e
     exact h10 (by have:x.toNat=10:=by omega
                   exact UInt8.toNat_inj.1 this)
    have H10:=aa h10
    have HS:=aa (show bs c++s.extract k (k+1)=bs (c++[x]) by rw[HEx.out,fP])
    clear h10
    have hse:(s.extract k (k+1)).size≤1:=by rw[HEx.out,bq];simp
    have hk1:(k:Int)+1≤s.size:=by omega
    go_wp2_with fail
    refine⟨⟨k+1,out,c++[x],by omega,by go_num,by rw[←HS.out],?_,HOut.out,fun y hy=> ?_,by simp;omega,by omega,HO.out,HB.out⟩,by simp[intOf];omega⟩
    ·rw[HTk2.out,HTk.out];simp
    ·rcases List.mem_append.1 hy with hy|hy
     ·exact HC.out y hy
     ·rw[List.mem_singleton.1 hy];exact H10.out
  ·have htt:t=bb out++c:=by
    have h:=HTk.out
    rw[List.take_of_length_le (by rw[HTL.out];omega)] at h
    exact h
   have HL:=aa (show aX t=out++aX c by rw[htt,Bq out c HOut.out])
   have HLc:=aa (xl HC.out)
   clear htt
   by_cases hc0:0<c.length
   ·have hg:(0:Int)<((bs c).size:Int):=by rw[bq];omega
    have HLf:=aa (show aX t=out++[c] by
     rw[HL.out,HLc.out,if_neg (fun e=>by rw[e] at hc0;simp at hc0)])
    go_wp2_with first
     |(at_builtin;refine wpList_append_own _ rfl (.tmp 31) (.tmp 33) _ rfl w.heap.size 9 i0 _ 1 16 underlying22 hi hz0 hz1 hz2 rfl (by decide) _ out.length (out.map de) rfl (HO.out.alloc _) ⟨wr.heap.size,0,none⟩ 1 1 [.string (bs c)] rfl rfl (eE rfl) (by simp[Value.oneCell']) (by simp[maxLen];omega) (by omega) (by simp;omega) ?_
       intro v' w3 hown' hgrow _
       have HOW:=aa hown'
       have HB3:=aa (ir (HO.out.alloc (.cells #[.string (bs c)] 9)) (ac HB.out _) (ae _) hgrow)
       clear hown' hgrow)
    go_ret
    refine⟨_,rfl,?_,HB3.out⟩
    rw[HLf.out,List.length_append,List.map_append]
    exact HOW.out
   ·have hg: ¬(0:Int)<((bs c).size:Int):=by rw[bq];omega
    have HLf:=aa (show aX t=out by
     rw[HL.out,HLc.out,if_pos (List.eq_nil_of_length_eq_zero (by omega)),List.append_nil])
    go_wp2_with fail
    go_ret
    refine⟨_,rfl,?_,HB.out⟩
    rw[HLf.out]
    exact HO.out
end
end Go.Proofs.YthnkonlbfogkgaaGreatDoor
