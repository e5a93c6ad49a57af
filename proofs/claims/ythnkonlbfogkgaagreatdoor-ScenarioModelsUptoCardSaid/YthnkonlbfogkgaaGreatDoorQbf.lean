/- A part of the proof. -/
import Derived.Test.YthnkonlbfogkgaaGreatDoorQbe
set_option linter.unusedVariables false
set_option linter.unusedSimpArgs false
set_option maxRecDepth 100000
set_option maxHeartbeats 32000000
namespace Go.Proofs.YthnkonlbfogkgaaGreatDoor
section
open Go Go.RowKit Tryz
theorem fY (n a b:Int) (w:World):Calls prog 153 #[.int .i64 n,.int .i64 a,.int .i64 b] w fun e w'=>e= .returned (.bool (aD n a b))∧w'=w:=by
 go_enter func153,ntmps153
 go_wp2
 all_goals (go_ret;exact⟨aV (by simp[aD];try omega),rfl⟩)
def aU.vals (x:aU) (o:Value):Array Value:= #[.int .i64 x.kind,.int .i64 x.item,.int .i64 x.other,.int .i64 x.n,.int .i64 x.by_,.bool x.always,o]
theorem aU.vals_def (x:aU) (o:Value):x.vals o= #[.int .i64 x.kind,.int .i64 x.item,.int .i64 x.other,.int .i64 x.n,.int .i64 x.by_,.bool x.always,o]:=rfl
def jy (k:Nat) (m:aC) (x:aU):Bool:=
 match k with
 |0=>aM x.item m.items.length&&decide (jM m x.item=0)
 |1=>aM x.item m.items.length&&aD x.n 0 16
 |2=>aM x.item m.items.length&&(aD x.n 0 16&&aD x.by_ 2 4)
 |3=>aM x.item m.items.length&&eO m x.ms
 |4=>aM x.item m.items.length&&(aM x.other m.items.length&& !decide (x.item=x.other))
 |5=>aD x.n 0 200
 |6=>aM x.item m.items.length&&aD x.n 0 16
 |_=>false
def fB:aU:=⟨0,0,0,0,0,false,[]⟩
def cO (k:Nat) (x:aU):aU:=
 match k with
 |0=>{fB with item:=x.item}
 |1=>{fB with item:=x.item,n:=x.n,always:=x.always}
 |2=>{fB with item:=x.item,n:=x.n,by_:=x.by_}
 |3=>{fB with item:=x.item,ms:=x.ms}
 |4=>{fB with item:=x.item,other:=x.other}
 |5=>{fB with n:=x.n}
 |6=>{fB with item:=x.item,n:=x.n}
 |_=>fB
def ko (a b:aU):Bool:=decide (a.item=b.item)&&(decide (a.other=b.other)&&(decide (a.n=b.n)&&(decide (a.by_=b.by_)&&(decide (a.always=b.always)&&decide (a.ms=b.ms)))))
theorem Fy (m:aC) (x:aU) (k:Nat) (hk:k≤6) (hx:x.kind=k):cE m x=(jy k m x&&ko x (cO k x)):=by
 have h:k=0∨k=1∨k=2∨k=3∨k=4∨k=5∨k=6:=by omega
 have hb: ∀b:Bool,decide (b=false)= !b:=by intro b;cases b<;>rfl
 rcases h with rfl|rfl|rfl|rfl|rfl|rfl|rfl<;>(simp only[cE,jy,cO,ko,fB,hx];rw[Bool.eq_iff_iff];simp[and_assoc];try grind)
theorem xE (m:aC) (x:aU) (h: ¬(0≤x.kind∧x.kind≤6)):cE m x=false:=by
 unfold cE
 simp only
 repeat rw[if_neg (by omega)]
def iw (k:Nat) (l:List Int) (j:Nat):Bool:=dE (fun n b=>aM n k&&(match b.getLast? with|none=>true|some p=>decide (p<n))) [] l j
theorem xF (k:Nat) (l:List Int):vv k l=cV (iw k l) l.length:=hE _ l []
theorem xG {k:Nat} {l:List Int} {n:Int} (h:l[0]? =some n):iw k l 0=aM n k:=by
 unfold iw
 rw[iu h]
 simp
theorem rJ {k j:Nat} {l:List Int} {p n:Int} (hp:l[j]? =some p) (h:l[j+1]? =some n):iw k l (j+1)=(aM n k&&decide (p<n)):=by
 unfold iw
 rw[iu h]
 have:([]++l.take (j+1)).getLast?=some p:=by
  rw[List.nil_append,List.getLast?_eq_getElem?,List.length_take]
  have hlt:=(List.getElem?_eq_some_iff.1 h).1
  rw[Nat.min_eq_left (by omega),List.getElem?_take]
  simpa using hp
 rw[this]
theorem xH (m:aC) (v:MV) (n:Int) (w:World) (hv:m.In w w.heap.size v):
 am 339 #[.agg (m.cells v),.int .i64 n] w (.bool (aM n m.items.length)):=by
 obtain⟨_,_,_,_,_,⟨A,c,hi,h1,h2⟩,_⟩:=hv.cells
 have HW:=aa (fun W=>fY n 1 m.items.length W)
 unfold aM
 generalize aD n 1 (m.items.length:Nat)=r at HW
 rw[aC.cells_def,hi]
 clear hv hi
 go_enter func339,ntmps339
 go_wp2_with(go_at_call 153;refine(HW.out _).mono ?_;rintro e w1 ⟨rfl,rfl⟩)
 go_ret
 exact⟨rfl,by repeat' first|with_reducible exact B0 w|with_reducible refine ac ?_ _⟩
theorem rK (v:Value) (l:List Int) (n:Int) (w:World) (B:Nat) (h:aq w B v l):
 Calls prog 176 #[v,.int .i64 n] w fun e w'=>e= .returned (.bool (decide (n∈l)))∧w'=w:=by
 rcases Sl.cases_ h.1 with ⟨h0,A,c,rfl,_⟩|⟨hpos,b,o,c,rfl,h1,h2,hb,hc⟩
 ·have:l=[]:=by simpa using h0
  subst this
  refine(slices_Contains_int_empty A c _ w).mono fun e w' ⟨he,hw⟩=>⟨by rw[he];simp,hw⟩
 ·rw[List.length_map] at h1 hpos⊢
  refine(slices_Contains_int b o l.length c l n w (by simp) (by simp[maxLen] at h2;omega) (fun j hj=>hc j _ (by simp[hj]))).mono fun e w' ⟨he,hw⟩=>⟨?_,hw⟩
  rw[he]
  refine aV ?_
  rw[List.take_of_length_le (by simp)]
  rw[Bool.eq_iff_iff]
  simp
theorem aq.sk {w:World} {B:Nat} {v:Value} {l:List Int} (h:aq w B v l):aQ 1 (R1 (Value.int .i64)) w B v l:=h.1.k1
theorem aq.cell {w:World} {B n c:Nat} {A:Option Addr} {l:List Int} (h:aq w B (.slice A n c) l) {j:Nat} {x:Int} (hx:l[j]? =some x): ∃b o,A=some ⟨b,o,none⟩∧b<B∧w.cell? ⟨b,o+j,none⟩=some (.int .i64 x):=by
 exact xI
theorem aq.lits (W:World) (l:List Int) (hl: ∀x∈l,aj x) (hn:l.length≤1000) (t:TypeId):
 aq (W.alloc (.cells (l.map (Value.int .i64)).toArray t)) (W.alloc (.cells (l.map (Value.int .i64)).toArray t)).heap.size (.slice (some ⟨W.heap.size,0,none⟩) l.length l.length) l:=by
 exact vB
theorem xJ (m:aC) (v:MV) (u:Value) (l:List Int) (w:World) (hv:m.In w w.heap.size v) (hl:aq w w.heap.size u l):
 am 252 #[.agg (m.cells v),u] w (.bool (eO m l)):=by
 obtain⟨⟨Sa,sc,hs,_,_⟩,⟨Fa,fc,hf,_,_⟩,⟨Ra,rc,hr,_,_⟩,⟨Ma,mc,hm,hm1,hm2⟩,_⟩:=hv.cells
 obtain⟨A,n,c,rfl,hn,hc,hcm⟩:=hl.sk.form
 have HL:=aa hl
 have HN:=aa hn
 have HW:=aa (fun x W=>fY x 1 m.machs.length W)
 have HO:Hid (eO m l=(cV (iw m.machs.length l) l.length&&decide (0<l.length))):=by show _=_;rw[←xF];rfl
 generalize eO m l=r at HO
 rw[aC.cells_def,hs,hf,hr,hm]
 clear hv hl hn hs hf hr hm
 go_enter func252,ntmps252
 go_wp2_with fail
 go_loopw [9] (fun i wr=> ∃k:Nat,k≤n∧i= .int .i64 k∧(∀j,j<k→iw m.machs.length l j=true)∧Below w.heap.size w wr∧wr.cell? ⟨w.heap.size,3,none⟩=some (.slice Ma m.machs.length mc)∧w.heap.size<wr.heap.size) (fun i _=>n - (intOf i).toNat)
 case atStart=>exact⟨0,aY _,rfl,by omega,ac (B0 w) _,by go_simp,by simp⟩
 case round=>
  obtain⟨k,hk,rfl,hall,hB,hc3,hz⟩:=hrel
  have HA:=aa hall
  clear hall
  by_cases hlt:k<n
  ·have hI1:(0:Int)≤k:=by omega
   have hI2:(k:Int)<n:=by omega
   obtain⟨x,hx⟩: ∃x,l[k]? =some x:=⟨_,List.getElem?_eq_getElem (by rw[HN.out];exact hlt)⟩
   obtain⟨b,o,rfl,hbb,hcx⟩:=(HL.out.below hB (ae _)).cell hx
   have HWx:=aa (fun W=>HW.out x W)
   have HX:=aa hx
   cases he:aD x 1 (m.machs.length:Nat) with
   |false=>
    rw[he] at HWx
    have HE:=aa he
    clear he hx
    go_wp2_with(go_at_call 153;refine(HWx.out _).mono ?_;rintro e w1 ⟨rfl,rfl⟩)
    go_ret
    refine⟨?_,hB⟩
    rw[HO.out,gD (k:=k) (by rw[HN.out];exact hlt) ?_]
    ·rfl
    ·unfold iw
     rw[iu HX.out]
     show(aD x 1 (m.machs.length:Nat)&&_)=false
     rw[HE.out]
     rfl
   |true=>
    rw[he] at HWx
    have HE:=aa he
    clear he
    by_cases h0:k=0
    ·have hnp: ¬(0:Int)<(k:Int):=by omega
     have H0:=aa h0
     clear hx h0
     go_wp2_with(go_at_call 153;refine(HWx.out _).mono ?_;rintro e w1 ⟨rfl,rfl⟩)
     refine⟨⟨k+1,by omega,by go_num,fun j hj=> ?_,hB,hc3,hz⟩,by simp[intOf];omega⟩
     have:=H0.out
     subst this
     obtain rfl:j=0:=by omega
     rw[xG HX.out]
     exact HE.out
    ·obtain⟨j,rfl⟩: ∃j,k=j+1:=⟨k - 1,by omega⟩
     clear h0
     obtain⟨p,hp⟩: ∃p,l[j]? =some p:=⟨_,List.getElem?_eq_getElem (by rw[HN.out];omega)⟩
     obtain⟨b2,o2,he2,_,hcp⟩:=(HL.out.below hB (ae _)).cell hp
     injection he2 with he2
     injection he2 with he3 he4
     subst he3 he4
     have HP:=aa hp
     have hjp:(0:Int)<(j:Int)+1:=by omega
     have hj0:(0:Int)≤(j:Int):=by omega
     have hj1:(j:Int)<n:=by omega
     clear hx hp
     by_cases hlp:p<x
     ·have hq:decide (x≤p)=false:=by simp;omega
      have hq2: ¬x≤p:=by omega
      have HQ:=aa hlp
      clear hlp
      go_wp2_with(go_at_call 153;refine(HWx.out _).mono ?_;rintro e w1 ⟨rfl,rfl⟩)
      refine⟨⟨j+2,by omega,by go_num,fun i hi=> ?_,hB,hc3,hz⟩,by simp[intOf];omega⟩
      by_cases e:i=j+1
      ·subst e
       rw[rJ HP.out HX.out]
       have:=HE.out
       simp[aM,this,HQ.out]
      ·exact HA.out i (by omega)
     ·have hq:decide (x≤p)=true:=by simp;omega
      have hq2:x≤p:=by omega
      clear hlp
      go_wp2_with(go_at_call 153;refine(HWx.out _).mono ?_;rintro e w1 ⟨rfl,rfl⟩)
      go_ret
      refine⟨?_,hB⟩
      rw[HO.out,gD (k:=j+1) (by rw[HN.out];exact hlt) ?_]
      ·rfl
      ·rw[rJ HP.out HX.out]
       have:decide (p<x)=false:=by simp;omega
       rw[this,Bool.and_false]
  ·have hkn:k=n:=by omega
   subst hkn
   go_wp2_with fail
   go_ret
   refine⟨aV ?_,hB⟩
   rw[HO.out,iV (fun j hj=>HA.out j (by rw[←HN.out];exact hj)),HN.out,Bool.true_and]
theorem Fz (x y:aU) (o o':Value) (w:World) (ho:aq w w.heap.size o x.ms) (ho':aq w w.heap.size o' y.ms):
 am 255 #[.agg (x.vals o),.agg (y.vals o')] w (.bool (ko x y)):=by
 obtain⟨A,n,c,rfl,_,_,_⟩:=ho.sk.form
 obtain⟨A',n',c',rfl,_,_,_⟩:=ho'.sk.form
 have HX:=aa ho;have HY:=aa ho'
 clear ho ho'
 unfold aU.vals
 go_enter func255,ntmps255
 go_wp2_with(go_at_call 203;refine(qF _ _ x.ms y.ms _ w.heap.size (HX.out.below (ac (ac (B0 w) _) _) (ae _)) (HY.out.below (ac (ac (B0 w) _) _) (ae _))).mono ?_;rintro e w1 ⟨rfl,hb1⟩;have hB1:=ag (ac (ac (B0 w) _) _) hb1;obtain⟨hc1,hf1⟩:=ck hb1)
 all_goals go_ret
 all_goals refine⟨aV ?_,?_⟩
 all_goals first
  |exact hB1
  |exact ac (ac (B0 w) _) _
  |(simp only[ko];simp[*];done)
  |(simp only[ko];rw[Bool.eq_iff_iff];simp[*];done)
theorem FA (x:aU) (A:Option Addr) (n c:Nat) (w:World):
 am 340 #[.agg (x.vals (.slice A n c))] w (.agg ((cO 0 x).vals (.slice none 0 0))):=by
 unfold aU.vals
 go_enter func340,ntmps340
 go_wp2_with fail
 refine bodyPost_ret (v:= .agg ((cO 0 x).vals (.slice none 0 0))) (by simp[results,results340,go_sem,aU.vals,cO,fB]) rfl ?_
 exact kr
theorem FB (x:aU) (A:Option Addr) (n c:Nat) (w:World):
 am 342 #[.agg (x.vals (.slice A n c))] w (.agg ((cO 1 x).vals (.slice none 0 0))):=by
 unfold aU.vals
 go_enter func342,ntmps342
 go_wp2_with fail
 refine bodyPost_ret (v:= .agg ((cO 1 x).vals (.slice none 0 0))) (by simp[results,results342,go_sem,aU.vals,cO,fB]) rfl ?_
 exact kr
theorem FC (x:aU) (A:Option Addr) (n c:Nat) (w:World):
 am 344 #[.agg (x.vals (.slice A n c))] w (.agg ((cO 2 x).vals (.slice none 0 0))):=by
 unfold aU.vals
 go_enter func344,ntmps344
 go_wp2_with fail
 refine bodyPost_ret (v:= .agg ((cO 2 x).vals (.slice none 0 0))) (by simp[results,results344,go_sem,aU.vals,cO,fB]) rfl ?_
 exact kr
theorem FD (x:aU) (A:Option Addr) (n c:Nat) (w:World):
 am 346 #[.agg (x.vals (.slice A n c))] w (.agg ((cO 3 x).vals (.slice A n c))):=by
 unfold aU.vals
 go_enter func346,ntmps346
 go_wp2_with fail
 refine bodyPost_ret (v:= .agg ((cO 3 x).vals (.slice A n c))) (by simp[results,results346,go_sem,aU.vals,cO,fB]) rfl ?_
 exact kr
theorem FE (x:aU) (A:Option Addr) (n c:Nat) (w:World):
 am 348 #[.agg (x.vals (.slice A n c))] w (.agg ((cO 4 x).vals (.slice none 0 0))):=by
 unfold aU.vals
 go_enter func348,ntmps348
 go_wp2_with fail
 refine bodyPost_ret (v:= .agg ((cO 4 x).vals (.slice none 0 0))) (by simp[results,results348,go_sem,aU.vals,cO,fB]) rfl ?_
 exact kr
theorem FF (x:aU) (A:Option Addr) (n c:Nat) (w:World):
 am 350 #[.agg (x.vals (.slice A n c))] w (.agg ((cO 5 x).vals (.slice none 0 0))):=by
 unfold aU.vals
 go_enter func350,ntmps350
 go_wp2_with fail
 refine bodyPost_ret (v:= .agg ((cO 5 x).vals (.slice none 0 0))) (by simp[results,results350,go_sem,aU.vals,cO,fB]) rfl ?_
 exact kr
theorem FG (x:aU) (A:Option Addr) (n c:Nat) (w:World):
 am 352 #[.agg (x.vals (.slice A n c))] w (.agg ((cO 6 x).vals (.slice none 0 0))):=by
 unfold aU.vals
 go_enter func352,ntmps352
 go_wp2_with fail
 refine bodyPost_ret (v:= .agg ((cO 6 x).vals (.slice none 0 0))) (by simp[results,results352,go_sem,aU.vals,cO,fB]) rfl ?_
 exact kr
theorem FH (m:aC) (v:MV) (x:aU) (o:Value) (w:World) (hv:m.In w w.heap.size v) (ho:aq w w.heap.size o x.ms) (h1:aj x.item) (h2:aj x.n) (h3:aj x.by_) (h4:aj x.other):
 am 341 #[.agg (m.cells v),.agg (x.vals o)] w (.bool (jy 1 m x)):=by
 refine lL fun Sa sc hs hs1 hs2 Fa fc hf hf1 hf2 Ra rc hr hr1 hr2 Ma mc hm hm1 hm2 La lc hl hl1 hl2 Ia ic hi hi1 hi2 Ua uc hu hu1 hu2 HS HI1=> ?_
 obtain⟨A,n,c,rfl,_,_,_⟩:=ho.sk.form
 have HW:=aa (fun W=>fY x.n 0 16 W)
 show Calls _ _ _ _ fun e w'=>e= .returned (.bool (aM x.item m.items.length&&aD x.n 0 16))∧_
 generalize aM x.item m.items.length=r1 at HI1
 generalize aD x.n 0 16=r2 at HW
 rw[HS.out] at HI1⊢
 unfold aU.vals
 clear hv hs hf hr hm hl hi hu ho
 cases r1 with
 |false=>
  go_enter func341,ntmps341
  exact oX
 |true=>
  go_enter func341,ntmps341
  exact oX
theorem FI (m:aC) (v:MV) (x:aU) (o:Value) (w:World) (hv:m.In w w.heap.size v) (ho:aq w w.heap.size o x.ms) (h1:aj x.item) (h2:aj x.n) (h3:aj x.by_) (h4:aj x.other):
 am 351 #[.agg (m.cells v),.agg (x.vals o)] w (.bool (jy 6 m x)):=by
 refine lL fun Sa sc hs hs1 hs2 Fa fc hf hf1 hf2 Ra rc hr hr1 hr2 Ma mc hm hm1 hm2 La lc hl hl1 hl2 Ia ic hi hi1 hi2 Ua uc hu hu1 hu2 HS HI1=> ?_
 obtain⟨A,n,c,rfl,_,_,_⟩:=ho.sk.form
 have HW:=aa (fun W=>fY x.n 0 16 W)
 show Calls _ _ _ _ fun e w'=>e= .returned (.bool (aM x.item m.items.length&&aD x.n 0 16))∧_
 generalize aM x.item m.items.length=r1 at HI1
 generalize aD x.n 0 16=r2 at HW
 rw[HS.out] at HI1⊢
 unfold aU.vals
 clear hv hs hf hr hm hl hi hu ho
 cases r1 with
 |false=>
  go_enter func351,ntmps351
  exact oX
 |true=>
  go_enter func351,ntmps351
  exact oX
theorem FJ (m:aC) (v:MV) (x:aU) (o:Value) (w:World) (hv:m.In w w.heap.size v) (ho:aq w w.heap.size o x.ms) (h1:aj x.item) (h2:aj x.n) (h3:aj x.by_) (h4:aj x.other):
 am 343 #[.agg (m.cells v),.agg (x.vals o)] w (.bool (jy 2 m x)):=by
 refine lL fun Sa sc hs hs1 hs2 Fa fc hf hf1 hf2 Ra rc hr hr1 hr2 Ma mc hm hm1 hm2 La lc hl hl1 hl2 Ia ic hi hi1 hi2 Ua uc hu hu1 hu2 HS HI1=> ?_
 obtain⟨A,n,c,rfl,_,_,_⟩:=ho.sk.form
 have HW:=aa (fun W=>fY x.n 0 16 W)
 have HC:=aa (fun W B u (h:aq W B u [2,3,4])=>rK u [2,3,4] x.by_ W B h)
 have hby:decide (x.by_∈[2,3,4])=aD x.by_ 2 4:=by rw[Bool.eq_iff_iff];simp[aD];omega
 rw[hby] at HC
 show Calls _ _ _ _ fun e w'=>e= .returned (.bool (aM x.item m.items.length&&(aD x.n 0 16&&aD x.by_ 2 4)))∧_
 generalize aM x.item m.items.length=r1 at HI1
 generalize aD x.n 0 16=r2 at HW
 generalize aD x.by_ 2 4=r3 at HC
 rw[HS.out] at HI1⊢
 unfold aU.vals
 clear hv hs hf hr hm hl hi hu ho hby
 cases r1 with
 |false=>
  exact xK
 |true=>
  cases r2 with
  |false=>
   exact xK
  |true=>
   go_enter func343,ntmps343
   go_wp2_with(first
    |(go_at_call 339;refine(HI1.out _ (ac (ac (B0 w) _) _)).mono ?_;rintro e w1 ⟨rfl,hb1⟩;have HB1:=aa (ag (ac (ac (B0 w) _) _) hb1);obtain⟨hc1,hf1⟩:=ck hb1;have hz1:w.heap.size+1<w1.heap.size:=dJ hb1 (by simp);clear hb1)
    |(go_at_call 153;refine(HW.out _).mono ?_;rintro e w2 ⟨rfl,rfl⟩)
    |(go_at_call 176;refine(HC.out _ _ _ (aq.lits _ [2,3,4] (by simp[aj]) (by simp) _)).mono ?_;rintro e w3 ⟨rfl,rfl⟩)
    |fail)
   go_ret
   exact⟨by simp,ac HB1.out _⟩
theorem FK (m:aC) (v:MV) (x:aU) (o:Value) (w:World) (hv:m.In w w.heap.size v) (ho:aq w w.heap.size o x.ms) (h1:aj x.item) (h2:aj x.n) (h3:aj x.by_) (h4:aj x.other):
 am 345 #[.agg (m.cells v),.agg (x.vals o)] w (.bool (jy 3 m x)):=by
 refine lL fun Sa sc hs hs1 hs2 Fa fc hf hf1 hf2 Ra rc hr hr1 hr2 Ma mc hm hm1 hm2 La lc hl hl1 hl2 Ia ic hi hi1 hi2 Ua uc hu hu1 hu2 HS HI1=> ?_
 have HM:=aa (fun W (hW:Below w.heap.size w W)=>xJ m v o x.ms W (hv.to hW (ae _) hW.size) ((ho.below hW (ae _)).more hW.size))
 obtain⟨A,n,c,rfl,_,_,_⟩:=ho.sk.form
 show Calls _ _ _ _ fun e w'=>e= .returned (.bool (aM x.item m.items.length&&eO m x.ms))∧_
 generalize aM x.item m.items.length=r1 at HI1
 generalize eO m x.ms=r2 at HM
 rw[HS.out] at HI1 HM⊢
 unfold aU.vals
 clear hv hs hf hr hm hl hi hu ho
 cases r1 with
 |false=>
  go_enter func345,ntmps345
  go_wp2_with(first
   |(go_at_call 339;refine(HI1.out _ (ac (ac (B0 w) _) _)).mono ?_;rintro e w1 ⟨rfl,hb1⟩;have HB1:=aa (ag (ac (ac (B0 w) _) _) hb1);obtain⟨hc1,hf1⟩:=ck hb1;have hz1:w.heap.size+1<w1.heap.size:=dJ hb1 (by simp);clear hb1)
   |(go_at_call 252;refine(HM.out _ HB1.out).mono ?_;rintro e w2 ⟨rfl,hb2⟩;have HB2:=aa (ag HB1.out hb2);clear hb2)
   |fail)
  go_ret
  exact⟨by simp,HB1.out⟩
 |true=>
  go_enter func345,ntmps345
  go_wp2_with(first
   |(go_at_call 339;refine(HI1.out _ (ac (ac (B0 w) _) _)).mono ?_;rintro e w1 ⟨rfl,hb1⟩;have HB1:=aa (ag (ac (ac (B0 w) _) _) hb1);obtain⟨hc1,hf1⟩:=ck hb1;have hz1:w.heap.size+1<w1.heap.size:=dJ hb1 (by simp);clear hb1)
   |(go_at_call 252;refine(HM.out _ HB1.out).mono ?_;rintro e w2 ⟨rfl,hb2⟩;have HB2:=aa (ag HB1.out hb2);clear hb2)
   |fail)
  go_ret
  exact⟨by simp,HB2.out⟩
theorem FL (m:aC) (v:MV) (x:aU) (o:Value) (w:World) (hv:m.In w w.heap.size v) (ho:aq w w.heap.size o x.ms) (h1:aj x.item) (h2:aj x.n) (h3:aj x.by_) (h4:aj x.other):
 am 347 #[.agg (m.cells v),.agg (x.vals o)] w (.bool (jy 4 m x)):=by
 refine lL fun Sa sc hs hs1 hs2 Fa fc hf hf1 hf2 Ra rc hr hr1 hr2 Ma mc hm hm1 hm2 La lc hl hl1 hl2 Ia ic hi hi1 hi2 Ua uc hu hu1 hu2 HS HI1=> ?_
 have HI2:=aa (fun W (hW:Below w.heap.size w W)=>xH m v x.other W (hv.to hW (ae _) hW.size))
 obtain⟨A,n,c,rfl,_,_,_⟩:=ho.sk.form
 have hne:(x.item !=x.other)= !decide (x.item=x.other):=by simp[bne,iv]
 have HN:=aa hne
 show Calls _ _ _ _ fun e w'=>e= .returned (.bool (aM x.item m.items.length&&(aM x.other m.items.length&& !decide (x.item=x.other))))∧_
 generalize aM x.item m.items.length=r1 at HI1
 generalize aM x.other m.items.length=r2 at HI2
 rw[HS.out] at HI1 HI2⊢
 unfold aU.vals
 clear hv hs hf hr hm hl hi hu ho hne
 have HN2:=aa (fun o2=>ah (aN w (.cells #[.slice Sa m.sites.length sc,.slice Fa m.feeds.length fc,.slice Ra m.racks.length rc,.slice Ma m.machs.length mc,.slice La m.links.length lc,.slice Ia m.items.length ic,.int .i64 m.dark,.int .i64 m.slots,.int .i64 m.reserve,.int .i64 m.failures,.slice Ua m.rules.length uc] 29)) (ac (B0 _) o2))
 have HN3:=aa (fun o1=>(show((w.alloc o1).alloc (.cells #[.int .i64 x.kind,.int .i64 x.item,.int .i64 x.other,.int .i64 x.n,.int .i64 x.by_,.bool x.always,.slice A n c] 110)).heap[w.heap.size+1]? =some (.cells #[.int .i64 x.kind,.int .i64 x.item,.int .i64 x.other,.int .i64 x.n,.int .i64 x.by_,.bool x.always,.slice A n c] 110 (0,0)) from by have h:=aN (w.alloc o1) (.cells #[.int .i64 x.kind,.int .i64 x.item,.int .i64 x.other,.int .i64 x.n,.int .i64 x.by_,.bool x.always,.slice A n c] 110);rwa [World.size_alloc] at h))
 cases r1 with
 |false=>
  go_enter func347,ntmps347
  go_wp2_with fail
  refine(HI1.out _ (ac (ac (B0 w) _) _)).mono ?_
  rintro e w1 ⟨rfl,hb1⟩
  refine rL fun HB1 c2 c3 HZ e0 e1 e2 e3 e4 e5 e6 e7 e8 e9 e10 d1 d2=> ?_
  clear hb1 c2 c3
  go_wp2_with fail
  go_ret
  exact⟨by simp,HB1.out⟩
 |true=>
  cases r2 with
  |false=>
   go_enter func347,ntmps347
   go_wp2_with fail
   refine(HI1.out _ (ac (ac (B0 w) _) _)).mono ?_
   rintro e w1 ⟨rfl,hb1⟩
   refine rL fun HB1 c2 c3 HZ e0 e1 e2 e3 e4 e5 e6 e7 e8 e9 e10 d1 d2=> ?_
   clear hb1 c2 c3
   go_wp2_with fail
   refine(HI2.out _ HB1.out).mono ?_
   rintro e w2 ⟨rfl,hb2⟩
   have HB2:=aa (ag HB1.out hb2)
   have g1:=(hb2.cell (p:=⟨w.heap.size+1,1,none⟩) HZ.out).trans d1
   have g2:=(hb2.cell (p:=⟨w.heap.size+1,2,none⟩) HZ.out).trans d2
   clear hb2 d1 d2 e0 e1 e2 e3 e4 e5 e6 e7 e8 e9 e10
   go_wp2_with fail
   go_ret
   exact⟨by simp,HB2.out⟩
  |true=>
   go_enter func347,ntmps347
   go_wp2_with fail
   refine(HI1.out _ (ac (ac (B0 w) _) _)).mono ?_
   rintro e w1 ⟨rfl,hb1⟩
   refine rL fun HB1 c2 c3 HZ e0 e1 e2 e3 e4 e5 e6 e7 e8 e9 e10 d1 d2=> ?_
   clear hb1 c2 c3
   go_wp2_with fail
   refine(HI2.out _ HB1.out).mono ?_
   rintro e w2 ⟨rfl,hb2⟩
   have HB2:=aa (ag HB1.out hb2)
   have g1:=(hb2.cell (p:=⟨w.heap.size+1,1,none⟩) HZ.out).trans d1
   have g2:=(hb2.cell (p:=⟨w.heap.size+1,2,none⟩) HZ.out).trans d2
   clear hb2 d1 d2 e0 e1 e2 e3 e4 e5 e6 e7 e8 e9 e10
   go_wp2_with fail
   go_ret
   exact⟨by rw[HN.out];simp,HB2.out⟩
theorem FM (m:aC) (v:MV) (x:aU) (o:Value) (w:World) (hv:m.In w w.heap.size v) (ho:aq w w.heap.size o x.ms) (h1:aj x.item) (h2:aj x.n) (h3:aj x.by_) (h4:aj x.other):
 am 349 #[.agg (m.cells v),.agg (x.vals o)] w (.bool (jy 5 m x)):=by
 obtain⟨⟨Sa,sc,hs,hs1,hs2⟩,⟨Fa,fc,hf,hf1,hf2⟩,⟨Ra,rc,hr,hr1,hr2⟩,⟨Ma,mc,hm,hm1,hm2⟩,⟨La,lc,hl,hl1,hl2⟩,⟨Ia,ic,hi,hi1,hi2⟩,⟨Ua,uc,hu,hu1,hu2⟩⟩:=hv.cells
 refine xL fun HS=> ?_
 obtain⟨A,n,c,rfl,_,_,_⟩:=ho.sk.form
 have HW:=aa (fun W=>fY x.n 0 200 W)
 show Calls _ _ _ _ fun e w'=>e= .returned (.bool (aD x.n 0 200))∧_
 generalize aD x.n 0 200=r2 at HW
 rw[HS.out]
 unfold aU.vals
 clear hv hs hf hr hm hl hi hu ho
 go_enter func349,ntmps349
 go_wp2_with(first
  |(go_at_call 153;refine(HW.out _).mono ?_;rintro e w2 ⟨rfl,rfl⟩)
  |fail)
 go_ret
 exact⟨rfl,ac (ac (B0 w) _) _⟩
theorem FN (m:aC) (v:MV) (x:aU) (o:Value) (w:World) (hv:m.In w w.heap.size v) (ho:aq w w.heap.size o x.ms) (h1:aj x.item) (h2:aj x.n) (h3:aj x.by_) (h4:aj x.other):
 am 338 #[.agg (m.cells v),.agg (x.vals o)] w (.bool (jy 0 m x)):=by
 refine lL fun Sa sc hs hs1 hs2 Fa fc hf hf1 hf2 Ra rc hr hr1 hr2 Ma mc hm hm1 hm2 La lc hl hl1 hl2 Ia ic hi hi1 hi2 Ua uc hu hu1 hu2 HS HI1=> ?_
 obtain⟨A,n,c,rfl,_,_,_⟩:=ho.sk.form
 have HIS:=aa hv.is
 obtain⟨kind,item,other,xn,by_,always,ms⟩:=x
 dsimp only at HI1 h1 h2 h3 h4⊢
 show Calls _ _ _ _ fun e w'=>e= .returned (.bool (aM item m.items.length&&decide (jM m item=0)))∧_
 rw[hi] at HIS
 cases hr1:aM item m.items.length with
 |false=>
  rw[hr1] at HI1
  rw[HS.out] at HI1⊢
  unfold aU.vals
  clear hv hs hf hr hm hl hi hu ho hr1
  go_enter func338,ntmps338
  go_wp2_with(first
   |(go_at_call 339;refine(HI1.out _ (ac (ac (B0 w) _) _)).mono ?_;rintro e w1 ⟨rfl,hb1⟩;have HB1:=aa (ag (ac (ac (B0 w) _) _) hb1);obtain⟨hc1,hf1⟩:=ck hb1;have hz1:w.heap.size+1<w1.heap.size:=dJ hb1 (by simp);clear hb1)
   |fail)
  go_ret
  exact⟨by simp,HB1.out⟩
 |true=>
  rw[hr1] at HI1
  obtain⟨j,rfl⟩: ∃j:Nat,item=(j:Int)+1:=⟨(item - 1).toNat,by simp[aM,aD] at hr1;omega⟩
  have hj:j<m.items.length:=by simp[aM,aD] at hr1;omega
  have hj0:(0:Int)≤(j:Int):=by omega
  have hj1:(j:Int)<(m.items.length:Nat):=by omega
  obtain⟨y,hy⟩: ∃y,m.items[j]? =some y:=⟨_,List.getElem?_eq_getElem hj⟩
  obtain⟨b,off,cs,rfl,hbb,_,hR,hcell⟩:=HIS.out.at_ hy
  obtain⟨yo,rfl,_⟩:=hR
  have hk1:=hcell 1 _ rfl
  have HK:=aa (show jM m ((j:Int)+1)=y.kind from by
   unfold jM
   rw[show((j:Int)+1 - 1).toNat=j from by omega,hy]
   rfl)
  rw[HK.out]
  have HQ:=aa (show(y.kind==0)=decide (y.kind=0) from iv _ _)
  rw[HS.out] at HI1⊢
  unfold aU.vals
  clear hv hs hf hr hm hl hi hu ho hr1 hcell hy HK HIS
  go_enter func338,ntmps338
  go_wp2_with(first
   |(go_at_call 339;refine(HI1.out _ (ac (ac (B0 w) _) _)).mono ?_;rintro e w1 ⟨rfl,hb1⟩;have HB1:=aa (ag (ac (ac (B0 w) _) _) hb1);obtain⟨hc1,hf1⟩:=ck hb1;have hz1:w.heap.size+1<w1.heap.size:=dJ hb1 (by simp);have hk2:=(HB1.out.cell (p:=⟨b,off+j*7+1,none⟩) hbb).trans hk1;clear hb1)
   |fail)
  go_ret
  exact⟨by rw[HQ.out];simp,HB1.out⟩
structure bY (w:World):Prop where
 g:aT w
 sp:Lib.TabIs prog w "strings.asciiSpace" .u8 Lib.asciiSpaceTab
theorem bY.below {w w':World} {B:Nat} (h:bY w) (hb:Below B w w') (hB:8≤B):bY w' where
 g:=h.g.below hb hB
 sp:=by
  have e:w'.var? prog "strings.asciiSpace" =w.var? prog "strings.asciiSpace" :=by
   have hg:Tryz.prog.globalNamed "strings.asciiSpace" =some 2:=by kernel_rfl
   have hbl:=hb.block 2 (aF (by decide) hB)
   simp only[World.var?,hg]
   show(match w'.heap[2]? with|some (Obj.cells cs _ _)=>some cs|_=>none)=(match w.heap[2]? with|some (Obj.cells cs _ _)=>some cs|_=>none)
   rw[hbl]
  have h':=h.sp
  unfold Lib.TabIs at h'⊢
  rw[e];exact h'
theorem bY.step {w w':World} (h:bY w) (hb:Below w.heap.size w w'):bY w':=h.below hb h.g.size
theorem ng {l l':List UInt8} (h:bs l=bs l'):l=l':=by rw[←bL l,h,bL]
theorem FO (l:List UInt8) (h:l.all (fun b=>decide (b.toNat<128))=true) (j:Nat) (b:UInt8) (hj:l[j]? =some b):b.toNat<128:=by
 have:=List.all_eq_true.1 h b (co hj)
 simpa using this
theorem rM (w:World) (hG:bY w):
 Calls prog 247 #[] w fun e w'=> ∃v,e= .returned v∧aI w' w'.heap.size v cX∧Below w.heap.size w w':=by
 have HG:=aa hG
 clear hG
 go_enter func247,ntmps247
 go_wp2_with fail
 refine(strings_Fields _ _ (by decide+kernel) (fun j b h=>FO _ (by decide+kernel) j b h) HG.out.sp).mono ?_
 rintro e w' ⟨he,hw⟩
 rw[show Lib.fields _=cX from by decide+kernel] at he hw
 subst he hw
 go_wp2_with fail
 go_ret
 refine⟨_,rfl,?_,ac (B0 w) _⟩
 refine⟨_,28,rfl,by decide,by decide,fun _=>⟨w.heap.size,0,rfl,by simp,fun j u hj=> ?_⟩⟩
 rw[World.cell?_alloc_new]
 simpa[bs] using hj
theorem oY (v:Value) (l:List ai) (s:ai) (w:World) (B:Nat) (h:aI w B v l):
 Calls prog 218 #[v,.string (bs s)] w fun e w'=>e= .returned (.bool (decide (s∈l)))∧w'=w:=by
 have hS:=aL.form h
 obtain⟨A,n,c,rfl,hl,hc,hm⟩:=hS
 rw[List.length_map] at hl
 by_cases h0:n=0
 ·subst h0
  have:l=[]:=List.eq_nil_of_length_eq_zero hl
  subst this
  refine(slices_Contains_string_empty A c _ w).mono fun e w' ⟨he,hw⟩=>⟨by rw[he];simp,hw⟩
 ·obtain⟨b,o,rfl,hb,hcell⟩:=aL.at_ h 0 (by omega)
  refine(slices_Contains_string b o n c (l.map bs) (bs s) w (by simp[hl]) (by omega) (fun j hj=>hcell j (by simp at hj;omega))).mono fun e w' ⟨he,hw⟩=>⟨?_,hw⟩
  rw[he]
  refine aV ?_
  rw[List.take_of_length_le (by simp[hl])]
  rw[Bool.eq_iff_iff,Lib.containsS_iff]
  simp only[List.mem_map,decide_eq_true_eq]
  exact⟨fun⟨x,hx,e⟩=>ng e▸hx,fun hx=>⟨s,hx,rfl⟩⟩
end
section
open Go Go.RowKit Go.MapKept Go.ChangeMaps Tryz
section
variable {κ:Type} [DecidableEq κ]
def lk:List (κ×Value)→κ→Option Value
 |[],_=>none
 |p::r,k=>if k=p.1 then some p.2 else lk r k
theorem nh {k:κ}: ∀{l:List (κ×Value)},lk l k=none→∀p∈l,p.1≠k
 |[],_,p,h=>by simp at h
 |q::r,h,p,hp=>by
  rw[lk] at h
  split at h
  ·cases h
  ·rename_i hn
   rcases List.mem_cons.1 hp with rfl|hp
   ·exact fun e=>hn e.symm
   ·exact nh h p hp
theorem rN {k:κ} {v:Value}: ∀{l:List (κ×Value)},lk l k=some v→(k,v)∈l
 |[],h=>by cases h
 |q::r,h=>by
  rw[lk] at h
  split at h
  ·rename_i e
   injection h with h
   subst e h
   simp
  ·exact List.mem_cons_of_mem _ (rN h)
theorem xM {k:κ} {v:Value}: ∀{l:List (κ×Value)},(l.map (·.1)).Nodup→(k,v)∈l→lk l k=some v
 |[],_,h=>by simp at h
 |q::r,hn,h=>by
  rw[List.map_cons,List.nodup_cons] at hn
  rw[lk]
  rcases List.mem_cons.1 h with rfl|h
  ·rw[if_pos rfl]
  ·rw[if_neg (fun e=>hn.1 (List.mem_map.2 ⟨_,h,e⟩))]
   exact xM hn.2 h
def aS (f:κ→Option Value) (k:κ) (v:Value):κ→Option Value:=fun x=>if x=k then some v else f x
theorem iW (f:κ→Option Value) (k:κ) (v:Value) (x:κ):aS f k v x=if x=k then some v else f x:=rfl
theorem FP (f:κ→Option Value) (k:κ) (v:Value):aS f k v k=some v:=if_pos rfl
theorem xN (f:κ→Option Value) {k:κ} (v:Value) {x:κ} (h:x≠k):aS f k v x=f x:=if_neg h
theorem FQ {l:List (κ×Value)} {k:κ} (v:Value) (h: ∀p∈l,p.1≠k) (x:κ):lk (l++[(k,v)]) x=aS (lk l) k v x:=by
 rw[iW]
 induction l with
 |nil=>simp[lk]
 |cons q r ih=>
  have h1:=h q (by simp)
  have ih:=ih fun p hp=>h p (by simp[hp])
  rw[List.cons_append,lk,lk]
  by_cases e:x=q.1
  ·rw[if_pos e,if_pos e,if_neg (by rw[e];exact h1)]
  ·rw[if_neg e,if_neg e,ih]
theorem FR {l:List (κ×Value)} {k:κ} {v0:Value} (v:Value) {j:Nat} (hn:(l.map (·.1)).Nodup) (hj:l[j]? =some (k,v0)) (x:κ):lk (l.set j (k,v)) x=aS (lk l) k v x:=by
 rw[iW]
 induction l generalizing j with
 |nil=>simp at hj
 |cons q r ih=>
  rw[List.map_cons,List.nodup_cons] at hn
  cases j with
  |zero=>
   simp at hj
   subst hj
   rw[List.set_cons_zero,lk,lk]
   by_cases e:x=k
   ·rw[if_pos e,if_pos e]
   ·rw[if_neg e,if_neg e,if_neg e]
  |succ j=>
   have hj':r[j]? =some (k,v0):=by simpa using hj
   have hq:q.1≠k:=fun e=>hn.1 (List.mem_map.2 ⟨_,co hj',e.symm⟩)
   rw[List.set_cons_succ,lk,lk,ih hn.2 hj']
   by_cases e:x=q.1
   ·rw[if_pos e,if_pos e,if_neg (by rw[e];exact hq)]
   ·rw[if_neg e,if_neg e]
omit [DecidableEq κ] in
theorem FS {l:List (κ×Value)} {k:κ} {v0 v:Value} {j:Nat} (hj:l[j]? =some (k,v0)):(l.set j (k,v)).map (·.1)=l.map (·.1):=by
 rw[List.map_set]
 refine List.ext_getElem? fun i=> ?_
 rw[List.getElem?_set]
 split
 ·rename_i e
  subst e
  have:j<(l.map (·.1)).length:=by rw[List.length_map];exact(List.getElem?_eq_some_iff.1 hj).1
  rw[if_pos this,List.getElem?_map,hj]
  rfl
 ·rfl
structure j6 (d:TypeDesc) (enc:κ→Value):Prop where
 inj: ∀x y,enc x=enc y→x=y
 key: ∀x,IsKey d (enc x)
 bits: ∀x,Instr.sameBits 10000 (enc x) (enc x)=true
def bS (enc:κ→Value) (l:List (κ×Value)):List (Value×Value):=l.map fun p=>(enc p.1,p.2)
def aZ (enc:κ→Value) (w:World) (b:Nat) (f:κ→Option Value):Prop:= ∃l:List (κ×Value),bG w b (bS enc l)∧(l.map (·.1)).Nodup∧∀k,f k=lk l k
variable {enc:κ→Value} {w w':World} {b B:Nat} {f:κ→Option Value}
theorem aZ.lt (h:aZ enc w b f):b<w.heap.size:=by obtain⟨l,h,_⟩:=h;exact h.lt
theorem aZ.below (h:aZ enc w b f) (hb:Below B w w') (hB:b<B):aZ enc w' b f:=by obtain⟨l,h,h2⟩:=h;exact⟨l,h.below hb hB,h2⟩
theorem aZ.later (h:aZ enc w b f) (hb:Below w.heap.size w w'):aZ enc w' b f:=h.below hb h.lt
theorem aZ.blk (h:aZ enc w b f) (e:w'.heap[b]? =w.heap[b]?):aZ enc w' b f:=by obtain⟨l,h,h2⟩:=h;exact⟨l,e.trans h,h2⟩
theorem aZ.made (enc:κ→Value) (w:World):aZ enc (w.alloc (.map #[] 0)) w.heap.size (fun _=>none):=⟨[],bG.made w,by simp,fun _=>rfl⟩
theorem aZ.of_eq (h:aZ enc w b f) {g:κ→Option Value} (e: ∀k,g k=f k):aZ enc w b g:=by obtain⟨l,h1,h2,h3⟩:=h;exact⟨l,h1,h2,fun k=>(e k).trans (h3 k)⟩
theorem FT {l:List (Value×Value)} {j:Nat} {key v0 val:Value} (hj:l[j]? =some (key,v0)):(bj 0 l).toArray.modify j (fun e=>{e with key:=key,val:=val})=(bj 0 (l.set j (key,val))).toArray:=by
 refine Array.ext_getElem? fun i=> ?_
 rw[Array.getElem?_modify]
 simp only[List.getElem?_toArray,oE,List.getElem?_set]
 split
 ·rename_i e
  subst e
  have hlt:j<l.length:=(List.getElem?_eq_some_iff.1 hj).1
  rw[if_pos hlt,hj]
  rfl
 ·rfl
theorem oZ {P:Program} {t kt e:TypeId} {d:TypeDesc} (ht:P.underlying t=some (.map kt e)) (hk:P.underlying kt=some d) (E:j6 d enc) (h:aZ enc w b f) (k:κ) (val:Value):
 ∃o,(Instr.mapUpdate t (.map (some b)) (enc k) val).run P w= .ok () (setBlock w b o)∧aZ enc (setBlock w b o) b (aS f k val):=by
 obtain⟨l,hl,hn,hf⟩:=h
 have hl':w.heap[b]? =some (.map (bj 0 (bS enc l)).toArray (bS enc l).length):=hl
 cases hlk:lk l k with
 |none=>
  have hnew: ∀p∈bS enc l,IsKey d p.1∧p.1≠enc k:=fun p hp=>by
   obtain⟨q,hq,rfl⟩:=List.mem_map.1 hp
   exact⟨E.key _,fun e=>nh hlk q hq (E.inj _ _ e)⟩
  refine⟨_,vQ ht hk hl val (E.key k) hnew,l++[(k,val)],?_,?_,fun x=> ?_⟩
  ·have h2:=heap_setBlock_same hl' (.map (bj 0 (bS enc l++[(enc k,val)])).toArray (bS enc l++[(enc k,val)]).length)
   show bG _ _ _
   unfold bG
   rw[show bS enc (l++[(k,val)])=bS enc l++[(enc k,val)] from by simp[bS]]
   exact h2
  ·rw[List.map_append,List.nodup_append]
   refine⟨hn,by simp,fun x hx y hy=> ?_⟩
   obtain⟨p,hp,rfl⟩:=List.mem_map.1 hx
   simp at hy
   subst hy
   exact nh hlk p hp
  ·rw[FQ val (nh hlk)]
   simp only[iW,hf]
 |some v0=>
  have hkeys: ∀x∈bj 0 (bS enc l),IsKey d x.key:=fun x hx=>by
   obtain⟨j,hj,_⟩:=jR hx
   obtain⟨q,hq,e⟩:=List.mem_map.1 (co hj)
   injection e with e1 e2
   rw[←e1]
   exact E.key _
  rcases findNow_spec (E.key k) (bj 0 (bS enc l)) 0 hkeys with ⟨_,h2⟩|⟨j,x,h1,h2,h3⟩
  ·obtain⟨i,hi⟩:=List.mem_iff_getElem?.1 (rN hlk)
   have:(bS enc l)[i]? =some (enc k,v0):=by simp[bS,hi]
   exact absurd rfl (h2 _ (oD _ 0 i _ this))
  ·rw[oE] at h2
   cases hp:(bS enc l)[j]? with
   |none=>rw[hp] at h2;cases h2
   |some p=>
    rw[hp] at h2
    injection h2 with h2
    have hx:x.key=p.1:=by rw[←h2]
    obtain⟨q,hq⟩: ∃q,l[j]? =some q:=by
     cases hq:l[j]? with
     |none=>simp[bS,hq] at hp
     |some q=>exact⟨q,rfl⟩
    have hpq:p=(enc q.1,q.2):=by simp[bS,hq] at hp;exact hp.symm
    have hqk:q.1=k:=E.inj _ _ (by rw[←h3,hx,hpq])
    obtain⟨qk,qv⟩:=q
    simp only at hqk
    subst hqk
    subst hpq
    have h1':Instr.findNow d (enc qk) (bj 0 (bS enc l)).toArray.toList 0=some (some (j,x.val)):=by simpa using h1
    have hget:(((bj 0 (bS enc l)).toArray[j]?).map (·.key)).getD (enc qk)=enc qk:=by
     simp only[List.getElem?_toArray,oE,hp]
     rfl
    refine⟨.map (bj 0 ((bS enc l).set j (enc qk,val))).toArray (bS enc l).length,?_,l.set j (qk,val),?_,?_,fun x=> ?_⟩
    ·have hm:=FT (val:=val) hp
     simp only[Instr.mapUpdate,run_underlying ht,MapKept.run_getObj_map hl',MapKept.run_checkKey hk (E.key qk),MapKept.run_findKey hk h1',Result.andThen,Sem.run_bind,hget,Instr.keyThatStays,E.bits,if_true,hm,MapKept.run_setObj_map _ hl',setBlock]
     simp[MapKept.run_setObj_map _ hl',Result.andThen]
     rw[List.modify_toArray] at hm
     exact congrArg (fun a=>w.heap.setIfInBounds b (Obj.map a (bS enc l).length)) hm
    ·have h2:=heap_setBlock_same hl' (.map (bj 0 ((bS enc l).set j (enc qk,val))).toArray (bS enc l).length)
     show bG _ _ _
     unfold bG
     rw[show bS enc (l.set j (qk,val))=(bS enc l).set j (enc qk,val) from by simp[bS,List.map_set],List.length_set]
     exact h2
    ·rw[FS hq];exact hn
    ·rw[FR val hn hq]
     simp only[iW,hf]
theorem fL {P:Program} {t kt e:TypeId} {d:TypeDesc} (ht:P.underlying t=some (.map kt e)) (hk:P.underlying kt=some d) (E:j6 d enc) (h:aZ enc w b f) (k:κ) {z:Value} (c:Bool) (hz:(zeroValue e).run P w= .ok z w):
 (Instr.lookup t (.map (some b)) (enc k) c).run P w= .ok (if c then .tuple #[(f k).getD z,.bool (f k).isSome] else(f k).getD z) w:=by
 obtain⟨l,hl,hn,hf⟩:=h
 have hkeys: ∀p∈bS enc l,IsKey d p.1:=fun p hp=>by
  obtain⟨q,hq,rfl⟩:=List.mem_map.1 hp
  exact E.key _
 rw[hf]
 cases hlk:lk l k with
 |none=>
  exact mO ht hk hl c (E.key k) (fun p hp=>by
   obtain⟨q,hq,rfl⟩:=List.mem_map.1 hp
   exact⟨E.key _,fun e=>nh hlk q hq (E.inj _ _ e)⟩) hz
 |some v=>
  exact mN ht hk hl c (E.key k) hkeys (fun p hp e=>by
   obtain⟨q,hq,rfl⟩:=List.mem_map.1 hp
   have e':q.1=k:=E.inj _ _ e
   have:=xM (k:=q.1) (v:=q.2) hn hq
   rw[e',hlk] at this
   injection this with this
   exact this.symm) ⟨_,List.mem_map.2 ⟨_,rN hlk,rfl⟩,rfl⟩
variable {P:Program} {ops:Array Oper} {rest:List Oper} {o:Oper} {a:Act} {Q:Exit→Act→World→Prop}
theorem bm (hg:o.guard=none) (m x v:Operand) (t:TypeId) (hop:o.op=Op.mapUpdate t m x v∨o.op=Op.insert t m x v)
 (kt e:TypeId) (d:TypeDesc) (ht:P.underlying t=some (.map kt e)) (hk:P.underlying kt=some d) (E:j6 d enc) (b:Nat) (f:κ→Option Value) (hm:a.eval m= .map (some b)) (hb:aZ enc w b f)
 (k:κ) (val:Value) (hx:a.eval x=enc k) (hv:a.eval v=val)
 (hK: ∀w',aZ enc w' b (aS f k val)→cM w w' b→wpList P ops Q rest (a.put o.dst undef) w'):
 wpList P ops Q (o::rest) a w:=by
 refine wpList_plain hg fun K' hK'=> ?_
 obtain⟨ob,hrun,hM⟩:=oZ ht hk E hb k val
 unfold Oper.wp
 have h4:=hK' _ _ (hK _ hM (lz _ _ _))
 clear hM hK hK'
 generalize setBlock w b ob=W at hrun h4
 exact qM
theorem jz (hg:o.guard=none) (m x:Operand) (t:TypeId) (c:Bool) (hop:o.op=Op.lookup t m x c)
 (kt e:TypeId) (d:TypeDesc) (ht:P.underlying t=some (.map kt e)) (hk:P.underlying kt=some d) (E:j6 d enc) (b:Nat) (f:κ→Option Value) (hm:a.eval m= .map (some b)) (hb:aZ enc w b f)
 (k:κ) (z:Value) (hx:a.eval x=enc k) (hz:(zeroValue e).run P w= .ok z w)
 (hK:wpList P ops Q rest (a.put o.dst (if c then .tuple #[(f k).getD z,.bool (f k).isSome] else(f k).getD z)) w):
 wpList P ops Q (o::rest) a w:=by
 refine wpList_plain hg fun K' hK'=> ?_
 have hrun:=fL ht hk E hb k c hz
 exact qN
end
def cC (k:Int):Value:= .int .i64 k
def dI (s:ai):Value:= .string (bs s)
theorem aO:j6 (.int .i64) cC:=⟨fun x y e=>by injection e,fun x=>rfl,fun x=>by simp[cC,Instr.sameBits]⟩
theorem j7:j6 .string dI:=⟨fun x y e=>by injection e with e;exact ng e,fun x=>trivial,fun x=>by
 unfold dI
 rw[Instr.sameBits]
 exact(bytes_beq _ _).2 rfl⟩
end
section
open Go Go.RowKit Go.MapKept Tryz
def bQ.vals (x:bQ) (o:Value):Array Value:= #[.string (bs x.name),.int .i64 x.kind,.int .i64 x.count,.int .i64 x.load,.int .i64 x.size,.int .i64 x.share,o]
theorem bQ.vals_def (x:bQ) (o:Value):x.vals o= #[.string (bs x.name),.int .i64 x.kind,.int .i64 x.count,.int .i64 x.load,.int .i64 x.size,.int .i64 x.share,o]:=rfl
def iy (k:Nat) (x:bQ):Bool:=
 match k with
 |0=>(decide (x.count=1)||decide (x.count=3)||decide (x.count=5))&&decide (x.count=x.on.length)
 |1=>aD x.count 1 8
 |2=>decide (x.count=1)&&decide (x.on.length=1)
 |_=>false
theorem FU (m:aC) (x:bQ) (k:Nat) (hk:k≤2) (h:x.kind=k):dj m x=(iy k x&&eO m x.on&&aD x.load 0 1048576&&aD x.size 0 1048576&&aD x.share 1 1048576):=by
 have:k=0∨k=1∨k=2:=by omega
 rcases this with rfl|rfl|rfl<;>simp[dj,iy,h]
theorem FV (m:aC) (x:bQ) (h: ¬(0≤x.kind∧x.kind≤2)):dj m x=false:=by
 unfold dj
 rw[if_neg (by omega),if_neg (by omega),if_neg (by omega)]
 rfl
section
variable (x:bQ) (o:Value) (xb:Nat) (w:World) (hx:w.heap[xb]? =some (.cells (x.vals o) 135 (0,0))) (ho:aq w w.heap.size o x.on)
include hx ho
theorem FW:am 249 #[ptr xb] w (.bool (iy 0 x)):=by
 obtain⟨A,n,c,rfl,hn,hc,hcm⟩:=ho.sk.form
 have hxb:=blk_lt hx
 have e2:w.cell? ⟨xb,2,none⟩=some (.int .i64 x.count):=af hx rfl
 have e6:w.cell? ⟨xb,6,none⟩=some (.slice A n c):=af hx rfl
 have HC:=aa (fun W B u (h:aq W B u [1,3,5])=>rK u [1,3,5] x.count W B h)
 have hby:decide (x.count∈[1,3,5])=(decide (x.count=1)||decide (x.count=3)||decide (x.count=5)):=by rw[Bool.eq_iff_iff];simp[or_assoc]
 rw[hby] at HC
 have HQ:=aa (show(x.count==(n:Int))=decide (x.count=n) from iv _ _)
 show Calls _ _ _ _ fun e w'=>e= .returned (.bool ((decide (x.count=1)||decide (x.count=3)||decide (x.count=5))&&decide (x.count=(x.on.length:Nat))))∧_
 rw[hn]
 generalize (decide (x.count=1)||decide (x.count=3)||decide (x.count=5))=r at HC
 clear hx ho hby hn
 simp only[ptr]
 cases r with
 |false=>
  go_enter func249,ntmps249
  go_wp2_with(go_at_call 176;refine(HC.out _ _ _ (aq.lits _ [1,3,5] (by simp[aj]) (by simp) _)).mono ?_;rintro e w3 ⟨rfl,rfl⟩)
  go_ret
  exact⟨by simp,ac (B0 w) _⟩
 |true=>
  go_enter func249,ntmps249
  go_wp2_with(go_at_call 176;refine(HC.out _ _ _ (aq.lits _ [1,3,5] (by simp[aj]) (by simp) _)).mono ?_;rintro e w3 ⟨rfl,rfl⟩)
  go_ret
  exact⟨by rw[HQ.out];simp,ac (B0 w) _⟩
omit ho in
theorem FX:am 250 #[ptr xb] w (.bool (iy 1 x)):=by
 have hxb:=blk_lt hx
 have e2:w.cell? ⟨xb,2,none⟩=some (.int .i64 x.count):=af hx rfl
 have HW:=aa (fun W=>fY x.count 1 8 W)
 show Calls _ _ _ _ fun e w'=>e= .returned (.bool (aD x.count 1 8))∧_
 generalize aD x.count 1 8=r at HW
 clear hx
 simp only[ptr]
 go_enter func250,ntmps250
 go_wp2_with(go_at_call 153;refine(HW.out _).mono ?_;rintro e w2 ⟨rfl,rfl⟩)
 go_ret
 exact⟨rfl,B0 _⟩
theorem FY:am 251 #[ptr xb] w (.bool (iy 2 x)):=by
 obtain⟨A,n,c,rfl,hn,hc,hcm⟩:=ho.sk.form
 have hxb:=blk_lt hx
 have e2:w.cell? ⟨xb,2,none⟩=some (.int .i64 x.count):=af hx rfl
 have e6:w.cell? ⟨xb,6,none⟩=some (.slice A n c):=af hx rfl
 show Calls _ _ _ _ fun e w'=>e= .returned (.bool (decide (x.count=1)&&decide (x.on.length=1)))∧_
 rw[hn]
 have HQ:=aa (show(x.count==1)=decide (x.count=1) from iv _ _)
 have HR:=aa (show((n:Int)==1)=decide (n=1) from by rw[iv];exact decide_eq_decide.2 (by omega))
 clear hx ho hn
 simp only[ptr]
 by_cases h:(x.count==1)=true
 ·go_enter func251,ntmps251
  have H:=aa h
  go_wp2_with fail
  go_ret
  exact⟨by have:=HQ.out;rw[H.out] at this;rw[←this,←HR.out];simp,B0 w⟩
 ·have h':(x.count==1)=false:=by simpa using h
  clear h
  have H:=aa h'
  go_enter func251,ntmps251
  go_wp2_with fail
  go_ret
  exact⟨by have:=HQ.out;rw[H.out] at this;rw[←this];simp,B0 w⟩
end
def nj (xb:Nat):Int→Option Value:=aS (aS (aS (fun _=>none) 0 (.func (.func 249) #[] #[ptr xb])) 1 (.func (.func 250) #[] #[ptr xb])) 2 (.func (.func 251) #[] #[ptr xb])
theorem xO (w:World) (a b:Obj):aZ cC (((w.alloc a).alloc b).alloc (.map #[] 0)) (w.heap.size+1+1) (fun _=>none):=by
 have h:=aZ.made cC ((w.alloc a).alloc b)
 rwa [World.size_alloc,World.size_alloc] at h
theorem FZ (t:TypeId) (ht:t=36) (f:Fn) (a b:Array Value) (w:World):(Go.binOp .neq t (.func f a b) .nilFunc).run prog w= .ok (.bool true) w:=by subst ht;kernel_rfl
theorem F0 (w:World):(Go.binOp .neq 36 .nilFunc .nilFunc).run prog w= .ok (.bool false) w:=by kernel_rfl
theorem gE (w:World) (C D:Array Value) (s t:TypeId):((w.alloc (.cells C s)).alloc (.cells D t)).heap[w.heap.size]? =some (.cells C s (0,0))∧((w.alloc (.cells C s)).alloc (.cells D t)).heap[w.heap.size+1]? =some (.cells D t (0,0)):=by
 refine⟨ah (aN w _) (ac (B0 _) _),?_⟩
 have h:=aN (w.alloc (.cells C s)) (.cells D t)
 rwa [World.size_alloc] at h
theorem rO (m:aC) (v:MV) (x:bQ) (o:Value) (w:World) (g:Nat) (rk:Bool) (eg:bc g) (hv:m.In w w.heap.size v) (ho:aq w w.heap.size o x.on)
 (hf:nj (w.heap.size+1) x.kind=some (.func (.func g) #[] #[ptr (w.heap.size+1)]))
 (hg: ∀W,W.heap[w.heap.size+1]? =some (.cells (x.vals o) 135 (0,0))→aq W W.heap.size o x.on→am g #[ptr (w.heap.size+1)] W (.bool rk)):
 am 158 #[.agg (m.cells v),.agg (x.vals o)] w (.bool (rk&&eO m x.on&&aD x.load 0 1048576&&aD x.size 0 1048576&&aD x.share 1 1048576)):=by
 have HM:=aa (fun W (hW:Below w.heap.size w W)=>xJ m v o x.on W (hv.to hW (ae _) hW.size) ((ho.below hW (ae _)).more hW.size))
 have HG:=aa (fun W (hW:Below w.heap.size w W) (hb:W.heap[w.heap.size+1]? =some (.cells (x.vals o) 135 (0,0)))=>hg W hb ((ho.below hW (ae _)).more hW.size))
 refine fC fun Sa sc hs hs1 hs2 Fa fc hf' hf1 hf2 Ra rc hr hr1 hr2 Ma mc hm hm1 hm2 La lc hl hl1 hl2 Ia ic hi hi1 hi2 Ua uc hu hu1 hu2 HS=> ?_
 obtain⟨A,n,c,rfl,hn,hc,hcm⟩:=ho.sk.form
 have HF:=aa hf
 have HW1:=aa (fun W=>fY x.load 0 1048576 W)
 have HW2:=aa (fun W=>fY x.size 0 1048576 W)
 have HW3:=aa (fun W=>fY x.share 1 1048576 W)
 generalize eO m x.on=r1 at HM
 generalize aD x.load 0 1048576=r2 at HW1
 generalize aD x.size 0 1048576=r3 at HW2
 generalize aD x.share 1 1048576=r4 at HW3
 unfold bc at eg
 refine fU fun hmm=> ?_
 refine eG fun hmf=> ?_
 rw[HS.out] at HM⊢
 rw[bQ.vals_def] at HG⊢
 have HB2:=aa (gE w #[.slice Sa m.sites.length sc,.slice Fa m.feeds.length fc,.slice Ra m.racks.length rc,.slice Ma m.machs.length mc,.slice La m.links.length lc,.slice Ia m.items.length ic,.int .i64 m.dark,.int .i64 m.slots,.int .i64 m.reserve,.int .i64 m.failures,.slice Ua m.rules.length uc] #[.string (bs x.name),.int .i64 x.kind,.int .i64 x.count,.int .i64 x.load,.int .i64 x.size,.int .i64 x.share,.slice A n c] 29 135)
 have HL0:=aa (xO w)
 clear hv ho hf hg hs hf' hr hm hl hi hu hn
 simp only[ptr] at HG HF
 have hnf:=fun f a b w=>FZ _ rfl f a b w
 cases rk with
 |false=>
  go_enter func158,ntmps158
  go_wp2_with first
   |(refine bm rfl (.tmp 7) (.const (.int .i64 0)) (.tmp 8) 254 (.inr rfl) 3 36 (.int .i64) underlying254 underlying3 aO (w.heap.size+1+1) (fun _=>none) rfl (HL0.out _ _) 0 (.func (.func 249) #[] #[ptr (w.heap.size+1)]) rfl rfl ?_
     intro w1 hL1 hT1)
   |(refine bm rfl (.tmp 7) (.const (.int .i64 1)) (.tmp 9) 254 (.inr rfl) 3 36 (.int .i64) underlying254 underlying3 aO (w.heap.size+1+1) _ rfl hL1 1 (.func (.func 250) #[] #[ptr (w.heap.size+1)]) rfl rfl ?_
     intro w2 hL2 hT2)
   |(refine bm rfl (.tmp 7) (.const (.int .i64 2)) (.tmp 10) 254 (.inr rfl) 3 36 (.int .i64) underlying254 underlying3 aO (w.heap.size+1+1) _ rfl hL2 2 (.func (.func 251) #[] #[ptr (w.heap.size+1)]) rfl rfl ?_
     intro w3 hL3 hT3
     refine xP fun HBe HX hm3 hx3 a1=> ?_
     have HM3:=aa hm3;have HX3:=aa hx3
     have HL3:=aa hL3
     clear hL1 hT1 hL2 hT2 hL3 hT3 hm3 hx3)
   |(at_lookup;refine jz rfl (.tmp 12) (.tmp 14) 254 false rfl 3 36 (.int .i64) underlying254 underlying3 aO (w.heap.size+1+1) _ rfl HL3.out x.kind .nilFunc rfl (zeroValue36 _) ?_
     rw[show aS (aS (aS (fun _=>none) 0 (Value.func (.func 249) #[] #[ptr (w.heap.size+1)])) 1 (.func (.func 250) #[] #[ptr (w.heap.size+1)])) 2 (.func (.func 251) #[] #[ptr (w.heap.size+1)]) x.kind=some (.func (.func g) #[] #[.pointer (some ⟨w.heap.size+1,0,none⟩)]) from HF.out]
     simp only[Option.getD_some,Bool.false_eq_true,if_false])
   |(refine(HG.out _ HBe.out HX3.out).mono ?_
     rintro e w4 ⟨rfl,hb4⟩
     refine xQ fun HB4 hm4 hx4 e0 e1 e2 e3 e4 e5 e6 e7 e8 e9 e10 a6 HX4=> ?_
     clear hb4 hm4 hx4)
   |(go_at_call 252;refine(HM.out _ HB4.out).mono ?_
     rintro e w5 ⟨rfl,hb5⟩
     refine xR fun HB5 hx5 a3 a4 a5=> ?_
     clear hb5 hx5)
   |(go_at_call_of 153 (Value.int IntKind.i64 x.load);refine(HW1.out _).mono ?_;rintro e w6 ⟨rfl,rfl⟩)
   |(go_at_call_of 153 (Value.int IntKind.i64 x.size);refine(HW2.out _).mono ?_;rintro e w7 ⟨rfl,rfl⟩)
   |(go_at_call_of 153 (Value.int IntKind.i64 x.share);refine(HW3.out _).mono ?_;rintro e w8 ⟨rfl,rfl⟩)
  go_ret
  exact⟨by simp,HB4.out⟩
 |true=>
  cases r1 with
  |false=>
   exact o8
  |true=>
   cases r2 with
   |false=>
    exact o8
   |true=>
    cases r3 with
    |false=>
     exact o8
    |true=>
     exact o8
theorem F3 (xb:Nat) (k:Nat):nj xb k=if k=0 then some (.func (.func 249) #[] #[ptr xb]) else if k=1 then some (.func (.func 250) #[] #[ptr xb]) else if k=2 then some (.func (.func 251) #[] #[ptr xb]) else none:=by
 unfold nj aS
 by_cases h0:k=0
 ·subst h0;rfl
 by_cases h1:k=1
 ·subst h1;rfl
 by_cases h2:k=2
 ·subst h2;rfl
 have e0: ¬(k:Int)=0:=by omega
 have e1: ¬(k:Int)=1:=by omega
 have e2: ¬(k:Int)=2:=by omega
 simp[h0,h1,h2,e0,e1,e2]
theorem F4 (m:aC) (v:MV) (x:bQ) (A:Option Addr) (n c:Nat) (w:World) (hv:m.In w w.heap.size v) (hf: ¬(0≤x.kind∧x.kind≤2)):
 am 158 #[.agg (m.cells v),.agg (x.vals (.slice A n c))] w (.bool false):=by
 have HF:=aa (show nj (w.heap.size+1) x.kind=none from by
  unfold nj aS
  rw[if_neg (by omega),if_neg (by omega),if_neg (by omega)])
 refine fU fun hmm=> ?_
 refine eG fun hmf=> ?_
 have HL0:=aa (xO w)
 have HB2:=aa (gE w (m.cells v) (x.vals (.slice A n c)) 29 135)
 have hn0:=fun w=>F0 w
 rw[bQ.vals_def] at HB2⊢
 rw[aC.cells_def] at HB2⊢
 clear hv hf
 go_enter func158,ntmps158
 go_wp2_with first
  |(refine bm rfl (.tmp 7) (.const (.int .i64 0)) (.tmp 8) 254 (.inr rfl) 3 36 (.int .i64) underlying254 underlying3 aO (w.heap.size+1+1) (fun _=>none) rfl (HL0.out _ _) 0 (.func (.func 249) #[] #[ptr (w.heap.size+1)]) rfl rfl ?_
    intro w1 hL1 hT1)
  |(refine bm rfl (.tmp 7) (.const (.int .i64 1)) (.tmp 9) 254 (.inr rfl) 3 36 (.int .i64) underlying254 underlying3 aO (w.heap.size+1+1) _ rfl hL1 1 (.func (.func 250) #[] #[ptr (w.heap.size+1)]) rfl rfl ?_
    intro w2 hL2 hT2)
  |(refine bm rfl (.tmp 7) (.const (.int .i64 2)) (.tmp 10) 254 (.inr rfl) 3 36 (.int .i64) underlying254 underlying3 aO (w.heap.size+1+1) _ rfl hL2 2 (.func (.func 251) #[] #[ptr (w.heap.size+1)]) rfl rfl ?_
    intro w3 hL3 hT3
    have HBe:=aa (hT3.1 _ _ (hT2.1 _ _ (hT1.1 _ _ (ac (ac (ac (B0 w) _) _) _) (by omega)) (by omega)) (by omega))
    have HX:=aa (fun i (hi: ¬i=w.heap.size+1+1)=>(hT3.2.2 i hi).trans ((hT2.2.2 i hi).trans (hT1.2.2 i hi)))
    have hx3:=(HX.out (w.heap.size+1) (by omega)).trans (fV HB2.out.2 (ac (B0 _) _) (blk_lt HB2.out.2))
    have a1:w3.cell? ⟨w.heap.size+1,1,none⟩=some (.int .i64 x.kind):=af hx3 rfl
    have HL3:=aa hL3
    clear hL1 hT1 hL2 hT2 hL3 hT3 hx3)
  |(at_lookup;refine jz rfl (.tmp 12) (.tmp 14) 254 false rfl 3 36 (.int .i64) underlying254 underlying3 aO (w.heap.size+1+1) _ rfl HL3.out x.kind .nilFunc rfl (zeroValue36 _) ?_
    rw[show aS (aS (aS (fun _=>none) 0 (Value.func (.func 249) #[] #[ptr (w.heap.size+1)])) 1 (.func (.func 250) #[] #[ptr (w.heap.size+1)])) 2 (.func (.func 251) #[] #[ptr (w.heap.size+1)]) x.kind=none from HF.out]
    simp only[Option.getD_none,Bool.false_eq_true,if_false])
 go_ret
 exact⟨rfl,HBe.out⟩
theorem F5 (m:aC) (v:MV) (x:bQ) (o:Value) (w:World) (hv:m.In w w.heap.size v) (ho:aq w w.heap.size o x.on):
 am 158 #[.agg (m.cells v),.agg (x.vals o)] w (.bool (dj m x)):=by
 by_cases h:0≤x.kind∧x.kind≤2
 ·obtain⟨k,hk⟩: ∃k:Nat,x.kind=k:=⟨x.kind.toNat,by omega⟩
  have hk2:k≤2:=by omega
  rw[FU m x k hk2 hk]
  have hc:=F3 (w.heap.size+1) k
  rw[←hk] at hc
  have:k=0∨k=1∨k=2:=by omega
  rcases this with rfl|rfl|rfl
  ·exact rO m v x o w _ _ (enters_of func249 (by kernel_rfl) rfl) hv ho hc (fun W hb hW=>FW x o _ W hb hW)
  ·exact rO m v x o w _ _ (enters_of func250 (by kernel_rfl) rfl) hv ho hc (fun W hb hW=>FX x o _ W hb)
  ·exact rO m v x o w _ _ (enters_of func251 (by kernel_rfl) rfl) hv ho hc (fun W hb hW=>FY x o _ W hb hW)
 ·rw[FV m x h]
  obtain⟨A,n,c,rfl,_,_,_⟩:=ho.sk.form
  exact F4 m v x A n c w hv h
def o9:Int→Option Value:=(aS (aS (aS (aS (aS (aS (aS (fun _=>none) 0 (.agg #[.func (.func 338) #[] #[],.func (.func 340) #[] #[]])) 1 (.agg #[.func (.func 341) #[] #[],.func (.func 342) #[] #[]])) 2 (.agg #[.func (.func 343) #[] #[],.func (.func 344) #[] #[]])) 3 (.agg #[.func (.func 345) #[] #[],.func (.func 346) #[] #[]])) 4 (.agg #[.func (.func 347) #[] #[],.func (.func 348) #[] #[]])) 5 (.agg #[.func (.func 349) #[] #[],.func (.func 350) #[] #[]])) 6 (.agg #[.func (.func 351) #[] #[],.func (.func 352) #[] #[]]))
theorem xS (w:World):
 Calls prog 254 #[] w fun e w'=> ∃M,e= .returned (.map (some M))∧aZ cC w' M o9∧w.heap.size≤M∧Below w.heap.size w w':=by
 refine fU fun hmm=> ?_
 go_enter func254,ntmps254
 go_wp2_with first
  |(refine bm rfl (.tmp 1) (.const (.int .i64 0)) (.tmp 2) 261 (.inr rfl) 3 259 (.int .i64) underlying261 underlying3 aO w.heap.size (fun _=>none) rfl (aZ.made cC w) 0 (.agg #[.func (.func 338) #[] #[],.func (.func 340) #[] #[]]) rfl rfl ?_
    intro w1 hL1 hT1)
  |(refine bm rfl (.tmp 1) (.const (.int .i64 1)) (.tmp 3) 261 (.inr rfl) 3 259 (.int .i64) underlying261 underlying3 aO w.heap.size _ rfl hL1 1 (.agg #[.func (.func 341) #[] #[],.func (.func 342) #[] #[]]) rfl rfl ?_
    intro w2 hL2 hT2)
  |(refine bm rfl (.tmp 1) (.const (.int .i64 2)) (.tmp 4) 261 (.inr rfl) 3 259 (.int .i64) underlying261 underlying3 aO w.heap.size _ rfl hL2 2 (.agg #[.func (.func 343) #[] #[],.func (.func 344) #[] #[]]) rfl rfl ?_
    intro w3 hL3 hT3)
  |(refine bm rfl (.tmp 1) (.const (.int .i64 3)) (.tmp 5) 261 (.inr rfl) 3 259 (.int .i64) underlying261 underlying3 aO w.heap.size _ rfl hL3 3 (.agg #[.func (.func 345) #[] #[],.func (.func 346) #[] #[]]) rfl rfl ?_
    intro w4 hL4 hT4)
  |(refine bm rfl (.tmp 1) (.const (.int .i64 4)) (.tmp 6) 261 (.inr rfl) 3 259 (.int .i64) underlying261 underlying3 aO w.heap.size _ rfl hL4 4 (.agg #[.func (.func 347) #[] #[],.func (.func 348) #[] #[]]) rfl rfl ?_
    intro w5 hL5 hT5)
  |(refine bm rfl (.tmp 1) (.const (.int .i64 5)) (.tmp 7) 261 (.inr rfl) 3 259 (.int .i64) underlying261 underlying3 aO w.heap.size _ rfl hL5 5 (.agg #[.func (.func 349) #[] #[],.func (.func 350) #[] #[]]) rfl rfl ?_
    intro w6 hL6 hT6)
  |(refine bm rfl (.tmp 1) (.const (.int .i64 6)) (.tmp 8) 261 (.inr rfl) 3 259 (.int .i64) underlying261 underlying3 aO w.heap.size _ rfl hL6 6 (.agg #[.func (.func 351) #[] #[],.func (.func 352) #[] #[]]) rfl rfl ?_
    intro w7 hL7 hT7
    have HBe:=aa (hT7.1 _ _ (hT6.1 _ _ (hT5.1 _ _ (hT4.1 _ _ (hT3.1 _ _ (hT2.1 _ _ (hT1.1 _ _ (ac (B0 w) _) (ae _)) (ae _)) (ae _)) (ae _)) (ae _)) (ae _)) (ae _))
    have HL7:=aa hL7
    clear hL1 hT1 hL2 hT2 hL3 hT3 hL4 hT4 hL5 hT5 hL6 hT6 hL7 hT7)
 go_ret
 exact⟨_,rfl,HL7.out,ae _,HBe.out⟩
theorem F6 {k:Int} (h: ¬(0≤k∧k≤6)):o9 k=none:=by
 unfold o9 aS
 repeat rw[if_neg (by omega)]
end
section
open Go Go.RowKit Go.MapKept Go.ChangeMaps Tryz
theorem F7 (x:ap) (m s:Value) (w:World) (hms:aq w w.heap.size m x.ms) (hl:x.ms.length≤1000000):
 am 115 #[.agg (x.cells m s)] w (.bool (jo x.ms)):=by
 obtain⟨A,n,c,rfl,hn,hc,hm⟩:=hms.form
 have HL:=aa hn
 have H:=aa hms
 have hn':n≤1000000:=by omega
 clear hms hn hl
 rw[ap.cells_def]
 go_enter func115,ntmps115
 go_wp2_with fail
 go_loopw [8] (fun i wr=> ∃k:Nat,k≤n∧i= .int .i64 k∧Below w.heap.size w wr∧w.heap.size<wr.heap.size∧wr.cell? ⟨w.heap.size,8,none⟩=some (.slice A n c)∧∀j,j<k→lu x.ms j) (fun i _=>n - (intOf i).toNat)
 case atStart=>exact⟨0,aY _,rfl,ac (B0 w) _,by simp,by go_simp,by omega⟩
 case round=>
  obtain⟨k,hk,rfl,hb,hbx,hcl,hgood⟩:=hrel
  have HGd:=aa hgood
  clear hgood
  by_cases hlt:k<n
  ·obtain⟨b,o,rfl,hbB,hcell⟩:=(H.out.below hb (ae _)).at_ k hlt
   have h1:=hcell k hlt
   have h2:=hcell (k - 1) (by omega)
   clear hcell
   refine oC fun i3=> ?_
   have mc:=fun W=>io (bd x.ms k) W
   by_cases h0:k=0
   ·subst h0
    rw[Nat.add_zero] at h1
    clear h2
    have i4:IntKind.i64.wrap ((0:Int)+1)=1:=by decide
    cases hg:bf (bd x.ms 0) 1 16 with
    |true=>
     rw[hg] at mc
     have HM:=aa mc
     clear mc
     go_wp2_with(go_at_call 80;refine(HM.out _).mono ?_;rintro e w1 ⟨rfl,rfl⟩)
     exact⟨⟨1,by omega,by go_num,hb,hbx,hcl,fun j hj=>by
      have:j=0:=by omega
      subst this
      exact⟨ox.1 hg,fun h=>by omega⟩⟩,by simp[intOf];omega⟩
    |false=>
     rw[hg] at mc
     have HM:=aa mc
     clear mc
     go_wp2_with(go_at_call 80;refine(HM.out _).mono ?_;rintro e w1 ⟨rfl,rfl⟩)
     go_ret
     exact⟨aV (qI (k:=0) (by rw[HL.out];exact hlt) (fun h=>by rw[ox.2 h.1] at hg;cases hg)).symm,hb⟩
   ·have j0:decide (0<k)=true:=by simp;omega
    have j1:IntKind.i64.wrap ((k:Int) - 1)=(k:Int) - 1:=IntWalk.i64_in _ (by omega)
    have j2:((k:Int) - 1).toNat=k - 1:=by omega
    have j3:(0:Int)≤(k:Int) - 1:=by omega
    have j4:(k:Int) - 1<(n:Int):=by omega
    cases hg:bf (bd x.ms k) 1 16 with
    |true=>
     rw[hg] at mc
     have HM:=aa mc
     clear mc
     by_cases hle:bd x.ms k≤bd x.ms (k - 1)
     ·have hle':decide (bd x.ms k≤bd x.ms (k - 1))=true:=by simpa using hle
      go_wp2_with(go_at_call 80;refine(HM.out _).mono ?_;rintro e w1 ⟨rfl,rfl⟩)
      go_ret
      exact⟨aV (qI (k:=k) (by rw[HL.out];exact hlt) (fun h=>by have:=h.2 (by omega);omega)).symm,hb⟩
     ·have hle':decide (bd x.ms k≤bd x.ms (k - 1))=false:=by simpa using hle
      go_wp2_with(go_at_call 80;refine(HM.out _).mono ?_;rintro e w1 ⟨rfl,rfl⟩)
      exact⟨⟨k+1,by omega,by go_num,hb,hbx,hcl,fun j hj=>by
       by_cases e:j=k
       ·subst e;exact⟨ox.1 hg,fun _=>by omega⟩
       ·exact HGd.out j (by omega)⟩,by simp[intOf];omega⟩
    |false=>
     rw[hg] at mc
     have HM:=aa mc
     clear mc
     go_wp2_with(go_at_call 80;refine(HM.out _).mono ?_;rintro e w1 ⟨rfl,rfl⟩)
     go_ret
     exact⟨aV (qI (k:=k) (by rw[HL.out];exact hlt) (fun h=>by rw[ox.2 h.1] at hg;cases hg)).symm,hb⟩
  ·go_wp2_with fail
   go_ret
   exact⟨aV (Df (fun j hj=>HGd.out j (by rw[HL.out] at hj;omega))).symm,hb⟩
def iX (word:ByteArray) (k:Int) (u f r t:Value):Value:= .agg #[.string word,.int .i64 k,u,f,r,t]
theorem F8 (word:ByteArray) (k:Int) (w:World):
 am 84 #[.string word,.int .i64 k] w (iX word k (az 194 #[]) (az 195 #[]) (az 196 #[]) (az 197 #[])):=by
 go_enter func84,ntmps84
 go_wp2_with fail
 refine bodyPost_ret (v:=iX word k (az 194 #[]) (az 195 #[]) (az 196 #[]) (az 197 #[])) (by simp[results,results84,go_sem,iX,az]) rfl ?_
 exact⟨rfl,by repeat' first|with_reducible exact B0 w|with_reducible refine aR ?_ (ae _) _|with_reducible refine ac ?_ _⟩
theorem F9 (word:ByteArray) (k:Int) (g:Nat) (w:World):
 Calls prog 82 #[.string word,.int .i64 k,az g #[]] w fun e w'=>
  e= .returned (iX word k (az 190 #[]) (az 191 #[ptr w.heap.size]) (az 192 #[]) (az 193 #[]))∧Below w.heap.size w w'∧w'.cell? ⟨w.heap.size,0,none⟩=some (az g #[])∧w.heap.size<w'.heap.size:=by
 refine eG fun hmf=> ?_
 simp only[az]
 go_enter func82,ntmps82
 go_wp2_with fail
 refine bodyPost_ret (v:=iX word k (az 190 #[]) (az 191 #[ptr w.heap.size]) (az 192 #[]) (az 193 #[])) (by simp[results,results82,go_sem,iX,az,ptr]) rfl ?_
 exact⟨rfl,ac (ac (B0 w) _) _,by go_simp,by simp;omega⟩
end
end Go.Proofs.YthnkonlbfogkgaaGreatDoor
