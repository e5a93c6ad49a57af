/- A part of the proof. -/
import Derived.Test.YthnkonlbfogkgaaGreatDoorQbh
set_option linter.unusedVariables false
set_option linter.unusedSimpArgs false
set_option maxRecDepth 100000
set_option maxHeartbeats 32000000
namespace Go.Proofs.YthnkonlbfogkgaaGreatDoor
section
open Go Go.RowKit Go.MapKept Tryz
theorem fD.drew {m:aC} {v:MV} {mb B:Nat} {w:World} (h:fD m v mb B w):fD m v mb B w.drew:=⟨h.1,h.2.to (my (Below.refl B w)) (ae _) (ae _)⟩
theorem Hv {m:aC} {w:World} {W:World} {lb k:Nat} (h:W.heap[lb]? =some (.cells #[.int .i64 (m.sites.length:Nat),.func (.func 326) #[] #[ptr w.heap.size],.func (.func 327) #[] #[],.int .i64 (m.feeds.length:Nat),.func (.func 328) #[] #[ptr w.heap.size],.func (.func 329) #[] #[],.int .i64 (m.racks.length:Nat),.func (.func 330) #[] #[ptr w.heap.size],.func (.func 331) #[] #[],.int .i64 (m.machs.length:Nat),.func (.func 332) #[] #[ptr w.heap.size],.func (.func 333) #[] #[],.int .i64 (m.items.length:Nat),.func (.func 334) #[] #[ptr w.heap.size],.func (.func 335) #[] #[ptr w.heap.size]] 292 (0,0))) (hk:k<5):
 W.cell? ⟨lb,k*3,none⟩=some (.int .i64 ((em m k).length:Nat))∧W.cell? ⟨lb,k*3+1,none⟩=some (.func (.func (nw k)) #[] #[ptr w.heap.size])∧W.cell? ⟨lb,k*3+2,none⟩=some (.func (.func (nx k)) #[] (pm w.heap.size k)):=by
 have:k=0∨k=1∨k=2∨k=3∨k=4:=by omega
 rcases this with rfl|rfl|rfl|rfl|rfl<;>refine⟨?_,?_,?_⟩<;>refine af h ?_ <;>simp[em,nw,nx,pm]
theorem Hw (m:aC) {k j:Nat} {s:ai} (hs:(em m k)[j]? =some s):hZ m k++(em m k).take (j+1)=hZ m k++(em m k).take j++[s]:=by
 have hj:=(List.getElem?_eq_some_iff.1 hs).1
 rw[List.take_add_one,hs,List.append_assoc]
 rfl
theorem Hx (m:aC) (v:MV) (B ob g:Nat) (caps:Array Value) (J:List ai→World→Prop) (w:World) (hv:m.In w B v) (hBw:B≤w.heap.size) (hob:ob<w.heap.size) (eg:bc g)
 (hdo: ∀(bh:List ai) (s:ai) (kd n:Int) (W:World),J bh W→bh.length<(di m).length→Calls prog g (#[.string (bs s),.int .i64 kd,.int .i64 n]++caps) W fun e W'=>e= .returned (.bool false)∧J (bh++[s]) W'∧Below B W W'∧EP ob W W')
 (hJ: ∀bh W W',J bh W→Below W.heap.size W W'→J bh W') (h0:J [] w):
 Calls prog 244 #[.agg (m.cells v),az g caps] w fun e w'=>e= .returned (.tuple #[])∧J (di m) w'∧Below B w w'∧EP ob w w':=by
 refine fC fun Sa sc hs hs1 hs2 Fa fc hf' hf1 hf2 Ra rc hr hr1 hr2 Ma mc hm hm1 hm2 La lc hl hl1 hl2 Ia ic hi hi1 hi2 Ua uc hu hu1 hu2 HS=> ?_
 have HV:=aa hv;have HDO:=aa hdo;have HJa:=aa hJ;have HJ0:=aa h0
 refine eG fun hmf=> ?_
 unfold bc at eg
 rw[HS.out]
 simp only[az]
 clear hv hdo hJ h0 hs hf' hr hm hl hi hu
 go_enter func244,ntmps244
 go_wp2_with fail
 refine bt (fun W=>Below w.heap.size w W∧W.heap[w.heap.size]? =some (.cells #[.slice Sa m.sites.length sc,.slice Fa m.feeds.length fc,.slice Ra m.racks.length rc,.slice Ma m.machs.length mc,.slice La m.links.length lc,.slice Ia m.items.length ic,.int .i64 m.dark,.int .i64 m.slots,.int .i64 m.reserve,.int .i64 m.failures,.slice Ua m.rules.length uc] 29 (0,0))∧W.heap[w.heap.size+1]? =some (.cells #[.int .i64 (m.sites.length:Nat),.func (.func 326) #[] #[ptr w.heap.size],.func (.func 327) #[] #[],.int .i64 (m.feeds.length:Nat),.func (.func 328) #[] #[ptr w.heap.size],.func (.func 329) #[] #[],.int .i64 (m.racks.length:Nat),.func (.func 330) #[] #[ptr w.heap.size],.func (.func 331) #[] #[],.int .i64 (m.machs.length:Nat),.func (.func 332) #[] #[ptr w.heap.size],.func (.func 333) #[] #[],.int .i64 (m.items.length:Nat),.func (.func 334) #[] #[ptr w.heap.size],.func (.func 335) #[] #[ptr w.heap.size]] 292 (0,0))) ⟨ac (ac (B0 w) _) _,(gE w _ _ _ _).1,(gE w _ _ _ _).2⟩ ?_
 intro W1 ⟨hBW,hmW,hlW⟩
 have HBW:=aa hBW;have HMW:=aa hmW;have HLW:=aa hlW
 have hz1:=blk_lt hlW
 clear hBW hmW hlW
 go_loopw [37] (fun i wr=> ∃k:Nat,k≤5∧i= .int .i64 k∧J (hZ m k) wr∧Below B W1 wr∧EP ob W1 wr) (fun i _=>5 - (intOf i).toNat)
 case atStart=>exact⟨0,by omega,rfl,HJa.out _ _ _ HJ0.out HBW.out,Below.refl _ _,EP.refl _ _⟩
 case round=>
  obtain⟨k,hk,rfl,hJk,hBk,hEk⟩:=hrel
  obtain⟨wo,rfl⟩: ∃wo:World,wo=wr:=⟨_,rfl⟩
  by_cases hlt:k<5
  ·have hI1:(0:Int)≤k:=by omega
   have hI2:(k:Int)<5:=by omega
   have hlr:=hEk.2 _ _ _ _ HLW.out (by omega) (by decide)
   obtain⟨r0,r1,r2⟩:=Hv hlr hlt
   have hzr:=blk_lt hlr
   obtain⟨gn,hgn⟩: ∃gn,nw k=gn:=⟨_,rfl⟩
   obtain⟨gk,hgk⟩: ∃gk,nx k=gk:=⟨_,rfl⟩
   obtain⟨kc,hkc⟩: ∃kc,pm w.heap.size k=kc:=⟨_,rfl⟩
   obtain⟨n,hn⟩: ∃n,(em m k).length=n:=⟨_,rfl⟩
   have en:=Ht hlt
   have ek:=Hu hlt
   unfold bc at en ek
   rw[hgn] at r1 en;rw[hgk,hkc] at r2;rw[hgk] at ek;rw[hn] at r0
   simp only[ptr] at r1
   have hnm:n≤9223372036854775807:=by rw[←hn];have:k=0∨k=1∨k=2∨k=3∨k=4:=by omega
                                      rcases this with rfl|rfl|rfl|rfl|rfl<;>simp[em]<;>omega
   have HGN:=aa hgn;have HGK:=aa hgk;have HKC:=aa hkc;have HN:=aa hn
   have HJk:=aa hJk;have HBk:=aa hBk;have HEk:=aa hEk
   clear hlr hgn hgk hkc hn hJk hBk hEk
   go_wp2_with fail
   refine bt (fun W=>Below wo.heap.size wo W∧W.heap[wo.heap.size]? =some (.cells #[.int .i64 (n:Nat),.func (.func gn) #[] #[.pointer (some ⟨w.heap.size,0,none⟩)],.func (.func gk) #[] kc] 292 (0,0))) ⟨ac (B0 wo) _,aN wo _⟩ ?_
   intro W2 ⟨hB2,hx2⟩
   obtain⟨W2b,hW2b⟩: ∃b,wo.heap.size=b:=⟨_,rfl⟩
   have HW2b:=aa hW2b
   rw[hW2b] at hx2
   have a0:W2.cell? ⟨W2b,0,none⟩=some (.int .i64 (n:Nat)):=af hx2 rfl
   have HB2:=aa hB2;have HX2:=aa hx2
   simp only[hW2b]
   clear hB2 hx2 hW2b r0 r1 r2
   go_wp2_with fail
   go_loopw [43] (fun i wi=> ∃j:Nat,j≤n∧i= .int .i64 j∧J (hZ m k++(em m k).take j) wi∧Below B W2 wi∧EP ob W2 wi) (fun i _=>n - (intOf i).toNat)
   case atStart=>exact⟨0,aY _,rfl,by rw[List.take_zero,List.append_nil];exact HJa.out _ _ _ HJk.out HB2.out,Below.refl _ _,EP.refl _ _⟩
   case round=>
    obtain⟨wi,rfl⟩: ∃wi:World,wi=wr:=⟨_,rfl⟩
    obtain⟨j,hj,rfl,hJj,hBj,hEj⟩:=hrel
    by_cases hjn:j<n
    ·have hJ1:(0:Int)≤j:=by omega
     have hJ2:(j:Int)<n:=by omega
     obtain⟨s,hs⟩: ∃s,(em m k)[j]? =some s:=⟨_,List.getElem?_eq_getElem (by rw[HN.out];exact hjn)⟩
     have hobW: ¬W2b=ob:=by have:=HW2b.out;have:=HEk.out.1;have:=HBW.out.size;omega
     have hbx:=hEj.2 _ _ _ _ HX2.out hobW (by decide)
     have b1:wi.cell? ⟨W2b,1,none⟩=some (.func (.func gn) #[] #[.pointer (some ⟨w.heap.size,0,none⟩)]):=af hbx rfl
     have b2:wi.cell? ⟨W2b,2,none⟩=some (.func (.func gk) #[] kc):=af hbx rfl
     have HXO:=aa hobW
     have HBX:=aa hbx
     have hBall:Below B w wi:=(((HBW.out.mono hBw).trans HBk.out).trans (HB2.out.mono (aP hBw (aP HBW.out.size HEk.out.1)))).trans hBj
     have hEall:EP ob W1 wi:=(HEk.out.trans (EP.of_below HB2.out)).trans hEj
     have HMA:Hid (fD m v w.heap.size B wi):=⟨by rw[HS.out];exact hEall.2 _ _ _ _ HMW.out (by omega) (by decide),HV.out.to hBall (ae _) (ae _)⟩
     have hBi:B≤wi.heap.size:=aP hBw hBall.size
     have HNm:Hid (∀W,fD m v w.heap.size B W→Calls prog gn #[.int .i64 j,.pointer (some ⟨w.heap.size,0,none⟩)] W fun e w'=>e= .returned (.string (bs s))∧w'=W):=fun W hW=>by
      rw[←HGN.out];exact Hr hW (aP hBw (bN (blk_lt hW.1))) hlt hs
     have HKd:Hid (∀W,fD m v w.heap.size B W→Calls prog gk (#[.int .i64 j]++kc) W fun e w'=>(∃n:Int,e= .returned (.int .i64 n))∧w'=W):=fun W hW=>by
      rw[←HGK.out,←HKC.out];exact Hs hW (aP hBw (bN (blk_lt hW.1))) hlt (by rw[HN.out];exact hjn)
     have hpl:(hZ m k++(em m k).take j).length<(di m).length:=by
      have:=Hf m k hlt
      rw[HN.out] at this
      rw[List.length_append,List.length_take,HN.out]
      omega
     have HDo:Hid (∀(kd nn:Int) (W:World),J (hZ m k++(em m k).take j) W→Calls prog g (#[.string (bs s),.int .i64 kd,.int .i64 nn]++caps) W fun e W'=>e= .returned (.bool false)∧J (hZ m k++(em m k).take (j+1)) W'∧Below B W W'∧EP ob W W'):=fun kd nn W hW=>by
      rw[Hw m hs]
      exact HDO.out _ s kd _ W hW hpl
     have HJ2:=aa hJj;have HBj:=aa hBj;have HEj:=aa hEj
     clear hJj hBj hEj hs hbx hobW hBall hEall hpl
     go_wp2_with fail
     refine bH (S:=fun w'=>w'.cell? ⟨W2b,1,none⟩=some (.func (.func gn) #[] #[.pointer (some ⟨w.heap.size,0,none⟩)])∧w'.cell? ⟨W2b,2,none⟩=some (.func (.func gk) #[] kc)) 12 (by exact⟨b1,b2⟩) fun hS=> ?_
     iterate 4 refine gH 12 46 ?_
     iterate 3 refine gH 13 46 ?_
     iterate 2 refine gH 14 46 ?_
     refine cH 4 fun K hK=> ?_
     go_simp
     have hS0:=hS
     refine(HNm.out _ (fD.drew HMA.out)).mono ?_
     rintro e w4 ⟨rfl,rfl⟩
     try go_simp
     clear hS
     refine hK.out _ _ (hS0) (fun hS=> ?_)
     clear hK
     refine ak ?_
     refine cH 8 fun K hK=> ?_
     go_simp
     have hS0:=hS
     refine(HKd.out _ (fD.drew HMA.out)).mono ?_
     rintro e w4 ⟨⟨kn,rfl⟩,rfl⟩
     try go_simp
     clear hS
     refine hK.out _ _ (hS0) (fun hS=> ?_)
     clear hK
     refine ak ?_
     refine cH 11 fun K hK=> ?_
     go_simp
     refine(HDo.out kn _ _ (HJa.out _ _ _ HJ2.out (au (B0 wi)))).mono ?_
     rintro e w5 ⟨rfl,hJ5,hb5,hE5⟩
     have hbk:=hE5.2 _ _ _ _ (show wi.drew.heap[W2b]? =_ from HBX.out) HXO.out (by decide)
     have d1:w5.cell? ⟨W2b,1,none⟩=_:=af hbk rfl
     have d2:w5.cell? ⟨W2b,2,none⟩=_:=af hbk rfl
     try go_simp
     clear hS
     refine hK.out _ _ (by exact⟨d1,d2⟩) (fun hS=> ?_)
     clear hK
     refine ak ?_
     refine eH ?_
     go_wp2_with fail
     refine⟨⟨j+1,by omega,by go_num,hJ5,HBj.out.trans ((my (Below.refl B wi)).trans hb5),HEj.out.trans ((EP.of_below (au (B0 wi))).trans hE5)⟩,by simp[intOf];omega⟩
    ·have hjn':j=n:=by omega
     have HJj:=aa hJj;have HBj:=aa hBj;have HEj:=aa hEj
     have HJN:=aa hjn'
     clear hJj hBj hEj hjn'
     go_wp2_with fail
     refine⟨⟨k+1,by omega,by go_num,?_,(HBk.out.trans (HB2.out.mono (aP hBw (aP HBW.out.size HEk.out.1)))).trans HBj.out,(HEk.out.trans (EP.of_below HB2.out)).trans HEj.out⟩,by simp[intOf];omega⟩
     have h:=HJj.out
     rw[HJN.out,←HN.out,List.take_length] at h
     exact h
  ·have hk5:k=5:=by omega
   subst hk5
   go_wp2_with fail
   go_end0
   rw[He] at hJk
   exact⟨rfl,hJk,(HBW.out.mono hBw).trans hBk,(EP.of_below HBW.out).trans hEk⟩
end
section
open Go Go.RowKit Tryz
theorem yB (c:UInt8): ∀(l:List UInt8),decide (0≤Lib.indexByte l c)=decide (c∈l)
 |[]=>by simp[Lib.indexByte]
 |b::l=>by
  have ih:=yB c l
  have hge:=Lib.indexByte_ge l c
  rw[Lib.indexByte]
  by_cases h:b=c
  ·subst h;simp
  ·have h1:(b==c)=false:=by simpa using h
   rw[h1]
   simp only[Bool.false_eq_true,if_false]
   have h2:(c∈b::l)=(c∈l):=by simp[Ne.symm h]
   simp only[h2,←ih]
   by_cases hm:Lib.indexByte l c= -1
   ·simp[hm]
   ·have:(Lib.indexByte l c== -1)=false:=by simpa using hm
    rw[this]
    simp only[Bool.false_eq_true,if_false,decide_eq_decide]
    omega
structure cR (w:World) (F:Value) (p:UInt8→Bool):Prop where
 ex: ∃g caps,F=az g caps∧bc g∧∀(W:World) (c:UInt8),Below w.heap.size w W→am g (#[.int .u8 c.toNat]++caps) W (.bool (p c))
theorem cR.later {w w':World} {F:Value} {p:UInt8→Bool} (h:cR w F p) (hb:Below w.heap.size w w'):cR w' F p:=by
 obtain⟨g,caps,h1,h2,h3⟩:=h.ex
 exact⟨g,caps,h1,h2,fun W c hW=>h3 W c (ag hb hW)⟩
theorem cR.congr {w:World} {F:Value} {p q:UInt8→Bool} (h:cR w F p) (e: ∀c,p c=q c):cR w F q:=by
 obtain rfl:p=q:=funext e
 exact h
theorem yC (s:ByteArray) (w:World):
 Calls prog 205 #[.string s] w fun e w'=>e= .returned (az 283 #[ptr w.heap.size])∧w'=w.alloc (.cells #[.string s] 9):=by
 refine eG fun hmf=> ?_
 go_enter func205,ntmps205
 go_wp2
 go_ret
 exact⟨rfl,rfl⟩
theorem Hy (s:ByteArray) (c:UInt8) (b:Nat) (w:World) (h:w.cell? ⟨b,0,none⟩=some (.string s)):
 Calls prog 283 #[.int .u8 c.toNat,ptr b] w fun e w'=>e= .returned (.bool (decide (c∈s.data.toList)))∧w'=w:=by
 simp only[ptr]
 go_enter func283,ntmps283
 go_wp2_with(go_at_call 284;refine(strings_IndexByte s _ _).mono ?_;rintro e w' ⟨rfl,rfl⟩)
 go_ret
 refine⟨?_,rfl⟩
 have:=yB c s.data.toList
 simpa using this
theorem yD (s:ByteArray) (w:World):cR (w.alloc (.cells #[.string s] 9)) (az 283 #[ptr w.heap.size]) (fun c=>decide (c∈s.data.toList)):=by
 refine⟨_,_,rfl,enters_of func283 (by kernel_rfl) rfl,fun W c hW=> ?_⟩
 have h:W.cell? ⟨w.heap.size,0,none⟩=some (.string s):=(hW.cell (p:=⟨w.heap.size,0,none⟩) (by simp)).trans (by go_simp)
 exact(Hy s c w.heap.size W h).mono fun e w' ⟨he,hw⟩=>⟨he,hw▸B0 W⟩
theorem Hz (a b:UInt8) (w:World):
 Calls prog 207 #[.int .u8 a.toNat,.int .u8 b.toNat] w fun e w'=>e= .returned (az 285 #[ptr w.heap.size,ptr (w.heap.size+1)])∧w'=(w.alloc (.cells #[.int .u8 a.toNat] 5)).alloc (.cells #[.int .u8 b.toNat] 5):=by
 refine eG fun hmf=> ?_
 go_enter func207,ntmps207
 go_wp2
 go_ret
 exact⟨rfl,rfl⟩
theorem H5 (a b c:UInt8) (p q:Nat) (w:World) (h1:w.cell? ⟨p,0,none⟩=some (.int .u8 a.toNat)) (h2:w.cell? ⟨q,0,none⟩=some (.int .u8 b.toNat)):
 Calls prog 285 #[.int .u8 c.toNat,ptr p,ptr q] w fun e w'=>e= .returned (.bool (decide (a.toNat≤c.toNat)&&decide (c.toNat≤b.toNat)))∧w'=w:=by
 simp only[ptr]
 go_enter func285,ntmps285
 go_wp2
 all_goals
  go_ret
  refine⟨?_,rfl⟩
  simp_all
  try omega
theorem H6 (a b:UInt8) (w:World):cR ((w.alloc (.cells #[.int .u8 a.toNat] 5)).alloc (.cells #[.int .u8 b.toNat] 5)) (az 285 #[ptr w.heap.size,ptr (w.heap.size+1)]) (fun c=>decide (a.toNat≤c.toNat)&&decide (c.toNat≤b.toNat)):=by
 refine⟨_,_,rfl,enters_of func285 (by kernel_rfl) rfl,fun W c hW=> ?_⟩
 have h1:W.cell? ⟨w.heap.size,0,none⟩=some (.int .u8 a.toNat):=(hW.cell (p:=⟨w.heap.size,0,none⟩) (by simp;omega)).trans (by go_simp)
 have h2:W.cell? ⟨w.heap.size+1,0,none⟩=some (.int .u8 b.toNat):=(hW.cell (p:=⟨w.heap.size+1,0,none⟩) (by simp)).trans (by go_simp)
 exact(H5 a b c _ _ W h1 h2).mono fun e w' ⟨he,hw⟩=>⟨he,hw▸B0 W⟩
theorem dd (s:ByteArray):s.data.toList.length=s.size:=by rw[Array.length_toList];rfl
theorem pn {s:ByteArray} {k:Nat} (h:k<s.size):s.data.toList[k]? =some s[k]:=by
 rw[List.getElem?_eq_getElem (by rw[dd];exact h)]
 rfl
theorem su {p:UInt8→Bool}: ∀{l:List UInt8} {k:Nat},(∀j c,j<k→l[j]? =some c→p c=true)→k≤l.length→(k=l.length∨∃c,l[k]? =some c∧p c=false)→(l.takeWhile p).length=k
 |[],k,_,hk,_=>by simp at hk;simp[hk]
 |c::l,0,_,_,h=>by
  rcases h with h|⟨d,hd,hp⟩
  ·simp at h
  ·simp at hd;subst hd;simp[hp]
 |c::l,k+1,hall,hk,h=>by
  have h0:=hall 0 c (by omega) (by simp)
  rw[List.takeWhile_cons,if_pos h0,List.length_cons]
  have:=su (p:=p) (l:=l) (k:=k) (fun j d hj hd=>hall (j+1) d (by omega) (by simpa using hd)) (by simpa using hk) (by
   rcases h with h|⟨d,hd,hp⟩
   ·exact .inl (by simpa using h)
   ·exact .inr ⟨d,by simpa using hd,hp⟩)
  omega
def ep (p:UInt8→Bool) (s:ByteArray):Nat:=(s.data.toList.takeWhile p).length
theorem ny (s:ByteArray) (F:Value) (p:UInt8→Bool) (w:World) (hs:s.size≤9223372036854775807) (h:cR w F p):
 am 204 #[.string s,F] w (.int .i64 (ep p s)):=by
 unfold ep
 obtain⟨g,caps,rfl,eg,hg⟩:=h.ex
 have HG:=aa hg
 unfold bc at eg
 simp only[az]
 clear h hg
 go_enter func204,ntmps204
 go_wp2_with fail
 go_loopw [5] (fun i wr=> ∃k:Nat,k≤s.size∧i= .int .i64 k∧(∀j c,j<k→s.data.toList[j]? =some c→p c=true)∧Below w.heap.size w wr) (fun i _=>s.size - (intOf i).toNat)
 case atStart=>exact⟨0,aY _,rfl,by omega,B0 w⟩
 case round=>
  obtain⟨k,hk,rfl,hall,hB⟩:=hrel
  have HA:=aa hall
  clear hall
  by_cases hlt:k<s.size
  ·have hI1:(0:Int)≤k:=by omega
   have hI2:(k:Int)<s.size:=by omega
   go_wp2_with fail
   refine(HG.out wr s[k] hB).mono ?_
   rintro e w' ⟨rfl,hb'⟩
   have hB':=ag hB hb'
   cases hp:p s[k] with
   |true=>
    have HP:=aa hp
    clear hp
    go_wp2_with fail
    refine⟨⟨k+1,by omega,by go_num,fun j c hj hc=> ?_,hB'⟩,by simp[intOf];omega⟩
    by_cases e:j=k
    ·subst e
     rw[pn hlt] at hc
     injection hc with hc
     rw[←hc];exact HP.out
    ·exact HA.out j c (by omega) hc
   |false=>
    have HP:=aa hp
    clear hp
    go_wp2_with fail
    go_ret
    refine⟨?_,hB'⟩
    rw[su HA.out (by rw[dd];exact hk) (.inr ⟨_,pn hlt,HP.out⟩)];rfl
  ·go_wp2_with fail
   go_ret
   refine⟨?_,hB⟩
   rw[su HA.out (by rw[dd];exact hk) (.inl (by rw[dd];omega))];rfl
def ib (w:World) (B:Nat) (cs:List Value) (p:UInt8→Bool):Prop:=
 ∃g caps,cs=[az g caps]∧bc g∧∀(W:World) (c:UInt8),Below B w W→am g (#[.int .u8 c.toNat]++caps) W (.bool (p c))
theorem ib.ab:cI ib:=fun w w' B B₂ B' cs p ⟨g,caps,h1,h2,h3⟩ hb hB hB'=>⟨g,caps,h1,h2,fun W c hW=>h3 W c ((hb.mono hB).trans (hW.mono hB'))⟩
theorem cR.toR {w:World} {F:Value} {p:UInt8→Bool} (h:cR w F p):ib w w.heap.size [F] p:=by
 obtain⟨g,caps,h1,h2,h3⟩:=h.ex
 exact⟨g,caps,by rw[h1],h2,h3⟩
theorem H9 (v:Value) (w:World) (hv: ∃A n c,v= .slice A n c):
 Calls prog 286 #[v] w fun e w'=>e= .returned (az 366 #[ptr w.heap.size])∧w'=w.alloc (.cells #[v] 307):=by
 obtain⟨A,n,c,rfl⟩:=hv
 refine eG fun hmf=> ?_
 go_enter func286,ntmps286
 go_wp2
 go_ret
 exact⟨rfl,rfl⟩
theorem Ib (c:UInt8) (b g:Nat) (caps:Array Value) (r:Bool) (w:World) (h:w.cell? ⟨b,0,none⟩=some (.int .u8 c.toNat)) (eg:bc g)
 (hg:am g (#[.int .u8 c.toNat]++caps) w (.bool r)):
 am 368 #[az g caps,ptr b] w (.bool r):=by
 have HG:=aa hg
 unfold bc at eg
 simp only[az,ptr]
 clear hg
 go_enter func368,ntmps368
 go_wp2_with fail
 refine HG.out.mono ?_
 rintro e w' ⟨rfl,hb'⟩
 go_wp2_with fail
 go_ret
 exact⟨rfl,hb'⟩
theorem Ic (c:UInt8) (b:Nat) (v:Value) (ps:List (UInt8→Bool)) (w:World) (h:w.cell? ⟨b,0,none⟩=some v) (hb:b<w.heap.size) (hv:aQ 1 ib w w.heap.size v ps):
 am 366 #[.int .u8 c.toNat,ptr b] w (.bool (ps.any fun p=>p c)):=by
 refine eG fun hmf=> ?_
 have HV:=aa hv
 obtain⟨A,n,cc,rfl,hl,_,_⟩:=hv.form
 have hC:=Fd ib ib.ab (.slice A n cc) ps 368 #[ptr w.heap.size] (cJ ps fun p=>p c) (w.alloc (.cells #[.int .u8 c.toNat] 5)) (hv.to ib.ab (ac (B0 w) _) (ae _) (by simp)) (enters_of func368 (by kernel_rfl) rfl)
  (fun j x cs W hx hW hr _=>by
    obtain⟨g,caps,rfl,eg,hg⟩:=hr
    have h1:W.cell? ⟨w.heap.size,0,none⟩=some (.int .u8 c.toNat):=(hW.cell (p:=⟨w.heap.size,0,none⟩) (by simp)).trans (by go_simp)
    rw[dx hx]
    exact Ib c _ g caps _ W h1 eg (hg W c (Below.refl _ _)))
 rw[jx] at hC
 have HC:=aa hC
 clear hC hv hl
 simp only[az,ptr] at HC⊢
 go_enter func366,ntmps366
 go_wp2_with(go_at_call 367;refine HC.out.mono ?_;rintro e w1 ⟨rfl,hb1⟩)
 go_ret
 exact⟨rfl,ag (ac (B0 w) _) hb1⟩
theorem Id (v:Value) (ps:List (UInt8→Bool)) (w:World) (hv:aQ 1 ib w w.heap.size v ps):cR (w.alloc (.cells #[v] 307)) (az 366 #[ptr w.heap.size]) (fun c=>ps.any fun p=>p c):=by
 refine⟨_,_,rfl,enters_of func366 (by kernel_rfl) rfl,fun W c hW=> ?_⟩
 have h1:W.cell? ⟨w.heap.size,0,none⟩=some v:=by
  refine(hW.cell (p:=⟨w.heap.size,0,none⟩) (by simp)).trans ?_
  rw[World.cell?_alloc_new]
  rfl
 exact Ic c w.heap.size v ps W h1 (aF (by simp) hW.size) (hv.to ib.ab (ag (ac (B0 w) _) hW) (ae _) (ag (ac (B0 w) _) hW).size)
theorem sw (s:ByteArray) (n:Nat):(s.extract n s.size).data.toList=s.data.toList.drop n:=by
 have h:=dd s
 simp[ByteArray.data_extract]
 exact List.take_of_length_le (by rw[List.length_drop];omega)
theorem sy (p:UInt8→Bool) (s:ByteArray) (n:Nat):ep p (s.extract n s.size)=((s.data.toList.drop n).takeWhile p).length:=by unfold ep;rw[sw]
theorem sB {p:UInt8→Bool}: ∀(l:List UInt8),l.drop (l.takeWhile p).length=l.dropWhile p
 |[]=>rfl
 |c::l=>by
  rw[List.takeWhile_cons,List.dropWhile_cons]
  split
  ·simp[sB l]
  ·simp
theorem nz (p:UInt8→Bool) (l:List UInt8):(l.takeWhile p).length≤l.length:=by
 induction l with
 |nil=>simp
 |cons c l ih=>rw[List.takeWhile_cons];split<;>simp;omega
theorem Ie (w:World):cR w (az 206 #[]) ea:=by
 refine⟨_,_,rfl,enters_of func206 (by kernel_rfl) rfl,fun W c _=> ?_⟩
 show Calls _ _ #[_] _ _
 go_enter func206,ntmps206
 go_wp2
 go_ret
 refine⟨aV ?_,B0 W⟩
 unfold ea
 have:((c.toNat:Int)!=10)= !(c==10):=by
  by_cases h:c=10
  ·subst h;rfl
  ·have h1:(c==10)=false:=by simpa using h
   rw[h1]
   have:c.toNat≠10:=fun e=>h (UInt8.toNat_inj.1 e)
   simp;omega
 simpa using this
theorem If (c:UInt8):decide (c∈(⟨#[32,9,10,13]⟩:ByteArray).data.toList)=cK c:=by
 unfold cK
 rw[Bool.eq_iff_iff]
 simp[or_assoc]
theorem Ig (w:World):cR (w.alloc (.cells #[.string ⟨#[32,9,10,13]⟩] 9)) (az 283 #[ptr w.heap.size]) cK:=(yD ⟨#[32,9,10,13]⟩ w).congr If
theorem Ih (L:List UInt8) (n:Nat) (hn:n≤L.length) (h:bZ (L.drop n)=bZ L):
 (n+((L.drop n).takeWhile cK).length≤L.length)∧
 (n+((L.drop n).takeWhile cK).length=L.length→bZ L=[])∧
 (∀c,L[n+((L.drop n).takeWhile cK).length]? =some c→c≠35→(bZ L).length=L.length - (n+((L.drop n).takeWhile cK).length))∧
 (L[n+((L.drop n).takeWhile cK).length]? =some 35→
   n<n+((L.drop n).takeWhile cK).length+((L.drop (n+((L.drop n).takeWhile cK).length)).takeWhile ea).length∧
   n+((L.drop n).takeWhile cK).length+((L.drop (n+((L.drop n).takeWhile cK).length)).takeWhile ea).length≤L.length∧
   bZ (L.drop (n+((L.drop n).takeWhile cK).length+((L.drop (n+((L.drop n).takeWhile cK).length)).takeWhile ea).length))=bZ L):=by
 have h1:=nz cK (L.drop n)
 rw[List.length_drop] at h1
 have h2:L.drop (n+((L.drop n).takeWhile cK).length)=(L.drop n).dropWhile cK:=by rw[←sB,List.drop_drop]
 generalize hm:n+((L.drop n).takeWhile cK).length=m at*
 refine⟨by omega,fun e=> ?_,fun c hc h35=> ?_,fun hc=> ?_⟩
 ·rw[e,List.drop_length] at h2
  rw[←h,qD h2.symm];rfl
 ·have hlt:m<L.length:=(List.getElem?_eq_some_iff.1 hc).1
  rw[List.drop_eq_getElem_cons hlt] at h2
  have hc':L[m]=c:=(List.getElem?_eq_some_iff.1 hc).2
  rw[←h,qD h2.symm,hc']
  show(if c=35 then bZ (List.dropWhile ea (L.drop (m+1))) else c::L.drop (m+1)).length=_
  rw[if_neg h35]
  simp;omega
 ·have hlt:m<L.length:=(List.getElem?_eq_some_iff.1 hc).1
  have hc':L[m]=35:=(List.getElem?_eq_some_iff.1 hc).2
  have hd:=List.drop_eq_getElem_cons hlt
  rw[hc'] at hd
  have h3:(L.drop m).takeWhile ea=35::(L.drop (m+1)).takeWhile ea:=by rw[hd];rfl
  rw[h3]
  have h4:=nz ea (L.drop (m+1))
  rw[List.length_drop] at h4
  simp only[List.length_cons]
  refine⟨by omega,by omega,?_⟩
  have e:m+((L.drop (m+1)).takeWhile ea).length.succ=(m+1)+((L.drop (m+1)).takeWhile ea).length:=by omega
  rw[show m+(((L.drop (m+1)).takeWhile ea).length+1)=(m+1)+((L.drop (m+1)).takeWhile ea).length by omega]
  rw[←List.drop_drop,sB,←h,qD (s:=L.drop n) (l:=L.drop m) h2.symm,hd]
  show _=if(35:UInt8)=35 then bZ (List.dropWhile ea (L.drop (m+1))) else(35:UInt8)::L.drop (m+1)
  rw[if_pos rfl]
theorem sC {c d:UInt8} (h:c≠d):((c.toNat:Int)!=(d.toNat:Int))=true:=by
 rw[bne_iff_ne]
 intro e
 exact h (UInt8.toNat_inj.1 (by omega))
theorem yE (s:ByteArray) (w:World) (hs:s.size≤16384):
 am 121 #[.string s] w (.int .i64 ((s.size - (bZ s.data.toList).length:Nat):Int)):=by
 go_enter func121,ntmps121
 go_wp2_with fail
 go_loopw [3] (fun i wr=> ∃k:Nat,k≤s.size∧i= .int .i64 k∧bZ (s.data.toList.drop k)=bZ s.data.toList∧Below w.heap.size w wr) (fun i _=>s.size - (intOf i).toNat)
 case atStart=>exact⟨0,aY _,rfl,rfl,B0 w⟩
 case round=>
  obtain⟨k,hk,rfl,hsk,hB⟩:=hrel
  have hst:=Ih s.data.toList k (by rw[dd];exact hk) hsk
  have HSt:=aa hst
  have hI1:(0:Int)≤k:=by omega
  have hI2:(k:Int)≤s.size:=by omega
  have hz:(s.extract k s.size).size≤9223372036854775807:=by rw[ByteArray.size_extract];omega
  clear hst hsk
  go_wp2_with fail
  go_region_held3 (fun _=>True) (trivial)
   (first
     |(go_at_call 205;refine(yC _ _).mono ?_;rintro e w1 ⟨rfl,rfl⟩)
     |(go_at_call 204;refine(ny _ _ cK _ hz ((Ig wr).later (au (B0 _)))).mono ?_;rintro e w2 ⟨rfl,hb2⟩))
  rw[sy]
  have hB2:=ag hB (ag (au (ac (B0 wr) _)) hb2)
  clear hb2
  generalize hm:((s.data.toList.drop k).takeWhile cK).length=d at*
  have hd:k+d≤s.size:=by have:=HSt.out.1;rw[dd] at this;exact this
  have hI3:IntKind.i64.wrap ((k:Int)+(d:Int))=((k+d:Nat):Int):=by rw[IntWalk.i64_in _ (by omega)];omega
  rw[hI3]
  clear hI3
  have HM:=aa hm
  clear hm
  obtain⟨m,hm⟩: ∃m,k+d=m:=⟨_,rfl⟩
  rw[hm] at hd HSt
  simp only[hm]
  have HMD:=aa hm
  clear hm
  have hI4:(0:Int)≤m:=by omega
  by_cases he:m=s.size
  ·have hI5:((m:Int)==(s.size:Int))=true:=by simp[he]
   have HE:=aa he
   clear he
   go_wp2_with fail
   go_ret
   refine⟨?_,hB2⟩
   have h0:=HSt.out.2.1 (by rw[dd];exact HE.out)
   rw[h0]
   show Ending.returned (.int .i64 (m:Int))=_
   rw[HE.out];rfl
  ·have hI5:((m:Int)==(s.size:Int))=false:=by simp;omega
   have hI6:m<s.size:=by omega
   have hI7:(m:Int)<s.size:=by omega
   have hat:=pn hI6
   have HAt:=aa hat
   clear he hat
   by_cases h35:s[m]=35
   ·have hI8:((s[m].toNat:Int)!=35)=false:=by rw[h35];rfl
    have hst:=HSt.out.2.2.2 (by rw[HAt.out,h35])
    have HS2:=aa hst
    have hz2:(s.extract m s.size).size≤9223372036854775807:=by rw[ByteArray.size_extract];omega
    rw[←sy] at hst
    have HR:=aa (ny (s.extract m s.size) _ ea w2 hz2 (Ie _))
    obtain⟨q,hq⟩: ∃q,ep ea (s.extract m s.size)=q:=⟨_,rfl⟩
    rw[hq] at hst HR
    rw[dd] at hst
    obtain⟨hs1,hs2,hs3⟩:=hst
    have HS3:=aa hs3
    have HMD2:=HMD.out
    have hkm:k≤m:=by omega
    clear hs3 hq h35 hz2 HS2 HMD2
    unfold az at HR
    go_wp2_with(go_at_call 204;refine HR.out.mono ?_;rintro e w3 ⟨rfl,hb3⟩)
    refine⟨⟨m+q,by omega,by go_num,HS3.out,ag hB2 hb3⟩,by simp[intOf];omega⟩
   ·have hI8:((s[m].toNat:Int)!=35)=true:=by
     exact sC h35
    have hst:=HSt.out.2.2.1 _ HAt.out h35
    rw[dd] at hst
    have HS2:=aa hst
    clear hst h35
    go_wp2_with fail
    go_ret
    refine⟨?_,hB2⟩
    rw[HS2.out]
    show Ending.returned (.int .i64 (m:Int))=_
    congr 2
    omega
def kB (w:World) (p:UInt8→Bool) (e:Ending) (w':World):Prop:= ∃g caps,e= .returned (.func (.func g) #[] caps)∧cR w' (az g caps) p∧Below w.heap.size w w'
theorem yF (a b:UInt8) (w:World):Calls prog 207 #[.int .u8 a.toNat,.int .u8 b.toNat] w (kB w fun c=>decide (a.toNat≤c.toNat)&&decide (c.toNat≤b.toNat)):=
 (Hz a b w).mono fun e w' ⟨he,hw⟩=>⟨_,_,he,hw▸H6 a b w,hw▸ac (ac (B0 w) _) _⟩
theorem po (w:World):Calls prog 207 #[.int .u8 97,.int .u8 122] w (kB w ew):=yF 97 122 w
theorem kC (w:World):Calls prog 207 #[.int .u8 48,.int .u8 57] w (kB w bD):=yF 48 57 w
theorem yG (s:ByteArray) (w:World):Calls prog 205 #[.string s] w (kB w fun c=>decide (c∈s.data.toList)):=
 (yC s w).mono fun e w' ⟨he,hw⟩=>⟨_,_,he,hw▸yD s w,hw▸ac (B0 w) _⟩
theorem sD (w:World):Calls prog 205 #[.string ⟨#[95]⟩] w (kB w fun c=>c==95):=by
 have h:=yG ⟨#[95]⟩ w
 have e:(fun c:UInt8=>decide (c∈(⟨#[95]⟩:ByteArray).data.toList))=fun c=>c==95:=by
  funext c
  rw[Bool.eq_iff_iff];simp
 rw[e] at h
 exact h
theorem Ii (w:World):Calls prog 205 #[.string ⟨#[59,44]⟩] w (kB w fun c=>c==59||c==44):=by
 have h:=yG ⟨#[59,44]⟩ w
 have e:(fun c:UInt8=>decide (c∈(⟨#[59,44]⟩:ByteArray).data.toList))=fun c=>c==59||c==44:=by
  funext c
  rw[Bool.eq_iff_iff];simp
 rw[e] at h
 exact h
theorem sE (v:Value) (ps:List (UInt8→Bool)) (w:World) (hv:aQ 1 ib w w.heap.size v ps):Calls prog 286 #[v] w (kB w fun c=>ps.any fun p=>p c):=by
 obtain⟨A,n,c,e,_⟩:=hv.form
 exact(H9 v w ⟨A,n,c,e⟩).mono fun e w' ⟨he,hw⟩=>⟨_,_,he,hw▸Id v ps w hv,hw▸ac (B0 w) _⟩
theorem yH (w:World) (t:TypeId) (vs:List Value) (ps:List (UInt8→Bool)) (n:Nat) (hn:ps.length=n) (hl:n≤100) (h0:0<n)
 (h: ∀(j:Nat) p,ps[j]? =some p→∃v,vs[j]? =some v∧cR w v p):aQ 1 ib (w.alloc (.cells vs.toArray t)) (w.alloc (.cells vs.toArray t)).heap.size (.slice (some ⟨w.heap.size,0,none⟩) n n) ps:=by
 subst hn
 refine⟨_,_,rfl,ae _,by simp[maxLen];omega,fun _=>⟨w.heap.size,0,rfl,by simp,fun j p hp=> ?_⟩⟩
 obtain⟨v,hv,hc⟩:=h j p hp
 refine⟨[v],rfl,(hc.later (ac (B0 w) _)).toR,fun i u hu=> ?_⟩
 match i,hu with
 |0,hu=>
  injection hu with hu
  subst hu
  rw[World.cell?_alloc_new]
  simpa using hv
theorem Ij (c:UInt8):([ew,bD,fun c=>c==95]:List (UInt8→Bool)).any (fun p=>p c)=cT c:=by simp[cT,Bool.or_assoc]
theorem yI (c:UInt8):([ew,fun c=>c==95]:List (UInt8→Bool)).any (fun p=>p c)=fG c:=by simp[fG]
def cz (k:Nat) (t:ai) (n p:Nat):Value:= .agg #[.int .i64 k,.string (bs t),.int .i64 n,.int .i64 p]
def nB (w:World) (r:Except Nat (Nat×ai×Nat)) (e:Ending) (w':World):Prop:=
 Below w.heap.size w w'∧match r with
  | .error c=>e= .returned (.tuple #[cz 0 [] 0 0,.int .i64 c])
  | .ok (k,t,n)=>e= .returned (.tuple #[cz k t n 0,.int .i64 0])
theorem nC (p:UInt8→Bool) (s:ByteArray):s.extract 0 (ep p s)=bs (s.data.toList.takeWhile p):=by
 have h: ∀l:List UInt8,l.take (l.takeWhile p).length=l.takeWhile p:=fun l=>by
  have:=List.takeWhile_prefix p (l:=l)
  exact(List.prefix_iff_eq_take.1 this).symm
 rw[←dZ (s.extract 0 (ep p s))]
 congr 1
 unfold ep
 simp[ByteArray.data_extract,h]
theorem yJ (p:UInt8→Bool) (s:ByteArray):ep p s≤s.size:=by
 have:=nz p s.data.toList
 rw[dd] at this
 exact this
theorem Ik (s:ByteArray) (w:World) (hG:bY w) (hs:s.size≤16384):
 Calls prog 208 #[.string s] w (nB w (jL s.data.toList)):=by
 have HG:=aa hG
 have hz:s.size≤9223372036854775807:=by omega
 have hle:=yJ cT s
 have HX:=aa (nC cT s)
 obtain⟨n,hn⟩: ∃n,ep cT s=n:=⟨_,rfl⟩
 have HT:Hid (jL s.data.toList=if 31<n then .error 8 else if(s.data.toList.takeWhile cT)∈cX then .ok (2,s.data.toList.takeWhile cT,0) else .ok (1,s.data.toList.takeWhile cT,0)):=by rw[←hn];rfl
 generalize s.data.toList.takeWhile cT=t at HT HX
 have HR:Hid (∀W F,cR W F cT→am 204 #[.string s,F] W (.int .i64 n)):=fun W F h=>by
  have:=ny s F cT W hz h
  rwa [hn] at this
 rw[hn] at hle HX
 refine lM fun hn0 hns hmx=> ?_
 clear hG hn
 go_enter func208,ntmps208
 go_wp2_with(go_at_call_of 207 (Value.int IntKind.u8 97);refine(po _).mono ?_;rintro e w1 ⟨g1,c1,rfl,hC1,hb1⟩;have hB1:=ag (ac (B0 w) _) hb1)
 refine(kC _).mono ?_
 rintro e w2 ⟨g2,c2,rfl,hC2,hb2⟩
 have hB2:=ag hB1 hb2
 go_wp2_with(go_at_call 205;refine(sD _).mono ?_;rintro e w3 ⟨g3,c3,rfl,hC3,hb3⟩;have hB3:=ag hB2 hb3)
 have hS:=yH w3 224 [az g1 c1,az g2 c2,az g3 c3] [ew,bD,fun c=>c==95] 3 rfl (by omega) (by omega) (fun j p hp=>by
  match j,hp with
  |0,hp=>injection hp with hp;subst hp;exact⟨_,rfl,hC1.later (ag hb2 hb3)⟩
  |1,hp=>injection hp with hp;subst hp;exact⟨_,rfl,hC2.later hb3⟩
  |2,hp=>injection hp with hp;subst hp;exact⟨_,rfl,hC3⟩)
 have hA:=sE _ _ _ hS
 refine hA.mono ?_
 rintro e w4 ⟨g4,c4,rfl,hC4,hb4⟩
 have hB4:=ag (ac hB3 _) hb4
 go_wp2_with fail
 refine(HR.out w4 _ (hC4.congr Ij)).mono ?_
 rintro e w5 ⟨rfl,hb5⟩
 have hB5:=ag hB4 hb5
 have hbk:=ah (ah (aN w _) hb1) (ag hb2 (ag hb3 (ag (ac (B0 w3) _) (ag hb4 hb5))))
 have hz5:=blk_lt hbk
 refine pp fun c0 c1' c2' c3' f0 f1 f2 f3=> ?_
 have HB:=aa hbk
 have HG5:=aa (HG.out.step hB5)
 have hne: ¬w.heap.size=w5.heap.size:=by omega
 have hne': ¬w5.heap.size=w.heap.size:=by omega
 clear hbk hC1 hC2 hC3 hC4 hS hA hb1 hb2 hb3 hb4 hb5 hB1 hB2 hB3 hB4 HG HR
 by_cases h31:31<n
 ·have h31':(31:Int)<n:=by omega
  have HP:Hid (31<n):=h31
  clear h31
  go_wp2_with fail
  refine bodyPost_ret (v:= .tuple #[cz 0 [] 0 0,.int .i64 8]) (by simp[results,results208,go_sem,cz,bs,c0,c1',c2',c3']) rfl ?_
  rw[HT.out,if_pos HP.out]
  exact⟨aR (aR (aR (aR hB5 (ae _) _) (ae _) _) (ae _) _) (ae _) _,rfl⟩
 ·have h31': ¬(31:Int)<n:=by omega
  have HP:Hid (¬31<n):=h31
  clear h31
  have HK:Hid (∀v W B,aI W B v cX→Calls prog 218 #[v,.string (s.extract 0 n)] W fun e w'=>e= .returned (.bool (decide (t∈cX)))∧w'=W):=fun v W B h=>by
   rw[HX.out]
   exact oY v cX t W B h
  cases hk:decide (t∈cX) with
  |true=>
   rw[hk] at HK
   have HTk:=aa (of_decide_eq_true hk)
   clear hk
   go_wp2_with fail
   go_region_held3 (fun w'=>w'.cell? ⟨w5.heap.size,1,none⟩=some (.string (s.extract 0 n))) (go_simp)
    (first
      |(go_at_call 247;refine(rM _ (HG5.out.step (au (ac (B0 w5) _)))).mono ?_;rintro e w6 ⟨v6,rfl,hS6,hb6⟩;obtain⟨A6,n6,cc6,rfl,_⟩:=aL.form hS6;obtain⟨hc6,hf6⟩:=ws hb6)
      |(go_at_call 218;refine(HK.out _ _ _ hS6).mono ?_;rintro e w7 ⟨rfl,rfl⟩))
   refine yK fun hbt hbr hzt hzr t0 t1 t2 t3 q0 q1 q2 q3 r0 r1 r2 r3 p0 p1 p2 p3 hB7=> ?_
   clear hc6 hf6 hbt hbr hb6 hS6 c0 c1' c2' c3' f0 f1 f2 f3
   go_wp2_with fail
   refine bodyPost_ret (v:= .tuple #[cz 2 t 0 0,.int .i64 0]) (by simp[results,results208,go_sem,cz,HX.out,t0,t1,t2,t3,r0,r1,r2,r3,hne,hne',hzt,hzr]) rfl ?_
   rw[HT.out,if_neg HP.out,if_pos HTk.out]
   exact yL
  |false=>
   rw[hk] at HK
   have HTk:=aa (of_decide_eq_false hk)
   clear hk
   go_wp2_with fail
   go_region_held3 (fun w'=>w'.cell? ⟨w5.heap.size,1,none⟩=some (.string (s.extract 0 n))) (go_simp)
    (first
      |(go_at_call 247;refine(rM _ (HG5.out.step (au (ac (B0 w5) _)))).mono ?_;rintro e w6 ⟨v6,rfl,hS6,hb6⟩;obtain⟨A6,n6,cc6,rfl,_⟩:=aL.form hS6;obtain⟨hc6,hf6⟩:=ws hb6)
      |(go_at_call 218;refine(HK.out _ _ _ hS6).mono ?_;rintro e w7 ⟨rfl,rfl⟩))
   refine yK fun hbt hbr hzt hzr t0 t1 t2 t3 q0 q1 q2 q3 r0 r1 r2 r3 p0 p1 p2 p3 hB7=> ?_
   clear hc6 hf6 hbt hbr hb6 hS6 c0 c1' c2' c3' f0 f1 f2 f3
   go_wp2_with fail
   refine bodyPost_ret (v:= .tuple #[cz 1 t 0 0,.int .i64 0]) (by simp[results,results208,go_sem,cz,HX.out,t0,t1,t2,t3,r0,r1,r2,r3,hne,hne',hzt,hzr]) rfl ?_
   rw[HT.out,if_neg HP.out,if_neg HTk.out]
   exact yL
theorem Il {s:ByteArray} (h:0<s.size):s.data.toList.head?=some s[0]:=by
 have:=pn h
 rw[←this]
 cases s.data.toList<;>rfl
theorem yM (w:World) (F1 F2:Value) (p1 p2:UInt8→Bool) (h1:cR w F1 p1) (h2:cR w F2 p2):aQ 1 ib (w.alloc (.cells #[F1,F2] 224)) (w.alloc (.cells #[F1,F2] 224)).heap.size (.slice (some ⟨w.heap.size,0,none⟩) 2 2) [p1,p2]:=
 yH w _ [F1,F2] [p1,p2] 2 rfl (by omega) (by omega) (fun j p hp=>by
  match j,hp with
  |0,hp=>injection hp with hp;subst hp;exact⟨_,rfl,h1⟩
  |1,hp=>injection hp with hp;subst hp;exact⟨_,rfl,h2⟩)
def kD (t:ai):Except Nat (Nat×ai×Nat):=match il 0 t with|none=> .error 2|some m=> .ok (3,t,m)
theorem Im {a w:World} (h:Below a.heap.size a w) {e:TypeId} {s:ByteArray}:Below a.heap.size a (Lib.bytesWorld w e s):=
 ⟨h.os,h.tape,h.output,by rw[Lib.bytesWorld_size];exact Nat.le_succ_of_le h.size,fun i hi=>(Lib.bytesWorld_at_old w e s i (aF hi h.size)).trans (h.block i hi)⟩
theorem yN (a:Nat) (c:UInt8) (r:ai):il a (c::r)=if 1048576<10*a+(c.toNat - 48) then none else il (10*a+(c.toNat - 48)) r:=rfl
theorem Io (s:ByteArray) (w:World) (hs:s.size≤16384) (h0:0<s.size) (n:Nat) (hn:ep bD s=n) (h1:1<n) (h48:s[0]=48):
 am 209 #[.string s] w (.tuple #[cz 0 [] 0 0,.int .i64 3]):=by
 refine nD fun hz hle=> ?_
 have HR:Hid (∀W F,cR W F bD→am 204 #[.string s,F] W (.int .i64 n)):=fun W F h=>by
  exact nE
 rw[hn] at hle
 refine lM fun hn0 hns hmx=> ?_
 have h1':decide ((1:Int)<n)=true:=by simp;omega
 have h2':((s[0].toNat:Int)==48)=true:=by rw[h48];rfl
 have h3':(0:Int)<s.size:=by omega
 clear hn h1 h48
 go_enter func209,ntmps209
 go_wp2_with(go_at_call 207;refine(kC _).mono ?_;rintro e w1 ⟨g1,c1,rfl,hC1,hb1⟩;have hB1:=ag (ac (B0 w) _) hb1)
 refine(HR.out w1 _ hC1).mono ?_
 rintro e w2 ⟨rfl,hb2⟩
 have hB2:=ag hB1 hb2
 have hbk:=ah (ah (aN w _) hb1) hb2
 refine pp fun c0 c1' c2' c3' f0 f1 f2 f3=> ?_
 have hz2:=blk_lt hbk
 clear hbk hb1 hb2 hB1 hC1
 go_wp2_with fail
 go_quiet (fail)
 go_wp2_with fail
 refine bodyPost_ret (v:= .tuple #[cz 0 [] 0 0,.int .i64 3]) (by simp[results,results209,go_sem,cz,bs,c0,c1',c2',c3',hz2]) rfl ?_
 exact⟨rfl,by repeat' first|with_reducible exact hB2|with_reducible exact au hB2|with_reducible exact CR hB2 _|with_reducible refine aR ?_ (by dsimp only;omega) _|with_reducible refine ac ?_ _⟩
theorem Ip (s:ByteArray) (w:World) (hs:s.size≤16384) (h0:0<s.size) (n r:Nat) (hn:ep bD s=n) (hq:ep fG (s.extract n s.size)=r) (h1:n≤1) (hr:r≠0):
 am 209 #[.string s] w (.tuple #[cz 0 [] 0 0,.int .i64 3]):=by
 refine nD fun hz hle=> ?_
 have hzn:(s.extract n s.size).size≤9223372036854775807:=by rw[ByteArray.size_extract];omega
 have HR:Hid (∀W F,cR W F bD→am 204 #[.string s,F] W (.int .i64 n)):=fun W F h=>by
  exact nE
 have HQ:Hid (∀W F,cR W F fG→am 204 #[.string (s.extract n s.size),F] W (.int .i64 r)):=fun W F h=>by
  exact pq
 rw[hn] at hle
 refine lM fun hn0 hns hmx=> ?_
 have h1':decide ((1:Int)<n)=false:=by simp;omega
 have h3':(0:Int)<s.size:=by omega
 have HX:=aa (nC bD s)
 rw[hn] at HX
 clear hn hq
 have hr':decide ((0:Int)<r)=true:=by simp;omega
 go_enter func209,ntmps209
 go_wp2_with(go_at_call 207;refine(kC _).mono ?_;rintro e w1 ⟨g1,c1,rfl,hC1,hb1⟩;have hB1:=ag (ac (B0 w) _) hb1)
 refine(HR.out w1 _ hC1).mono ?_
 rintro e w2 ⟨rfl,hb2⟩
 refine pr fun hB2 hbk HB hz2=> ?_
 clear hbk hb1 hb2 hB1 hC1
 go_wp2_with fail
 refine bA 18 ?_
 iterate 3 refine gA 18 11 ?_
 iterate 3 refine kA 18 11 ?_
 iterate 5 refine gA 18 11 ?_
 exact yO
theorem Iq (s:ByteArray) (w:World) (hs:s.size≤16384) (h0:0<s.size) (n r:Nat) (hn:ep bD s=n) (hq:ep fG (s.extract n s.size)=r) (h1:1<n) (h48:s[0]≠48) (hr:r≠0):
 am 209 #[.string s] w (.tuple #[cz 0 [] 0 0,.int .i64 3]):=by
 refine nD fun hz hle=> ?_
 have hzn:(s.extract n s.size).size≤9223372036854775807:=by rw[ByteArray.size_extract];omega
 have HR:Hid (∀W F,cR W F bD→am 204 #[.string s,F] W (.int .i64 n)):=fun W F h=>by
  exact nE
 have HQ:Hid (∀W F,cR W F fG→am 204 #[.string (s.extract n s.size),F] W (.int .i64 r)):=fun W F h=>by
  exact pq
 rw[hn] at hle
 refine lM fun hn0 hns hmx=> ?_
 have h1':decide ((1:Int)<n)=true:=by simp;omega
 have h2':((s[0].toNat:Int)==48)=false:=by have:=sC h48;simp[bne] at this⊢;exact this
 have h3':(0:Int)<s.size:=by omega
 have HX:=aa (nC bD s)
 rw[hn] at HX
 clear hn hq
 have hr':decide ((0:Int)<r)=true:=by simp;omega
 go_enter func209,ntmps209
 go_wp2_with(go_at_call 207;refine(kC _).mono ?_;rintro e w1 ⟨g1,c1,rfl,hC1,hb1⟩;have hB1:=ag (ac (B0 w) _) hb1)
 refine(HR.out w1 _ hC1).mono ?_
 rintro e w2 ⟨rfl,hb2⟩
 refine pr fun hB2 hbk HB hz2=> ?_
 clear hbk hb1 hb2 hB1 hC1
 go_wp2_with fail
 refine bA 18 ?_
 iterate 11 refine gA 18 11 ?_
 exact yO
theorem Ir (s:ByteArray) (w:World) (hs:s.size≤16384) (h0:0<s.size) (n r:Nat) (hn:ep bD s=n) (hq:ep fG (s.extract n s.size)=r) (h1:n≤1) (hr:r=0):
 Calls prog 209 #[.string s] w (nB w (kD (s.data.toList.takeWhile bD))):=by
 refine nD fun hz hle=> ?_
 have hzn:(s.extract n s.size).size≤9223372036854775807:=by rw[ByteArray.size_extract];omega
 have HR:Hid (∀W F,cR W F bD→am 204 #[.string s,F] W (.int .i64 n)):=fun W F h=>by
  exact nE
 have HQ:Hid (∀W F,cR W F fG→am 204 #[.string (s.extract n s.size),F] W (.int .i64 r)):=fun W F h=>by
  exact pq
 rw[hn] at hle
 refine lM fun hn0 hns hmx=> ?_
 have h1':decide ((1:Int)<n)=false:=by simp;omega
 have h3':(0:Int)<s.size:=by omega
 have HX:=aa (nC bD s)
 rw[hn] at HX
 have HL0:Hid ((s.data.toList.takeWhile bD).length=n):=hn
 have HD0:Hid (∀c∈s.data.toList.takeWhile bD,bD c=true):=fun c hc=>List.all_eq_true.1 (List.all_takeWhile) c hc
 generalize s.data.toList.takeWhile bD=t at HX HL0 HD0⊢
 have HL:Hid (t.length=n):=HL0.out
 have HD:Hid (∀k,k<n→48≤(t.getD k 0).toNat∧(t.getD k 0).toNat≤57):=fun k hk=>by
  exact yP
 have kc: ∀W:World,Sem.run prog (convert 9 114 (.string (s.extract 0 n))) W= .ok (.slice (some ⟨W.heap.size,0,none⟩) n (grownCap W (s.extract 0 n).size 0 5)) (Lib.bytesWorld W 5 (s.extract 0 n)):=fun W=>by
  exact yQ
 clear hn hq HL0 HD0
 subst hr
 go_enter func209,ntmps209
 go_wp2_with(go_at_call 207;refine(kC _).mono ?_;rintro e w1 ⟨g1,c1,rfl,hC1,hb1⟩;have hB1:=ag (ac (B0 w) _) hb1)
 refine(HR.out w1 _ hC1).mono ?_
 rintro e w2 ⟨rfl,hb2⟩
 refine pr fun hB2 hbk HB hz2=> ?_
 clear hbk hb1 hb2 hB1 hC1
 go_wp2_with fail
 refine bA 18 ?_
 iterate 3 refine gA 18 11 ?_
 iterate 3 refine kA 18 11 ?_
 iterate 5 refine gA 18 11 ?_
 exact yR
theorem Is (s:ByteArray) (w:World) (hs:s.size≤16384) (h0:0<s.size) (n r:Nat) (hn:ep bD s=n) (hq:ep fG (s.extract n s.size)=r) (h1:1<n) (h48:s[0]≠48) (hr:r=0):
 Calls prog 209 #[.string s] w (nB w (kD (s.data.toList.takeWhile bD))):=by
 refine nD fun hz hle=> ?_
 have hzn:(s.extract n s.size).size≤9223372036854775807:=by rw[ByteArray.size_extract];omega
 have HR:Hid (∀W F,cR W F bD→am 204 #[.string s,F] W (.int .i64 n)):=fun W F h=>by
  exact nE
 have HQ:Hid (∀W F,cR W F fG→am 204 #[.string (s.extract n s.size),F] W (.int .i64 r)):=fun W F h=>by
  exact pq
 rw[hn] at hle
 refine lM fun hn0 hns hmx=> ?_
 have h1':decide ((1:Int)<n)=true:=by simp;omega
 have h2':((s[0].toNat:Int)==48)=false:=by have:=sC h48;simp[bne] at this⊢;exact this
 have h3':(0:Int)<s.size:=by omega
 have HX:=aa (nC bD s)
 rw[hn] at HX
 have HL0:Hid ((s.data.toList.takeWhile bD).length=n):=hn
 have HD0:Hid (∀c∈s.data.toList.takeWhile bD,bD c=true):=fun c hc=>List.all_eq_true.1 (List.all_takeWhile) c hc
 generalize s.data.toList.takeWhile bD=t at HX HL0 HD0⊢
 have HL:Hid (t.length=n):=HL0.out
 have HD:Hid (∀k,k<n→48≤(t.getD k 0).toNat∧(t.getD k 0).toNat≤57):=fun k hk=>by
  exact yP
 have kc: ∀W:World,Sem.run prog (convert 9 114 (.string (s.extract 0 n))) W= .ok (.slice (some ⟨W.heap.size,0,none⟩) n (grownCap W (s.extract 0 n).size 0 5)) (Lib.bytesWorld W 5 (s.extract 0 n)):=fun W=>by
  exact yQ
 clear hn hq HL0 HD0
 subst hr
 go_enter func209,ntmps209
 go_wp2_with(go_at_call 207;refine(kC _).mono ?_;rintro e w1 ⟨g1,c1,rfl,hC1,hb1⟩;have hB1:=ag (ac (B0 w) _) hb1)
 refine(HR.out w1 _ hC1).mono ?_
 rintro e w2 ⟨rfl,hb2⟩
 refine pr fun hB2 hbk HB hz2=> ?_
 clear hbk hb1 hb2 hB1 hC1
 go_wp2_with fail
 refine bA 18 ?_
 iterate 11 refine gA 18 11 ?_
 exact yR
theorem It (s:ByteArray) (w:World) (hs:s.size≤16384) (h0:0<s.size):Calls prog 209 #[.string s] w (nB w (jm s.data.toList)):=by
 have hn:ep bD s=(s.data.toList.takeWhile bD).length:=rfl
 have hq:=sy fG s (s.data.toList.takeWhile bD).length
 have hh:=Il h0
 have ht:jm s.data.toList=if(1<(s.data.toList.takeWhile bD).length∧s.data.toList.head?=some 48)∨((s.data.toList.drop (s.data.toList.takeWhile bD).length).takeWhile fG)≠[] then .error 3 else kD (s.data.toList.takeWhile bD):=rfl
 rw[ht]
 obtain⟨t,htt⟩: ∃t,s.data.toList.takeWhile bD=t:=⟨_,rfl⟩
 rw[htt] at hn hq⊢
 obtain⟨r,hr⟩: ∃r,(s.data.toList.drop t.length).takeWhile fG=r:=⟨_,rfl⟩
 rw[hr] at hq⊢
 by_cases hz:1<t.length∧s[0]=48
 ·rw[if_pos (.inl ⟨hz.1,by rw[hh,hz.2]⟩)]
  exact(Io s w hs h0 t.length hn hz.1 hz.2).mono fun e w' ⟨he,hb⟩=>⟨hb,he⟩
 ·have hnz: ¬(1<t.length∧s.data.toList.head?=some 48):=by
   rw[hh]
   rintro ⟨a,b⟩
   injection b with b
   exact hz ⟨a,b⟩
  by_cases hr0:r=[]
  ·subst hr0
   rw[if_neg (by rintro (h|h);exact hnz h;exact h rfl),←htt]
   by_cases h1:t.length≤1
   ·exact Ir s w hs h0 t.length 0 hn hq h1 rfl
   ·exact Is s w hs h0 t.length 0 hn hq (by omega) (fun e=>hz ⟨by omega,e⟩) rfl
  ·rw[if_pos (.inr hr0)]
   have hl:r.length≠0:=fun e=>hr0 (List.eq_nil_of_length_eq_zero e)
   by_cases h1:t.length≤1
   ·exact(Ip s w hs h0 t.length _ hn hq h1 hl).mono fun e w' ⟨he,hb⟩=>⟨hb,he⟩
   ·exact(Iq s w hs h0 t.length _ hn hq (by omega) (fun e=>hz ⟨by omega,e⟩) hl).mono fun e w' ⟨he,hb⟩=>⟨hb,he⟩
theorem cR.at_ {w:World} {g:Nat} {caps:Array Value} {p:UInt8→Bool} (h:cR w (az g caps) p):(∀args w,(callFunc g args).run prog w= .ok (.enter g args) w)∧
 ∀(c:UInt8),am g (#[.int .u8 c.toNat]++caps) w (.bool (p c)):=by
 obtain⟨g',caps',h1,h2,h3⟩:=h.ex
 unfold az at h1
 injection h1 with a b c
 injection a with a
 subst a c
 exact⟨h2,fun c=>h3 w c (B0 w)⟩
theorem Iu (s:ByteArray) (w:World) (hG:bY w) (hs:s.size≤16384) (h0:0<s.size):
 Calls prog 122 #[.string s] w (nB w (eX s.data.toList)):=by
 have HG:=aa hG
 have h3':(0:Int)<s.size:=by omega
 have h1i:(1:Int)≤s.size:=by omega
 have HX:Hid (s.data.toList=s[0]::s.data.toList.drop 1):=by
  have:=List.drop_eq_getElem_cons (l:=s.data.toList) (i:=0) (by rw[dd];exact h0)
  rw[List.drop_zero] at this
  exact this
 have HW:=aa (fun W (hg:bY W)=>Ik s W hg hs)
 have HN:=aa (fun W=>It s W hs h0)
 have HE:Hid (s.extract 0 1=bs [s[0]]):=by
  show _=_
  rw[←dZ (s.extract 0 1)]
  congr 1
  simp[ByteArray.data_extract]
  rw[HX.out];rfl
 obtain⟨c,hc⟩: ∃c,s[0]=c:=⟨_,rfl⟩
 have HT:Hid (eX s.data.toList=if ew c then jL s.data.toList else if bD c then jm s.data.toList else if c=59∨c=44 then .ok (4,[c],0) else .error 3):=by
  have:=HX.out
  rw[hc] at this
  show eX _=_
  conv=>lhs;rw[this]
  rw[eX,←this]
 rw[hc] at HE
 have HC:=aa hc
 clear hG hc
 go_enter func122,ntmps122
 go_wp2_with(go_at_call_of 207 (Value.int IntKind.u8 97);refine(po _).mono ?_;rintro e w1 ⟨g1,c1,rfl,hC1,hb1⟩;have hB1:=ag (ac (B0 w) _) hb1;obtain⟨e1,k1⟩:=hC1.at_;have HK1:=aa k1;clear k1 hC1)
 have hbk1:=aa (ah (aN w _) hb1)
 refine(HK1.out s[0]).mono ?_
 rintro e w2 ⟨rfl,hb2⟩
 rw[HC.out]
 have hB2:=ag hB1 hb2
 have hbk2:=aa (ah hbk1.out hb2)
 clear hb1 hb2 hbk1 hB1 HK1 e1
 cases hl:ew c with
 |true=>
  have HT1:Hid (eX s.data.toList=jL s.data.toList):=by rw[Hid,HT.out,if_pos hl]
  clear hl
  go_wp2_with fail
  refine(HW.out w2 (HG.out.step hB2)).mono ?_
  rintro e w3 ⟨hb3,hr⟩
  have hB3:=ag hB2 hb3
  have hbk3:=ah hbk2.out hb3
  have hz:=blk_lt hbk3
  obtain⟨f0,f1,f2,f3⟩:=iP hbk3
  have c0:=af (o:=0) hbk3 rfl
  have c1:=af (o:=1) hbk3 rfl
  have c2:=af (o:=2) hbk3 rfl
  have c3:=af (o:=3) hbk3 rfl
  clear hb3 hbk3
  cases hw:jL s.data.toList with
  |error x=>
   rw[hw] at hr HT1
   simp only at hr
   subst hr
   clear hw
   unfold cz
   go_wp2_with fail
   refine yS ?_
   rw[HT1.out]
   exact pu
  |ok y=>
   obtain⟨k,t,m⟩:=y
   rw[hw] at hr HT1
   simp only at hr
   subst hr
   clear hw
   unfold cz
   go_wp2_with fail
   refine bodyPost_ret (v:= .tuple #[cz k t m 0,.int .i64 0]) (by simp[results,results122,go_sem,cz,bs,c0,c1,c2,c3,hz]) rfl ?_
   rw[HT1.out]
   exact pu
 |false=>
  have HT1:Hid (eX s.data.toList=if bD c then jm s.data.toList else if c=59∨c=44 then .ok (4,[c],0) else .error 3):=by rw[Hid,HT.out,if_neg (by simp[hl])]
  clear hl
  go_wp2_with(go_at_call_of 207 (Value.int IntKind.u8 48);refine(kC _).mono ?_;rintro e w3 ⟨g3,c3,rfl,hC3,hb3⟩;obtain⟨e3,k3⟩:=hC3.at_;have HK3:=aa k3;clear k3 hC3)
  refine(HK3.out c).mono ?_
  rintro e w4 ⟨rfl,hb4⟩
  have hB4:=ag (ag hB2 hb3) hb4
  have hbk4:=aa (ah (ah hbk2.out hb3) hb4)
  clear hb3 hb4 hbk2 hB2 HK3 e3
  cases hd:bD c with
  |true=>
   have HT2:Hid (eX s.data.toList=jm s.data.toList):=by rw[Hid,HT1.out,if_pos hd]
   clear hd
   go_wp2_with fail
   refine(HN.out w4).mono ?_
   rintro e w5 ⟨hb3,hr⟩
   have hB3:=ag hB4 hb3
   have hbk3:=ah hbk4.out hb3
   have hz:=blk_lt hbk3
   obtain⟨f0,f1,f2,f3⟩:=iP hbk3
   have c0:=af (o:=0) hbk3 rfl
   have c1:=af (o:=1) hbk3 rfl
   have c2:=af (o:=2) hbk3 rfl
   have c3:=af (o:=3) hbk3 rfl
   clear hb3 hbk3
   cases hw:jm s.data.toList with
   |error x=>
    rw[hw] at hr HT2
    simp only at hr
    subst hr
    clear hw
    unfold cz
    go_wp2_with fail
    refine yS ?_
    rw[HT2.out]
    exact pu
   |ok y=>
    obtain⟨k,t,m⟩:=y
    rw[hw] at hr HT2
    simp only at hr
    subst hr
    clear hw
    unfold cz
    go_wp2_with fail
    refine bodyPost_ret (v:= .tuple #[cz k t m 0,.int .i64 0]) (by simp[results,results122,go_sem,cz,bs,c0,c1,c2,c3,hz]) rfl ?_
    rw[HT2.out]
    exact pu
  |false=>
   have HT2:Hid (eX s.data.toList=if c=59∨c=44 then .ok (4,[c],0) else .error 3):=by rw[Hid,HT1.out,if_neg (by simp[hd])]
   clear hd
   go_wp2_with(go_at_call 205;refine(Ii _).mono ?_;rintro e w5 ⟨g5,c5,rfl,hC5,hb5⟩;obtain⟨e5,k5⟩:=hC5.at_;have HK5:=aa k5;clear k5 hC5)
   refine(HK5.out c).mono ?_
   rintro e w6 ⟨rfl,hb6⟩
   have hB6:=ag (ag hB4 hb5) hb6
   have hbk6:=ah (ah hbk4.out hb5) hb6
   have hz:=blk_lt hbk6
   obtain⟨f0,f1,f2,f3⟩:=iP hbk6
   have c0:=af (o:=0) hbk6 rfl
   have c1:=af (o:=1) hbk6 rfl
   have c2:=af (o:=2) hbk6 rfl
   have c3:=af (o:=3) hbk6 rfl
   clear hb5 hb6 hbk4 hbk6 hB4 HK5 e5
   by_cases hs:c=59∨c=44
   ·have h1:(c==59||c==44)=true:=by simpa using hs
    rw[h1]
    rw[if_pos hs] at HT2
    clear hs h1
    go_wp2_with fail
    refine bodyPost_ret (v:= .tuple #[cz 4 [c] 0 0,.int .i64 0]) (by simp[results,results122,go_sem,cz,HE.out,c0,c1,c2,c3,hz]) rfl ?_
    exact yT
   ·have h1:(c==59||c==44)=false:=by simpa using hs
    rw[h1]
    rw[if_neg hs] at HT2
    clear hs h1
    go_wp2_with fail
    refine bodyPost_ret (v:= .tuple #[cz 0 [] 0 0,.int .i64 3]) (by simp[results,results122,go_sem,cz,bs,c0,c1,c2,c3,hz]) rfl ?_
    exact yT
end
end Go.Proofs.YthnkonlbfogkgaaGreatDoor
