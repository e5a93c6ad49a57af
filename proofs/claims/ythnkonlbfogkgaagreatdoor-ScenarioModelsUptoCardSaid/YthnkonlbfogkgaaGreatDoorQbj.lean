/- A part of the proof. -/
import Derived.Test.YthnkonlbfogkgaaGreatDoorQbi
set_option linter.unusedVariables false
set_option linter.unusedSimpArgs false
set_option maxRecDepth 100000
set_option maxHeartbeats 32000000
namespace Go.Proofs.YthnkonlbfogkgaaGreatDoor
section
open Go Go.RowKit Tryz
theorem yU (s:ai):bZ s=s.drop (s.length - (bZ s).length):=by
 have suf: ∀s:ai,bZ s<:+s:=by
  intro s
  fun_induction bZ s with
  |case1 s h=>exact List.nil_suffix
  |case2 s r h ih=>exact ih.trans ((List.dropWhile_suffix _).trans (((List.suffix_cons 35 r).trans (h▸List.dropWhile_suffix cK))))
  |case3 s c r h hc=>exact h▸List.dropWhile_suffix cK
 exact(List.suffix_iff_eq_drop.1 (suf s))
theorem sF {s:ai} {k:Nat} {t:ai} {n:Nat} (h:eX s= .ok (k,t,n)):1≤t.length∧t.length≤s.length∧(k≤4∧n≤1048576):=by
 have tw (p:UInt8→Bool) (c:UInt8) (r:ai) (hp:p c=true):1≤((c::r).takeWhile p).length:=by rw[List.takeWhile_cons,if_pos hp];simp
 cases s with
 |nil=>cases h
 |cons c r=>
  rw[eX] at h
  split at h
  ·rename_i hl
   unfold jL at h
   dsimp only at h
   have hw:cT c=true:=by simp[cT,hl]
   split at h
   ·cases h
   ·split at h<;>(simp only[Except.ok.injEq,Prod.mk.injEq] at h;obtain⟨rfl,rfl,rfl⟩:=h;exact⟨tw _ _ _ hw,nz _ _,by omega,by omega⟩)
  ·split at h
   ·rename_i hd
    unfold jm at h
    dsimp only at h
    split at h
    ·cases h
    ·split at h
     ·cases h
     ·rename_i m hm
      simp only[Except.ok.injEq,Prod.mk.injEq] at h
      obtain⟨rfl,rfl,rfl⟩:=h
      refine⟨tw _ _ _ hd,nz _ _,by omega,?_⟩
      have big: ∀(l:ai) (a m:Nat),a≤1048576→il a l=some m→m≤1048576:=by
       intro l
       induction l with
       |nil=>intro a m ha h;rw[il] at h;injection h with h;omega
       |cons c l ih=>
        intro a m ha h
        rw[yN] at h
        split at h
        ·cases h
        ·exact ih _ _ (by omega) h
      exact big _ 0 m (by omega) hm
   ·split at h
    ·simp only[Except.ok.injEq,Prod.mk.injEq] at h
     obtain⟨rfl,rfl,rfl⟩:=h
     simp
    ·cases h
theorem yV {s:ai} {x:Nat} (h:eX s= .error x):x=8∨x=3∨x=2:=by
 cases s with
 |nil=>rw[eX] at h;injection h with h;omega
 |cons c r=>
  rw[eX] at h
  split at h
  ·unfold jL at h
   dsimp only at h
   split at h
   ·injection h with h;omega
   ·split at h<;>cases h
  ·split at h
   ·unfold jm at h
    dsimp only at h
    split at h
    ·injection h with h;omega
    ·split at h
     ·injection h with h;omega
     ·cases h
   ·split at h
    ·cases h
    ·injection h with h;omega
def pw (t:bU):List Value:=[.int .i64 t.kind,.string (bs t.text),.int .i64 t.n,.int .i64 t.pos]
def lN (l:List bU):List Value:=(l.map pw).flatten
theorem yW (l:List bU) (t:bU):lN (l++[t])=lN l++pw t:=by simp[lN]
theorem Iv {w:World} {base:Nat} {e:TypeId} {v:Value} {l:List bU} (h:w.ownsRow base e 4 v l.length (lN l)):aQ 4 dU w w.heap.size v l:=
 aQ.of_own (l.map pw) (fun r hr=>by obtain⟨t,_,rfl⟩:=List.mem_map.1 hr;rfl) (by simp) h (fun j r x hr hx=>by
  rw[List.getElem?_map,hx] at hr
  injection hr with hr
  exact hr.symm)
def sG (w:World) (r:Except (Nat×Nat) (List bU)) (e:Ending) (w':World):Prop:=
 Below w.heap.size w w'∧match r with
  | .error x=>e= .returned (.tuple #[.slice none 0 0,.int .i64 x.1,.int .i64 x.2])
  | .ok l=> ∃v,e= .returned (.tuple #[v,.int .i64 0,.int .i64 0])∧aQ 4 dU w' w'.heap.size v l
theorem infoTok:(Tryz.prog.info? 91).map (fun i=>(i.zero,i.size,i.bytes))=some (some (.agg #[.int .i64 0,.string ⟨#[]⟩,.int .i64 0,.int .i64 0]),4,40):=by kernel_rfl
theorem yX (s:ByteArray) (w:World) (hG:bY w):Calls prog 39 #[.string s] w (sG w (eK s.data.toList)):=by
 by_cases hbig:16384<s.size
 ·have hr:eK s.data.toList= .error (0,8):=by unfold eK;rw[if_pos (by rw[dd];exact hbig)]
  rw[hr]
  have h1:(16384:Int)<s.size:=by omega
  clear hr hbig
  go_enter func39,ntmps39
  go_wp2_with fail
  go_ret3
  exact⟨B0 w,rfl⟩
 ·have hs:s.size≤16384:=by omega
  have h1: ¬(16384:Int)<s.size:=by omega
  have HR:Hid (eK s.data.toList=dB s.size (bZ s.data.toList)):=by
   show eK _=_
   unfold eK;rw[if_neg (by rw[dd];omega),dd]
  have HG:=aa hG
  have HS:=aa (fun W=>yE s W hs)
  obtain⟨i0,hi,hz0,hz1,hz2⟩:=info_parts infoTok
  have hkl:(bZ s.data.toList).length≤s.size:=by have:=lh s.data.toList;rw[dd] at this;exact this
  have HD:Hid (bZ s.data.toList=s.data.toList.drop (s.size - (bZ s.data.toList).length)):=by
   have:=yU s.data.toList
   rw[dd] at this
   exact this
  obtain⟨m,hm⟩: ∃m,s.size - (bZ s.data.toList).length=m:=⟨_,rfl⟩
  have hms:m≤s.size:=by omega
  rw[hm] at HD
  have HS':Hid (∀W,am 121 #[.string s] W (.int .i64 m)):=fun W=>by
   have:=HS.out W
   rwa [hm] at this
  clear hbig hG hkl hm HS
  go_enter func39,ntmps39
  go_wp2_with(go_at_call 121;refine(HS'.out _).mono ?_;rintro e w1 ⟨rfl,hb1⟩)
  go_loopw [5,6] (fun v i wr=> ∃(k:Nat) (l:List bU),k≤s.size∧i= .int .i64 k∧l.length≤k∧dB s.size (bZ s.data.toList)=(dB s.size (s.data.toList.drop k)).map (l++ ·)∧wr.ownsRow w.heap.size 91 4 v l.length (lN l)∧Below w.heap.size w wr) (fun _ i _=>s.size - (intOf i).toNat)
  case atStart=>
   refine⟨m,[],hms,rfl,aY _,?_,World.ownsRow_nil _ _ _ _,hb1⟩
   rw[HD.out]
   cases dB s.size (s.data.toList.drop m)<;>simp[Except.map]
  case round=>
   obtain⟨k,l,hk,rfl,hlk,hsc,hown,hB⟩:=hrel
   have HSc:=aa hsc
   clear hsc
   by_cases hlt:k<s.size
   ·have hI1:(0:Int)≤k:=by omega
    have hI2:(k:Int)<s.size:=by omega
    have hI3:(k:Int)≤s.size:=by omega
    have hze:(s.extract k s.size).size=s.size - k:=by rw[ByteArray.size_extract];omega
    have HT:=aa (Iu (s.extract k s.size) wr (HG.out.step hB) (by omega) (by omega))
    rw[sw] at HT
    clear hze
    cases ht:eX (s.data.toList.drop k) with
    |error x=>
     rw[ht] at HT
     have HXe:=aa (yV ht)
     have HE:Hid (eK s.data.toList= .error (k,x)):=by
      show _=_
      rw[HR.out,HSc.out]
      have hd:=List.drop_eq_getElem_cons (l:=s.data.toList) (i:=k) (by rw[dd];exact hlt)
      rw[hd] at ht⊢
      rw[dB,ht]
      simp only[Except.map]
      congr 2
      simp[dd]
      omega
     clear ht
     go_wp2_with fail
     refine HT.out.mono ?_
     rintro e w2 ⟨hb2,hr⟩
     simp only at hr
     subst hr
     have hne:((x:Int)!=0)=true:=by
      have:=HXe.out
      simp;omega
     unfold cz
     go_wp2_with fail
     go_ret3
     rw[HE.out]
     exact⟨ac (ag hB hb2) _,rfl⟩
    |ok y=>
     obtain⟨kd,t,nn⟩:=y
     rw[ht] at HT
     obtain⟨hq1,hq2,hkd,hnn⟩:=sF ht
     rw[List.length_drop,dd] at hq2
     have hr:dB s.size (s.data.toList.drop k)=(dB s.size (bZ (s.data.toList.drop (k+t.length)))).map (⟨kd,t,nn,k⟩:: ·):=by
      have hd:=List.drop_eq_getElem_cons (l:=s.data.toList) (i:=k) (by rw[dd];exact hlt)
      rw[hd] at ht⊢
      rw[dB,ht]
      simp only
      have e1:(s.data.toList.drop (k+1)).drop (t.length - 1)=s.data.toList.drop (k+t.length):=by rw[List.drop_drop];congr 1;omega
      have e2:s.size - ((s.data.toList.drop (k+1)).length+1)=k:=by rw[List.length_drop,dd];omega
      rw[e1,e2]
     have hsl:=lh (s.data.toList.drop (k+t.length))
     rw[List.length_drop,dd] at hsl
     have hsu:=yU (s.data.toList.drop (k+t.length))
     rw[List.length_drop,dd,List.drop_drop] at hsu
     obtain⟨q,hq⟩: ∃q,t.length=q:=⟨_,rfl⟩
     have hT:(bs t).size=q:=by rw[bq];exact hq
     have HQ:Hid (∀W,am 121 #[.string (s.extract (k+q) s.size)] W (.int .i64 ((s.size - (k+q) - (bZ (s.data.toList.drop (k+q))).length:Nat):Int))):=fun W=>by
      have:=yE (s.extract (k+q) s.size) W (by rw[ByteArray.size_extract];omega)
      rw[sw,ByteArray.size_extract,Nat.min_self] at this
      exact this
     rw[hq] at hq1 hq2 hr hsl hsu
     obtain⟨d,hdd⟩: ∃d,s.size - (k+q) - (bZ (s.data.toList.drop (k+q))).length=d:=⟨_,rfl⟩
     rw[hdd] at HQ hsu
     have hd2:k+q+d≤s.size:=by omega
     have HN:Hid (dB s.size (bZ s.data.toList)=(dB s.size (s.data.toList.drop (k+q+d))).map (l++[⟨kd,t,nn,k⟩]++ ·)):=by
      show _=_
      rw[HSc.out,hr,hsu]
      cases dB s.size (s.data.toList.drop (k+q+d))<;>simp[Except.map]
     have HTb:Hid (pw ⟨kd,t,nn,k⟩=[.int .i64 kd,.string (bs t),.int .i64 nn,.int .i64 k]):=rfl
     obtain⟨T,hTT⟩: ∃T,bs t=T:=⟨_,rfl⟩
     have HT2:Hid (am 122 #[.string (s.extract k s.size)] wr (.tuple #[.agg #[.int .i64 kd,.string T,.int .i64 nn,.int .i64 0],.int .i64 0])):=
      HT.out.mono fun e w' ⟨hb,he⟩=>⟨by rw[←hTT];exact he,hb⟩
     rw[hTT] at hT HTb
     clear ht hr hsl hsu hdd hq hTT HT
     go_wp2_with fail
     refine HT2.out.mono ?_
     rintro e w2 ⟨rfl,hb2⟩
     have hB2:=ag hB hb2
     have HO:=aa (cB hown hb2)
     clear hown
     go_wp2_with(first
      |(at_builtin;refine wpList_append_own _ rfl (.tmp 31) (.tmp 33) _ rfl w.heap.size 91 i0 _ 4 40 underlying82 hi hz0 hz1 hz2 rfl (by decide) _ _ _ rfl ((HO.out.alloc _).alloc _) ⟨w2.heap.size+1,0,none⟩ 1 1 [.int .i64 kd,.string T,.int .i64 nn,.int .i64 k] rfl rfl (eE (by simp)) (by simp[Value.oneCell']) (by simp[maxLen];omega) (by omega) (aP hB2.size (by simp;omega)) ?_;intro v' w3 hown' hgrow _
        have hbt:=eD (fV (aN w2 _) (ac (B0 _) _) (by simp)) hgrow (fun j hj=>by have:=(World.ownsRow.lt HO.out j hj).2;omega)
        have t1:=af (o:=1) hbt rfl
        have hB3:=ir ((HO.out.alloc _).alloc _) (ac (ac hB2 _) _) (ae _) hgrow
        clear hgrow hbt)
      |(go_at_call 121;refine(HQ.out _).mono ?_;rintro e w4 ⟨rfl,hb4⟩))
     refine⟨⟨k+q+d,l++[⟨kd,t,nn,k⟩],by omega,by go_num,by simp;omega,HN.out,?_,ag hB3 hb4⟩,by simp[intOf];omega⟩
     have:=cB hown' hb4
     rw[List.length_append,yW,HTb.out]
     exact this
   ·have hkk:k=s.size:=by omega
    have HKK:=aa hkk
    have HE:Hid (eK s.data.toList= .ok (l++[⟨0,[],0,s.size⟩])):=by
     show _=_
     rw[HR.out,HSc.out,hkk,List.drop_of_length_le (by rw[dd];omega),dB]
     rfl
    have HO:=aa hown
    clear hkk hown
    go_wp2_with(at_builtin;refine wpList_append_own _ rfl (.tmp 46) (.tmp 50) _ rfl w.heap.size 91 i0 _ 4 40 underlying82 hi hz0 hz1 hz2 rfl (by decide) _ _ _ rfl (HO.out.alloc _) ⟨wr.heap.size,0,none⟩ 1 1 [.int .i64 0,.string ⟨#[]⟩,.int .i64 0,.int .i64 s.size] rfl rfl (eE rfl) (by simp[Value.oneCell']) (by simp[maxLen];omega) (by omega) (aP hB.size (by simp)) ?_;intro v' w3 hown' hgrow _)
    go_ret3
    rw[HE.out]
    refine⟨ir (HO.out.alloc _) (ac hB _) (ae _) hgrow,_,rfl,?_⟩
    have hw:w3.ownsRow w.heap.size 91 4 v' (l++[⟨0,[],0,s.size⟩]:List bU).length (lN (l++[⟨0,[],0,s.size⟩])):=by
     rw[List.length_append,yW]
     exact hown'
    exact Iv hw
theorem yY (s:ByteArray) (k:Nat) (w:World) (hs:s.size≤1000000):
 Calls prog 17 #[.string s,.int .i64 k] w fun e w'=> ∃c:Int,e= .returned (.tuple #[.int .i64 (ju s.data.toList k),.int .i64 c])∧w=w':=by
 have hC: ∀(t:ByteArray) W,Calls prog 44 #[.string t,.string {data:= #[10]}] W fun e w'=>e= .returned (.int .i64 (Lib.countByte t.data.toList 10))∧w'=W:=fun t W=>strings_Count_one t 10 W
 have HC:=aa hC
 clear hC
 obtain⟨m,hm⟩: ∃m,min k s.size=m:=⟨_,rfl⟩
 have hm1:m≤s.size:=by omega
 have hm2:m≤k:=by omega
 have hT:(s.extract 0 m).data.toList=s.data.toList.take k:=by
  have h:=dd s
  have e:(s.extract 0 m).data.toList=s.data.toList.take m:=by simp[ByteArray.data_extract]
  rw[e,←hm]
  rcases Nat.le_total k s.size with h'|h'
  ·rw[Nat.min_eq_left h']
  ·rw[Nat.min_eq_right h',List.take_of_length_le (by omega),List.take_of_length_le (by omega)]
 have hz:(s.extract 0 m).size=m:=by rw[ByteArray.size_extract];omega
 have hcnt:(List.count 10 (s.data.toList.take k))≤1000000:=by
  have:=List.count_le_length (a:=(10:UInt8)) (l:=s.data.toList.take k)
  rw[List.length_take,dd] at this
  omega
 have HT:Hid (Lib.countByte (s.extract 0 m).data.toList 10=List.count 10 (s.data.toList.take k)):=by
  show _=_
  rw[hT];rfl
 have hL:ju s.data.toList k=1+List.count 10 (s.data.toList.take k):=rfl
 rw[hL]
 obtain⟨n,hn⟩: ∃n,List.count 10 (s.data.toList.take k)=n:=⟨_,rfl⟩
 rw[hn] at HT hcnt⊢
 obtain⟨T,hTT⟩: ∃T,s.extract 0 m=T:=⟨_,rfl⟩
 have HE:=aa hTT
 rw[hTT] at HT hz
 have HLi:=aa (fun W=>strings_LastIndexByte T 10 (by rw[hz];omega) W)
 have HMin:Hid (min k s.size=m):=hm
 have hn0:(0:Int)≤n:=by omega
 have hn1:(n:Int)≤1000000:=by omega
 clear hT hn hTT hL hm
 go_enter func17,ntmps17
 go_wp2_with fail
 have HE2:s.extract 0 (min (k:Int) (s.size:Int)).toNat=T:=by
  rw[←HE.out,←HMin.out]
  congr 1
  omega
 rw[HE2]
 refine(HC.out T _).mono ?_
 rintro e w1 ⟨rfl,rfl⟩
 rw[HT.out]
 clear HE2
 go_wp2_with(go_at_call 45;refine(HLi.out _).mono ?_;rintro e w2 ⟨rfl,rfl⟩)
 go_ret2
 exact⟨_,rfl,rfl⟩
structure KP (B pb:Nat) (w w':World):Prop where
 os:w'.os=w.os
 tape:w'.tape=w.tape
 output:w'.output=w.output
 size:w.heap.size≤w'.heap.size
 block: ∀i,i<B→¬i=pb→w'.heap[i]? =w.heap[i]?
theorem KP.refl (B pb:Nat) (w:World):KP B pb w w:=⟨rfl,rfl,rfl,ae _,fun _ _ _=>rfl⟩
theorem KP.trans {B pb:Nat} {a b c:World} (h:KP B pb a b) (k:KP B pb b c):KP B pb a c:=
 ⟨k.os.trans h.os,k.tape.trans h.tape,k.output.trans h.output,aP h.size k.size,fun i hi hn=>(k.block i hi hn).trans (h.block i hi hn)⟩
theorem KP.of_below {B B' pb:Nat} {w w':World} (h:Below B' w w') (hB:B≤B') (hs:w.heap.size≤w'.heap.size):KP B pb w w':=⟨h.os,h.tape,h.output,hs,fun i hi _=>h.block i (aF hi hB)⟩
theorem KP.below {B pb:Nat} {w w':World} (h:KP B pb w w') (hp:pb≤B):Below pb w w':=⟨h.os,h.tape,h.output,h.size,fun i hi=>h.block i (aF hi hp) (by omega)⟩
theorem KP.mono {B B' pb:Nat} {w w':World} (h:KP B pb w w') (hB:B'≤B):KP B' pb w w':=⟨h.os,h.tape,h.output,h.size,fun i hi hn=>h.block i (aF hi hB) hn⟩
theorem KP.alloc {B pb:Nat} {w w':World} (h:KP B pb w w') (hB:B≤w.heap.size) (o:Obj):KP B pb w (w'.alloc o):=
 h.trans (KP.of_below (ac (B0 w') o) (aP hB h.size) (by simp))
theorem KP.drew {B pb:Nat} {w w':World} (h:KP B pb w w'):KP B pb w w'.drew:=⟨h.os,h.tape,h.output,h.size,h.block⟩
theorem KP.drewN {B pb:Nat} {w w':World} (h:KP B pb w w') (n:Nat):KP B pb w (w'.drewN n):=⟨h.os,h.tape,h.output,h.size,h.block⟩
theorem KP.set {B pb:Nat} {w w':World} (h:KP B pb w w') {b o:Nat} (hb:b=pb∨B≤b) (u:Value):KP B pb w (w'.setCell ⟨b,o,none⟩ u):=
 ⟨h.os,h.tape,h.output,by simpa[World.setCell] using h.size,fun i hi hn=>(Below.heap_setCell w' ⟨b,o,none⟩ u i (by
  intro e
  rcases hb with hb|hb
  ·exact hn (by rw[e];exact hb)
  ·exact absurd hi (by rw[e];simp;omega))).trans (h.block i hi hn)⟩
theorem KP.blk {B pb b:Nat} {w w':World} {o:Obj} (h:KP B pb w w') (hb:w.heap[b]? =some o) (hlt:b<B) (hne: ¬b=pb):w'.heap[b]? =some o:=(h.block b hlt hne).trans hb
theorem KP.grown {B pb:Nat} {w w' w2:World} (h:KP B pb w w') {e:TypeId} {size:Nat} {v:Value} {n:Nat} {xs:List Value} (ho:w'.ownsRow B e size v n xs) (hg:w'.grownBy w2 v.ownBlock) (hB:B≤w.heap.size):KP B pb w w2:=
 h.trans ⟨hg.os,hg.tape,hg.output,hg.size,fun i hi hn=>hg.block i (aF hi (aP hB h.size)) (fun e=>by have:=(World.ownsRow.lt ho i e.symm).1;omega)⟩
def sH (p:PS) (t r n:Value):Array Value:= #[t,.int .i64 p.e,.int .i64 p.d.kind,.string (bs p.d.name),r,n,.int .i64 p.d.by_,.bool p.d.always]
structure PS.Ok (p:PS) (M:Nat):Prop where
 last: ∃l e,p.ts=l++[e]∧e.kind=0
 toks:p.ts.length+p.d.refs.length≤M
 nums:p.ts.length+p.d.nums.length≤M
 e:p.e≤8
 by_:p.d.by_+4*p.ts.length≤4*M
 n:(∀t∈p.ts,t.n≤2000000)∧∀k∈p.d.nums,k≤2000000
def aJ (w:World) (pb B M:Nat) (p:PS):Prop:=
 ∃t r n,w.heap[pb]? =some (.cells (sH p t r n) 89 (0,0))∧aQ 4 dU w pb t p.ts∧w.ownsRow B 9 1 r p.d.refs.length (p.d.refs.map fun s=>Value.string (bs s))∧
  w.ownsRow B 3 1 n p.d.nums.length (p.d.nums.map fun(k:Nat)=>Value.int .i64 k)∧pb<B∧B≤w.heap.size∧p.Ok M
theorem aJ.later {w w':World} {pb B M:Nat} {p:PS} (h:aJ w pb B M p) (hb:Below w.heap.size w w'):aJ w' pb B M p:=by
 obtain⟨t,r,n,h1,h2,h3,h4,h5,h6,h7⟩:=h
 exact⟨t,r,n,ah h1 hb,h2.to dU.ab hb (by omega) (ae _),cB h3 hb,cB h4 hb,h5,aP h6 hb.size,h7⟩
theorem aJ.more {w:World} {pb B M M':Nat} {p:PS} (h:aJ w pb B M p) (hM:M≤M'):aJ w pb B M' p:=by
 obtain⟨t,r,n,h1,h2,h3,h4,h5,h6,h7⟩:=h
 exact⟨t,r,n,h1,h2,h3,h4,h5,h6,⟨h7.last,aP h7.toks hM,aP h7.nums hM,h7.e,by have:=h7.by_;omega,h7.n⟩⟩
theorem PS.Ok.cons {p:PS} {M:Nat} (h:p.Ok M): ∃t l,p.ts=t::l∧p.head=t∧(¬t.kind=0→l≠[]):=by
 obtain⟨l,e,h1,h2⟩:=h.last
 cases l with
 |nil=>exact⟨e,[],h1,by simp[PS.head,h1],fun hk=>absurd h2 hk⟩
 |cons a l=>exact⟨a,l++[e],h1,by simp[PS.head,h1],fun _=>by simp⟩
def jA (t:bU):Value:= .agg #[.int .i64 t.kind,.string (bs t.text),.int .i64 t.n,.int .i64 t.pos]
theorem eI (t:bU):jA t= .agg #[.int .i64 t.kind,.string (bs t.text),.int .i64 t.n,.int .i64 t.pos]:=rfl
theorem yZ {w:World} {B:Nat} {A:Option Addr} {n c:Nat} {ts:List bU} {t:bU} {l:List bU} (h:aQ 4 dU w B (.slice A n c) ts) (ht:ts=t::l):
 ∃b o,A=some ⟨b,o,none⟩∧b<B∧w.cell? ⟨b,o,none⟩=some (.int .i64 t.kind)∧w.cell? ⟨b,o+1,none⟩=some (.string (bs t.text))∧w.cell? ⟨b,o+2,none⟩=some (.int .i64 t.n)∧w.cell? ⟨b,o+3,none⟩=some (.int .i64 t.pos):=by
 subst ht
 obtain⟨b,o,cs,hA,hb,_,hR,hc⟩:=h.at_ (j:=0) (x:=t) rfl
 unfold dU at hR
 subst hR
 refine⟨b,o,hA,hb,?_,?_,?_,?_⟩
 ·have:=hc 0 _ rfl;simpa using this
 ·have:=hc 1 _ rfl;simpa using this
 ·have:=hc 2 _ rfl;simpa using this
 ·have:=hc 3 _ rfl;simpa using this
theorem kE (pb B M:Nat) (p:PS) (w:World) (h:aJ w pb B M p):
 am 40 #[ptr pb] w (jA p.head):=by
 obtain⟨tv,r,n,h1,h2,h3,h4,h5,h6,h7⟩:=h
 obtain⟨t,l,ht,hh,_⟩:=h7.cons
 rw[hh]
 obtain⟨A,k,c,rfl,hk,_,_⟩:=h2.form
 have hkp:(0:Int)<k:=by rw[ht] at hk;simp at hk;omega
 obtain⟨b,o,rfl,hb,c0,c1,c2,c3⟩:=yZ h2 ht
 have hp:=blk_lt h1
 have hbw:b<w.heap.size:=by omega
 have p0:w.cell? ⟨pb,0,none⟩=some (.slice (some ⟨b,o,none⟩) k c):=af h1 rfl
 have hne: ¬b=w.heap.size:=by omega
 clear h1 h2 h3 h4 h7 ht hh hk
 rw[eI]
 simp only[ptr]
 go_enter func40,ntmps40
 go_wp2_with fail
 refine bodyPost_ret (v:=jA t) (by simp[results,results40,go_sem,jA,c0,c1,c2,c3]) rfl ?_
 exact⟨rfl,by repeat' first|with_reducible exact B0 w|with_reducible refine aR ?_ (by dsimp only;omega) _|with_reducible refine ac ?_ _⟩
def dq (pb:Nat) (w w':World):Prop:= ∀o,2≤o→w'.cell? ⟨pb,o,none⟩=w.cell? ⟨pb,o,none⟩
theorem dq.refl (pb:Nat) (w:World):dq pb w w:=fun _ _=>rfl
theorem dq.trans {pb:Nat} {a b c:World} (h:dq pb a b) (k:dq pb b c):dq pb a c:=fun o ho=>(k o ho).trans (h o ho)
theorem dq.of_below {pb B:Nat} {w w':World} (h:Below B w w') (hp:pb<B):dq pb w w':=fun o _=>h.cell (p:=⟨pb,o,none⟩) hp
theorem dq.set {pb b o:Nat} {w w':World} (h:dq pb w w') (hb: ¬pb=b∨o<2) (u:Value):dq pb w (w'.setCell ⟨b,o,none⟩ u):=fun j hj=>by
 rw[←h j hj]
 by_cases he:pb=b
 ·subst he
  have ho:o<2:=by rcases hb with hb|hb<;>omega
  simp only[World.cell?,World.setCell,Array.getElem?_modify]
  cases hq:w'.heap[pb]? with
  |none=>simp
  |some ob=>
   have hne: ¬o=j:=by omega
   cases ob<;>simp[Array.getElem?_setIfInBounds,hne]
 ·exact wt he
theorem nF (pb B M:Nat) (p:PS) (w:World) (k:Nat) (h:aJ w pb B M p) (hk:k≤8):
 Calls prog 41 #[ptr pb,.int .i64 k] w fun e w'=>e= .returned (.tuple #[])∧aJ w' pb B M (p.fail k)∧KP w.heap.size pb w w'∧dq pb w w':=by
 obtain⟨tv,r,n,h1,h2,h3,h4,h5,h6,h7⟩:=h
 have hp:=blk_lt h1
 have p1:w.cell? ⟨pb,1,none⟩=some (.int .i64 p.e):=af h1 rfl
 have f1:=aW h1 1
 have H1:=aa h1;have H2:=aa h2;have H3:=aa h3;have H4:=aa h4;have H7:=aa h7
 clear h1 h2 h3 h4 h7
 by_cases he:p.e=0
 ·have HF:Hid (p.fail k={p with e:=k}):=by show _=_;unfold PS.fail;rw[if_pos he]
  have he':((p.e:Int)==0)=true:=by simp;omega
  clear he
  simp only[ptr]
  go_enter func41,ntmps41
  go_wp2_with fail
  go_end0
  refine⟨rfl,?_,(KP.refl _ _ _).set (.inl rfl) _,(dq.refl _ _).set (.inr (by omega)) _⟩
  rw[HF.out]
  have hk1:KP w.heap.size pb w (w.setCell ⟨pb,1,none⟩ (.int .i64 k)):=(KP.refl _ _ _).set (.inl rfl) _
  refine⟨tv,r,n,?_,H2.out.to dU.ab (hk1.below (by omega)) (ae _) (ae _),dM H3.out (fun j hj=>by have:=(World.ownsRow.lt H3.out j hj).1;omega) _ _,dM H4.out (fun j hj=>by have:=(World.ownsRow.lt H4.out j hj).1;omega) _ _,h5,by simp[World.setCell];omega,⟨H7.out.last,H7.out.toks,H7.out.nums,hk,H7.out.by_,H7.out.n⟩⟩
  exact ay H1.out 1 _
 ·have HF:Hid (p.fail k=p):=by show _=_;unfold PS.fail;rw[if_neg he]
  have he':((p.e:Int)==0)=false:=by simp;omega
  clear he
  simp only[ptr]
  go_enter func41,ntmps41
  go_wp2_with fail
  go_end0
  refine⟨rfl,?_,KP.refl _ _ _,dq.refl _ _⟩
  rw[HF.out]
  exact⟨tv,r,n,H1.out,H2.out,H3.out,H4.out,h5,h6,H7.out⟩
theorem aJ.setT {w:World} {pb B M b o:Nat} {p:PS} {C:Array Value} {t:TypeId} {u:Value} (h:aJ w pb B M p) (hb:w.heap[b]? =some (.cells C t (0,0))) (ht: ¬t=9∧¬t=3) (hlt:pb<b):aJ (w.setCell ⟨b,o,none⟩ u) pb B M p:=by
 obtain⟨tv,r,n,h1,h2,h3,h4,h5,h6,h7⟩:=h
 have own {e:TypeId} {v:Value} {k:Nat} {xs:List Value} (ho:w.ownsRow B e 1 v k xs) (he: ¬t=e):(w.setCell ⟨b,o,none⟩ u).ownsRow B e 1 v k xs:=dM ho (fun j hj e'=>by
  subst e'
  rcases ho.2 with ⟨rfl,_⟩|⟨g,cap,cur,rfl,_,hg,_⟩
  ·simp[Value.ownBlock] at hj
  ·have:g=j:=by simpa[Value.ownBlock] using hj
   subst this
   rw[hg] at hb
   injection hb with hb
   injection hb with _ hb _
   exact he hb.symm) o u
 refine⟨tv,r,n,gz h1 (by omega),?_,own h3 ht.1,own h4 ht.2,h5,by simp[World.setCell];omega,h7⟩
 have hk:KP pb pb w (w.setCell ⟨b,o,none⟩ u):=(KP.refl _ _ _).set (.inr (by omega)) _
 exact h2.to dU.ab (hk.below (ae _)) (ae _) (ae _)
theorem aJ.set4 {w:World} {pb B M b:Nat} {p:PS} {C:Array Value} {t:TypeId} {x0 x1 x2 x3:Value} (h:aJ w pb B M p) (hb:w.heap[b]? =some (.cells C t (0,0))) (ht: ¬t=9∧¬t=3) (hlt:pb<b):
 aJ ((((w.setCell ⟨b,0,none⟩ x0).setCell ⟨b,1,none⟩ x1).setCell ⟨b,2,none⟩ x2).setCell ⟨b,3,none⟩ x3) pb B M p:=
 (((h.setT hb ht hlt).setT (ay hb _ _) ht hlt).setT (ay (ay hb _ _) _ _) ht hlt).setT (ay (ay (ay hb _ _) _ _) _ _) ht hlt
def fE (w:World) (pb B M:Nat) (q:PS×bU) (e:Ending) (w':World):Prop:=e= .returned (jA q.2)∧aJ w' pb B M q.1∧KP w.heap.size pb w w'∧dq pb w w'
theorem kF {p:PS} {k:Nat} {l:List ai} (h:p.e≠0∨p.head.kind≠k∨(l≠[]∧p.head.text∉l)):p.take k l=(p.fail 3,⟨0,[],0,0⟩):=by unfold PS.take;rw[if_pos h]
theorem lO {p:PS} {k:Nat} {l:List ai} (h: ¬(p.e≠0∨p.head.kind≠k∨(l≠[]∧p.head.text∉l))):p.take k l=({p with ts:=p.ts.tail},p.head):=by unfold PS.take;rw[if_neg h]
theorem Iw {a b:Nat} (h:a≠b):((a:Int)!=(b:Int))=true:=by simp;omega
theorem Iy {a b:Nat} (h:a=b):((a:Int)!=(b:Int))=false:=by simp;omega
theorem aQ.drop1 {α:Type} {k:Nat} {R:World→Nat→List Value→α→Prop} {w:World} {B b o n c:Nat} {x:α} {xs:List α} (h:aQ k R w B (.slice (some ⟨b,o,none⟩) n c) (x::xs)):aQ k R w B (.slice (some ⟨b,o+k,none⟩) (n - 1) (c - 1)) xs:=by
 obtain⟨A,c',he,h1,h2,h3⟩:=h
 injection he with e1 e2 e3
 subst e1 e3
 simp at e2
 subst e2
 obtain⟨b',o',hA,hb,hc⟩:=h3 (by simp)
 injection hA with hA
 injection hA with hA1 hA2
 subst hA1 hA2
 simp at h1
 refine⟨_,c - 1,by simp,by omega,by omega,fun _=>⟨b,o+k,rfl,hb,fun j y hy=> ?_⟩⟩
 obtain⟨cs,h4,h5,h6⟩:=hc (j+1) y (by simpa using hy)
 refine⟨cs,h4,h5,fun i u hu=> ?_⟩
 have:=h6 i u hu
 rw[Nat.add_mul] at this
 rw[show o+k+j*k+i=o+(j*k+1*k)+i from by omega]
 exact this
theorem aJ.setTs {w:World} {pb B M:Nat} {p:PS} {v:Value} {ts:List bU} (h:aJ w pb B M p) (hs:aQ 4 dU w pb v ts) (hok:PS.Ok {p with ts:=ts} M):aJ (w.setCell ⟨pb,0,none⟩ v) pb B M {p with ts:=ts}:=by
 obtain⟨tv,r,n,h1,h2,h3,h4,h5,h6,h7⟩:=h
 have hk:KP w.heap.size pb w (w.setCell ⟨pb,0,none⟩ v):=(KP.refl _ _ _).set (.inl rfl) _
 exact⟨v,r,n,ay h1 0 _,hs.to dU.ab (hk.below (by omega)) (ae _) (ae _),dM h3 (fun j hj=>by have:=(World.ownsRow.lt h3 j hj).1;omega) _ _,dM h4 (fun j hj=>by have:=(World.ownsRow.lt h4 j hj).1;omega) _ _,h5,by simp[World.setCell];omega,hok⟩
theorem PS.Ok.tail {p:PS} {M:Nat} (h:p.Ok M) (hn:2≤p.ts.length):PS.Ok {p with ts:=p.ts.tail} M:=by
 obtain⟨⟨l,e,h1,h2⟩,h3,h4,h5,h6,h7⟩:=h
 refine⟨?_,by have:=h3;simp;omega,by have:=h4;simp;omega,h5,by have:=h6;simp;omega,fun t ht=>h7.1 t (List.mem_of_mem_tail ht),h7.2⟩
 cases l with
 |nil=>rw[h1] at hn;simp at hn
 |cons a l=>exact⟨l,e,by show p.ts.tail=_;rw[h1];rfl,h2⟩
theorem Iz (pb B M:Nat) (p:PS) (w:World) (k:Nat) (l:List ai) (v:Value) (h:aJ w pb B M p) (hk:k≠0) (hl:aI w w.heap.size v l):
 Calls prog 128 #[ptr pb,.int .i64 k,v] w (fE w pb B M (p.take k l)):=by
 obtain⟨Av,nv,cv,rfl,hln,hcv,hmv⟩:=aL.form hl
 rw[List.length_map] at hln
 have hlq:=hln
 refine py fun HP HN=> ?_
 obtain⟨tv,r,n,h1,h2,h3,h4,h5,h6,h7⟩:=id h
 obtain⟨t,ts,hts,hh,htl⟩:=h7.cons
 obtain⟨tA,tn,tc,rfl,htn,htc,htm⟩:=h2.form
 have hts2:t.kind=k→∃t2 ts2,ts=t2::ts2:=fun e=>by
  cases ts with
  |nil=>exact absurd rfl (htl (by rw[e];exact hk))
  |cons a b=>exact⟨a,b,rfl⟩
 obtain⟨tb,tf,rfl,htb,_⟩:=yZ h2 hts
 rw[hh] at HN
 unfold ptr at HN
 rw[eI] at HN
 have hpw:=blk_lt h1
 have HL:=aa hl
 have H1:=aa h1
 have HH:=aa hh
 have HTS:=aa hts
 have HTL:=aa htl
 have H2:=aa h2
 have H3:=aa h3
 have H4:=aa h4
 have H7:=aa h7
 have hn0:(0:Int)≤nv:=by omega
 clear h hl h1 h2 h3 h4 h7 hh hts htl hln
 by_cases he:p.e=0
 ·have he':((p.e:Int)!=0)=false:=by simp;omega
  by_cases hkk:t.kind=k
  ·obtain⟨t2,ts2,hts2⟩:=hts2 hkk
   have htn2:(2:Int)≤tn∧(1:Int)≤tn∧(0:Int)≤tn∧¬(tn:Int)<1∧¬(tc:Int)<tn:=by
    have:=congrArg List.length HTS.out
    rw[htn,hts2] at this
    simp at this
    omega
   obtain⟨htn1,htn2,htn3,htn4,htn5⟩:=htn2
   have hz0: ¬w.heap.size=pb:=by omega
   have hk':((t.kind:Int)!=(k:Int))=false:=Iy hkk
   by_cases hl0:l=[]
   ·have hnp:nv=0:=by
     rw[hl0] at hlq
     exact hlq.symm
    subst hnp
    have HY:Hid (p.take k l=({p with ts:=p.ts.tail},p.head)):=lO (by rw[HH.out];simp[he,hkk,hl0])
    clear hkk he hl0
    exact za
   ·have hnp:(0:Int)<nv:=by
     have:=List.length_pos_iff.2 hl0
     omega
    by_cases hm:t.text∈l
    ·have hc':decide (t.text∈l)=true:=by simp[hm]
     have HY:Hid (p.take k l=({p with ts:=p.ts.tail},p.head)):=lO (by rw[HH.out];simp[he,hkk,hm])
     clear hkk he hl0 hm
     exact za
    ·have hc':decide (t.text∈l)=false:=by simp[hm]
     have HT:Hid (p.take k l=(p.fail 3,⟨0,[],0,0⟩)):=kF (.inr (.inr ⟨hl0,by rw[HH.out];exact hm⟩))
     clear hkk he hl0 hm
     simp only[ptr]
     go_enter func128,ntmps128
     go_wp2_with first
      |(go_at_call 40;refine(HN.out _ (HP.out.later (ac (B0 w) _))).mono ?_
        rintro e w1 ⟨rfl,hb1⟩
        have hbp:=ah (ah H1.out (ac (B0 w) _)) hb1
        have p0:w1.cell? ⟨pb,0,none⟩=some (.slice (some ⟨tb,tf,none⟩) tn tc):=af hbp rfl
        refine kG fun p1 hpw1=> ?_
        have HBR:=aa (ah (aN w _) hb1)
        have HB1:=aa (ag (ac (B0 w) _) hb1)
        have f0:=aW hbp 0
        have hbr:=HBR.out
        obtain⟨r0,r1,r2,r3⟩:=qS hbr
        obtain⟨q0,q1,q2,q3⟩:=iP hbr
        have hz1:=blk_lt hbr
        have hz2: ¬w.heap.size=w1.heap.size:=by omega
        clear hbp hb1 hbr)
      |(go_at_call 218;refine(oY _ l t.text _ _ ((HL.out.below HB1.out (ae _)).below (ac (B0 w1) _) (by have:=HB1.out.size;omega))).mono ?_;rintro e w2 ⟨rfl,rfl⟩)
     exact zb
  ·have hk':((t.kind:Int)!=(k:Int))=true:=Iw hkk
   have HT:Hid (p.take k l=(p.fail 3,⟨0,[],0,0⟩)):=kF (.inr (.inl (by rw[HH.out];exact hkk)))
   clear hkk
   exact zc
 ·have he':((p.e:Int)!=0)=true:=by simp;omega
  have HT:Hid (p.take k l=(p.fail 3,⟨0,[],0,0⟩)):=kF (.inl he)
  clear he
  exact zc
theorem iY (pb B M:Nat) (p:PS) (w:World) (k:Nat) (ki:Int) (l:List ai) (v:Value) (hi:ki=k) (h:aJ w pb B M p) (hk:k≠0) (hl:aI w w.heap.size v l):
 Calls prog 128 #[ptr pb,.int .i64 ki,v] w (fE w pb B M (p.take k l)):=by
 subst hi
 exact Iz pb B M p w k l v h hk hl
def lP (w:World) (pb B M:Nat) (q:PS×Bool) (e:Ending) (w':World):Prop:=e= .returned (.bool q.2)∧aJ w' pb B M q.1∧KP w.heap.size pb w w'∧dq pb w w'
theorem nG {p:PS} (h:p.e≠0∨p.head.kind≠4∨p.head.text≠[44]):p.comma=(p,false):=by unfold PS.comma;rw[if_pos h]
theorem zd {p:PS} (h: ¬(p.e≠0∨p.head.kind≠4∨p.head.text≠[44])):p.comma=((p.take 4 []).1,true):=by unfold PS.comma;rw[if_neg h]
theorem ze {l k:ai} (h:l=k):((bs l).toList==k)=true:=by subst h;rw[cD,bL];exact beq_self_eq_true l
theorem zf {l k:ai} (h:l≠k):((bs l).toList==k)=false:=by
 cases hc:((bs l).toList==k) with
 |false=>rfl
 |true=>
  have:=eq_of_beq hc
  exact absurd (by rwa [cD,bL] at this) h
theorem sI (pb B M:Nat) (p:PS) (w:World) (h:aJ w pb B M p):
 Calls prog 288 #[ptr pb] w (lP w pb B M p.comma):=by
 refine py fun HP HN=> ?_
 have HT:=aa (fun W (hW:aJ W pb B M p)=>iY pb B M p W 4 4 [] (.slice none 0 0) rfl hW (by decide) (aI.nil_ _ _))
 obtain⟨tv,r,n,h1,h2,h3,h4,h5,h6,h7⟩:=id h
 obtain⟨t,ts,hts,hh,htl⟩:=h7.cons
 rw[hh] at HN
 unfold ptr at HN HT
 rw[eI] at HN
 have hpw:=blk_lt h1
 have H1:=aa h1
 have HH:=aa hh
 clear h h1 h2 h3 h4 h7 hh hts htl
 by_cases he:p.e=0
 ·have he':((p.e:Int)!=0)=false:=by simp;omega
  by_cases hk:t.kind=4
  ·have hk':((t.kind:Int)!=4)=false:=by simp;omega
   by_cases ht:t.text=[44]
   ·have ht':((bs t.text).toList==[44])=true:=ze ht
    have HC:Hid (p.comma=((p.take 4 []).1,true)):=zd (by rw[HH.out];simp[he,hk,ht])
    clear he hk ht
    simp only[ptr]
    go_enter func288,ntmps288
    go_wp2_with first
     |(go_at_call 40;refine(HN.out _ HP.out).mono ?_
       rintro e w1 ⟨rfl,hb1⟩
       have hbp:=ah H1.out hb1
       refine kG fun p1 hpw1=> ?_
       have HB1:=aa hb1
       clear hbp hb1)
     |(go_at_call 128;refine(HT.out _ ((HP.out.later HB1.out).later (ac (B0 w1) _))).mono ?_
       unfold fE
       rintro e w2 ⟨rfl,hP2,hK2,hD2⟩
       have HP2:=aa hP2;have HK2:=aa hK2;have HD2:=aa hD2
       clear hP2 hK2 hD2)
    go_ret
    rw[HC.out]
    exact⟨rfl,HP2.out,((KP.of_below HB1.out (ae _) HB1.out.size).alloc (ae _) _).trans (HK2.out.mono (by have:=HB1.out.size;simp;omega)),((dq.of_below HB1.out hpw).trans (dq.of_below (ac (B0 w1) _) hpw1)).trans HD2.out⟩
   ·have ht':((bs t.text).toList==[44])=false:=zf ht
    have HC:Hid (p.comma=(p,false)):=nG (.inr (.inr (by rw[HH.out];exact ht)))
    exact sJ
  ·have hk':((t.kind:Int)!=4)=true:=by simp;omega
   have HC:Hid (p.comma=(p,false)):=nG (.inr (.inl (by rw[HH.out];exact hk)))
   exact sJ
 ·have he':((p.e:Int)!=0)=true:=by simp;omega
  have HC:Hid (p.comma=(p,false)):=nG (.inl he)
  exact sJ
theorem zg (a b c d:Value) (w:World):Sem.run prog (Instr.field 91 (.agg #[a,b,c,d]) 0) w= .ok a w:=by kernel_rfl
theorem pz (a b c d:Value) (w:World):Sem.run prog (Instr.field 91 (.agg #[a,b,c,d]) 1) w= .ok b w:=by kernel_rfl
theorem IA (a b c d:Value) (w:World):Sem.run prog (Instr.field 91 (.agg #[a,b,c,d]) 2) w= .ok c w:=by kernel_rfl
def fM (w:World) (pb B M:Nat) (q:PS) (e:Ending) (w':World):Prop:=e= .returned (.tuple #[])∧aJ w' pb B (M+1) q∧(q.e=0→q.Ok M)∧KP B pb w w'
theorem aJ.okM {w:World} {pb B M M':Nat} {p:PS} (h:aJ w pb B M p) (hk:p.Ok M'):aJ w pb B M' p:=by
 obtain⟨t,r,n,h1,h2,h3,h4,h5,h6,h7⟩:=h
 exact⟨t,r,n,h1,h2,h3,h4,h5,h6,hk⟩
theorem aJ.ok {w:World} {pb B M:Nat} {p:PS} (h:aJ w pb B M p):p.Ok M:=by
 obtain⟨t,r,n,h1,h2,h3,h4,h5,h6,h7⟩:=h
 exact h7
theorem aJ.size {w:World} {pb B M:Nat} {p:PS} (h:aJ w pb B M p):pb<B∧B≤w.heap.size:=by
 obtain⟨t,r,n,h1,h2,h3,h4,h5,h6,h7⟩:=h
 exact⟨h5,h6⟩
theorem PS.Ok.more {p:PS} {M M':Nat} (h:p.Ok M) (hM:M≤M'):p.Ok M':=⟨h.last,aP h.toks hM,aP h.nums hM,h.e,by have:=h.by_;omega,h.n⟩
theorem aJ.setD {w:World} {pb B M:Nat} {p q:PS} (h:aJ w pb B M p) {o:Nat} {u:Value} (hts:q.ts=p.ts) (hr:q.d.refs=p.d.refs) (hn:q.d.nums=p.d.nums) (hc: ∀t r n,(sH p t r n).setIfInBounds o u=sH q t r n) (hok:q.Ok M):aJ (w.setCell ⟨pb,o,none⟩ u) pb B M q:=by
 obtain⟨t,r,n,h1,h2,h3,h4,h5,h6,h7⟩:=h
 have hk:KP w.heap.size pb w (w.setCell ⟨pb,o,none⟩ u):=(KP.refl _ _ _).set (.inl rfl) _
 refine⟨t,r,n,?_,?_,?_,?_,h5,by simp[World.setCell];omega,hok⟩
 ·rw[←hc];exact ay h1 o _
 ·rw[hts];exact h2.to dU.ab (hk.below (by omega)) (ae _) (ae _)
 ·rw[hr];exact dM h3 (fun j hj=>by have:=(World.ownsRow.lt h3 j hj).1;omega) _ _
 ·rw[hn];exact dM h4 (fun j hj=>by have:=(World.ownsRow.lt h4 j hj).1;omega) _ _
theorem aJ.cells {w:World} {pb B M:Nat} {p:PS} (h:aJ w pb B M p):pb<w.heap.size∧(∀o,w.frozen? ⟨pb,o,none⟩=false)∧w.cell? ⟨pb,1,none⟩=some (.int .i64 p.e)∧w.cell? ⟨pb,2,none⟩=some (.int .i64 p.d.kind)∧w.cell? ⟨pb,3,none⟩=some (.string (bs p.d.name))∧w.cell? ⟨pb,6,none⟩=some (.int .i64 p.d.by_)∧w.cell? ⟨pb,7,none⟩=some (.bool p.d.always):=by
 obtain⟨t,r,n,h1,h2,h3,h4,h5,h6,h7⟩:=h
 exact⟨blk_lt h1,aW h1,af h1 rfl,af h1 rfl,af h1 rfl,af h1 rfl,af h1 rfl⟩
theorem aI.of_new {w:World} (l:List ai) {t:TypeId} {C:Array Value} {n c:Nat} {W:World} (hW:W=w.alloc (.cells C t)) (hC:C=(l.map fun s=>Value.string (bs s)).toArray) (hn:n=l.length) (hc:c=l.length) (hm:l.length≤1000):aI W W.heap.size (.slice (some ⟨w.heap.size,0,none⟩) n c) l:=by
 subst hW hn hc hC
 refine⟨_,l.length,by simp,by simp,by simp[maxLen];omega,fun _=>⟨w.heap.size,0,rfl,by simp,fun j u hj=> ?_⟩⟩
 rw[Nat.zero_add]
 refine af (aN w _) ?_
 simpa using hj
theorem PS.Ok.dname {p:PS} {M:Nat} (h:p.Ok M) (s:ai):PS.Ok {p with d:={p.d with name:=s}} M:=⟨h.last,h.toks,h.nums,h.e,h.by_,h.n⟩
theorem IB (pb B M:Nat) (p:PS) (w:World) (h:aJ w pb B M p):
 Calls prog 212 #[ptr pb] w (fM w pb B M p.name):=by
 have HT:=aa (iY pb B M p w 1 1 [] (.slice none 0 0) rfl h (by decide) (aI.nil_ _ _))
 have hsz:=h.size
 have HQ:Hid (p.name={(p.take 1 []).1 with d:={(p.take 1 []).1.d with name:=(p.take 1 []).2.text}}):=rfl
 clear h
 generalize p.take 1 []=q at HT HQ
 generalize p.name=p' at HQ
 obtain⟨q,t⟩:=q
 have hfd:=fun a b c d w=>pz a b c d w
 unfold ptr at HT
 simp only[ptr]
 go_enter func212,ntmps212
 go_wp2_with(go_at_call 128;refine(HT.out).mono ?_
             unfold fE
             rintro e w2 ⟨rfl,hP2,hK2,hD2⟩
             obtain⟨hp2,hf2,c1,c2,c3,c6,c7⟩:=hP2.cells
             have f3:=hf2 3
             have HP2:=aa hP2;have HK2:=aa hK2;have HD2:=aa hD2
             clear hP2 hK2 hD2 hf2
             simp only[eI])
 go_end0
 have hP:=HP2.out
 have hq:p'={q with d:={q.d with name:=t.text}}:=HQ.out
 subst hq
 have hQ:aJ (w2.setCell ⟨pb,3,none⟩ (.string (bs t.text))) pb B M {q with d:={q.d with name:=t.text}}:=hP.setD rfl rfl rfl (fun _ _ _=>rfl) (hP.ok.dname _)
 exact⟨rfl,hQ.more (Nat.le_succ M),fun _=>hP.ok.dname _,(HK2.out.mono hsz.2).set (.inl rfl) _⟩
theorem IC (pb:Nat) (s:ai) (w:World):
 Calls prog 210 #[ptr pb,.string (bs s)] w fun e w'=>e= .returned (az 287 #[ptr w.heap.size,ptr (w.heap.size+1)])∧w'=(w.alloc (.cells #[ptr pb] 85)).alloc (.cells #[.string (bs s)] 9):=by
 simp only[az,ptr]
 go_enter func210,ntmps210
 go_wp2_with fail
 go_ret
 simp
theorem ID (pb B M:Nat) (p:PS) (s:ai) (b1 b2:Nat) (w:World) (h:aJ w pb B M p) (h1:w.cell? ⟨b1,0,none⟩=some (ptr pb)) (h2:w.cell? ⟨b2,0,none⟩=some (.string (bs s))):
 Calls prog 287 #[ptr b1,ptr b2] w (fM w pb B M (p.part (.word s))):=by
 have hsz:=h.size
 have HQ:Hid (p.part (.word s)=(p.take 2 [s]).1):=rfl
 have HP:=aa h
 have HT:=aa (fun W v (hW:aJ W pb B M p) (hv:aI W W.heap.size v [s])=>iY pb B M p W 2 2 [s] v rfl hW (by decide) hv)
 clear h
 generalize p.take 2 [s]=q at HT HQ
 generalize p.part (.word s)=p' at HQ
 obtain⟨q,t⟩:=q
 unfold ptr at HT h1
 simp only[ptr]
 go_enter func287,ntmps287
 go_wp2_with(go_at_call 128;refine(HT.out _ _ (HP.out.later (ac (B0 w) _)) (aI.of_new [s] rfl rfl rfl rfl (by simp))).mono ?_
             unfold fE
             rintro e w2 ⟨rfl,hP2,hK2,hD2⟩
             have HP2:=aa hP2;have HK2:=aa hK2;have HD2:=aa hD2
             clear hP2 hK2 hD2)
 go_end0
 have hP:=HP2.out
 have hq:p'=q:=HQ.out
 subst hq
 exact⟨rfl,hP.more (Nat.le_succ M),fun _=>hP.ok,(KP.of_below (ac (B0 w) _) hsz.2 (by simp)).trans (HK2.out.mono (by simp;omega))⟩
end
section
open Go Go.RowKit Go.MapKept Tryz
theorem iZ {s:ByteArray}:IsKey .string (.string s):=trivial
def ie (l:List (ai×Int)):List (Value×Value):=l.map fun x=>(Value.string (bs x.1),Value.int .i64 x.2)
theorem kI {l:List (ai×Int)} {k:ai} (h:k∉l.map (·.1)): ∀p∈ie l,IsKey .string p.1∧p.1≠ .string (bs k):=fun p hp=>by
 obtain⟨x,hx,rfl⟩:=List.mem_map.1 hp
 refine⟨iZ,fun e=>h ?_⟩
 injection e with e
 exact List.mem_map.2 ⟨x,hx,ng e⟩
theorem zh: ∀{l:List (ai×Int)},(l.map (·.1)).Nodup→∀{x y:ai×Int},x∈l→y∈l→x.1=y.1→x=y
 |[],_,_,_,h,_,_=>by simp at h
 |a::l,hn,x,y,hx,hy,e=>by
  rw[List.map_cons,List.nodup_cons] at hn
  rcases List.mem_cons.1 hx with rfl|hx'<;>rcases List.mem_cons.1 hy with rfl|hy'
  ·rfl
  ·exact absurd (List.mem_map.2 ⟨y,hy',e.symm⟩) hn.1
  ·exact absurd (List.mem_map.2 ⟨x,hx',e⟩) hn.1
  ·exact zh hn.2 hx' hy' e
theorem zi {w:World} {b:Nat} {l:List (ai×Int)} (hn:(l.map (·.1)).Nodup) (h:bG w b (ie l)) (s:ai):
 (Instr.lookup 220 (.map (some b)) (.string (bs s)) false).run prog w= .ok (.int .i64 ((l.lookup s).getD 0)) w:=by
 by_cases hs:s∈l.map (·.1)
 ·obtain⟨x,hx,rfl⟩:=List.mem_map.1 hs
  have hl:l.lookup x.1=some x.2:=by
   clear h hs
   induction l with
   |nil=>simp at hx
   |cons a l ih=>
    simp at hn
    rcases List.mem_cons.1 hx with rfl|hx
    ·simp[List.lookup]
    ·have:(x.1==a.1)=false:=by
      rw[beq_eq_false_iff_ne]
      intro e
      exact hn.1 x.2 (by rw[←e];exact hx)
     simp[List.lookup,this]
     exact ih hn.2 hx
  have:=mN underlying220 underlying9 h (key:= .string (bs x.1)) (v:= .int .i64 x.2) false iZ (fun p hp=>by
   obtain⟨y,hy,rfl⟩:=List.mem_map.1 hp
   exact iZ) (fun p hp e=>by
   obtain⟨y,hy,rfl⟩:=List.mem_map.1 hp
   injection e with e
   have e:=ng e
   have:=zh hn hx hy e.symm
   rw[this]) ⟨_,List.mem_map.2 ⟨x,hx,rfl⟩,rfl⟩
  rw[this,hl]
  rfl
 ·have hl:l.lookup s=none:=by
   clear h hn
   induction l with
   |nil=>rfl
   |cons a l ih=>
    simp only[List.map_cons,List.mem_cons,not_or] at hs
    have:(s==a.1)=false:=beq_eq_false_iff_ne.2 hs.1
    simp only[List.lookup,this]
    exact ih hs.2
  have:=mO underlying220 underlying9 h (key:= .string (bs s)) (z:= .int .i64 0) false iZ (kI hs) (by kernel_rfl)
  rw[this,hl]
  rfl
theorem IE (s:ai):((([(bV,2),(ca,3),(dg,4)]:List (ai×Int)).lookup s).getD 0)=(fQ s:Nat):=by
 unfold fQ
 by_cases h1:s=bV
 ·subst h1;rfl
 by_cases h2:s=ca
 ·subst h2;rfl
 by_cases h3:s=dg
 ·subst h3;rfl
 have e1:=beq_eq_false_iff_ne.2 h1
 have e2:=beq_eq_false_iff_ne.2 h2
 have e3:=beq_eq_false_iff_ne.2 h3
 simp[List.lookup,e1,e2,e3,h1,h2,h3]
theorem IF (s:ai):fQ s≤4:=by
 unfold fQ
 split<;>(try split)<;>(try split)<;>omega
theorem IG {p:PS} {M:Nat} (hp:p.Ok M) (hq:(p.take 2 [bV,ca,dg]).1.Ok M):PS.Ok {(p.take 2 [bV,ca,dg]).1 with d:={(p.take 2 [bV,ca,dg]).1.d with by_:=fQ (p.take 2 [bV,ca,dg]).2.text}} M:=by
 refine⟨hq.last,hq.toks,hq.nums,hq.e,?_,hq.n⟩
 have ht:=hq.toks
 have hpt:=hp.toks
 by_cases hc:p.e≠0∨p.head.kind≠2∨(([bV,ca,dg]:List ai)≠[]∧p.head.text∉[bV,ca,dg])
 ·rw[kF hc] at ht⊢
  have:fQ ([]:ai)=0:=rfl
  simp only[this]
  dsimp only at ht⊢
  omega
 ·rw[lO hc]
  have:=IF p.head.text
  obtain⟨a,l,h1,h2,h3⟩:=hp.cons
  simp only[h1,List.tail_cons]
  rw[h1] at hpt
  simp at hpt
  omega
theorem IH (pb B M:Nat) (p:PS) (w:World) (h:aJ w pb B M p):
 Calls prog 217 #[ptr pb] w (fM w pb B M p.domain):=by
 have hsz:=h.size
 have hp0:=h.ok
 have HP:=aa h
 have HT:=aa (fun W v (hW:aJ W pb B M p) (hv:aI W W.heap.size v [bV,ca,dg])=>iY pb B M p W 2 2 [bV,ca,dg] v rfl hW (by decide) hv)
 have HQ:Hid (p.domain={(p.take 2 [bV,ca,dg]).1 with d:={(p.take 2 [bV,ca,dg]).1.d with by_:=fQ (p.take 2 [bV,ca,dg]).2.text}}):=rfl
 clear h
 have hok2:=aa (fun hq=>IG (p:=p) (M:=M) hp0 hq)
 generalize p.take 2 [bV,ca,dg]=q at HT HQ hok2
 generalize p.domain=p' at HQ
 obtain⟨q,t⟩:=q
 have hfd:=fun a b c d w=>pz a b c d w
 unfold ptr at HT
 simp only[ptr]
 go_enter func217,ntmps217
 refine fU fun hmm=> ?_
 go_wp2_with first
             |(refine gS _ rfl (.tmp 3) (.const (.string ⟨#[114,97,99,107]⟩)) (.const (.int .i64 2)) 220 (.inr rfl) 9 3 .string underlying220 underlying9 w.heap.size (ie []) rfl (bG.made w) (.string (bs bV)) (.int .i64 2) rfl rfl iZ (kI (by decide)) ?_
               intro w1 hL1 hT1)
             |(refine gS _ rfl (.tmp 3) (.const (.string ⟨#[102,101,101,100]⟩)) (.const (.int .i64 3)) 220 (.inr rfl) 9 3 .string underlying220 underlying9 w.heap.size (ie [(bV,2)]) rfl hL1 (.string (bs ca)) (.int .i64 3) rfl rfl iZ (kI (by decide)) ?_
               intro w2 hL2 hT2)
             |(refine gS _ rfl (.tmp 3) (.const (.string ⟨#[115,105,116,101]⟩)) (.const (.int .i64 4)) 220 (.inr rfl) 9 3 .string underlying220 underlying9 w.heap.size (ie [(bV,2),(ca,3)]) rfl hL2 (.string (bs dg)) (.int .i64 4) rfl rfl iZ (kI (by decide)) ?_
               intro w3 hL3 hT3
               have HB3:=aa (hT3.1 _ _ (hT2.1 _ _ (hT1.1 _ _ (ac (B0 w) _) (ae _)) (ae _)) (ae _))
               have HL3:=aa hL3
               clear hL1 hT1 hL2 hT2 hL3 hT3)
             |(go_at_call 128;refine(HT.out _ _ (HP.out.later (ac HB3.out _)) (aI.of_new [bV,ca,dg] rfl rfl rfl rfl (by simp))).mono ?_
               unfold fE
               rintro e w4 ⟨rfl,hP2,hK2,hD2⟩
               obtain⟨hp4,hf4,c1,c2,c3,c6,c7⟩:=hP2.cells
               have f6:=hf4 6
               have hl4:=hK2.blk (HL3.out.later (ac (B0 w3) _)) (by have:=HL3.out.lt;simp;omega) (by omega)
               have hlk:=zi (w:=w4) (l:=[(bV,2),(ca,3),(dg,4)]) (by decide) hl4 t.text
               have HP2:=aa hP2;have HK2:=aa hK2;have HD2:=aa hD2
               clear hP2 hK2 hD2 hf4 hl4
               simp only[eI])
 go_end0
 have hP:=HP2.out
 have hq:p'={q with d:={q.d with by_:=fQ t.text}}:=HQ.out
 subst hq
 have hv:((([(bV,2),(ca,3),(dg,4)]:List (ai×Int)).lookup t.text).getD 0)=(fQ t.text:Nat):=IE t.text
 rw[hv]
 have hok:PS.Ok {q with d:={q.d with by_:=fQ t.text}} M:=hok2.out hP.ok
 have hQ:aJ (w4.setCell ⟨pb,6,none⟩ (.int .i64 (fQ t.text:Nat))) pb B M {q with d:={q.d with by_:=fQ t.text}}:=hP.setD rfl rfl rfl (fun _ _ _=>rfl) hok
 exact⟨rfl,hQ.more (Nat.le_succ M),fun _=>hok,(((KP.of_below HB3.out hsz.2 HB3.out.size).alloc hsz.2 _).trans (HK2.out.mono (by have:=HB3.out.size;simp;omega))).set (.inl rfl) _⟩
end
section
open Go Go.RowKit Tryz
theorem PS.Ok.fail {p:PS} {M k:Nat} (h:p.Ok M) (hk:k≤8):(p.fail k).Ok M:=by
 unfold PS.fail
 split
 ·exact⟨h.last,h.toks,h.nums,hk,h.by_,h.n⟩
 ·exact h
theorem PS.fail_e (p:PS) {k:Nat} (hk:k≠0):(p.fail k).e≠0:=by
 unfold PS.fail
 split
 ·exact hk
 ·assumption
theorem sK {p:PS} {M k:Nat} {l:List ai} (h:p.Ok M) (hk:k≠0):(p.take k l).1.Ok M∧(p.take k l).2.n≤2000000∧((p.take k l).1.e=0→(p.take k l).1.ts.length+1=p.ts.length∧(p.take k l).1.d=p.d)∧(p.take k l).1.d=p.d:=by
 by_cases hc:p.e≠0∨p.head.kind≠k∨(l≠[]∧p.head.text∉l)
 ·rw[kF hc]
  refine⟨h.fail (by omega),by simp,fun he=>absurd he (p.fail_e (by omega)),?_⟩
  dsimp only
  unfold PS.fail
  split<;>rfl
 ·rw[lO hc]
  obtain⟨t,r,h1,h2,h3⟩:=h.cons
  have hkk:p.head.kind=k:=by
   apply Classical.byContradiction
   intro hn
   exact hc (.inr (.inl hn))
  have hr:r≠[]:=h3 (by rw[←h2,hkk];exact hk)
  have hlen:2≤p.ts.length:=by
   rw[h1]
   cases r with
   |nil=>exact absurd rfl hr
   |cons a b=>simp
  exact⟨h.tail hlen,h.n.1 _ (by rw[h2,h1];simp),fun _=>⟨by simp;omega,rfl⟩,rfl⟩
theorem zj {w w':World} {base e e2:Nat} {v v2:Value} {n n2:Nat} {xs xs2:List Value} (h:w.ownsRow base e 1 v n xs) (h2:w.ownsRow base e2 1 v2 n2 xs2) (he: ¬e2=e) (hg:w.grownBy w' v.ownBlock):w'.ownsRow base e2 1 v2 n2 xs2:=by
 refine⟨h2.1,?_⟩
 rcases h2.2 with hn|⟨g,cap,cur,h3,h4,h5,h6⟩
 ·exact .inl hn
 ·refine .inr ⟨g,cap,cur,h3,h4,eD h5 hg (fun k hk e'=> ?_),h6⟩
  subst e'
  rcases h.2 with ⟨rfl,_⟩|⟨g',cap',cur',rfl,_,hg',_⟩
  ·simp[Value.ownBlock] at hk
  ·have:g'=g:=by simpa[Value.ownBlock] using hk
   subst this
   rw[h5] at hg'
   injection hg' with hg'
   injection hg' with _ hb _
   exact he hb
theorem II {p:PS} {M:Nat} (h:p.Ok M):p.ref.Ok (M+1)∧(p.ref.e=0→p.ref.Ok M):=by
 obtain⟨h1,h2,h3,h4⟩:=sK (k:=1) (l:=[]) h (by decide)
 refine⟨⟨h1.last,?_,Nat.le_succ_of_le h1.nums,h1.e,aP h1.by_ (by omega),h1.n⟩,fun he=>⟨h1.last,?_,h1.nums,h1.e,h1.by_,h1.n⟩⟩
 ·have:=h1.toks;simp[PS.ref];omega
 ·have h5:=h3 he
  have:=h.toks
  have h6:=h5.2
  simp[PS.ref,h6];omega
theorem IJ {p:PS} {M:Nat} (h:p.Ok M):p.number.Ok (M+1)∧(p.number.e=0→p.number.Ok M):=by
 obtain⟨h1,h2,h3,h4⟩:=sK (k:=3) (l:=[]) h (by decide)
 have hn: ∀k∈p.number.d.nums,k≤2000000:=fun k hk=>by
  simp only[PS.number,List.mem_append,List.mem_singleton] at hk
  rcases hk with hk|rfl
  ·exact h1.n.2 k hk
  ·exact h2
 refine⟨⟨h1.last,Nat.le_succ_of_le h1.toks,?_,h1.e,aP h1.by_ (by omega),h1.n.1,hn⟩,fun he=>⟨h1.last,h1.toks,?_,h1.e,h1.by_,h1.n.1,hn⟩⟩
 ·have:=h1.nums;simp[PS.number];omega
 ·have h5:=h3 he
  have:=h.nums
  have h6:=h5.2
  simp[PS.number,h6];omega
theorem zk (pb B M:Nat) (p:PS) (w:World) (hM:M≤1000000) (h:aJ w pb B M p):
 Calls prog 213 #[ptr pb] w (fM w pb B M p.ref):=by
 refine nH fun i0 hi hz0 hz1 hz2=> ?_
 have HP:=aa h
 have HT:=aa (fun W (hW:aJ W pb B M p)=>iY pb B M p W 1 1 [] (.slice none 0 0) rfl hW (by decide) (aI.nil_ _ _))
 have hsz:=h.size
 have hok:=II h.ok
 have HQ:Hid (p.ref={(p.take 1 []).1 with d:={(p.take 1 []).1.d with refs:=(p.take 1 []).1.d.refs++[(p.take 1 []).2.text]}}):=rfl
 obtain⟨tv,r,n,h1,h2,h3,h4,h5,h6,h7⟩:=id h
 have hpw:=blk_lt h1
 have p4:w.cell? ⟨pb,4,none⟩=some r:=af h1 rfl
 have hfd:=fun a b c d w=>pz a b c d w
 clear h h1 h2 h3 h4 h5 h6 h7
 generalize p.take 1 []=q at HT HQ
 generalize p.ref=p' at HQ hok
 obtain⟨q,t⟩:=q
 have HOK:=aa hok
 clear hok
 unfold ptr at HT
 simp only[ptr]
 go_enter func213,ntmps213
 go_wp2_with fail
 refine bA 15 ?_
 iterate 5 refine gA 15 2 ?_
 refine dG 6 8 ?_
 refine wpAny_ready (rs:=[5,7]) (by kernel_rfl) (by simp) ?_
 refine AllReady.cons rfl (fun K hK=> ?_) (AllReady.cons rfl (fun K hK=> ?_) AllReady.nil)
 ·go_simp
  refine hK _ _ ?_
  clear hK K
  refine ak ?_
  refine cA 7 fun K hK=> ?_
  go_simp
  refine(HT.out _ (HP.out.later (au (B0 w)))).mono ?_
  unfold fE
  rintro e w2 ⟨rfl,hP2,hK2,hD2⟩
  have hq:=hP2.ok
  obtain⟨tv2,r2,n2,g1,g2,g3,g4,g5,g6,g7⟩:=hP2
  have c4:w2.cell? ⟨pb,4,none⟩=some r:=(hD2 4 (by decide)).trans p4
  have e4:r2=r:=by
   have hc:w2.cell? ⟨pb,4,none⟩=some r2:=af g1 rfl
   rw[c4] at hc
   injection hc with hc
   exact hc.symm
  subst e4
  have hp2:=blk_lt g1
  have hown:=g3
  have hne:r2.ownBlock≠some pb:=fun e=>by have:=(World.ownsRow.lt hown pb e).1;omega
  refine pA fun G=> ?_
  have hlen:q.d.refs.length≤M:=by
   have h1:=hq.toks
   dsimp only at h1
   omega
  clear hq hD2 hK2 g1 g2 g3 g4 g7
  simp only[eI]
  try go_simp
  refine hK _ _ ?_
  clear hK K
  refine ak ?_
  refine dG 8 10 ?_
  refine cA 9 fun K hK=> ?_
  exact sL
 ·go_simp
  refine(HT.out _ (HP.out.later (au (B0 w)))).mono ?_
  unfold fE
  rintro e w2 ⟨rfl,hP2,hK2,hD2⟩
  have hq:=hP2.ok
  obtain⟨tv2,r2,n2,g1,g2,g3,g4,g5,g6,g7⟩:=hP2
  have c4:w2.cell? ⟨pb,4,none⟩=some r:=(hD2 4 (by decide)).trans p4
  have e4:r2=r:=by
   have hc:w2.cell? ⟨pb,4,none⟩=some r2:=af g1 rfl
   rw[c4] at hc
   injection hc with hc
   exact hc.symm
  subst e4
  have hp2:=blk_lt g1
  have hown:=g3
  have hne:r2.ownBlock≠some pb:=fun e=>by have:=(World.ownsRow.lt hown pb e).1;omega
  refine pA fun G=> ?_
  have hlen:q.d.refs.length≤M:=by
   have h1:=hq.toks
   dsimp only at h1
   omega
  clear hq hD2 hK2 g1 g2 g3 g4 g7
  simp only[eI]
  try go_simp
  refine hK _ _ ?_
  clear hK K
  refine ak ?_
  refine dG 8 10 ?_
  refine wpAny_ready (rs:=[5,9]) (by kernel_rfl) (by simp) ?_
  refine AllReady.cons rfl (fun K hK=> ?_) (AllReady.cons rfl (fun K hK=> ?_) AllReady.nil)
  ·go_simp
   refine hK _ _ ?_
   clear hK K
   refine ak ?_
   refine cA 9 fun K hK=> ?_
   exact sL
  ·go_simp
   refine hK _ _ ?_
   clear hK K
   refine ak ?_
   refine cA 5 fun K hK=> ?_
   exact sL
theorem IK (pb B M:Nat) (p:PS) (w:World) (hM:M≤1000000) (h:aJ w pb B M p):
 Calls prog 211 #[ptr pb] w (fM w pb B M p.number):=by
 refine mL fun i0 hi hz0 hz1 hz2=> ?_
 have HP:=aa h
 have HT:=aa (fun W (hW:aJ W pb B M p)=>iY pb B M p W 3 3 [] (.slice none 0 0) rfl hW (by decide) (aI.nil_ _ _))
 have hsz:=h.size
 have hok:=IJ h.ok
 have HQ:Hid (p.number={(p.take 3 []).1 with d:={(p.take 3 []).1.d with nums:=(p.take 3 []).1.d.nums++[(p.take 3 []).2.n]}}):=rfl
 obtain⟨tv,r,n,h1,h2,h3,h4,h5,h6,h7⟩:=id h
 have hpw:=blk_lt h1
 have p4:w.cell? ⟨pb,5,none⟩=some n:=af h1 rfl
 have hfd:=fun a b c d w=>IA a b c d w
 clear h h1 h2 h3 h4 h5 h6 h7
 generalize p.take 3 []=q at HT HQ
 generalize p.number=p' at HQ hok
 obtain⟨q,t⟩:=q
 have HOK:=aa hok
 clear hok
 unfold ptr at HT
 simp only[ptr]
 go_enter func211,ntmps211
 go_wp2_with fail
 refine bA 15 ?_
 iterate 5 refine gA 15 2 ?_
 refine dG 6 8 ?_
 refine wpAny_ready (rs:=[5,7]) (by kernel_rfl) (by simp) ?_
 refine AllReady.cons rfl (fun K hK=> ?_) (AllReady.cons rfl (fun K hK=> ?_) AllReady.nil)
 ·go_simp
  refine hK _ _ ?_
  clear hK K
  refine ak ?_
  refine cA 7 fun K hK=> ?_
  go_simp
  refine(HT.out _ (HP.out.later (au (B0 w)))).mono ?_
  unfold fE
  rintro e w2 ⟨rfl,hP2,hK2,hD2⟩
  have hq:=hP2.ok
  obtain⟨tv2,r2,n2,g1,g2,g3,g4,g5,g6,g7⟩:=hP2
  have c4:w2.cell? ⟨pb,5,none⟩=some n:=(hD2 5 (by decide)).trans p4
  have e4:n2=n:=by
   have hc:w2.cell? ⟨pb,5,none⟩=some n2:=af g1 rfl
   rw[c4] at hc
   injection hc with hc
   exact hc.symm
  subst e4
  have hp2:=blk_lt g1
  have hown:=g4
  have hne:n2.ownBlock≠some pb:=fun e=>by have:=(World.ownsRow.lt hown pb e).1;omega
  refine pA fun G=> ?_
  have hlen:q.d.nums.length≤M:=by
   have h1:=hq.nums
   dsimp only at h1
   omega
  clear hq hD2 hK2 g1 g2 g3 g4 g7
  simp only[eI]
  try go_simp
  refine hK _ _ ?_
  clear hK K
  refine ak ?_
  refine dG 8 10 ?_
  refine cA 9 fun K hK=> ?_
  exact sM
 ·go_simp
  refine(HT.out _ (HP.out.later (au (B0 w)))).mono ?_
  unfold fE
  rintro e w2 ⟨rfl,hP2,hK2,hD2⟩
  have hq:=hP2.ok
  obtain⟨tv2,r2,n2,g1,g2,g3,g4,g5,g6,g7⟩:=hP2
  have c4:w2.cell? ⟨pb,5,none⟩=some n:=(hD2 5 (by decide)).trans p4
  have e4:n2=n:=by
   have hc:w2.cell? ⟨pb,5,none⟩=some n2:=af g1 rfl
   rw[c4] at hc
   injection hc with hc
   exact hc.symm
  subst e4
  have hp2:=blk_lt g1
  have hown:=g4
  have hne:n2.ownBlock≠some pb:=fun e=>by have:=(World.ownsRow.lt hown pb e).1;omega
  refine pA fun G=> ?_
  have hlen:q.d.nums.length≤M:=by
   have h1:=hq.nums
   dsimp only at h1
   omega
  clear hq hD2 hK2 g1 g2 g3 g4 g7
  simp only[eI]
  try go_simp
  refine hK _ _ ?_
  clear hK K
  refine ak ?_
  refine dG 8 10 ?_
  refine wpAny_ready (rs:=[5,9]) (by kernel_rfl) (by simp) ?_
  refine AllReady.cons rfl (fun K hK=> ?_) (AllReady.cons rfl (fun K hK=> ?_) AllReady.nil)
  ·go_simp
   refine hK _ _ ?_
   clear hK K
   refine ak ?_
   refine cA 9 fun K hK=> ?_
   exact sM
  ·go_simp
   refine hK _ _ ?_
   clear hK K
   refine ak ?_
   refine cA 5 fun K hK=> ?_
   exact sM
end
end Go.Proofs.YthnkonlbfogkgaaGreatDoor
