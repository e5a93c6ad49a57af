/- A part of the proof. -/
import Derived.Test.YthnkonlbfogkgaaGreatDoorQbk
set_option linter.unusedVariables false
set_option linter.unusedSimpArgs false
set_option maxRecDepth 100000
set_option maxHeartbeats 32000000
namespace Go.Proofs.YthnkonlbfogkgaaGreatDoor
section
open Go Go.RowKit Tryz
def iA (t:bU) (r:ai×List du):Bool:=decide (t.kind=2)&&decide (r.1=t.text)
theorem zq (t:bU) (r:ai):((((t.kind:Int)==2)&&((bs r).toList==(bs t.text).toList)))=(decide (t.kind=2)&&decide (r=t.text)):=by
 rw[cD,cD,bL,bL]
 congr 1
 ·rw[Bool.eq_iff_iff];simp;omega
 ·rw[Bool.eq_iff_iff];simp
theorem I5 (r:ai×List du) (cs:List Value) (t:bU) (b B:Nat) (w:World) (hc:fZ w B cs r) (h0:w.cell? ⟨b,0,none⟩=some (.int .i64 t.kind)) (h1:w.cell? ⟨b,1,none⟩=some (.string (bs t.text))) (hb:b<w.heap.size):
 am 125 #[.agg cs.toArray,ptr b] w (.bool (iA t r)):=by
 obtain⟨k,pb2,n,c,rfl⟩:=hc
 have hr:=zq t r.1
 unfold iA
 rw[←hr]
 have hbn: ¬b=w.heap.size:=by omega
 clear hr
 simp only[ptr]
 by_cases hk:((t.kind:Int)==2)=true
 ·go_enter func125,ntmps125
  go_wp2_with fail
  go_ret
  exact⟨by simp[hk],ac (B0 w) _⟩
 ·have hk':((t.kind:Int)==2)=false:=by simpa using hk
  clear hk
  go_enter func125,ntmps125
  go_wp2_with fail
  go_ret
  exact⟨by simp[hk'],ac (B0 w) _⟩
theorem zr (r:ai×List du) (cs:List Value) (t:bU) (b B:Nat) (w:World) (hc:fZ w B cs r) (h0:w.cell? ⟨b,0,none⟩=some (.int .i64 t.kind)) (h1:w.cell? ⟨b,1,none⟩=some (.string (bs t.text))) (hb:b<w.heap.size):
 am 127 #[.agg cs.toArray,ptr b] w (.bool (iA t r)):=by
 obtain⟨k,pb2,n,c,rfl⟩:=hc
 have hr:=zq t r.1
 unfold iA
 rw[←hr]
 have hbn: ¬b=w.heap.size:=by omega
 clear hr
 simp only[ptr]
 by_cases hk:((t.kind:Int)==2)=true
 ·go_enter func127,ntmps127
  go_wp2_with fail
  go_ret
  exact⟨by simp[hk],ac (B0 w) _⟩
 ·have hk':((t.kind:Int)==2)=false:=by simpa using hk
  clear hk
  go_enter func127,ntmps127
  go_wp2_with fail
  go_ret
  exact⟨by simp[hk'],ac (B0 w) _⟩
theorem I6 (t:bU):(rules.any (iA t))=(eM t).isSome:=by
 unfold eM iA
 by_cases h:t.kind=2
 ·simp only[h,decide_true,Bool.true_and,if_true]
  generalize rules=l
  induction l with
  |nil=>rfl
  |cons a l ih=>
   simp only[List.any_cons,List.findIdx?_cons]
   cases hd:decide (a.1=t.text) with
   |true=>simp
   |false=>simp only[Bool.false_or,ih];cases List.findIdx? (fun x=>decide (x.1=t.text)) l<;>simp
 ·simp[h]
theorem I7 (pb B M:Nat) (p:PS) (w:World) (h:aJ w pb B M p):
 am 42 #[ptr pb] w (.int .i64 p.beyond):=by
 have HN:=aa (kE pb B M p w h)
 have hpw:=h.cells.1
 have HB:Hid (p.beyond=if(eM p.head).isSome then 8 else 3):=rfl
 generalize p.head=t at HN HB
 generalize p.beyond=k at HB
 have HR:=aa (fun W (hW:pb<W.heap.size)=>sT pb W hW)
 have HC:=aa (fun(W:World) v b (hb:b<W.heap.size) (h0:W.cell? ⟨b,0,none⟩=some (.int .i64 t.kind)) (h1:W.cell? ⟨b,1,none⟩=some (.string (bs t.text))) (hs:aQ 3 fZ W W.heap.size v rules)=>
  Fe fZ fZ.ab v rules 125 #[ptr b] (cJ rules (iA t)) W hs (enters_of func125 (by kernel_rfl) rfl)
   (fun j x cs W2 hx hW hr _=>by
     rw[dx hx]
     exact I5 x cs t b _ W2 hr ((hW.cell (p:=⟨b,0,none⟩) hb).trans h0) ((hW.cell (p:=⟨b,1,none⟩) hb).trans h1) (aF hb hW.size)))
 rw[jx,I6] at HC
 refine eG fun hmf=> ?_
 clear h
 unfold ptr at HN HR HC
 unfold az at HC
 rw[eI] at HN
 obtain⟨r,hr⟩: ∃r,(eM t).isSome=r:=⟨_,rfl⟩
 rw[hr] at HB HC
 clear hr
 simp only[ptr]
 cases r with
 |true=>
  have HK:Hid (k=8):=by show _=_;rw[HB.out];rfl
  exact zt
 |false=>
  have HK:Hid (k=3):=by show _=_;rw[HB.out];rfl
  exact zt
end
section
open Go Go.RowKit Go.MapKept Tryz
theorem infoNm:(Tryz.prog.info? 9).map (fun i=>(i.zero,i.size,i.bytes))=some (some (.string ⟨#[]⟩),1,16):=by kernel_rfl
def NJ (B ob:Nat) (bh:List ai) (W:World):Prop:= ∃u,W.heap[ob]? =some (.cells #[u] 22 (0,0))∧W.ownsRow B 9 1 u bh.length (bh.map fun s=>Value.string (bs s))∧(∃A n c,u= .slice A n c)
theorem sU {w:World} {base e:Nat} {size:Nat} {v:Value} {n:Nat} {xs:List Value} (h:w.ownsRow base e size v n xs) {b:Nat} {C:Array Value} {t:TypeId} {f:Nat×Nat} (hb:w.heap[b]? =some (.cells C t f)) (ht: ¬t=e): ∀k,v.ownBlock=some k→¬b=k:=fun k hk e'=>by
 subst e'
 rcases h.2 with ⟨rfl,_⟩|⟨g,cap,cur,rfl,_,hg,_⟩
 ·simp[Value.ownBlock] at hk
 ·have:g=b:=by simpa[Value.ownBlock] using hk
  subst this
  rw[hg] at hb
  injection hb with hb
  injection hb with _ hb _
  exact ht hb.symm
theorem I8 (B ob:Nat) (hBo:B≤ob) (bh:List ai) (s:ai) (kd n:Int) (W:World) (hJ:NJ B ob bh W) (hl:bh.length<1000000):
 Calls prog 245 #[.string (bs s),.int .i64 kd,.int .i64 n,ptr ob] W fun e W'=>e= .returned (.bool false)∧NJ B ob (bh++[s]) W'∧Below B W W'∧EP ob W W':=by
 obtain⟨u,hob,hown,⟨A,nn,c,rfl⟩⟩:=hJ
 have hlt:=blk_lt hob
 have c0:W.cell? ⟨ob,0,none⟩=some (.slice A nn c):=af hob rfl
 obtain⟨i0,hi,hz0,hz1,hz2⟩:=info_parts infoNm
 have HOB:=aa hob
 have HO:=aa hown
 have hne: ¬ob=W.heap.size:=by omega
 have HOB1:=aa (ah hob (ac (B0 W) (.cells #[.string (bs s)] 9)))
 have HOA:=aa (hown.alloc (.cells #[.string (bs s)] 9))
 clear hob hown
 simp only[ptr]
 go_enter func245,ntmps245
 go_wp2_with(at_builtin;refine wpList_append_own _ rfl (.tmp 8) (.tmp 10) _ rfl B 9 i0 _ 1 16 underlying22 hi hz0 hz1 hz2 rfl (by decide) _ bh.length (bh.map fun s=>Value.string (bs s)) rfl (HO.out.alloc _) ⟨W.heap.size,0,none⟩ 1 1 [.string (bs s)] rfl rfl (eE rfl) (by simp[Value.oneCell']) (by simp[maxLen];omega) (by omega) (by simp;omega) ?_
             intro v' w3 hown' hgrow _
             obtain⟨g,cap,cur,rfl,hbg,hgb,_⟩:=pC hown' (by omega)
             have hbt:=eD HOB1.out hgrow (sU HOA.out HOB1.out (by decide))
             have HBT:=aa hbt
             have f0:=aW hbt 0
             have d0:=af (o:=0) hbt rfl
             have HOW:=aa hown'
             have HGR:=aa hgrow
             have hgo: ¬ob=g:=sU hown' hbt (by decide) g rfl
             have hz3:=blk_lt hbt
             have HGO:=aa hgo
             clear hown' hgrow hbt hgb hbg hgo)
 go_ret
 have hB3:Below B W w3:=(((Below.refl B W).alloc (by omega) _).grown HGR.out (by simp;omega) (fun k hk=>(World.ownsRow.lt HOA.out k hk).1))
 refine⟨rfl,⟨_,ay HBT.out 0 _,?_,_,_,_,rfl⟩,hB3.setCell (by dsimp only;exact hBo) _,?_,fun i C t f h1 h2 h3=> ?_⟩
 ·have h:=HOW.out
  have h':w3.ownsRow B 9 1 (.slice (some ⟨g,0,none⟩) (bh.length+1) cap) (bh++[s]).length ((bh++[s]).map fun s=>Value.string (bs s)):=by
   rw[List.length_append,List.map_append]
   exact h
  exact dM h' (fun k hk e=>by
   have:g=k:=by simpa[Value.ownBlock] using hk
   exact HGO.out (by omega)) _ _
 ·show W.heap.size≤_
  have:=hB3.size
  simp only[World.setCell,Array.size_modify]
  have hg:=HGR.out.size
  simp at hg
  omega
 ·refine gz ?_ h2
  have hw:(W.alloc (.cells #[.string (bs s)] 9)).heap[i]? =some (.cells C t f):=ah h1 (ac (B0 W) _)
  exact eD hw HGR.out (sU HOA.out hw h3)
theorem I9 (m:aC) (v:MV) (w:World) (hv:m.In w w.heap.size v) (hl:(di m).length≤1000000):
 Calls prog 154 #[.agg (m.cells v)] w fun e w'=> ∃u,e= .returned u∧aI w' w'.heap.size u (di m)∧Below w.heap.size w w':=by
 have HE:=aa (fun W (hW:Below w.heap.size w W) (hob:w.heap.size+1<W.heap.size) (h0:NJ w.heap.size (w.heap.size+1) [] W)=>
  Hx m v w.heap.size (w.heap.size+1) 245 #[ptr (w.heap.size+1)] (NJ w.heap.size (w.heap.size+1)) W (hv.to hW (ae _) (ae _)) hW.size hob (enters_of func245 (by kernel_rfl) rfl)
   (fun bh s kd n W2 hJ hp=>I8 _ _ (Nat.le_succ _) bh s kd n W2 hJ (by omega))
   (fun bh W2 W3 ⟨u,h1,h2,h3⟩ hb=>⟨u,ah h1 hb,cB h2 hb,h3⟩) h0)
 obtain⟨⟨Sa,sc,hs,hs1,hs2⟩,⟨Fa,fc,hf',hf1,hf2⟩,⟨Ra,rc,hr,hr1,hr2⟩,⟨Ma,mc,hm,hm1,hm2⟩,⟨La,lc,hl',hl1,hl2⟩,⟨Ia,ic,hi,hi1,hi2⟩,⟨Ua,uc,hu,hu1,hu2⟩⟩:=hv.cells
 refine zu fun HS=> ?_
 refine eG fun hmf=> ?_
 have H2:=aa (fun C s=>(gE w C #[.slice none 0 0] s 22).2)
 rw[HS.out] at HE⊢
 unfold az ptr at HE
 clear hv hl hs hf' hr hm hl' hi hu
 go_enter func154,ntmps154
 go_wp2_with(go_at_call 244;refine(HE.out _ (ac (ac (B0 w) _) _) (by simp) ⟨_,H2.out _ _,World.ownsRow_nil _ _ _ _,none,0,0,rfl⟩).mono ?_
             rintro e w2 ⟨rfl,⟨u,h1,h2,⟨A,n,c,rfl⟩⟩,hb2,hE2⟩
             have d0:w2.cell? ⟨w.heap.size+1,0,none⟩=some (.slice A n c):=af h1 rfl
             have hz:=blk_lt h1
             have HO:=aa h2;have HB:=aa hb2
             clear h1 h2 hb2 hE2)
 go_ret
 refine⟨_,rfl,?_,(ac (ac (B0 w) _) _:Below w.heap.size w _).trans HB.out⟩
 have h:=Sl.of_own HO.out
 unfold aI aL
 rw[List.map_map]
 exact h
end
section
open Go Go.RowKit Tryz
theorem zv {s:ByteArray} {i:Nat} (h:(s.get! i).toNat<128):Utf8.decode s i=((s.get! i).toNat,1):=by
 unfold Utf8.decode
 simp only[Nat.add_zero]
 rw[if_pos h]
theorem Ja {s:ByteArray} {i:Nat} (h:128≤(s.get! i).toNat):128≤(Utf8.decode s i).1:=by
 unfold Utf8.decode
 simp only[Nat.add_zero,Utf8.runeError]
 split
 ·omega
 ·exact vS
theorem zw {p:Nat→Bool} {ok:UInt8→Bool} (h1: ∀c,ok c=true→c.toNat<128∧p c.toNat=false) (h2: ∀c:UInt8,c.toNat<128→ok c=false→p c.toNat=true) (h3: ∀r,128≤r→p r=true) (s:ByteArray):
 ∀(f pos:Nat),s.size≤pos+f→(0≤Lib.idxFuncFrom p true s f pos↔∃k,pos≤k∧k<s.size∧ok (s.get! k)=false)
 |0,pos,h=>by
  simp only[Lib.idxFuncFrom]
  exact oF
 |f+1,pos,h=>by
  simp only[Lib.idxFuncFrom]
  by_cases hp:pos<s.size
  ·rw[if_pos hp]
   cases ho:ok (s.get! pos) with
   |true=>
    have hd:=zv (h1 _ ho).1
    have hn:=(h1 _ ho).2
    rw[hd]
    simp only[hn,Bool.false_eq_true,if_false]
    rw[zw h1 h2 h3 s f (pos+1) (by omega)]
    exact vU
   |false=>
    have hp2:p (Utf8.decode s pos).1=true:=by
     rcases Nat.lt_or_ge (s.get! pos).toNat 128 with h|h
     ·rw[zv h];exact h2 _ h ho
     ·exact h3 _ (Ja h)
    rw[if_pos hp2]
    exact⟨fun _=>⟨pos,ae _,hp,ho⟩,fun _=>by omega⟩
  ·rw[if_neg hp]
   exact oF
theorem Jb {p:Nat→Bool} {ok:UInt8→Bool} (h1: ∀c,ok c=true→c.toNat<128∧p c.toNat=false) (h2: ∀c:UInt8,c.toNat<128→ok c=false→p c.toNat=true) (h3: ∀r,128≤r→p r=true) (s:ai):
 decide (0≤Lib.idxFunc p true (bs s))= !s.all ok:=by
 have h:=zw h1 h2 h3 (bs s) (bs s).size 0 (by omega)
 rw[←Lib.idxFunc] at h
 have hsz:(bs s).size=s.length:=bq s
 have hget: ∀k (hk:k<s.length),(bs s).get! k=s[k]:=fun k hk=>by
  rw[qO _ _ (by rw[hsz];exact hk)]
  rw[ByteArray.getElem_eq_getElem_data]
  simp[bs]
 rw[Bool.eq_iff_iff,decide_eq_true_eq,h]
 simp only[Bool.not_eq_true',List.all_eq_false]
 constructor
 ·rintro ⟨k,_,h2,h3⟩
  rw[hsz] at h2
  rw[hget k h2] at h3
  exact⟨s[k],List.getElem_mem h2,by simp[h3]⟩
 ·rintro ⟨c,hc,hn⟩
  obtain⟨k,hk,rfl⟩:=List.mem_iff_getElem.1 hc
  exact⟨k,aY _,by rw[hsz];exact hk,by rw[hget k hk];simpa using hn⟩
def ja (r:Nat):Bool:= !(decide (97≤r)&&decide (r≤122))&& !(decide (48≤r)&&decide (r≤57))&& !decide (r=95)
theorem sV (c:UInt8):ja c.toNat= !cT c:=by
 have e:(c==95)=decide (c.toNat=95):=by
  rw[Bool.eq_iff_iff,beq_iff_eq,decide_eq_true_eq]
  exact⟨fun h=>by rw[h];rfl,fun h=>UInt8.toNat_inj.1 h⟩
 unfold ja cT ew bD
 rw[e]
 simp[Bool.not_or]
theorem zx (r:Nat) (h:128≤r):ja r=true:=by simp[ja];omega
theorem Jc (c:UInt8) (h:cT c=true):c.toNat<128:=by
 rcases Nat.lt_or_ge c.toNat 128 with g|g
 ·exact g
 ·have h':=sV c
  rw[h,zx _ g] at h'
  cases h'
theorem Jd (s:ai):decide (0≤Lib.idxFunc ja true (bs s))= !s.all cT:=
 Jb (fun c h=>⟨Jc c h,(sV c).trans (by rw[h];rfl)⟩) (fun c _ h=>(sV c).trans (by rw[h];rfl)) zx s
theorem Je (w:World):PredAt prog 246 #[] Go.Proofs.encR ja w:=by
 intro W r _
 show Calls _ _ _ _ _
 have hr: ∀b:Bool,b=ja r→Ending.returned (.bool b)=Ending.returned (.bool (ja r)):=fun b h=>by rw[h]
 go_enter func246,ntmps246
 go_wp2
 all_goals
  go_ret
  refine⟨hr _ ?_,0,rfl⟩
  rw[Bool.eq_iff_iff]
  simp_all[ja]
  try omega
theorem sW (s:ai) (w:World) (hG:bY w):
 am 155 #[.string (bs s)] w (.bool (bJ s)):=by
 have CF:=fun W=>strings_ContainsFunc 246 #[] (enters_of func246 (by kernel_rfl) rfl) ja (bs s) W (Je W)
 simp only[Jd] at CF
 have HCF:=aa CF
 have HG:=aa hG
 have HKW:=aa (fun W v B (h:aI W B v cX)=>oY v cX s W B h)
 have hsz:(bs s).size=s.length:=bq s
 have h0: ∀h:0<(bs s).size,(bs s)[0].toNat=(s.headD 0).toNat:=fun h=>by
  cases s with
  |nil=>rw[hsz] at h;simp at h
  |cons a l=>rfl
 unfold bJ
 generalize s.all cT=al at HCF
 generalize decide (s∈cX)=kw at HKW
 have HLOW:Hid (ew (s.headD 0)=(decide (97≤(s.headD 0).toNat)&&decide ((s.headD 0).toNat≤122))):=rfl
 generalize ew (s.headD 0)=low at HLOW
 generalize (s.headD 0).toNat=c0 at h0 HLOW
 obtain⟨n,hn⟩: ∃n,s.length=n:=⟨_,rfl⟩
 rw[hn] at hsz⊢
 clear CF hG hn
 generalize bs s=T at HCF HKW hsz h0
 by_cases h1:1≤n
 rotate_left
 ·have k1: ¬(1:Int)≤(n:Int):=by omega
  have H1:=aa h1
  clear h1 h0
  go_enter func155,ntmps155
  go_wp2_with fail
  go_ret
  exact⟨aV (by simp[H1.out]),B0 w⟩
 by_cases h2:n≤31
 rotate_left
 ·have k1:(1:Int)≤(n:Int):=by omega
  have k2: ¬(n:Int)≤31:=by omega
  have H2:=aa h2
  clear h1 h2 h0
  go_enter func155,ntmps155
  go_wp2_with fail
  go_ret
  exact⟨aV (by simp[H2.out]),B0 w⟩
 have k1:(1:Int)≤(n:Int):=by omega
 have k2:(n:Int)≤31:=by omega
 have k0:0<T.size:=by omega
 have hb:=h0 k0
 have H1:=aa h1;have H2:=aa h2
 clear h1 h2 h0
 by_cases h3:97≤c0
 rotate_left
 ·have k3: ¬(97:Int)≤(c0:Int):=by omega
  have H3:=aa h3
  clear h3
  go_enter func155,ntmps155
  go_wp2_with fail
  go_ret
  exact⟨aV (by rw[HLOW.out];simp[H3.out]),B0 w⟩
 have k3:(97:Int)≤(c0:Int):=by omega
 have H3:=aa h3
 clear h3
 by_cases h4:c0≤122
 rotate_left
 ·have k4: ¬(c0:Int)≤122:=by omega
  have H4:=aa h4
  clear h4
  go_enter func155,ntmps155
  go_wp2_with fail
  go_ret
  exact⟨aV (by rw[HLOW.out];simp[H4.out]),B0 w⟩
 have k4:(c0:Int)≤122:=by omega
 have H4:=aa h4
 clear h4
 cases al with
 |false=>
  go_enter func155,ntmps155
  go_wp2_with(go_at_call 200;refine(HCF.out _).mono ?_;rintro e w1 ⟨rfl,hb1⟩)
  go_ret
  exact⟨aV (by simp),hb1⟩
 |true=>
  go_enter func155,ntmps155
  go_wp2_with(first
   |(go_at_call 200;refine(HCF.out _).mono ?_;rintro e w1 ⟨rfl,hb1⟩)
   |(go_at_call 247;refine(rM _ (HG.out.step hb1)).mono ?_;rintro e w2 ⟨v,rfl,hv,hb2⟩)
   |(go_at_call 218;refine(HKW.out _ _ _ hv).mono ?_;rintro e w3 ⟨rfl,rfl⟩))
  go_ret
  exact⟨aV (by rw[HLOW.out];simp[H1.out,H2.out,H3.out,H4.out]),ag hb1 hb2⟩
theorem Jf (m:aC) (v:MV) (mb:Nat) (x:fR) (cs:List Value) (bv:Value) (b:List fR) (w:World) (hm:w.heap[mb]? =some (.cells (m.cells v) 29 (0,0))) (hv:m.In w w.heap.size v) (hx:gW w w.heap.size cs x):
 am 238 #[.agg cs.toArray,bv,ptr mb] w (.bool (gN m x b)):=by
 obtain⟨rfl,hI1,hI2⟩:=hx
 obtain⟨_,_,⟨Ra,rc,hr,hr1,hr2⟩,_⟩:=hv.cells
 have hmb:=blk_lt hm
 have c2:w.cell? ⟨mb,2,none⟩=some (.slice Ra m.racks.length rc):=by rw[←hr];exact af hm rfl
 have hne: ¬mb=w.heap.size:=by omega
 have HE1:=aa (fun W=>nf x.rack m.racks.length W)
 have HA:=aa (fun W=>xD x.cap W)
 show Calls _ _ _ _ fun e w'=>e= .returned (.bool (aD x.rack 1 (m.racks.length:Nat)&&aD x.cap 0 1048576))∧_
 generalize aD x.rack 1 (m.racks.length:Nat)=r1 at HE1
 generalize aD x.cap 0 1048576=r2 at HA
 clear hv hm hr hI1 hI2
 simp only[ptr]
 cases r1 with
 |false=>
  go_enter func238,ntmps238
  go_wp2_with(first|(go_at_call 232;refine(HE1.out _).mono ?_;rintro e w1 ⟨rfl,rfl⟩))
  go_ret
  exact⟨rfl,by repeat' first|with_reducible exact B0 w|with_reducible refine ac ?_ _⟩
 |true=>
  go_enter func238,ntmps238
  go_wp2_with(first|(go_at_call 232;refine(HE1.out _).mono ?_;rintro e w1 ⟨rfl,rfl⟩)|(go_at_call 239;refine(HA.out _).mono ?_;rintro e w1 ⟨rfl,rfl⟩))
  go_ret
  exact⟨by simp,by repeat' first|with_reducible exact B0 w|with_reducible refine ac ?_ _⟩
def lS (x y:gq):Bool:=decide (y.a=x.a)&&decide (y.b=x.b)
theorem Jg (x y:gq) (cs:List Value) (xb:Nat) (w:World) (hy:fe w w.heap.size cs y) (h1:w.cell? ⟨xb,0,none⟩=some (.int .i64 x.a)) (h2:w.cell? ⟨xb,1,none⟩=some (.int .i64 x.b)) (hb:xb<w.heap.size):
 am 242 #[.agg cs.toArray,ptr xb] w (.bool (lS x y)):=by
 obtain⟨rfl,hI1,hI2⟩:=hy
 have hne: ¬xb=w.heap.size:=by omega
 have HF:Hid (lS x y=(decide (y.a=x.a)&&decide (y.b=x.b))):=rfl
 generalize lS x y=r at HF
 clear hI1 hI2
 simp only[ptr]
 by_cases hf:(y.a==x.a)=true
 ·have HE:=aa hf
  go_enter func242,ntmps242
  go_wp2_with fail
  go_ret
  refine⟨aV ?_,ac (B0 w) _⟩
  have e:=HE.out
  rw[iv] at e
  rw[HF.out,e]
  simp[iv]
 ·have hf':(y.a==x.a)=false:=by simpa using hf
  clear hf
  have HE:=aa hf'
  go_enter func242,ntmps242
  go_wp2_with fail
  go_ret
  refine⟨aV ?_,ac (B0 w) _⟩
  have e:=HE.out
  rw[iv] at e
  rw[HF.out,e]
  rfl
theorem Jh (m:aC) (v:MV) (mb:Nat) (x:gq) (cs:List Value) (b:List gq) (bv:Value) (w:World) (hm:w.heap[mb]? =some (.cells (m.cells v) 29 (0,0))) (hv:m.In w w.heap.size v) (hx:fe w w.heap.size cs x) (hb:aQ 3 fe w w.heap.size bv b):
 am 241 #[.agg cs.toArray,bv,ptr mb] w (.bool (gw m x b)):=by
 obtain⟨rfl,hI1,hI2⟩:=hx
 obtain⟨⟨Sa,sc,hs,hs1,hs2⟩,_⟩:=hv.cells
 have hmb:=blk_lt hm
 have c0:w.cell? ⟨mb,0,none⟩=some (.slice Sa m.sites.length sc):=by rw[←hs];exact af hm rfl
 have hne: ¬mb=w.heap.size:=by omega
 obtain⟨A,n,c,rfl,hl,hc,hcm⟩:=hb.form
 have HC:=aa (fun(W:World) (hW:Below w.heap.size w W) (xb:Nat) (h1:W.cell? ⟨xb,0,none⟩=some (.int .i64 x.a)) (h2:W.cell? ⟨xb,1,none⟩=some (.int .i64 x.b)) (hx:xb<W.heap.size)=>
  Fp fe fe.ab (.slice A n c) b 242 #[ptr xb] (cJ b (lS x)) W (hb.to fe.ab hW (ae _) hW.size) (enters_of func242 (by kernel_rfl) rfl)
   (fun j y cs W2 hy hW2 hr _=>by
     rw[dx hy]
     exact Jg x y cs xb W2 hr ((hW2.cell (p:=⟨xb,0,none⟩) hx).trans h1) ((hW2.cell (p:=⟨xb,1,none⟩) hx).trans h2) (aF hx hW2.size)))
 rw[jx] at HC
 have HA:=aa (fun W=>xD x.cap W)
 refine eG fun hmf=> ?_
 have HO:Hid (gw m x b=(decide (1≤x.a)&&decide (x.a<x.b)&&decide (x.b≤m.sites.length)&&aD x.cap 0 1048576&& !b.any (lS x))):=rfl
 generalize gw m x b=r at HO
 generalize aD x.cap 0 1048576=r2 at HA HO
 generalize b.any (lS x)=r3 at HC HO
 clear hv hm hb hs hI1 hI2 hl
 unfold az ptr at HC
 simp only[ptr]
 by_cases h1:1≤x.a
 ·have H1:=aa h1
  by_cases h2:x.a<x.b
  ·have H2:=aa h2
   by_cases h3:x.b≤m.sites.length
   ·have H3:=aa h3
    cases r2 with
    |false=>
     go_enter func241,ntmps241
     go_wp2_with(first|(go_at_call 239;refine(HA.out _).mono ?_;rintro e w1 ⟨rfl,rfl⟩))
     go_ret
     exact⟨by rw[HO.out];simp;(try have hq:=trivial);(try omega),ac (B0 w) _⟩
    |true=>
     go_enter func241,ntmps241
     go_wp2_with(first|(go_at_call 239;refine(HA.out _).mono ?_;rintro e w1 ⟨rfl,rfl⟩))
     refine(HC.out _ (ac (B0 w) _) w.heap.size (af (aN w _) rfl) (af (aN w _) rfl) (by simp)).mono ?_
     rintro e w1 ⟨rfl,hb1⟩
     go_wp2_with fail
     go_ret
     exact⟨by rw[HO.out];simp[H1.out,H2.out,H3.out],ag (ac (B0 w) _) hb1⟩
   ·have H3:=aa h3
    go_enter func241,ntmps241
    go_wp2_with(first|(go_at_call 239;refine(HA.out _).mono ?_;rintro e w1 ⟨rfl,rfl⟩))
    go_ret
    exact⟨by rw[HO.out];simp;(try have hq:=H3.out);(try omega),ac (B0 w) _⟩
  ·have H2:=aa h2
   go_enter func241,ntmps241
   go_wp2_with(first|(go_at_call 239;refine(HA.out _).mono ?_;rintro e w1 ⟨rfl,rfl⟩))
   go_ret
   exact⟨by rw[HO.out];simp;(try have hq:=H2.out);(try omega),ac (B0 w) _⟩
 ·have H1:=aa h1
  go_enter func241,ntmps241
  go_wp2_with(first|(go_at_call 239;refine(HA.out _).mono ?_;rintro e w1 ⟨rfl,rfl⟩))
  go_ret
  exact⟨by rw[HO.out];simp;(try have hq:=H1.out);(try omega),ac (B0 w) _⟩
theorem pE {α:Type} {c:α→List α→Bool} {xs:List α} {j:Nat} {x:α} (h:xs[j]? =some x):dE c [] xs j=c x (xs.take j):=by rw[iu h,List.nil_append]
theorem Ji (m:aC) (v:MV) (w:World) (hv:m.In w w.heap.size v):
 am 152 #[.agg (m.cells v)] w (.bool (dK m)):=by
 obtain⟨⟨Sa,sc,hs,hs1,hs2⟩,⟨Fa,fc,hf,hf1,hf2⟩,⟨Ra,rc,hr,hr1,hr2⟩,⟨Ma,mc,hm,hm1,hm2⟩,⟨La,lc,hl,hl1,hl2⟩,⟨Ia,ic,hi,hi1,hi2⟩,⟨Ua,uc,hu,hu1,hu2⟩⟩:=hv.cells
 have HV:=aa hv
 refine xL fun HS=> ?_
 have hmb: ∀W,Below w.heap.size w W→W.heap[w.heap.size]? =some (.cells (m.cells v) 29 (0,0))→m.In W W.heap.size v∧W.heap[w.heap.size]? =some (.cells (m.cells v) 29 (0,0)):=fun W hW hb=>⟨hv.to hW (ae _) hW.size,hb⟩
 have HR:=aa (fun W (hW:Below w.heap.size w W) (hb:W.heap[w.heap.size]? =some (.cells (m.cells v) 29 (0,0)))=>Fq v.r m.racks 234 #[ptr w.heap.size] (dE (gv m) [] m.racks) W (hv.rs.to fd.ab hW (ae _) hW.size) (enters_of func234 (by kernel_rfl) rfl)
  (fun j x cs bv W2 hx hW2 hrr _ hbv=>by
    rw[pE hx]
    exact Fw m v w.heap.size x cs (m.racks.take j) bv W2 (ah hb hW2) (hv.to (hW.trans (hW2.mono hW.size)) (ae _) (aP hW.size hW2.size)) hrr hbv))
 have HM:=aa (fun W (hW:Below w.heap.size w W) (hb:W.heap[w.heap.size]? =some (.cells (m.cells v) 29 (0,0)))=>Fs v.m m.machs 238 #[ptr w.heap.size] (dE (gN m) [] m.machs) W (hv.ms.to gW.ab hW (ae _) hW.size) (enters_of func238 (by kernel_rfl) rfl)
  (fun j x cs bv W2 hx hW2 hrr _ hbv=>by
    rw[pE hx]
    exact Jf m v w.heap.size x cs bv (m.machs.take j) W2 (ah hb hW2) (hv.to (hW.trans (hW2.mono hW.size)) (ae _) (aP hW.size hW2.size)) hrr))
 have HL:=aa (fun W (hW:Below w.heap.size w W) (hb:W.heap[w.heap.size]? =some (.cells (m.cells v) 29 (0,0)))=>Ft v.l m.links 241 #[ptr w.heap.size] (dE (gw m) [] m.links) W (hv.ls.to fe.ab hW (ae _) hW.size) (enters_of func241 (by kernel_rfl) rfl)
  (fun j x cs bv W2 hx hW2 hrr _ hbv=>by
    rw[pE hx]
    exact Jh m v w.heap.size x cs (m.links.take j) bv W2 (ah hb hW2) (hv.to (hW.trans (hW2.mono hW.size)) (ae _) (aP hW.size hW2.size)) hrr hbv))
 rw[←hE,hr] at HR
 rw[←hE,hm] at HM
 rw[←hE,hl] at HL
 have HE1:=aa (fun W=>nf m.sites.length 4 W)
 have HE2:=aa (fun W=>nf m.machs.length 16 W)
 refine eG fun hmf=> ?_
 refine zy fun HO=> ?_
 generalize dK m=r at HO
 generalize aD (m.sites.length:Nat) 1 4=r1 at HE1 HO
 generalize aD (m.machs.length:Nat) 1 16=r2 at HE2 HO
 generalize dh (gv m) [] m.racks=q1 at HR HO
 generalize dh (gN m) [] m.machs=q2 at HM HO
 generalize dh (gw m) [] m.links=q3 at HL HO
 have HN:=aa (show(w.alloc (.cells (m.cells v) 29)).heap[w.heap.size]? =some (.cells (m.cells v) 29 (0,0)) from aN w _)
 rw[HS.out] at HR HM HL HN⊢
 unfold az ptr at HR HM HL
 clear hv hs hf hr hm hl hi hu hmb
 cases r1 with
 |false=>
  exact zz
 |true=>
  by_cases g1:m.feeds.length≤16
  rotate_left
  ·have G1:=aa g1
   have k1:(16:Int)<(m.feeds.length:Nat):=by omega
   clear g1
   go_enter func152,ntmps152
   go_wp2_with(first
    |(go_at_call_of 232 (Value.int IntKind.i64 (m.sites.length:Nat));refine(HE1.out _).mono ?_;rintro e w1 ⟨rfl,rfl⟩)
    |(go_at_call 232;refine(HE2.out _).mono ?_;rintro e w1 ⟨rfl,rfl⟩)
    |(go_at_call 233;refine(HR.out _ (ac (B0 w) _) HN.out).mono ?_;rintro e w1 ⟨rfl,hb1⟩;have HB1:=aa (ag (ac (B0 w) _) hb1);have HN1:=aa (ah HN.out hb1);have e3:w1.cell? ⟨w.heap.size,3,none⟩=some (.slice Ma m.machs.length mc):=af HN1.out rfl;have e4:w1.cell? ⟨w.heap.size,4,none⟩=some (.slice La m.links.length lc):=af HN1.out rfl;clear hb1)
    |(go_at_call 237;refine(HM.out _ HB1.out HN1.out).mono ?_;rintro e w2 ⟨rfl,hb2⟩;have HB2:=aa (ag HB1.out hb2);have HN2:=aa (ah HN1.out hb2);have e4:w2.cell? ⟨w.heap.size,4,none⟩=some (.slice La m.links.length lc):=af HN2.out rfl;clear hb2)
    |(go_at_call 240;refine(HL.out _ HB2.out HN2.out).mono ?_;rintro e w3 ⟨rfl,hb3⟩;have HB3:=aa (ag HB2.out hb3);clear hb3))
   go_ret
   exact⟨by rw[HO.out];simp;(try have hq:=G1.out);(try omega),ac (B0 w) _⟩
  have G1:=aa g1
  have k1: ¬(16:Int)<(m.feeds.length:Nat):=by omega
  clear g1
  by_cases g2:m.racks.length≤16
  rotate_left
  ·have G2:=aa g2
   have k2:(16:Int)<(m.racks.length:Nat):=by omega
   clear g2
   go_enter func152,ntmps152
   go_wp2_with(first
    |(go_at_call_of 232 (Value.int IntKind.i64 (m.sites.length:Nat));refine(HE1.out _).mono ?_;rintro e w1 ⟨rfl,rfl⟩)
    |(go_at_call 232;refine(HE2.out _).mono ?_;rintro e w1 ⟨rfl,rfl⟩)
    |(go_at_call 233;refine(HR.out _ (ac (B0 w) _) HN.out).mono ?_;rintro e w1 ⟨rfl,hb1⟩;have HB1:=aa (ag (ac (B0 w) _) hb1);have HN1:=aa (ah HN.out hb1);have e3:w1.cell? ⟨w.heap.size,3,none⟩=some (.slice Ma m.machs.length mc):=af HN1.out rfl;have e4:w1.cell? ⟨w.heap.size,4,none⟩=some (.slice La m.links.length lc):=af HN1.out rfl;clear hb1)
    |(go_at_call 237;refine(HM.out _ HB1.out HN1.out).mono ?_;rintro e w2 ⟨rfl,hb2⟩;have HB2:=aa (ag HB1.out hb2);have HN2:=aa (ah HN1.out hb2);have e4:w2.cell? ⟨w.heap.size,4,none⟩=some (.slice La m.links.length lc):=af HN2.out rfl;clear hb2)
    |(go_at_call 240;refine(HL.out _ HB2.out HN2.out).mono ?_;rintro e w3 ⟨rfl,hb3⟩;have HB3:=aa (ag HB2.out hb3);clear hb3))
   go_ret
   exact⟨by rw[HO.out];simp;(try have hq:=G2.out);(try omega),ac (B0 w) _⟩
  have G2:=aa g2
  have k2: ¬(16:Int)<(m.racks.length:Nat):=by omega
  clear g2
  cases r2 with
  |false=>
   exact zz
  |true=>
   by_cases g4:m.links.length≤12
   rotate_left
   ·have G4:=aa g4
    have k4:(12:Int)<(m.links.length:Nat):=by omega
    clear g4
    go_enter func152,ntmps152
    go_wp2_with(first
     |(go_at_call_of 232 (Value.int IntKind.i64 (m.sites.length:Nat));refine(HE1.out _).mono ?_;rintro e w1 ⟨rfl,rfl⟩)
     |(go_at_call 232;refine(HE2.out _).mono ?_;rintro e w1 ⟨rfl,rfl⟩)
     |(go_at_call 233;refine(HR.out _ (ac (B0 w) _) HN.out).mono ?_;rintro e w1 ⟨rfl,hb1⟩;have HB1:=aa (ag (ac (B0 w) _) hb1);have HN1:=aa (ah HN.out hb1);have e3:w1.cell? ⟨w.heap.size,3,none⟩=some (.slice Ma m.machs.length mc):=af HN1.out rfl;have e4:w1.cell? ⟨w.heap.size,4,none⟩=some (.slice La m.links.length lc):=af HN1.out rfl;clear hb1)
     |(go_at_call 237;refine(HM.out _ HB1.out HN1.out).mono ?_;rintro e w2 ⟨rfl,hb2⟩;have HB2:=aa (ag HB1.out hb2);have HN2:=aa (ah HN1.out hb2);have e4:w2.cell? ⟨w.heap.size,4,none⟩=some (.slice La m.links.length lc):=af HN2.out rfl;clear hb2)
     |(go_at_call 240;refine(HL.out _ HB2.out HN2.out).mono ?_;rintro e w3 ⟨rfl,hb3⟩;have HB3:=aa (ag HB2.out hb3);clear hb3))
    go_ret
    exact⟨by rw[HO.out];simp;(try have hq:=G4.out);(try omega),ac (B0 w) _⟩
   have G4:=aa g4
   have k4: ¬(12:Int)<(m.links.length:Nat):=by omega
   clear g4
   cases q1 with
   |false=>
    exact sX
   |true=>
    cases q2 with
    |false=>
     exact sX
    |true=>
     exact sX
end
section
open Go Go.RowKit Go.MapKept Tryz
theorem KP.turn {B b:Nat} {w w':World} (h:cM w w' b):KP B b w w':=by
 have h0:=h.1 0 w ((B0 w).mono (aY _)) (aY _)
 exact⟨h0.os,h0.tape,h0.output,by rw[h.2.1];exact ae _,fun i _ hi=>h.2.2 i hi⟩
def kM (l:List ai):ai→Option Value:=fun s=>if s∈l then some (.bool true) else none
theorem Jj (l:List ai) (s x:ai):aS (kM l) s (.bool true) x=kM (l++[s]) x:=by
 rw[iW]
 unfold kM
 by_cases h:x=s
 ·subst h;simp
 ·simp[h]
theorem Jk {w:World} {b:Nat} {f:ai→Option Value} (h:aZ dI w b f) (o:Nat):w.cell? ⟨b,o,none⟩=none:=by
 obtain⟨l,hl,_⟩:=h
 have hl':w.heap[b]? =some (.map (bj 0 (bS dI l)).toArray (bS dI l).length):=hl
 simp[World.cell?,hl']
theorem Sl.kp {w w':World} {B B' M:Nat} {v:Value} {xs:List Value} (h:Sl w B v xs) (hk:KP B' M w w') (hB:B≤B') (hM: ∀o,w.cell? ⟨M,o,none⟩=none):Sl w' B v xs:=by
 obtain⟨A,c,rfl,h1,h2,h3⟩:=h
 refine⟨A,c,rfl,h1,h2,fun hn=> ?_⟩
 obtain⟨b,o,rfl,hb,hc⟩:=h3 hn
 have hne: ¬b=M:=fun e=>by
  subst e
  obtain⟨u,hu⟩: ∃u,xs[0]? =some u:=⟨_,List.getElem?_eq_getElem (List.length_pos_iff.2 hn)⟩
  have:=hc 0 u hu
  rw[hM] at this
  cases this
 exact⟨b,o,rfl,hb,fun j u hu=>(hk.cell _ (aF hb hB) hne).trans (hc j u hu)⟩
def lT (l:List ai) (j:Nat):Bool:=dE (fun s b=>bJ s&& !decide (s∈b)) [] l j
theorem Jl (l:List ai):lo l=cV (lT l) l.length:=hE _ l []
theorem Jm {l:List ai} {j:Nat} {s:ai} (h:l[j]? =some s):lT l j=(bJ s&& !decide (s∈l.take j)):=by unfold lT;rw[pE h]
theorem Jn {m:aC} (h:dK m=true) (hi:m.items.length≤8):(di m).length≤60:=by
 have h':=h
 unfold dK aM aD at h'
 simp only[Bool.and_eq_true,decide_eq_true_eq] at h'
 obtain⟨⟨⟨⟨⟨⟨⟨⟨_,h1⟩,h2⟩,h3⟩,⟨_,h4⟩⟩,_⟩,_⟩,_⟩,_⟩:=h'
 simp[di]
 omega
theorem zA (m:aC) (v:MV) (w:World) (hG:bY w) (hv:m.In w w.heap.size v):
 am 51 #[.agg (m.cells v)] w (.bool (dQ m)):=by
 have hI7:=hv.slots
 have hI8:=hv.reserve
 obtain⟨hI71,hI72⟩:=hI7
 have HG:=aa hG
 have HSV:=aa (fun W (hW:Below w.heap.size w W)=>Ji m v W (hv.to hW (ae _) hW.size))
 have HNM:=aa (fun W (hW:Below w.heap.size w W) (hl:(di m).length≤60)=>I9 m v W (hv.to hW (ae _) hW.size) (by omega))
 have HCI:=aa (fun W (hW:Below w.heap.size w W) (hb:W.heap[w.heap.size]? =some (.cells (m.cells v) 29 (0,0)))=>Fg kg kg.ab v.i m.items 157 #[ptr w.heap.size] (cJ m.items (fun x=> !dj m x)) W (hv.is.to kg.ab hW (ae _) hW.size) (enters_of func157 (by kernel_rfl) rfl)
  (fun j x cs W2 hx hW2 hR _=>by
    rw[dx hx]
    obtain⟨o,rfl,ho,_⟩:=hR
    exact Hc m v x o w.heap.size W2 (ah hb hW2) (hv.to (hW.trans (hW2.mono hW.size)) (ae _) (aP hW.size hW2.size)) ho))
 have HCR:=aa (fun W (hW:Below w.heap.size w W) (hb:W.heap[w.heap.size]? =some (.cells (m.cells v) 29 (0,0)))=>Fi kh kh.ab v.u m.rules 160 #[ptr w.heap.size] (cJ m.rules (fun x=> !cE m x)) W (hv.us.to kh.ab hW (ae _) hW.size) (enters_of func160 (by kernel_rfl) rfl)
  (fun j x cs W2 hx hW2 hR _=>by
    rw[dx hx]
    obtain⟨o,rfl,ho,i1,i2,i3,i4,i5⟩:=hR
    exact Hd m v x o w.heap.size W2 (ah hb hW2) (hv.to (hW.trans (hW2.mono hW.size)) (ae _) (aP hW.size hW2.size)) ho i2 i4 i5 i3))
 rw[jx] at HCI HCR
 refine fC fun Sa sc hs hs1 hs2 Fa fc hf' hf1 hf2 Ra rc hr hr1 hr2 Ma mc hm hm1 hm2 La lc hl hl1 hl2 Ia ic hi hi1 hi2 Ua uc hu hu1 hu2 HS=> ?_
 have HN0:=aa (show(w.alloc (.cells (m.cells v) 29)).heap[w.heap.size]? =some (.cells (m.cells v) 29 (0,0)) from aN w _)
 have HW1:=aa (fun W=>fY m.dark 1 m.sites.length W)
 have HW2:=aa (fun W=>fY m.slots 1 16 W)
 have HW3:=aa (fun W=>fY m.reserve 0 (m.slots - 1) W)
 have HW4:=aa (fun W=>fY m.failures 0 7 W)
 have hall1:(!m.items.any fun x=> !dj m x)=m.items.all (dj m):=by rw[List.not_any_eq_all_not];simp
 have hall2:(!m.rules.any fun x=> !cE m x)=m.rules.all (cE m):=by rw[List.not_any_eq_all_not];simp
 have HO:Hid (dQ m=(dK m&&decide (m.items.length≤8)&&decide (m.rules.length≤40)&&aD m.dark 1 (m.sites.length:Nat)&&aD m.slots 1 16&&aD m.reserve 0 (m.slots - 1)&&aD m.failures 0 7&&cV (lT (di m)) (di m).length&&(!m.items.any fun x=> !dj m x)&&(!m.rules.any fun x=> !cE m x))):=by
  show _=_
  rw[hall1,hall2,←Jl]
  rfl
 have HFew:=aa (fun h hi=>Jn (m:=m) h hi)
 have hsl:aD m.slots 1 16=true→1≤m.slots∧m.slots≤16:=fun h=>by simpa[aD] using h
 have HSl:=aa hsl
 refine eG fun hmf=> ?_
 refine fU fun hmm=> ?_
 rw[hi] at HCI
 rw[hu] at HCR
 rw[HS.out] at HSV HNM HCI HCR HN0⊢
 generalize dQ m=r at HO
 generalize dK m=b0 at HSV HO HFew
 generalize aD m.dark 1 (m.sites.length:Nat)=b3 at HW1 HO
 generalize aD m.slots 1 16=b4 at HW2 HO HSl
 generalize aD m.reserve 0 (m.slots - 1)=b5 at HW3 HO
 generalize aD m.failures 0 7=b6 at HW4 HO
 generalize (m.items.any fun x=> !dj m x)=b7 at HCI HO
 generalize (m.rules.any fun x=> !cE m x)=b8 at HCR HO
 generalize di m=nms at HNM HO HFew
 unfold az ptr at HCI HCR
 clear hG hv hs hf' hr hm hl hi hu hI8 hall1 hall2 hsl
 cases b0 with
 |false=>
  exact nL
 |true=>
  by_cases g1:m.items.length≤8
  rotate_left
  ·have G1:=aa g1
   have k1:(8:Int)<(m.items.length:Nat):=by omega
   clear g1
   go_enter func51,ntmps51
   go_wp2_with first
    |(go_at_call 152;refine(HSV.out _ (ac (B0 w) _)).mono ?_
      rintro e w1 ⟨rfl,hb1⟩
      refine pF fun hn1 e0 e1 e2 e3 e4 e5 e6 e7 e8 e9 e10 hz1 HB1 HN1=> ?_
      clear hb1 hn1)
    |(go_at_call_of 153 (Value.int IntKind.i64 m.dark);refine(HW1.out _).mono ?_;rintro e w2 ⟨rfl,rfl⟩)
    |(go_at_call_of 153 (Value.int IntKind.i64 m.slots);refine(HW2.out _).mono ?_;rintro e w2 ⟨rfl,rfl⟩)
    |(go_at_call_of 153 (Value.int IntKind.i64 m.reserve);refine(HW3.out _).mono ?_;rintro e w2 ⟨rfl,rfl⟩)
    |(go_at_call_of 153 (Value.int IntKind.i64 m.failures);refine(HW4.out _).mono ?_;rintro e w2 ⟨rfl,rfl⟩)
   go_ret
   exact⟨by rw[HO.out];simp;(try have hq:=G1.out);(try omega),HB1.out⟩
  have G1:=aa g1
  have k1: ¬(8:Int)<(m.items.length:Nat):=by omega
  clear g1
  by_cases g2:m.rules.length≤40
  rotate_left
  ·have G2:=aa g2
   have k2:(40:Int)<(m.rules.length:Nat):=by omega
   clear g2
   go_enter func51,ntmps51
   go_wp2_with first
    |(go_at_call 152;refine(HSV.out _ (ac (B0 w) _)).mono ?_
      rintro e w1 ⟨rfl,hb1⟩
      refine pF fun hn1 e0 e1 e2 e3 e4 e5 e6 e7 e8 e9 e10 hz1 HB1 HN1=> ?_
      clear hb1 hn1)
    |(go_at_call_of 153 (Value.int IntKind.i64 m.dark);refine(HW1.out _).mono ?_;rintro e w2 ⟨rfl,rfl⟩)
    |(go_at_call_of 153 (Value.int IntKind.i64 m.slots);refine(HW2.out _).mono ?_;rintro e w2 ⟨rfl,rfl⟩)
    |(go_at_call_of 153 (Value.int IntKind.i64 m.reserve);refine(HW3.out _).mono ?_;rintro e w2 ⟨rfl,rfl⟩)
    |(go_at_call_of 153 (Value.int IntKind.i64 m.failures);refine(HW4.out _).mono ?_;rintro e w2 ⟨rfl,rfl⟩)
   go_ret
   exact⟨by rw[HO.out];simp;(try have hq:=G2.out);(try omega),HB1.out⟩
  have G2:=aa g2
  have k2: ¬(40:Int)<(m.rules.length:Nat):=by omega
  clear g2
  cases b3 with
  |false=>
   exact nL
  |true=>
   cases b4 with
   |false=>
    exact nL
   |true=>
    obtain⟨hsl1,hsl2⟩:=HSl.out rfl
    cases b5 with
    |false=>
     exact nL
    |true=>
     cases b6 with
     |false=>
      exact nL
     |true=>
      have HLn:=aa (HFew.out rfl G1.out)
      go_enter func51,ntmps51
      go_wp2_with first
       |(go_at_call 152;refine(HSV.out _ (ac (B0 w) _)).mono ?_
         rintro e w1 ⟨rfl,hb1⟩
         refine pF fun hn1 e0 e1 e2 e3 e4 e5 e6 e7 e8 e9 e10 hz1 HB1 HN1=> ?_
         clear hb1 hn1)
       |(go_at_call_of 153 (Value.int IntKind.i64 m.dark);refine(HW1.out _).mono ?_;rintro e w2 ⟨rfl,rfl⟩)
       |(go_at_call_of 153 (Value.int IntKind.i64 m.slots);refine(HW2.out _).mono ?_;rintro e w2 ⟨rfl,rfl⟩)
       |(go_at_call_of 153 (Value.int IntKind.i64 m.reserve);refine(HW3.out _).mono ?_;rintro e w2 ⟨rfl,rfl⟩)
       |(go_at_call_of 153 (Value.int IntKind.i64 m.failures);refine(HW4.out _).mono ?_;rintro e w2 ⟨rfl,rfl⟩)
      refine(HNM.out _ (ac HB1.out _) HLn.out).mono ?_
      rintro e w3 ⟨u,rfl,hu3,hb3⟩
      have hM3:=(aZ.made dI w2).later hb3
      have hn3:=ah (ah HN1.out (ac (B0 w2) (.map #[] 0))) hb3
      have HB3:=aa (ag (ac HB1.out (.map #[] 0)) hb3)
      have hu3':=hu3
      obtain⟨A,n,c,rfl,hn,hc,hcm⟩:=hu3'.sk.form
      have HU:=aa hu3;have HM3:=aa hM3;have HN3:=aa hn3
      have HNn:=aa hn
      clear hu3 hb3 hM3 hn3 hn e0 e1 e2 e3 e4 e5 e6 e7 e8 e9 e10
      go_wp2_with fail
      go_loopw [55] (fun i wr=> ∃k:Nat,k≤n∧i= .int .i64 k∧aZ dI wr w2.heap.size (kM (nms.take k))∧(∀j,j<k→lT nms j=true)∧KP w3.heap.size w2.heap.size w3 wr) (fun i _=>n - (intOf i).toNat)
      case atStart=>exact⟨0,aY _,rfl,HM3.out.of_eq (fun k=>by simp[kM]),by omega,KP.refl _ _ _⟩
      case round=>
       obtain⟨k,hk,rfl,hMk,hall,hKk⟩:=hrel
       have HA:=aa hall
       have hnr:=hKk.blk HN3.out (blk_lt HN3.out) (by omega)
       have hBr:Below w.heap.size w wr:=HB3.out.trans ((hKk.mono (ae _)).below (bN HM3.out.lt) |>.mono (by omega))
       have HBr:=aa hBr
       have HMk:=aa hMk;have HKk:=aa hKk;have HNr:=aa hnr
       clear hall hMk hKk
       by_cases hlt:k<n
       ·have hI1:(0:Int)≤k:=by omega
        have hI2:(k:Int)<n:=by omega
        obtain⟨s,hs⟩: ∃s,nms[k]? =some s:=⟨_,List.getElem?_eq_getElem (by rw[HNn.out];exact hlt)⟩
        have hSr:aI wr w3.heap.size (.slice A n c) nms:=Sl.kp HU.out HKk.out (ae _) (Jk HM3.out)
        obtain⟨b,o,rfl,hbb,hcx⟩:=hSr.cell hs
        have HIN:=aa (sW s wr (HG.out.step hBr))
        have hF:=Jm hs
        have HSn:=aa hs
        have HF:=aa hF
        have htk:nms.take (k+1)=nms.take k++[s]:=by rw[List.take_add_one,hs];rfl
        have HTK:=aa htk
        clear hnr hBr hSr hs hF htk
        generalize bJ s=q at HIN HF
        cases q with
        |false=>
         go_wp2_with(go_at_call 155;refine HIN.out.mono ?_;rintro e w4 ⟨rfl,hb4⟩;have HB4:=aa (ag HBr.out hb4);clear hb4)
         go_ret
         refine⟨?_,HB4.out⟩
         rw[HO.out,gD (k:=k) (by rw[HNn.out];exact hlt) (by rw[HF.out];rfl)]
         simp
        |true=>
         by_cases hin:s∈nms.take k
         ·have HIi:=aa hin
          have HTr:=aa (show kM (nms.take k) s=some (.bool true) from if_pos hin)
          clear hin
          go_wp2_with first
           |(go_at_call 155;refine HIN.out.mono ?_;rintro e w4 ⟨rfl,hb4⟩;have HB4:=aa (ag HBr.out hb4);have HM4:=aa (HMk.out.later hb4);clear hb4
             have hlk:(Instr.lookup 197 (.map (some w2.heap.size)) (.string (bs s)) false).run prog w4= .ok (.bool true) w4:=by
              have h:=fL (P:=prog) underlying197 underlying9 j7 HM4.out s false (zeroValue4 _)
              rw[HTr.out] at h
              exact h)
          go_ret
          refine⟨?_,HB4.out⟩
          rw[HO.out,gD (k:=k) (by rw[HNn.out];exact hlt) (by rw[HF.out];simp[HIi.out])]
          simp
         ·have HIi:=aa hin
          have HTr:=aa (show kM (nms.take k) s=none from if_neg hin)
          clear hin
          go_wp2_with first
           |(go_at_call 155;refine HIN.out.mono ?_;rintro e w4 ⟨rfl,hb4⟩;have HB4:=aa hb4;have HM4:=aa (HMk.out.later hb4);clear hb4
             have hlk:(Instr.lookup 197 (.map (some w2.heap.size)) (.string (bs s)) false).run prog w4= .ok (.bool false) w4:=by
              have h:=fL (P:=prog) underlying197 underlying9 j7 HM4.out s false (zeroValue4 _)
              rw[HTr.out] at h
              exact h)
           |(refine bm rfl (.tmp 67) (.tmp 68) (.const (.bool true)) 197 (.inl rfl) 9 4 .string underlying197 underlying9 j7 w2.heap.size _ rfl HM4.out s (.bool true) rfl rfl ?_
             intro w5 hM5 hT5
             have HM5:=aa hM5;have HT5:=aa hT5
             clear hM5 hT5)
          refine⟨⟨k+1,by omega,by go_num,?_,fun j hj=> ?_,?_⟩,by simp[intOf];omega⟩
          ·rw[HTK.out]
           exact HM5.out.of_eq (fun x=>(Jj _ _ _).symm)
          ·by_cases e:j=k
           ·subst e
            rw[HF.out]
            simp[HIi.out]
           ·exact HA.out j (by omega)
          ·have h4:=KP.of_below (pb:=w2.heap.size) HB4.out HKk.out.size HB4.out.size
           exact(HKk.out.trans h4).trans (KP.turn HT5.out)
       ·have hkn:k=n:=by omega
        subst hkn
        have HALL:=aa (show cV (lT nms) nms.length=true from iV (fun j hj=>HA.out j (by rw[←HNn.out];exact hj)))
        have HCIr:=aa (HCI.out wr hBr hnr)
        have HCRr:=aa (fun W (hW:Below wr.heap.size wr W)=>HCR.out W (ag hBr hW) (ah hnr hW))
        have e5:wr.cell? ⟨w.heap.size,5,none⟩=some (.slice Ia m.items.length ic):=af hnr rfl
        have hzr:=blk_lt hnr
        clear hnr hBr
        cases b7 with
        |true=>
         go_wp2_with(go_at_call 156;refine HCIr.out.mono ?_;rintro e w6 ⟨rfl,hb6⟩;have HB6:=aa (ag HBr.out hb6);clear hb6)
         go_ret
         exact⟨by rw[HO.out];simp,HB6.out⟩
        |false=>
         go_wp2_with first
          |(go_at_call 156;refine HCIr.out.mono ?_
            rintro e w6 ⟨rfl,hb6⟩
            have e10:w6.cell? ⟨w.heap.size,10,none⟩=some (.slice Ua m.rules.length uc):=af (ah HNr.out hb6) rfl
            have HB6:=aa hb6
            clear hb6)
          |(go_at_call 159;refine(HCRr.out _ HB6.out).mono ?_;rintro e w7 ⟨rfl,hb7⟩;have HB7:=aa (ag HB6.out hb7);clear hb7)
         go_ret
         refine⟨?_,ag HBr.out HB7.out⟩
         rw[HO.out,HALL.out]
         simp[G1.out,G2.out]
end
section
open Go Go.RowKit Tryz
theorem PS.comma_le (p:PS):p.comma.1.ts.length≤p.ts.length:=by
 unfold PS.comma
 split
 ·exact ae _
 ·exact PS.take_le _ _ _
theorem PS.listGo_le (n:Nat) (p:PS):(PS.listGo n p).ts.length≤p.ts.length:=by
 fun_induction PS.listGo n p with
 |case1 n p h ih=>
  refine aP ih (aP (PS.ref_le _) ?_)
  have:=PS.comma_le p
  split
  ·rw[PS.fail_ts];exact this
  ·exact this
 |case2 n p h=>exact PS.comma_le p
theorem PS.classGo_le (l:List ai) (p:PS):(PS.classGo l p).ts.length≤p.ts.length:=by
 rw[PS.classGo]
 split
 ·rw[PS.fail_ts];exact ae _
 ·have h2:=PS.take_le p 2 l
  dsimp only
  split
  ·rename_i h
   have h1:=PS.comma_lt _ h
   have:=PS.classGo_le (l.filter fun s=> !decide (s=(p.take 2 l).2.text)) (PS.comma {(p.take 2 l).1 with d:={(p.take 2 l).1.d with by_:=(p.take 2 l).1.d.by_+eL (p.take 2 l).2.text}}).1
   refine aP this (aP (bN h1) h2)
  ·exact aP (PS.comma_le _) h2
termination_by p.ts.length
decreasing_by exact aF h1 h2
theorem PS.part_le (p:PS) (x:du):(p.part x).ts.length≤p.ts.length:=by
 cases x with
 |name=>exact PS.take_le p 1 []
 |ref=>exact PS.ref_le p
 |number=>exact PS.take_le p 3 []
 |list=>exact aP (PS.listGo_le 1 p.ref) (PS.ref_le p)
 |classes=>exact PS.classGo_le _ p
 |domain=>exact PS.take_le p 2 _
 |alw=>
  show p.alw.ts.length≤_
  unfold PS.alw
  split
  ·exact PS.take_le p 2 []
  ·exact ae _
 |word s=>exact PS.take_le p 2 [s]
theorem PS.parts_le: ∀(l:List du) (p:PS),(p.parts l).ts.length≤p.ts.length
 |[],p=>ae _
 |x::l,p=>by
  rw[PS.parts]
  refine aP (PS.parts_le l _) ?_
  split
  ·exact PS.part_le p x
  ·exact ae _
theorem PS.parts_err: ∀(l:List du) (p:PS),p.e≠0→p.parts l=p
 |[],p,_=>rfl
 |x::l,p,h=>by
  rw[PS.parts,if_neg h]
  exact PS.parts_err l p h
theorem PS.take_err {p:PS} {k:Nat} {l:List ai} (h:p.e≠0):(p.take k l).1=p:=by
 unfold PS.take
 rw[if_pos (.inl h)]
 show p.fail 3=p
 unfold PS.fail
 rw[if_neg h]
theorem PS.decl_lt {p:PS} (h:p.decl.1.e=0):p.decl.1.ts.length<p.ts.length:=by
 unfold PS.decl at h⊢
 cases hr:eM p.head with
 |none=>
  rw[hr] at h
  simp only at h
  unfold PS.fail at h
  split at h
  ·cases h
  ·rename_i hn;exact absurd h hn
 |some i=>
  rw[hr] at h
  simp only at h⊢
  have hk:p.head.kind=2:=by
   unfold eM at hr
   split at hr
   ·assumption
   ·cases hr
  refine Nat.lt_of_le_of_lt (PS.take_le _ _ _) (Nat.lt_of_le_of_lt (PS.parts_le _ _) ?_)
  show((p.take 2 []).1).ts.length<_
  by_cases he:p.e=0
  ·unfold PS.take
   rw[if_neg (by simp[he,hk])]
   cases hts:p.ts with
   |nil=>simp[PS.head,hts] at hk
   |cons a l=>simp
  ·have e1:(p.take 2 []).1=p:=PS.take_err he
   rw[e1] at h
   have e2:=PS.parts_err (rules.getD i ([],[])).2 {p with d:={kind:=i}} he
   rw[e2,PS.take_err (p:={p with d:={kind:=i}}) he] at h
   exact absurd h he
theorem Jo {p:PS} {out:List ar} (hk: ¬p.head.kind=0) (hn: ¬out.length=1024) (he:p.decl.1.e=0):eR p out=eR p.decl.1 (out++[p.decl.2]):=by
 rw[eR,if_neg hk]
 simp only[if_neg hn]
 rw[if_neg (by simp[he]),dif_pos (PS.decl_lt he)]
theorem Jp {p:PS} {out:List ar} (hk: ¬p.head.kind=0) (hn: ¬out.length=1024) (he: ¬p.decl.1.e=0):eR p out= .error (p.decl.1.head.pos,p.decl.1.e):=by
 rw[eR,if_neg hk]
 simp only[if_neg hn]
 rw[if_pos he]
theorem Jq {p:PS} {out:List ar} (hk: ¬p.head.kind=0) (hn:out.length=1024) (he:p.e=0):eR p out= .error (p.head.pos,p.beyond):=by
 rw[eR,if_neg hk]
 simp only[if_pos hn]
 have hb:p.beyond≠0:=by unfold PS.beyond;split<;>decide
 have e:p.fail p.beyond={p with e:=p.beyond}:=by unfold PS.fail;rw[if_pos he]
 rw[e,if_pos hb]
 rfl
theorem Jr {p:PS} {out:List ar} (hk:p.head.kind=0):eR p out= .ok out:=by rw[eR,if_pos hk]
theorem bT {w:World} {base e:Nat} {size:Nat} {v:Value} {n:Nat} {xs:List Value} (h:w.ownsRow base e size v n xs): ∃A m c,v= .slice A m c:=by
 rcases h.2 with ⟨rfl,_⟩|⟨g,cap,cur,rfl,_⟩
 ·exact⟨none,0,0,rfl⟩
 ·exact⟨_,_,_,rfl⟩
theorem j8 {w w':World} {base e pb B:Nat} {size:Nat} {v:Value} {n:Nat} {xs:List Value} (h:w.ownsRow base e size v n xs) (hk:KP B pb w w') (hB:w.heap.size≤B) (hp:pb<base):w'.ownsRow base e size v n xs:=by
 refine⟨h.1,?_⟩
 rcases h.2 with hn|⟨g,cap,cur,h1,h2,h3,h4⟩
 ·exact .inl hn
 ·exact .inr ⟨g,cap,cur,h1,h2,hk.blk h3 (aF (blk_lt h3) hB) (by omega),h4⟩
def Js (w:World) (B:Nat) (v:Value) (d:ar):Prop:=
 ∃r n,v= .agg #[.int .i64 d.kind,.string (bs d.name),r,n,.int .i64 d.by_,.bool d.always]∧w.ownsRow B 9 1 r d.refs.length (d.refs.map fun s=>Value.string (bs s))∧
  w.ownsRow B 3 1 n d.nums.length (d.nums.map fun(k:Nat)=>Value.int .i64 k)∧d.kind≤1000000∧d.by_≤1000000
def nM (w:World) (pb B M:Nat) (r:PS×ar) (e:Ending) (w':World):Prop:=
 ∃v B',e= .returned v∧Js w' B' v r.2∧aJ w' pb B' (M+1) r.1∧(r.1.e=0→r.1.Ok M)∧KP w.heap.size pb w w'
theorem zB (t:bU):rules.findIdx? (iA t)=eM t:=by
 unfold eM iA
 by_cases h:t.kind=2
 ·rw[if_pos h]
  simp[h]
 ·rw[if_neg h]
  simp[h]
theorem aJ.reset {w:World} {pb B B' M:Nat} {p:PS} {k:Nat} (h:aJ w pb B M p) (h1:pb<B') (h2:B'≤w.heap.size):aJ ((((((w.setCell ⟨pb,2,none⟩ (.int .i64 k)).setCell ⟨pb,3,none⟩ (.string ⟨#[]⟩)).setCell ⟨pb,4,none⟩ (.slice none 0 0)).setCell ⟨pb,5,none⟩ (.slice none 0 0)).setCell ⟨pb,6,none⟩ (.int .i64 0)).setCell ⟨pb,7,none⟩ (.bool false)) pb B' M {p with d:={kind:=k}}:=by
 obtain⟨t,r,n,g1,g2,g3,g4,g5,g6,g7⟩:=h
 have hk:KP w.heap.size pb w ((((((w.setCell ⟨pb,2,none⟩ (.int .i64 k)).setCell ⟨pb,3,none⟩ (.string ⟨#[]⟩)).setCell ⟨pb,4,none⟩ (.slice none 0 0)).setCell ⟨pb,5,none⟩ (.slice none 0 0)).setCell ⟨pb,6,none⟩ (.int .i64 0)).setCell ⟨pb,7,none⟩ (.bool false)):=
  ((((((KP.refl _ _ _).set (.inl rfl) _).set (.inl rfl) _).set (.inl rfl) _).set (.inl rfl) _).set (.inl rfl) _).set (.inl rfl) _
 refine⟨t,.slice none 0 0,.slice none 0 0,(ay (ay (ay (ay (ay (ay g1 2 _) 3 _) 4 _) 5 _) 6 _) 7 _).trans rfl,g2.to dU.ab (hk.below (by omega)) (ae _) (ae _),World.ownsRow_nil _ _ _ _,World.ownsRow_nil _ _ _ _,h1,by simp[World.setCell];omega,⟨g7.last,?_,?_,g7.e,?_,g7.n.1,by simp⟩⟩
 ·have:=g7.toks;simp;omega
 ·have:=g7.nums;simp;omega
 ·have:=g7.toks;simp;omega
theorem aJ.set6 {w:World} {pb B M b:Nat} {p:PS} {C:Array Value} {t:TypeId} {x0 x1 x2 x3 x4 x5:Value} (h:aJ w pb B M p) (hb:w.heap[b]? =some (.cells C t (0,0))) (ht: ¬t=9∧¬t=3) (hlt:pb<b):
 aJ ((((((w.setCell ⟨b,0,none⟩ x0).setCell ⟨b,1,none⟩ x1).setCell ⟨b,2,none⟩ x2).setCell ⟨b,3,none⟩ x3).setCell ⟨b,4,none⟩ x4).setCell ⟨b,5,none⟩ x5) pb B M p:=
 (((((h.setT hb ht hlt).setT (ay hb _ _) ht hlt).setT (ay (ay hb _ _) _ _) ht hlt).setT (ay (ay (ay hb _ _) _ _) _ _) ht hlt).setT (ay (ay (ay (ay hb _ _) _ _) _ _) _ _) ht hlt).setT (ay (ay (ay (ay (ay hb _ _) _ _) _ _) _ _) _ _) ht hlt
theorem zC {w:World} {base e:Nat} {size:Nat} {v:Value} {n b:Nat} {xs:List Value} {x0 x1 x2 x3 x4 x5:Value} (h:w.ownsRow base e size v n xs) (hb:b<base):
 ((((((w.setCell ⟨b,0,none⟩ x0).setCell ⟨b,1,none⟩ x1).setCell ⟨b,2,none⟩ x2).setCell ⟨b,3,none⟩ x3).setCell ⟨b,4,none⟩ x4).setCell ⟨b,5,none⟩ x5).ownsRow base e size v n xs:=by
 have hp: ∀k,v.ownBlock=some k→¬k=b:=fun k hk e'=>by
  rcases h.2 with ⟨rfl,_⟩|⟨g,cap,cur,rfl,hg,_⟩
  ·simp[Value.ownBlock] at hk
  ·have:g=k:=by simpa[Value.ownBlock] using hk
   omega
 exact dM (dM (dM (dM (dM (dM h hp _ _) hp _ _) hp _ _) hp _ _) hp _ _) hp _ _
theorem zD {p:PS} (h:eM p.head=none):p.decl=(p.fail 3,{}):=by unfold PS.decl;rw[h]
theorem zE {p:PS} {i:Nat} (h:eM p.head=some i):p.decl=((((PS.parts {(p.take 2 []).1 with d:={kind:=i}} (rules.getD i ([],[])).2).take 4 [[59]]).1),(((PS.parts {(p.take 2 []).1 with d:={kind:=i}} (rules.getD i ([],[])).2).take 4 [[59]]).1).d):=by unfold PS.decl;rw[h]
theorem Jt (pb B M:Nat) (p:PS) (w:World) (h:aJ w pb B M p) (hr:eM p.head=none):
 Calls prog 43 #[ptr pb] w (nM w pb B M p.decl):=by
 have HQ:=aa (zD hr)
 refine py fun HP HN=> ?_
 have HFL:=aa (fun W (hW:aJ W pb B M p)=>nF pb B M p W 3 hW (by omega))
 have hpw:=h.cells.1
 have hsz:=h.size
 have HR:=aa (fun W (hW:pb<W.heap.size)=>sT pb W hW)
 generalize p.head=t at HN hr
 have HC:=aa (fun(W:World) v b (hb:b<W.heap.size) (h0:W.cell? ⟨b,0,none⟩=some (.int .i64 t.kind)) (h1:W.cell? ⟨b,1,none⟩=some (.string (bs t.text))) (hs:aQ 3 fZ W W.heap.size v rules)=>
  rD fZ fZ.ab v rules 127 #[ptr b] (cJ rules (iA t)) W hs (enters_of func127 (by kernel_rfl) rfl)
   (fun j x cs W2 hx hW hr _=>by
     rw[dx hx]
     exact zr x cs t b _ W2 hr ((hW.cell (p:=⟨b,0,none⟩) hb).trans h0) ((hW.cell (p:=⟨b,1,none⟩) hb).trans h1) (aF hb hW.size)))
 rw[rz,zB,hr] at HC
 refine eG fun hmf=> ?_
 generalize p.decl=pd at HQ
 clear h hr
 unfold ptr at HN HR HC HFL
 unfold az at HC
 rw[eI] at HN
 simp only[ptr]
 go_enter func43,ntmps43
 go_wp2_with first
  |(go_at_call 40;refine(HN.out _ (HP.out.later (ac (B0 w) _))).mono ?_
    rintro e w1 ⟨rfl,hb1⟩
    have hb1a:=ag (ac (B0 w) _) hb1
    have hs1:=hb1a.size
    have hr1:=ah (aN w _) hb1)
  |(go_at_call 124;refine(HR.out _ (by simp;omega)).mono ?_
    rintro e w2 ⟨v,rfl,hv,hb2⟩
    refine zF fun hb3 ht hb4=> ?_
    have hr2:=ah (ah hr1 (ac (B0 w1) _)) hb2)
  |(go_at_call 126;refine(HC.out _ _ _ (blk_lt ht) (af ht rfl) (af ht rfl) hv.sl).mono ?_
    rintro e w3 ⟨rfl,hb5⟩
    have HB5:=aa (ag hb4 hb5)
    have HR3:=aa (ah hr2 hb5)
    clear hb1 hb1a hr1 hb2 hb3 ht hb4 hr2 hb5 hv)
  |(go_at_call 41;refine(HFL.out _ (HP.out.later HB5.out)).mono ?_
    rintro e w4 ⟨rfl,hP4,hK4,hD4⟩
    have hr4:=hK4.blk HR3.out (blk_lt HR3.out) (by omega)
    obtain⟨q0,q1,q2,q3,q4,q5⟩:=wl hr4
    have r0:=af (o:=0) hr4 rfl
    have r1:=af (o:=1) hr4 rfl
    have r2:=af (o:=2) hr4 rfl
    have r3:=af (o:=3) hr4 rfl
    have r4:=af (o:=4) hr4 rfl
    have r5:=af (o:=5) hr4 rfl
    have hz4:=blk_lt hr4
    have HP4:=aa hP4;have HK4:=aa hK4;have HR4:=aa hr4
    clear hP4 hK4 hD4 hr4)
 refine bodyPost_ret (v:= .agg #[.int .i64 0,.string ⟨#[]⟩,.slice none 0 0,.slice none 0 0,.int .i64 0,.bool false]) (by simp[results,results43,go_sem,r0,r1,r2,r3,r4,r5,hz4]) rfl ?_
 rw[HQ.out]
 refine⟨_,B,rfl,⟨_,_,rfl,World.ownsRow_nil _ _ _ _,World.ownsRow_nil _ _ _ _,by simp,by simp⟩,?_,?_,?_⟩
 ·have h:=HP4.out
  first|exact(h.set6 HR4.out (by decide) hpw).more (Nat.le_succ _)|exact h.more (Nat.le_succ _)
 ·intro he
  exact absurd he (p.fail_e (by decide))
 ·have hk0:KP w.heap.size pb w w4:=(KP.of_below HB5.out (ae _) HB5.out.size).trans (HK4.out.mono HB5.out.size)
  first|exact hk0|exact(((((hk0.set (.inr (ae _)) _).set (.inr (ae _)) _).set (.inr (ae _)) _).set (.inr (ae _)) _).set (.inr (ae _)) _).set (.inr (ae _)) _
end
end Go.Proofs.YthnkonlbfogkgaaGreatDoor
