/- A part of the proof. -/
import Derived.Test.YthnkonlbfogkgaaGreatDoorQbg
set_option linter.unusedVariables false
set_option linter.unusedSimpArgs false
set_option maxRecDepth 100000
set_option maxHeartbeats 32000000
namespace Go.Proofs.YthnkonlbfogkgaaGreatDoor
section
open Go Go.RowKit Go.MapKept Go.ChangeMaps Tryz
theorem bo.lit (w:World) (base:Nat) (s:ByteArray) (hb:base≤w.heap.size):bo (w.alloc (.cells #[.string s] 9)) base (.slice (some ⟨w.heap.size,0,none⟩) 1 1) [s]:=
 ⟨rfl,.inr ⟨w.heap.size,1,#[.string s],rfl,hb,heap_alloc_new w _,by simp,by simp[maxLen],rfl,rfl⟩⟩
theorem GS (x:ap) (m s:Value) (w:World) (hx:x.In w w.heap.size m s) (hms:x.ms.length≤1000000) (hss:x.ss.length≤1000000) (hv:cL x=false):
 am 27 #[.agg (x.cells m s)] w (.string (bs [])):=by
 have HV:=fun W (h:Below w.heap.size w W)=>pf x m s W ((hx.below h (ae _)).more h.size) hms hss
 rw[hv] at HV
 obtain⟨Am,nm,cm,rfl,_,_,_⟩:=hx.ms.form
 obtain⟨As,ns,cs,rfl,_,_,_⟩:=hx.ss.form
 rw[ap.cells_def] at HV⊢
 have HV:=aa HV
 clear hx hv
 go_enter func27,ntmps27
 go_wp2_with(go_at_call 35;refine(HV.out _ (ac (B0 w) _)).mono ?_;rintro e w1 ⟨rfl,hb1⟩)
 go_ret
 exact⟨rfl,ag (ac (B0 w) _) hb1⟩
theorem yi: ∀(l:List (List UInt8)) (B:Nat),(∀w∈l,w.length≤B)→Lib.lens l≤l.length*B
 |[],_,_=>by simp[Lib.lens]
 |a::r,B,h=>by
  have h1:=h a (by simp)
  have h2:=yi r B fun w hw=>h w (by simp[hw])
  rw[List.length_cons,Nat.add_mul,Nat.one_mul]
  simp only[Lib.lens,List.map_cons,List.sum_cons] at h2⊢
  omega
theorem yj (x:ap) (hx:x.Num) (K:Nat) (hK:21≤K) (hk:x.key.size≤K):(∀w∈bF x,w.length≤K)∧(bF x).length≤x.ms.length+x.ss.length+10:=by
 have ms: ∀l:List Int,(∀n∈l,aj n)→∀w∈l.map Lib.itoa,w.length≤K:=fun l hl w h=>by
  obtain⟨n,hn,rfl⟩:=List.mem_map.1 h
  have:=Lib.itoa_length_le n (hl n hn).1 (hl n hn).2
  omega
 have key:x.key.data.toList.length≤K:=by
  have:x.key.data.toList.length=x.key.size:=by rw[Array.length_toList];rfl
  omega
 have hop:(∀w∈eQ x,w.length≤K)∧(eQ x).length≤4:=by
  have h1:=Lib.itoa_length_le x.val hx.val.1 hx.val.2
  have h2:=Lib.itoa_length_le x.old hx.old.1 hx.old.2
  unfold eQ
  repeat' split
  all_goals
   refine⟨fun w hw=> ?_,by simp⟩
   simp only[List.mem_cons,List.not_mem_nil,or_false] at hw
   first
    |(rcases hw with rfl|rfl|rfl|rfl<;>first|exact key|omega|(simp;omega))
    |(rcases hw with rfl|rfl|rfl<;>first|exact key|omega|(simp;omega))
    |(rcases hw with rfl|rfl<;>first|exact key|(simp;omega))
 unfold bF
 split
 ·simp
 split
 ·exact⟨ms _ hx.ms,by simp;omega⟩
 split
 ·exact⟨ms (x.a::x.ss) (by simp only[List.mem_cons,forall_eq_or_imp];exact⟨hx.a,hx.ss⟩),by simp;omega⟩
 split
 ·exact⟨ms [x.a,x.b] (by simpa using⟨hx.a,hx.b⟩),by simp⟩
 split
 ·exact⟨ms [x.a,x.b,x.c] (by simpa using⟨hx.a,hx.b,hx.c⟩),by simp⟩
 split
 ·exact⟨ms [x.a,x.b,x.val] (by simpa using⟨hx.a,hx.b,hx.val⟩),by simp⟩
 split
 ·refine⟨fun w hw=> ?_,by simp only[List.length_append,List.length_cons,List.length_nil];omega⟩
  rcases List.mem_append.1 hw with h|h
  ·exact ms [x.a,x.b] (by simpa using⟨hx.a,hx.b⟩) w h
  ·exact hop.1 w h
 ·exact⟨ms [x.a] (by simpa using hx.a),by simp⟩
theorem GU (x:ap) (hx:x.Num) (hk:x.key.size≤1000000) (hms:x.ms.length≤100) (hss:x.ss.length≤100):(gR x).length≤1000000000:=by
 obtain⟨h1,h2⟩:=yj x hx 1000000 (by omega) hk
 unfold gR
 rw[Lib.join_length]
 have h3:=yi (bF x) 1000000 h1
 have h4:(bp x.kind.toNat).length≤8:=by
  generalize x.kind.toNat=k
  unfold bp
  split<;>simp
 have h5:Lib.lens (bp x.kind.toNat::bF x)=(bp x.kind.toNat).length+Lib.lens (bF x):=by simp[Lib.lens]
 rw[h5]
 have h6:(bF x).length*1000000≤210*1000000:=Nat.mul_le_mul_right _ (by omega)
 simp only[List.length_singleton]
 omega
structure GV (x:ap) (m s:Value) (w:World) (p:Nat) (word:List UInt8) (gt:Nat) (W:World):Prop where
 below:Below w.heap.size w W
 p0:W.cell? ⟨p,0,none⟩=some (.string (bs word))
 p5:W.cell? ⟨p,5,none⟩=some (.func (.func gt) #[] #[])
 lies:cY W w.heap.size x m s
 lp:p<W.heap.size
 la:w.heap.size<W.heap.size
theorem GW (x:ap) (m s:Value) (w:World) (hG:aT w) (hx:x.In w w.heap.size m s) (hms:x.ms.length≤100) (hss:x.ss.length≤100) (hv:cL x=true):
 am 27 #[.agg (x.cells m s)] w (.string (bs (gR x))):=by
 have HV:=fun W (h:Below w.heap.size w W)=>pf x m s W ((hx.below h (ae _)).more h.size) (by omega) (by omega)
 rw[hv] at HV
 obtain⟨h0,h17⟩:=ou (ow hv)
 obtain⟨k,hk⟩: ∃k:Nat,x.kind=k:=⟨x.kind.toNat,by omega⟩
 have ek:x.kind.toNat=k:=by omega
 have HF:=fun W=>yf x.kind h0 h17 W
 rw[ek] at HF
 have HFi:=aa HF
 have HX:=aa hx
 have HK:=aa hk
 have HG:=aa hG
 have HVal:=aa hv
 clear hk ek h0 h17 HF hG hv
 obtain⟨Am,nm,cm,rfl,_,_,_⟩:=hx.ms.form
 obtain⟨As,ns,cs,rfl,_,_,_⟩:=hx.ss.form
 rw[ap.cells_def] at HV⊢
 have HVa:=aa HV
 clear hx HV
 go_enter func27,ntmps27
 go_wp2_with(first
  |(go_at_call 35
    refine(HVa.out _ (ac (B0 w) _)).mono ?_
    rintro e w1 ⟨rfl,hb1⟩
    refine rU fun HB1 HL1=> ?_
    have hz1:w.heap.size<w1.heap.size:=dJ hb1 (by simp)
    obtain⟨hc1,hf1⟩:=ck hb1
    clear hb1)
  |(go_at_call 72
    refine(HFi.out _).mono ?_
    rintro e w2 ⟨⟨word,kind,gu,gf,caps,gr,gt⟩,hF,rfl,hb2⟩
    have HFn:=aa hF
    have et:=hF.et
    unfold bc at et
    simp only at et
    have HB2:=aa (ag HB1.out hb2)
    have HL2:=aa (HL1.out.below hb2 hz1)
    have hz2:w.heap.size<w2.heap.size:=dJ hb2 hz1
    clear hF hb2 hc1 hf1 hz1))
 refine rP (GV x (.slice Am nm cm) (.slice As ns cs) w w2.heap.size word gt) ⟨ac HB2.out _,by go_simp,by go_simp,HL2.out.below (ac (B0 w2) _) hz2,by simp,by simp;omega⟩ ?_
 intro W hW
 have hw:word=bp k:=HFn.out.word
 have HText:Hid (∀W',Below W.heap.size W W'→Calls prog gt #[.agg #[.int .i64 x.kind,.int .i64 x.a,.int .i64 x.b,.int .i64 x.c,.int .i64 x.ok,.string x.key,.int .i64 x.val,.int .i64 x.old,.slice Am nm cm,.slice As ns cs]] W' (iN W' ((bF x).map bs))):=fun W' hb=>by
  have hbb:=ag hW.below hb
  have h:=HFn.out.text x (.slice Am nm cm) (.slice As ns cs) W' (HG.out.step hbb) ((HX.out.below hbb (ae _)).more hbb.size) (by omega) (by omega) (fun e=>by
   have:=re HVal.out (by rw[HK.out,e];rfl)
   simp only[jn,Bool.and_eq_true,decide_eq_true_eq] at this
   exact⟨this.1.1.1.1.1.1,this.1.1.1.1.1.2⟩)
  have e:({x with kind:=(k:Int)}:ap)=x:=by rw[←HK.out]
  rw[e] at h
  exact h
 have HJ:Hid ((Lib.join ((bs word::(bF x).map bs).map (·.data.toList)) [32])=gR x):=by
  show _=_
  have e1:((bF x).map bs).map (·.data.toList)=bF x:=by
   rw[List.map_map]
   conv=>rhs;rw[←List.map_id (bF x)]
   exact List.map_congr_left fun l _=>bL l
  unfold gR
  rw[List.map_cons,bL,e1,hw,HK.out];rfl
 have HSz:=aa (GU x HX.out.num HX.out.key hms hss)
 have HCnt:=aa (yj x HX.out.num 1000000 (by omega) HX.out.key).2
 have HW:=aa hW.below
 obtain⟨_,p0,p5,⟨l0,l1,l2,l3,l4,l5,l6,l7,l8,l9⟩,hlp,hla⟩:=hW
 have hle:=HW.out.size
 clear hw HB2 HL2 hz2
 go_region_held3 (fun w'=>w'.cell? ⟨w2.heap.size,0,none⟩=some (.string (bs word))∧w'.cell? ⟨w2.heap.size,5,none⟩=some (.func (.func gt) #[] #[])∧w'.cell? ⟨w.heap.size,0,none⟩=some (.int .i64 x.kind)∧w'.cell? ⟨w.heap.size,1,none⟩=some (.int .i64 x.a)∧w'.cell? ⟨w.heap.size,2,none⟩=some (.int .i64 x.b)∧w'.cell? ⟨w.heap.size,3,none⟩=some (.int .i64 x.c)∧w'.cell? ⟨w.heap.size,4,none⟩=some (.int .i64 x.ok)∧w'.cell? ⟨w.heap.size,5,none⟩=some (.string x.key)∧w'.cell? ⟨w.heap.size,6,none⟩=some (.int .i64 x.val)∧w'.cell? ⟨w.heap.size,7,none⟩=some (.int .i64 x.old)∧w'.cell? ⟨w.heap.size,8,none⟩=some (.slice Am nm cm)∧w'.cell? ⟨w.heap.size,9,none⟩=some (.slice As ns cs)) (go_simp)
  (first
    |(go_at_fn gt
      refine(HText.out _ (by first|exact au (B0 W)|exact au (ac (B0 W) _))).mono ?_
      rintro e w3 ⟨u,rfl,hu,hb3⟩
      have hB3:Below W.heap.size W w3:=by first|exact ag (au (B0 W)) hb3|exact ag (au (ac (B0 W) _)) hb3
      have hz3:W.heap.size≤w3.heap.size:=hB3.size
      have hc3: ∀b o,b<W.heap.size→w3.cell? ⟨b,o,none⟩=W.cell? ⟨b,o,none⟩:=fun b o h=>hB3.cell (p:=⟨b,o,none⟩) h
      have hlp3:w2.heap.size<w3.heap.size:=by omega
      have hla3:w.heap.size<w3.heap.size:=by omega)
    |(go_at_call 57
      refine(C0 v' (bs word::(bF x).map bs) _ (show bo w4 w.heap.size v' (bs word::(bF x).map bs) from hown).slS (by have:=HCnt.out;simp;omega) (by rw[HJ.out];have:=HSz.out;omega)).mono ?_
      rintro e w5 ⟨rfl,hb5⟩
      have hB5:=ag hB4 hb5
      have hc5: ∀b o,b<W.heap.size→w5.cell? ⟨b,o,none⟩=W.cell? ⟨b,o,none⟩:=fun b o h=>(hb5.cell (p:=⟨b,o,none⟩) (aF h hz4)).trans (hc4 b o h))
    |(refine oI rfl (.tmp 16) (.tmp 20) rfl w.heap.size _ u [bs word] ((bF x).map bs) (by rfl) (by rfl) (by first|exact bo.below (show bo (W.alloc (.cells #[.string (bs word)] 9)).drew w.heap.size _ [bs word] from bo.lit W w.heap.size (bs word) hle) hb3|exact bo.lit w3 w.heap.size (bs word) (by omega)) (by first|exact hu.src|exact bo.src (hu.alloc _)) (by have:=HCnt.out;simp;omega) (by first|omega|(simp;omega)) ?_
      intro v' w4 hown hgr
      have hB4:Below w.heap.size w w4:=by
       first
        |exact bo.grown (bo.below (show bo (W.alloc (.cells #[.string (bs word)] 9)).drew w.heap.size _ [bs word] from bo.lit W w.heap.size (bs word) hle) hb3) (ag HW.out hB3) hgr
        |exact bo.grown (bo.lit w3 w.heap.size (bs word) (by omega)) (ac (ag HW.out hB3) _) hgr
      have hz4:W.heap.size≤w4.heap.size:=aP (by first|exact hz3|(simp;omega)) hgr.size
      have hc4: ∀b o,b<W.heap.size→w4.cell? ⟨b,o,none⟩=W.cell? ⟨b,o,none⟩:=fun b o h=>by
       first
        |exact(World.grownBy.cell_far hgr ⟨b,o,none⟩ (aF h hz3) (fun e=>absurd (show b=W.heap.size by injection (show some b=some W.heap.size from e)) (by omega))).trans (hc3 b o h)
        |exact(World.grownBy.cell_far hgr ⟨b,o,none⟩ (by simp;omega) (fun e=>absurd (show b=w3.heap.size by injection (show some b=some w3.heap.size from e)) (by omega))).trans ((World.cell?_alloc_lt w3 _ _ (aF h hz3)).trans (hc3 b o h))))
 all_goals
  go_wp2_with fail
  go_ret
  exact⟨og (congrArg bs (by have h:=HJ.out;simp only[List.map_cons,List.map_map] at h;exact h)),hB5⟩
theorem GX (x:ap) (m s:Value) (w:World) (hG:aT w) (hx:x.In w w.heap.size m s) (hms:x.ms.length≤100) (hss:x.ss.length≤100):
 am 27 #[.agg (x.cells m s)] w (.string (bs (ot x))):=by
 unfold ot
 cases hv:cL x with
 |false=>exact GS x m s w hx (by omega) (by omega) hv
 |true=>exact GW x m s w hG hx hms hss hv
def nq (w:World) (l:List ByteArray) (e:Ending) (w':World):Prop:=
 Below w.heap.size w w'∧match el l with
  |some y=> ∃m s,e= .returned (.tuple #[.agg (y.cells m s),.int .i64 0])∧y.In w' w'.heap.size m s∧da w.heap.size m∧da w.heap.size s
  |none=>e= .returned (.tuple #[.agg ((aK 0).cells aG aG),.int .i64 3])
def pg (b:Nat→Nat):List (Value×Value):=(items b).map dy.kv
theorem rV (b:Nat→Nat): ∀p∈pg b,IsKey .string p.1:=by
 intro p hp
 obtain⟨x,_,rfl⟩:=List.mem_map.1 hp
 exact gB
theorem rW (b:Nat→Nat) {j:Nat} {x:dy} (hj:(items b)[j]? =some x): ∃k,iz[j]? =some k∧x.word=bp k:=by
 have h1:((items b).map (·.word))[j]? =some x.word:=by rw[List.getElem?_map,hj];rfl
 rw[xT,List.getElem?_map] at h1
 obtain⟨k,hk,e⟩:=Option.map_eq_some_iff.1 h1
 exact⟨k,hk,e.symm⟩
theorem yk: ∀k∈iz,k<18:=by decide
theorem yl (b:Nat→Nat) {s:ByteArray} (h:fh s=none): ∀p∈pg b,IsKey .string p.1∧p.1≠ .string s:=by
 intro p hp
 refine⟨rV b p hp,fun e=> ?_⟩
 obtain⟨x,hx,rfl⟩:=List.mem_map.1 hp
 obtain⟨j,hj⟩:=List.mem_iff_getElem?.1 hx
 obtain⟨k,hk,hw⟩:=rW b hj
 have e':bs x.word=s:=by injection e
 rw[hw] at e'
 have:=oO k (yk k (co hk))
 rw[e',h] at this
 cases this
theorem GY (b:Nat→Nat) {s:ByteArray} {k:Nat} (h:fh s=some k):
 ∃(j:Nat) (x:dy),(items b)[j]? =some x∧iz[j]? =some k∧(∀p∈pg b,p.1= .string s→p.2=x.val)∧∃p∈pg b,p.1= .string s:=by
 obtain⟨h18,hs⟩:=wV h
 obtain⟨j,hj⟩:=List.mem_iff_getElem?.1 (yd k h18)
 have hl:j<18:=(List.getElem?_eq_some_iff.1 hj).1
 obtain⟨x,hx⟩: ∃x,(items b)[j]? =some x:=⟨_,List.getElem?_eq_getElem (by rw[pe];exact hl)⟩
 obtain⟨k',hk',hw⟩:=rW b hx
 rw[hj] at hk'
 injection hk' with hk'
 subst hk'
 refine⟨j,x,hx,hj,fun p hp e=> ?_,⟨x.kv,List.mem_map.2 ⟨x,co hx,rfl⟩,by show Value.string (bs x.word)=_;rw[hw,hs]⟩⟩
 obtain⟨y,hy,rfl⟩:=List.mem_map.1 hp
 obtain⟨i,hi⟩:=List.mem_iff_getElem?.1 hy
 obtain⟨k2,hk2,hw2⟩:=rW b hi
 have e':bs y.word=s:=by injection e
 rw[hw2] at e'
 have:=oO k2 (yk k2 (co hk2))
 rw[e',h] at this
 injection this with this
 subst this
 have hij:j=i:=(List.getElem?_inj (List.getElem?_eq_some_iff.1 hj).1 (by decide:iz.Nodup)).1 (hj.trans hk2.symm)
 subst hij
 rw[hx] at hi
 injection hi with hi
 subst hi
 rfl
theorem ym (w:World):(zeroValue 74).run prog w= .ok (.agg #[.string ⟨#[]⟩,.int .i64 0,.nilFunc,.nilFunc,.nilFunc,.nilFunc]) w:=by kernel_rfl
theorem yn (s:ByteArray) (hs:s.size≤100000):(ba s).length≤100001∧∀x∈ba s,x.size≤100000:=by
 refine⟨?_,fun x hx=> ?_⟩
 ·unfold ba
  have h1:=Lib.splitB_length_le (bs [32]) 0 (Lib.countB s (bs [32])) s
  have h2:=Lib.countB_le (bs [32]) (by decide) s.size s (ae _)
  omega
 ·obtain⟨w,r,h1,h2⟩:=oM s
  rw[h1] at hx
  have h3:s.size=(Lib.join ((w::r).map (·.data.toList)) [32]).length:=by rw[←bq,h2]
  rw[List.map_cons,Lib.join_length] at h3
  have h4:x.data.toList.length≤Lib.lens (w.data.toList::r.map (·.data.toList)):=by
   have: ∀l:List (List UInt8),∀y∈l,y.length≤Lib.lens l:=by
    intro l
    induction l with
    |nil=>intro y hy;cases hy
    |cons a t ih=>
     intro y hy
     have e:Lib.lens (a::t)=a.length+Lib.lens t:=by simp[Lib.lens]
     rcases List.mem_cons.1 hy with rfl|hy
     ·omega
     ·have:=ih y hy;omega
   exact this _ _ (by
    rcases List.mem_cons.1 hx with rfl|hx
    ·simp
    ·exact List.mem_cons_of_mem _ (List.mem_map.2 ⟨x,hx,rfl⟩))
  have h5:x.data.toList.length=x.size:=by rw[Array.length_toList];rfl
  omega
theorem ph {w:World} {r:Nat} {a0 a1 a2 a3 a4 a5 a6 a7 a8 a9:Value} {t:TypeId} (h:w.heap[r]? =some (.cells #[a0,a1,a2,a3,a4,a5,a6,a7,a8,a9] t (0,0))):
 (w.cell? ⟨r,0,none⟩=some a0∧w.cell? ⟨r,1,none⟩=some a1∧w.cell? ⟨r,2,none⟩=some a2∧w.cell? ⟨r,3,none⟩=some a3∧w.cell? ⟨r,4,none⟩=some a4∧w.cell? ⟨r,5,none⟩=some a5∧w.cell? ⟨r,6,none⟩=some a6∧w.cell? ⟨r,7,none⟩=some a7∧w.cell? ⟨r,8,none⟩=some a8∧w.cell? ⟨r,9,none⟩=some a9)∧
 ∀o,w.frozen? ⟨r,o,none⟩=false:=by
 refine⟨⟨?_,?_,?_,?_,?_,?_,?_,?_,?_,?_⟩,fun o=>ei h o⟩<;>exact dp h (by show _<10;decide)
theorem GZ {s:ByteArray} (h:fh (aE (ba s) 0)=none):el (ba s)=none:=by
 obtain⟨w,r,h1,_⟩:=oM s
 rw[h1] at h⊢
 have h':fh w=none:=h
 simp[el,h']
theorem rX {s:ByteArray} {k:Nat} (h:fh (aE (ba s) 0)=some k):el (ba s)=(cr k ((ba s).drop 1)).bind fun y=>if cL y then some y else none:=by
 obtain⟨w,r,h1,_⟩:=oM s
 rw[h1] at h⊢
 have h':fh w=some k:=h
 simp[el,h']
theorem yp {k:Nat} {l:List ByteArray} {y:ap} (h:cr k l=some y):y.ms.length≤l.length∧y.ss.length≤l.length:=by
 have ns: ∀(k:Int) (j:Nat),dN k j l=some y→y.ms.length≤l.length∧y.ss.length≤l.length:=fun k j h=>by
  obtain⟨vs,_,rfl⟩:=Option.map_eq_some_iff.1 h
  simp[aK]
 unfold cr at h
 split at h
 ·unfold jW at h
  split at h
  ·injection h with h;subst h;simp[aK]
  ·cases h
 split at h
 ·unfold ff at h
  split at h
  ·cases h
  ·obtain⟨vs,hv,h⟩:=Option.bind_eq_some_iff.1 h
   obtain⟨a,ha,rfl⟩:=Option.map_eq_some_iff.1 h
   have:=jP hv
   rw[List.length_drop] at this
   exact⟨by simp[aK],by show vs.length≤_;omega⟩
 split at h
 ·exact ns _ _ h
 split at h
 ·unfold fg at h
  split at h
  ·cases h
  ·obtain⟨q,hq,h⟩:=Option.bind_eq_some_iff.1 h
   obtain⟨vs,hv,rfl⟩:=Option.map_eq_some_iff.1 h
   simp[aK]
 split at h
 ·unfold fW at h
  split at h
  ·obtain⟨vs,hv,h⟩:=Option.bind_eq_some_iff.1 h
   obtain⟨u,hu,rfl⟩:=Option.map_eq_some_iff.1 h
   simp[aK]
  ·cases h
 split at h
 ·exact ns _ _ h
 split at h
 ·obtain⟨vs,hv,rfl⟩:=Option.map_eq_some_iff.1 h
  have:=jP hv
  exact⟨by show vs.length≤_;omega,by simp[aK]⟩
 ·exact ns _ _ h
theorem G0 {k:Nat} {l:List ByteArray} {y:ap} (h:cr k l=some y) (hk:k<18) (hsz: ∀x∈l,x.size≤100000) {w:World} {B:Nat} {m s:Value} (hm:aq w B m y.ms) (hs:aq w B s y.ss):y.In w B m s:=by
 obtain⟨h1,_,hN,hok,hkey⟩:=EL h
 refine⟨?_,hN.a,hN.b,hN.c,hok,?_,hN.val,hN.old,hm,hs⟩
 ·rw[h1];exact⟨by omega,by omega⟩
 ·rcases hkey with hkey|hkey
  ·rw[hkey];exact aY _
  ·have:=hsz _ hkey;omega
theorem G3 (wc:World) (k:Nat) (kx:Int) (hk:kx=k):bB (wc.alloc (.cells #[.int .i64 kx,.int .i64 0,.int .i64 0,.int .i64 0,.int .i64 0,.string ⟨#[]⟩,.int .i64 0,.int .i64 0,.slice none 0 0,.slice none 0 0] 45)) wc.heap.size (aK k) aG aG:=by
 unfold bB
 rw[ej,←hk]
 exact heap_alloc_new wc _
theorem Sl.set {w:World} {B r:Nat} {v:Value} {xs:List Value} (h:Sl w B v xs) (hf: ∀a n c,v= .slice (some a) n c→¬a.block=r) (o:Nat) (u:Value):Sl (w.setCell ⟨r,o,none⟩ u) B v xs:=by
 obtain⟨A,c,rfl,h1,h2,h3⟩:=h
 refine⟨A,c,rfl,h1,h2,fun hn=> ?_⟩
 obtain⟨b,o',rfl,hb,hc⟩:=h3 hn
 exact⟨b,o',rfl,hb,fun j u' hu=>(qX (hf _ _ _ rfl)).trans (hc j u' hu)⟩
theorem In.set {y:ap} {w:World} {r:Nat} {m s:Value} (h:y.In w w.heap.size m s) (hm: ∀a n c,m= .slice (some a) n c→¬a.block=r) (hs: ∀a n c,s= .slice (some a) n c→¬a.block=r) (o:Nat) (u:Value):y.In (w.setCell ⟨r,o,none⟩ u) (w.setCell ⟨r,o,none⟩ u).heap.size m s:=by
 have e:(w.setCell ⟨r,o,none⟩ u).heap.size=w.heap.size:=by simp[World.setCell]
 rw[e]
 exact⟨h.kind,h.a,h.b,h.c,h.ok,h.key,h.val,h.old,⟨Sl.set h.ms.1 hm o u,h.ms.2⟩,⟨Sl.set h.ss.1 hs o u,h.ss.2⟩⟩
theorem G5 {s:ByteArray} {k:Nat} (h:fh s=some k):k<18:=(wV h).1
def rY (w1:World) (k:Nat) (p:Value) (wx:World):Prop:=
 ∃(pb:Nat) (x:dy),p=ptr pb∧w1.heap.size≤pb∧db wx k x∧Below w1.heap.size w1 wx∧wx.heap[pb]? =some (.cells #[.string (bs x.word),.int .i64 x.kind,az x.gu #[],az x.gf x.caps,az x.gr #[],az x.gt #[]] 74 (0,0))
theorem G6 (s:ByteArray) (w:World) (hG:aT w) (hs:s.size≤100000) (hk:fh (aE (ba s) 0)=none):
 Calls prog 13 #[.string s] w (nq w (ba s)):=by
 have SP:=fun W (h:aT W)=>oq s W h (by omega)
 simp only[show Lib.splitB (bs [32]) 0 (Lib.countB s (bs [32])) s=ba s from rfl] at SP
 refine pi fun HSP HP HG HLw HK=> ?_
 clear hk
 clear SP hG
 go_enter func13,ntmps13
 go_upto_region 2 with (go_at_call 29;refine(HSP.out _ (HG.out.step (ac (B0 w) _))).mono ?_;rintro e w1 ⟨v,rfl,hv,hlen,hb1⟩)
 obtain⟨A,n,c,rfl,hn,hnc,hcm⟩:=hv.form
 have n1:1≤n:=by omega
 obtain⟨bl,ol,rfl,hbl,hcell⟩:=hv.at_ 0 n1
 have hw0:=hcell 0 n1
 rw[Nat.add_zero] at hw0
 refine pj fun i0 n0 i1 i2 i3 n2 HV HN HR hz1 HB1=> ?_
 clear hv hn hcell hb1 hlen
 go_cut [5,6] (fun _ q wx=>q= .bool false∧Below w1.heap.size w1 wx)
 case first=>
  rename_i J K' hJ hK'
  have HJ:=aa hJ
  have HK':=aa hK'
  clear hJ hK'
  go_region_held3 (fun w'=>w'.cell? ⟨bl,ol,none⟩=some (.string (aE (ba s) 0))) (go_simp)
   (first
     |(go_at_call 34
       refine(HP.out _).mono ?_
       rintro e w2 ⟨M,b,rfl,hL,hX,hfr,hM,hb2⟩
       have hB2:Below w1.heap.size w1 w2:=by first|exact ag (au (B0 w1)) hb2|exact ag (au (ac (B0 w1) _)) hb2
       have hk1:(Instr.lookup 76 (.map (some M)) (.string (aE (ba s) 0)) true).run prog w2= .ok (.tuple #[.agg #[.string ⟨#[]⟩,.int .i64 0,.nilFunc,.nilFunc,.nilFunc,.nilFunc],.bool false]) w2:=mO underlying76 underlying9 hL true gB (yl b HK.out) (ym _)
       have hk2: ∀o,(Instr.lookup 76 (.map (some M)) (.string (aE (ba s) 0)) true).run prog (w2.alloc o)= .ok (.tuple #[.agg #[.string ⟨#[]⟩,.int .i64 0,.nilFunc,.nilFunc,.nilFunc,.nilFunc],.bool false]) (w2.alloc o):=fun o=>mO underlying76 underlying9 (hL.later (ac (B0 w2) o)) true gB (yl b HK.out) (ym _)
       have hc2: ∀b o,b<w1.heap.size→w2.cell? ⟨b,o,none⟩=w1.cell? ⟨b,o,none⟩:=fun b o h=>hB2.cell (p:=⟨b,o,none⟩) h
       obtain⟨hcx,hfx⟩:=lv hb2
       try(have hzx:w1.heap.size<w2.heap.size:=by(have hq:=hb2.size;simp at hq;omega))
       have hbl2:bl<w2.heap.size:=aF hbl hB2.size
       have hbn2: ¬bl=w2.heap.size:=by omega
       have hz2:w.heap.size<w2.heap.size:=aF hz1 hB2.size
       have HL:=aa hL
       have HX:=aa hX
       clear hL hX hfr hM hb2))
  all_goals (dsimp only[Exit.then];refine HK'.out _ _ (Met.intro (HJ.out _ _ ?_));(repeat apply Exists.intro);refine⟨⟨rfl,?_⟩,rfl⟩;first|with_reducible exact ac hB2 _|(repeat' first|with_reducible exact hB2|with_reducible refine aR ?_ (ae _) _))
 case rest=>
  obtain⟨rfl,hB2⟩:=hcut
  have hR:=(hB2.block w.heap.size hz1).trans HR.out
  rw[ej] at hR
  obtain⟨⟨d0,d1,d2,d3,d4,d5,d6,d7,d8,d9⟩,fr⟩:=ph hR
  refine pk fun f0 f1 f2 f3 f4 f5 f6 f7 f8 f9=> ?_
  clear hR fr
  go_wp2_with fail
  refine rZ ?_
  refine⟨?_,?_⟩
  ·have hb:=HB1.out.trans (hB2.mono HB1.out.size)
   repeat' first|with_reducible exact hb|with_reducible refine aR ?_ (ae _) _
  ·rw[GZ HK.out]
theorem G7 (s:ByteArray) (w:World) (hG:aT w) (hs:s.size≤100000) (k:Nat) (hk:fh (aE (ba s) 0)=some k) (hr:cr k ((ba s).drop 1)=none):
 Calls prog 13 #[.string s] w (nq w (ba s)):=by
 have SP:=fun W (h:aT W)=>oq s W h (by omega)
 simp only[show Lib.splitB (bs [32]) 0 (Lib.countB s (bs [32])) s=ba s from rfl] at SP
 refine pi fun HSP HP HG HLw HK=> ?_
 have HRd:=aa hr
 clear hr
 clear hk
 clear SP hG
 go_enter func13,ntmps13
 go_upto_region 2 with (go_at_call 29;refine(HSP.out _ (HG.out.step (ac (B0 w) _))).mono ?_;rintro e w1 ⟨v,rfl,hv,hlen,hb1⟩)
 obtain⟨A,n,c,rfl,hn,hnc,hcm⟩:=hv.form
 have n1:1≤n:=by omega
 obtain⟨bl,ol,rfl,hbl,hcell⟩:=hv.at_ 0 n1
 have hw0:=hcell 0 n1
 rw[Nat.add_zero] at hw0
 refine pj fun i0 n0 i1 i2 i3 n2 HV HN HR hz1 HB1=> ?_
 clear hv hn hcell hb1 hlen
 go_cut [5,6] (fun p q wx=>q= .bool true∧rY w1 k p wx)
 case first=>
  exact se
 case rest=>
  obtain⟨rfl,pb,⟨word,kind,gu,gf,caps,gr,gt⟩,rfl,hpb,hF,hB2,hBlk⟩:=hcut
  have HBk:=aa hBlk
  obtain⟨⟨p0,p1,p2,p3,p4,p5⟩,_⟩:=np hBlk
  have hkind:kind=k:=hF.kind
  have er:=hF.er
  unfold bc at er
  simp only at er
  refine sh fun hpw HFn HKd hz2 HB2 HRc=> ?_
  simp only[az] at p4
  clear hF hB2 hBlk hkind p0 p2 p3 p5
  simp only[ptr]
  go_wp2_with fail
  refine si ?_
  intro W ⟨hBW,hblk,q4,hlW⟩
  refine sj fun HBW HBl HGW h8 hzW HWall HRW=> ?_
  clear hBW hblk p1 p4
  have hds: ∀s'∈(ba s).drop 1,s'.size≤1000000:=fun s' h=>by have:=HLw.out.2 s' (List.mem_of_mem_drop h);omega
  have hdl:((ba s).drop 1).length≤100000:=by have:=HLw.out.1;rw[List.length_drop];omega
  have HDs:=aa hds
  have HDl:=aa hdl
  clear hds hdl
  by_cases hc1: ¬c=1
  ·have hR1:aL W.drew wc.heap.size (.slice (some ⟨bl,ol+1,none⟩) (n - 1) (c - 1)) ((ba s).drop 1):=
    aL.below (((HV.out.drop 1 (by omega)).below HB2.out (ae _)).more HB2.out.size) (au HBW.out) (ae _)
   have HRV:=aa hR1
   clear hR1
   refine bA 11 ?_
   refine dG 0 24 ?_
   iterate 2 refine gA 12 24 ?_
   refine cA 1 fun K hK=> ?_
   go_simp
   refine hK _ _ ?_
   clear hK K
   refine ak ?_
   refine cA 4 fun K hK=> ?_
   go_simp
   refine sq ?_
   exact yq
  ·obtain rfl:c=1:=Classical.not_not.1 hc1
   obtain rfl:n=1:=by omega
   have hd:(ba s).drop 1=[]:=by rw[List.drop_eq_nil_iff,HN.out];omega
   have hR1:aL W.drew wc.heap.size (.slice (some ⟨bl,ol,none⟩) 0 0) ((ba s).drop 1):=by rw[hd];exact aL.none_ (by simp)
   have HRV:=aa hR1
   clear hR1 hc1 hd
   refine bA 11 ?_
   refine dG 0 24 ?_
   iterate 2 refine gA 12 24 ?_
   refine cA 1 fun K hK=> ?_
   go_simp
   refine hK _ _ ?_
   clear hK K
   refine ak ?_
   refine cA 4 fun K hK=> ?_
   go_simp
   refine st ?_
   exact yq
theorem G8 (s:ByteArray) (w:World) (hG:aT w) (hs:s.size≤100000) (k:Nat) (hk:fh (aE (ba s) 0)=some k) (y:ap) (hr:cr k ((ba s).drop 1)=some y) (hv:cL y=false):
 Calls prog 13 #[.string s] w (nq w (ba s)):=by
 have SP:=fun W (h:aT W)=>oq s W h (by omega)
 simp only[show Lib.splitB (bs [32]) 0 (Lib.countB s (bs [32])) s=ba s from rfl] at SP
 refine pi fun HSP HP HG HLw HK=> ?_
 have HRd:=aa hr
 have HVy:=aa hv
 clear hr hv
 clear hk
 clear SP hG
 go_enter func13,ntmps13
 go_upto_region 2 with (go_at_call 29;refine(HSP.out _ (HG.out.step (ac (B0 w) _))).mono ?_;rintro e w1 ⟨v,rfl,hv,hlen,hb1⟩)
 obtain⟨A,n,c,rfl,hn,hnc,hcm⟩:=hv.form
 have n1:1≤n:=by omega
 obtain⟨bl,ol,rfl,hbl,hcell⟩:=hv.at_ 0 n1
 have hw0:=hcell 0 n1
 rw[Nat.add_zero] at hw0
 refine pj fun i0 n0 i1 i2 i3 n2 HV HN HR hz1 HB1=> ?_
 clear hv hn hcell hb1 hlen
 go_cut [5,6] (fun p q wx=>q= .bool true∧rY w1 k p wx)
 case first=>
  exact se
 case rest=>
  obtain⟨rfl,pb,⟨word,kind,gu,gf,caps,gr,gt⟩,rfl,hpb,hF,hB2,hBlk⟩:=hcut
  have HBk:=aa hBlk
  obtain⟨⟨p0,p1,p2,p3,p4,p5⟩,_⟩:=np hBlk
  have hkind:kind=k:=hF.kind
  have er:=hF.er
  unfold bc at er
  simp only at er
  refine sh fun hpw HFn HKd hz2 HB2 HRc=> ?_
  simp only[az] at p4
  clear hF hB2 hBlk hkind p0 p2 p3 p5
  simp only[ptr]
  go_wp2_with fail
  refine si ?_
  intro W ⟨hBW,hblk,q4,hlW⟩
  refine sj fun HBW HBl HGW h8 hzW HWall HRW=> ?_
  clear hBW hblk p1 p4
  have hds: ∀s'∈(ba s).drop 1,s'.size≤1000000:=fun s' h=>by have:=HLw.out.2 s' (List.mem_of_mem_drop h);omega
  have hdl:((ba s).drop 1).length≤100000:=by have:=HLw.out.1;rw[List.length_drop];omega
  have HDs:=aa hds
  have HDl:=aa hdl
  clear hds hdl
  by_cases hc1: ¬c=1
  ·have hR1:aL W.drew wc.heap.size (.slice (some ⟨bl,ol+1,none⟩) (n - 1) (c - 1)) ((ba s).drop 1):=
    aL.below (((HV.out.drop 1 (by omega)).below HB2.out (ae _)).more HB2.out.size) (au HBW.out) (ae _)
   have HRV:=aa hR1
   clear hR1
   refine bA 11 ?_
   refine dG 0 24 ?_
   iterate 2 refine gA 12 24 ?_
   refine cA 1 fun K hK=> ?_
   go_simp
   refine hK _ _ ?_
   clear hK K
   refine ak ?_
   refine cA 4 fun K hK=> ?_
   go_simp
   refine sq ?_
   exact yr
  ·obtain rfl:c=1:=Classical.not_not.1 hc1
   obtain rfl:n=1:=by omega
   have hd:(ba s).drop 1=[]:=by rw[List.drop_eq_nil_iff,HN.out];omega
   have hR1:aL W.drew wc.heap.size (.slice (some ⟨bl,ol,none⟩) 0 0) ((ba s).drop 1):=by rw[hd];exact aL.none_ (by simp)
   have HRV:=aa hR1
   clear hR1 hc1 hd
   refine bA 11 ?_
   refine dG 0 24 ?_
   iterate 2 refine gA 12 24 ?_
   refine cA 1 fun K hK=> ?_
   go_simp
   refine hK _ _ ?_
   clear hK K
   refine ak ?_
   refine cA 4 fun K hK=> ?_
   go_simp
   refine st ?_
   exact yr
theorem G9 (s:ByteArray) (w:World) (hG:aT w) (hs:s.size≤100000) (k:Nat) (hk:fh (aE (ba s) 0)=some k) (y:ap) (hr:cr k ((ba s).drop 1)=some y) (hv:cL y=true):
 Calls prog 13 #[.string s] w (nq w (ba s)):=by
 have SP:=fun W (h:aT W)=>oq s W h (by omega)
 simp only[show Lib.splitB (bs [32]) 0 (Lib.countB s (bs [32])) s=ba s from rfl] at SP
 refine pi fun HSP HP HG HLw HK=> ?_
 have HRd:=aa hr
 have HVy:=aa hv
 clear hr hv
 clear hk
 clear SP hG
 go_enter func13,ntmps13
 go_upto_region 2 with (go_at_call 29;refine(HSP.out _ (HG.out.step (ac (B0 w) _))).mono ?_;rintro e w1 ⟨v,rfl,hv,hlen,hb1⟩)
 obtain⟨A,n,c,rfl,hn,hnc,hcm⟩:=hv.form
 have n1:1≤n:=by omega
 obtain⟨bl,ol,rfl,hbl,hcell⟩:=hv.at_ 0 n1
 have hw0:=hcell 0 n1
 rw[Nat.add_zero] at hw0
 refine pj fun i0 n0 i1 i2 i3 n2 HV HN HR hz1 HB1=> ?_
 clear hv hn hcell hb1 hlen
 go_cut [5,6] (fun p q wx=>q= .bool true∧rY w1 k p wx)
 case first=>
  exact se
 case rest=>
  obtain⟨rfl,pb,⟨word,kind,gu,gf,caps,gr,gt⟩,rfl,hpb,hF,hB2,hBlk⟩:=hcut
  have HBk:=aa hBlk
  obtain⟨⟨p0,p1,p2,p3,p4,p5⟩,_⟩:=np hBlk
  have hkind:kind=k:=hF.kind
  have er:=hF.er
  unfold bc at er
  simp only at er
  refine sh fun hpw HFn HKd hz2 HB2 HRc=> ?_
  simp only[az] at p4
  clear hF hB2 hBlk hkind p0 p2 p3 p5
  simp only[ptr]
  go_wp2_with fail
  refine si ?_
  intro W ⟨hBW,hblk,q4,hlW⟩
  refine sj fun HBW HBl HGW h8 hzW HWall HRW=> ?_
  clear hBW hblk p1 p4
  have hds: ∀s'∈(ba s).drop 1,s'.size≤1000000:=fun s' h=>by have:=HLw.out.2 s' (List.mem_of_mem_drop h);omega
  have hdl:((ba s).drop 1).length≤100000:=by have:=HLw.out.1;rw[List.length_drop];omega
  have HDs:=aa hds
  have HDl:=aa hdl
  clear hds hdl
  by_cases hc1: ¬c=1
  ·have hR1:aL W.drew wc.heap.size (.slice (some ⟨bl,ol+1,none⟩) (n - 1) (c - 1)) ((ba s).drop 1):=
    aL.below (((HV.out.drop 1 (by omega)).below HB2.out (ae _)).more HB2.out.size) (au HBW.out) (ae _)
   have HRV:=aa hR1
   clear hR1
   refine bA 11 ?_
   refine dG 0 24 ?_
   iterate 2 refine gA 12 24 ?_
   refine cA 1 fun K hK=> ?_
   go_simp
   refine hK _ _ ?_
   clear hK K
   refine ak ?_
   refine cA 4 fun K hK=> ?_
   go_simp
   refine sq ?_
   exact yt
  ·obtain rfl:c=1:=Classical.not_not.1 hc1
   obtain rfl:n=1:=by omega
   have hd:(ba s).drop 1=[]:=by rw[List.drop_eq_nil_iff,HN.out];omega
   have hR1:aL W.drew wc.heap.size (.slice (some ⟨bl,ol,none⟩) 0 0) ((ba s).drop 1):=by rw[hd];exact aL.none_ (by simp)
   have HRV:=aa hR1
   clear hR1 hc1 hd
   refine bA 11 ?_
   refine dG 0 24 ?_
   iterate 2 refine gA 12 24 ?_
   refine cA 1 fun K hK=> ?_
   go_simp
   refine hK _ _ ?_
   clear hK K
   refine ak ?_
   refine cA 4 fun K hK=> ?_
   go_simp
   refine st ?_
   exact yt
theorem yu (s:ByteArray) (w:World) (hG:aT w) (hs:s.size≤100000):
 Calls prog 13 #[.string s] w (nq w (ba s)):=by
 cases hk:fh (aE (ba s) 0) with
 |none=>exact G6 s w hG hs hk
 |some k=>
  cases hr:cr k ((ba s).drop 1) with
  |none=>exact G7 s w hG hs k hk hr
  |some y=>
   cases hv:cL y with
   |false=>exact G8 s w hG hs k hk y hr hv
   |true=>exact G9 s w hG hs k hk y hr hv
end
section
open Go Go.RowKit Go.MapKept Tryz
section
variable {P:Program} {ops:Array Oper} {Q:Exit→Act→World→Prop} {md:Region.Mode} {S:World→Prop}
theorem yv {i:Nat} {oi:Oper} {v:Value} {fuel:Nat} {listed:Array Bool} {a:Act} {w:World} (d:Option Tmp) (hi:ops[i]? =some oi) (hd:oi.dst=d)
 (hs:Region.noSelect ops=true) (hf:Region.free md ops listed i=true) (hr:(Region.ready md ops listed).contains i=true)
 (hQ: ∀c a w,Q (.panic c) (a.put d v) w→Q (.panic c) a w) (hy:YieldsIf P ops S oi v a) (hS:S w)
 (h:wpAnyH P md ops Q S fuel (listed.setIfInBounds i true) (a.put d v) w):wpAnyH P md ops Q S (fuel+1) listed a w:=by
 subst hd
 exact wpAnyH_take hi hs hf hr hQ hy hS h
end
theorem Ha (m:aC) (v:MV) (x:aU) (A:Option Addr) (n c:Nat) (w:World) (hv:m.In w w.heap.size v) (hk: ¬(0≤x.kind∧x.kind≤6)):
 am 161 #[.agg (m.cells v),.agg (x.vals (.slice A n c))] w (.bool false):=by
 refine fC fun Sa sc hs hs1 hs2 Fa fc hf' hf1 hf2 Ra rc hr hr1 hr2 Ma mc hm hm1 hm2 La lc hl hl1 hl2 Ia ic hi hi1 hi2 Ua uc hu hu1 hu2 HS=> ?_
 have HF:=aa (F6 hk)
 have HFm:=aa (fun W=>xS W)
 rw[HS.out,aU.vals_def]
 clear hv hk hs hf' hr hm hl hi hu
 go_enter func161,ntmps161
 go_upto_region 1 with (fail)
 refine yw ?_
 intro W1 ⟨hBW,hmW,hxW⟩
 have q0:W1.cell? ⟨w.heap.size+1,0,none⟩=some (.int .i64 x.kind):=af hxW rfl
 have hz1:=blk_lt hxW
 have hz0: ¬w.heap.size+1=W1.heap.size:=by omega
 have HBW:=aa hBW;have HmW:=aa hmW;have HxW:=aa hxW
 clear hBW hmW hxW
 go_cut [5,6] (fun p q wx=>q= .bool false∧Below w.heap.size w wx)
 case first=>
  rename_i J K' hJ hK'
  have HJ:=aa hJ
  have HK':=aa hK'
  clear hJ hK'
  go_region_held3 (fun w'=>w'.cell? ⟨w.heap.size+1,0,none⟩=some (.int .i64 x.kind)) (go_simp)
   (first
     |(go_at_call 254
       refine(HFm.out _).mono ?_
       rintro e w2 ⟨M,rfl,hM,hM0,hb2⟩
       refine nr fun hB2=> ?_
       have hk1:(Instr.lookup 261 (.map (some M)) (.int .i64 x.kind) true).run prog w2= .ok (.tuple #[.agg #[.nilFunc,.nilFunc],.bool false]) w2:=by
        exact yx
       have hk2: ∀o,(Instr.lookup 261 (.map (some M)) (.int .i64 x.kind) true).run prog (w2.alloc o)= .ok (.tuple #[.agg #[.nilFunc,.nilFunc],.bool false]) (w2.alloc o):=fun o=>by
        exact yy
       have c0:w2.cell? ⟨w.heap.size+1,0,none⟩=some (.int .i64 x.kind):=(hB2.cell (p:=⟨w.heap.size+1,0,none⟩) hz1).trans q0
       obtain⟨hcx,hfx⟩:=lv hb2
       try(have hzx:W1.heap.size<w2.heap.size:=by(have hq:=hb2.size;simp at hq;omega))
       have hz2:w.heap.size+1<w2.heap.size:=aF hz1 hB2.size
       have hz3: ¬w.heap.size+1=w2.heap.size:=by omega
       have HBl:=aa hb2.block
       clear hM hM0 hb2))
  all_goals
   dsimp only[Exit.then]
   refine HK'.out _ _ (Met.intro (HJ.out _ _ ?_))
   (repeat apply Exists.intro)
   refine⟨⟨rfl,?_⟩,rfl⟩
   have hb:=ag HBW.out hB2
   (repeat' first|with_reducible exact hb|with_reducible refine aR ?_ (by dsimp only;have:=HBW.out.size;omega) _|with_reducible refine ac ?_ _)
 case rest=>
  obtain⟨rfl,hB⟩:=hcut
  go_wp2_with fail
  refine bA 17 ?_
  iterate 2 refine gA 17 14 ?_
  iterate 5 refine kA 17 14 ?_
  iterate 2 refine gA 17 14 ?_
  iterate 6 refine kA 17 14 ?_
  refine dG 15 29 ?_
  refine dG 16 4 ?_
  refine eA ?_
  go_wp2_with fail
  go_ret
  exact⟨rfl,au hB⟩
theorem ku (m:aC) (v:MV) (x y:aU) (o o2:Value) (w:World) (go gn:Nat) (rk:Bool) (eo:bc go) (en:bc gn) (hv:m.In w w.heap.size v) (ho:aq w w.heap.size o x.ms)
 (hf:o9 x.kind=some (.agg #[.func (.func go) #[] #[],.func (.func gn) #[] #[]])) (hgo: ∀W,Below w.heap.size w W→am go #[.agg (m.cells v),.agg (x.vals o)] W (.bool rk))
 (hgn: ∀W,Below w.heap.size w W→am gn #[.agg (x.vals o)] W (.agg (y.vals o2)))
 (ho2: ∀W,Below w.heap.size w W→aq W W.heap.size o2 y.ms):
 am 161 #[.agg (m.cells v),.agg (x.vals o)] w (.bool (rk&&ko x y)):=by
 have HSame:=aa (fun W (hW:Below w.heap.size w W)=>Fz x y o o2 W ((ho.below hW (ae _)).more hW.size) (ho2 W hW))
 have HGo:=aa hgo
 have HGn:=aa hgn
 refine fC fun Sa sc hs hs1 hs2 Fa fc hf' hf1 hf2 Ra rc hr hr1 hr2 Ma mc hm hm1 hm2 La lc hl hl1 hl2 Ia ic hi hi1 hi2 Ua uc hu hu1 hu2 HS=> ?_
 have HF:=aa hf
 have HFm:=aa (fun W=>xS W)
 obtain⟨A,n,c,rfl,hn,hc,hcm⟩:=ho.sk.form
 obtain⟨A2,n2,c2,rfl,_,_,_⟩:=(ho2 w (B0 w)).sk.form
 generalize ko x y=rs at HSame
 rw[HS.out] at HGo⊢
 rw[aU.vals_def] at HGo HGn HSame⊢
 rw[aU.vals_def] at HGn HSame
 unfold bc at eo en
 clear hv ho hf hgo hgn ho2 hs hf' hr hm hl hi hu hn
 go_enter func161,ntmps161
 go_upto_region 1 with (fail)
 refine yw ?_
 intro W1 ⟨hBW,hmW,hxW⟩
 have q0:W1.cell? ⟨w.heap.size+1,0,none⟩=some (.int .i64 x.kind):=af hxW rfl
 have hz1:=blk_lt hxW
 have hz0: ¬w.heap.size+1=W1.heap.size:=by omega
 have HBW:=aa hBW;have HmW:=aa hmW;have HxW:=aa hxW
 clear hBW hmW hxW
 go_cut [5,6] (fun p q wx=>q= .bool true∧∃fb,p=ptr fb∧W1.heap.size≤fb∧Below W1.heap.size W1 wx∧wx.heap[fb]? =some (.cells #[.func (.func go) #[] #[],.func (.func gn) #[] #[]] 259 (0,0)))
 case first=>
  rename_i J K' hJ hK'
  have HJ:=aa hJ
  have HK':=aa hK'
  clear hJ hK'
  go_region_held3 (fun w'=>w'.cell? ⟨w.heap.size+1,0,none⟩=some (.int .i64 x.kind)) (go_simp)
   (first
     |(go_at_call 254
       refine(HFm.out _).mono ?_
       rintro e w2 ⟨M,rfl,hM,hM0,hb2⟩
       refine nr fun hB2=> ?_
       have hk1:(Instr.lookup 261 (.map (some M)) (.int .i64 x.kind) true).run prog w2= .ok (.tuple #[.agg #[.func (.func go) #[] #[],.func (.func gn) #[] #[]],.bool true]) w2:=by
        exact yx
       have hk2: ∀o,(Instr.lookup 261 (.map (some M)) (.int .i64 x.kind) true).run prog (w2.alloc o)= .ok (.tuple #[.agg #[.func (.func go) #[] #[],.func (.func gn) #[] #[]],.bool true]) (w2.alloc o):=fun o=>by
        exact yy
       have c0:w2.cell? ⟨w.heap.size+1,0,none⟩=some (.int .i64 x.kind):=(hB2.cell (p:=⟨w.heap.size+1,0,none⟩) hz1).trans q0
       obtain⟨hcx,hfx⟩:=lv hb2
       try(have hzx:W1.heap.size<w2.heap.size:=by(have hq:=hb2.size;simp at hq;omega))
       have hz2:w.heap.size+1<w2.heap.size:=aF hz1 hB2.size
       have hz3: ¬w.heap.size+1=w2.heap.size:=by omega
       have HBl:=aa hb2.block
       clear hM hM0 hb2))
  all_goals
   dsimp only[Exit.then]
   refine HK'.out _ _ (Met.intro (HJ.out _ _ ?_))
   (repeat apply Exists.intro)
   refine⟨⟨rfl,?_⟩,rfl⟩
  ·exact⟨w2.heap.size,rfl,hB2.size,ac hB2 _,heap_alloc_new w2 _⟩
  ·exact⟨w2.heap.size,rfl,hB2.size,ac hB2 _,heap_alloc_new w2 _⟩
  ·refine⟨W1.heap.size,rfl,ae _,?_,?_⟩
   ·repeat' first|with_reducible exact hB2|with_reducible refine aR ?_ (ae _) _
   ·have h0:=(HBl.out W1.heap.size (by simp)).trans (heap_alloc_new W1 _)
    exact(ay (ay h0 _ _) _ _).trans rfl
 case rest=>
  obtain⟨rfl,fb,rfl,hfb,hB2,hfa⟩:=hcut
  have hma:=ah HmW.out hB2
  have hxa:=ah HxW.out hB2
  obtain⟨am0,am1,am2,am3,am4,am5,am6,am7,am8,am9,am10⟩:=cd hma
  obtain⟨ax0,ax1,ax2,ax3,ax4,ax5,ax6⟩:=cZ hxa
  have af0:wc.cell? ⟨fb,0,none⟩=some (.func (.func go) #[] #[]):=af hfa rfl
  have af1:wc.cell? ⟨fb,1,none⟩=some (.func (.func gn) #[] #[]):=af hfa rfl
  have hzx:=blk_lt hxa
  have hzf:=blk_lt hfa
  have hzm:w.heap.size<wc.heap.size:=blk_lt hma
  have HB2:=aa (ag HBW.out hB2)
  have Hma:=aa hma;have Hxa:=aa hxa;have Hfa:=aa hfa
  clear hma hxa hfa hB2 q0
  simp only[ptr]
  cases rk with
  |false=>
   go_wp2_with fail
   refine yz fun hS=> ?_
   iterate 6 refine gH 17 14 ?_
   refine cH 6 fun K hK=> ?_
   go_simp
   refine(HGo.out _ (au HB2.out)).mono ?_
   rintro e w4 ⟨rfl,hb4⟩
   refine yA fun HB4 hmb hxb hfb bm0 bm1 bm2 bm3 bm4 bm5 bm6 bm7 bm8 bm9 bm10 bx0 bx1 bx2 bx3 bx4 bx5 bx6 bf0 bf1=> ?_
   have Hmb:=aa hmb;have Hxb:=aa hxb;have Hfb:=aa hfb
   clear hb4 hmb hxb hfb am0 am1 am2 am3 am4 am5 am6 am7 am8 am9 am10 ax0 ax1 ax2 ax3 ax4 ax5 ax6 af0 af1
   try go_simp
   clear hS
   refine hK.out _ _ (by exact⟨bf0,bf1,bm0,bm1,bm2,bm3,bm4,bm5,bm6,bm7,bm8,bm9,bm10,bx0,bx1,bx2,bx3,bx4,bx5,bx6⟩) (fun hS=> ?_)
   clear hK
   refine ak ?_
   iterate 2 refine gH 17 14 ?_
   iterate 6 refine kH 17 14 ?_
   refine eC 15 29 ?_
   refine eC 16 4 ?_
   refine eH ?_
   go_wp2_with fail
   go_ret
   exact⟨by simp,HB4.out⟩
  |true=>
   go_wp2_with fail
   refine yz fun hS=> ?_
   iterate 6 refine gH 17 14 ?_
   refine cH 6 fun K hK=> ?_
   go_simp
   refine(HGo.out _ (au HB2.out)).mono ?_
   rintro e w4 ⟨rfl,hb4⟩
   refine yA fun HB4 hmb hxb hfb bm0 bm1 bm2 bm3 bm4 bm5 bm6 bm7 bm8 bm9 bm10 bx0 bx1 bx2 bx3 bx4 bx5 bx6 bf0 bf1=> ?_
   have Hmb:=aa hmb;have Hxb:=aa hxb;have Hfb:=aa hfb
   clear hb4 hmb hxb hfb am0 am1 am2 am3 am4 am5 am6 am7 am8 am9 am10 ax0 ax1 ax2 ax3 ax4 ax5 ax6 af0 af1
   try go_simp
   clear hS
   refine hK.out _ _ (by exact⟨bf0,bf1,bm0,bm1,bm2,bm3,bm4,bm5,bm6,bm7,bm8,bm9,bm10,bx0,bx1,bx2,bx3,bx4,bx5,bx6⟩) (fun hS=> ?_)
   clear hK
   refine ak ?_
   iterate 6 refine gH 17 14 ?_
   refine cH 13 fun K hK=> ?_
   go_simp
   refine(HGn.out _ HB4.out).mono ?_
   rintro e w5 ⟨rfl,hb5⟩
   have HB5:=aa (ag HB4.out hb5)
   have hmc:=ah Hmb.out hb5
   have hxc:=ah Hxb.out hb5
   have hfc:=ah Hfb.out hb5
   obtain⟨cm0,cm1,cm2,cm3,cm4,cm5,cm6,cm7,cm8,cm9,cm10⟩:=cd hmc
   obtain⟨cx0,cx1,cx2,cx3,cx4,cx5,cx6⟩:=cZ hxc
   have cf0:w5.cell? ⟨fb,0,none⟩=some (.func (.func go) #[] #[]):=af hfc rfl
   have cf1:w5.cell? ⟨fb,1,none⟩=some (.func (.func gn) #[] #[]):=af hfc rfl
   clear hb5 hmc hxc hfc bm0 bm1 bm2 bm3 bm4 bm5 bm6 bm7 bm8 bm9 bm10 bx0 bx1 bx2 bx3 bx4 bx5 bx6 bf0 bf1
   try go_simp
   clear hS
   refine hK.out _ _ (by exact⟨cf0,cf1,cm0,cm1,cm2,cm3,cm4,cm5,cm6,cm7,cm8,cm9,cm10,cx0,cx1,cx2,cx3,cx4,cx5,cx6⟩) (fun hS=> ?_)
   clear hK
   refine ak ?_
   refine cH 14 fun K hK=> ?_
   go_simp
   refine(HSame.out _ HB5.out).mono ?_
   rintro e w6 ⟨rfl,hb6⟩
   have HB6:=aa (ag HB5.out hb6)
   have HS6: ∀b o,b<w5.heap.size→w6.cell? ⟨b,o,none⟩=w5.cell? ⟨b,o,none⟩:=fun b o h=>hb6.cell (p:=⟨b,o,none⟩) h
   have hz6:fb<w5.heap.size∧w.heap.size<w5.heap.size∧w.heap.size+1<w5.heap.size:=⟨aH _ _ cf0,aH _ _ cm0,aH _ _ cx0⟩
   clear hb6
   try go_simp
   clear hS
   refine hK.out _ _ (by simp only[HS6 _ _ hz6.1,HS6 _ _ hz6.2.1,HS6 _ _ hz6.2.2];exact⟨cf0,cf1,cm0,cm1,cm2,cm3,cm4,cm5,cm6,cm7,cm8,cm9,cm10,cx0,cx1,cx2,cx3,cx4,cx5,cx6⟩) (fun hS=> ?_)
   clear hK
   refine ak ?_
   refine eC 15 29 ?_
   refine eC 16 4 ?_
   refine eH ?_
   go_wp2_with fail
   go_ret
   exact⟨by simp,HB6.out⟩
theorem aq.nil0 (W:World) (B:Nat):aq W B (.slice none 0 0) []:=⟨Sl.nil_ W B,by simp⟩
theorem Hb (m:aC) (v:MV) (x:aU) (o:Value) (w:World) (hv:m.In w w.heap.size v) (ho:aq w w.heap.size o x.ms) (h1:aj x.item) (h2:aj x.n) (h3:aj x.by_) (h4:aj x.other):
 am 161 #[.agg (m.cells v),.agg (x.vals o)] w (.bool (cE m x)):=by
 obtain⟨A,n,c,rfl,hn,hc,hcm⟩:=ho.sk.form
 by_cases h:0≤x.kind∧x.kind≤6
 ·obtain⟨k,hk⟩: ∃k:Nat,x.kind=k:=⟨x.kind.toNat,by omega⟩
  have hk2:k≤6:=by omega
  rw[Fy m x k hk2 hk]
  have hV:=fun W (hW:Below w.heap.size w W)=>hv.to hW (ae _) hW.size
  have hO:=fun W (hW:Below w.heap.size w W)=>(ho.below hW (ae _)).more hW.size
  have:k=0∨k=1∨k=2∨k=3∨k=4∨k=5∨k=6:=by omega
  rcases this with rfl|rfl|rfl|rfl|rfl|rfl|rfl
  ·exact ku m v x (cO 0 x) (.slice A n c) (.slice none 0 0) w 338 340 _ (enters_of func338 (by kernel_rfl) rfl) (enters_of func340 (by kernel_rfl) rfl) hv ho (by rw[hk];rfl)
    (fun W hW=>FN m v x _ W (hV W hW) (hO W hW) h1 h2 h3 h4) (fun W hW=>FA x A n c W) (fun W hW=>aq.nil0 W _)
  ·exact ku m v x (cO 1 x) (.slice A n c) (.slice none 0 0) w 341 342 _ (enters_of func341 (by kernel_rfl) rfl) (enters_of func342 (by kernel_rfl) rfl) hv ho (by rw[hk];rfl)
    (fun W hW=>FH m v x _ W (hV W hW) (hO W hW) h1 h2 h3 h4) (fun W hW=>FB x A n c W) (fun W hW=>aq.nil0 W _)
  ·exact ku m v x (cO 2 x) (.slice A n c) (.slice none 0 0) w 343 344 _ (enters_of func343 (by kernel_rfl) rfl) (enters_of func344 (by kernel_rfl) rfl) hv ho (by rw[hk];rfl)
    (fun W hW=>FJ m v x _ W (hV W hW) (hO W hW) h1 h2 h3 h4) (fun W hW=>FC x A n c W) (fun W hW=>aq.nil0 W _)
  ·exact ku m v x (cO 3 x) (.slice A n c) (.slice A n c) w 345 346 _ (enters_of func345 (by kernel_rfl) rfl) (enters_of func346 (by kernel_rfl) rfl) hv ho (by rw[hk];rfl)
    (fun W hW=>FK m v x _ W (hV W hW) (hO W hW) h1 h2 h3 h4) (fun W hW=>FD x A n c W) (fun W hW=>hO W hW)
  ·exact ku m v x (cO 4 x) (.slice A n c) (.slice none 0 0) w 347 348 _ (enters_of func347 (by kernel_rfl) rfl) (enters_of func348 (by kernel_rfl) rfl) hv ho (by rw[hk];rfl)
    (fun W hW=>FL m v x _ W (hV W hW) (hO W hW) h1 h2 h3 h4) (fun W hW=>FE x A n c W) (fun W hW=>aq.nil0 W _)
  ·exact ku m v x (cO 5 x) (.slice A n c) (.slice none 0 0) w 349 350 _ (enters_of func349 (by kernel_rfl) rfl) (enters_of func350 (by kernel_rfl) rfl) hv ho (by rw[hk];rfl)
    (fun W hW=>FM m v x _ W (hV W hW) (hO W hW) h1 h2 h3 h4) (fun W hW=>FF x A n c W) (fun W hW=>aq.nil0 W _)
  ·exact ku m v x (cO 6 x) (.slice A n c) (.slice none 0 0) w 351 352 _ (enters_of func351 (by kernel_rfl) rfl) (enters_of func352 (by kernel_rfl) rfl) hv ho (by rw[hk];rfl)
    (fun W hW=>FI m v x _ W (hV W hW) (hO W hW) h1 h2 h3 h4) (fun W hW=>FG x A n c W) (fun W hW=>aq.nil0 W _)
 ·rw[xE m x h]
  exact Ha m v x A n c w hv h
theorem Hc (m:aC) (v:MV) (x:bQ) (o:Value) (mb:Nat) (w:World) (hm:w.heap[mb]? =some (.cells (m.cells v) 29 (0,0))) (hv:m.In w w.heap.size v) (ho:aq w w.heap.size o x.on):
 am 157 #[.agg (x.vals o),ptr mb] w (.bool (!dj m x)):=by
 have HV:=aa (fun W (hW:Below w.heap.size w W)=>F5 m v x o W (hv.to hW (ae _) hW.size) ((ho.below hW (ae _)).more hW.size))
 obtain⟨A,n,c,rfl,hn,hc,hcm⟩:=ho.sk.form
 generalize dj m x=r at HV
 rw[bQ.vals_def] at HV⊢
 rw[aC.cells_def] at HV hm
 obtain⟨e0,e1,e2,e3,e4,e5,e6,e7,e8,e9,e10⟩:=cd hm
 obtain⟨⟨Sa,sc,hs,hs1,hs2⟩,⟨Fa,fc,hf',hf1,hf2⟩,⟨Ra,rc,hr,hr1,hr2⟩,⟨Ma,mc,hma,hm1,hm2⟩,⟨La,lc,hl,hl1,hl2⟩,⟨Ia,ic,hi,hi1,hi2⟩,⟨Ua,uc,hu,hu1,hu2⟩⟩:=hv.cells
 rw[hs,hf',hr,hma,hl,hi,hu] at HV
 rw[hs] at e0;rw[hf'] at e1;rw[hr] at e2;rw[hma] at e3;rw[hl] at e4;rw[hi] at e5;rw[hu] at e10
 have hmb:=blk_lt hm
 have hne: ¬mb=w.heap.size:=by omega
 clear hm hv ho hs hf' hr hma hl hi hu hn
 simp only[ptr]
 go_enter func157,ntmps157
 go_wp2_with(go_at_call 158;refine(HV.out _ (ac (B0 w) _)).mono ?_;rintro e w1 ⟨rfl,hb1⟩)
 go_ret
 exact⟨rfl,ag (ac (B0 w) _) hb1⟩
theorem Hd (m:aC) (v:MV) (x:aU) (o:Value) (mb:Nat) (w:World) (hm:w.heap[mb]? =some (.cells (m.cells v) 29 (0,0))) (hv:m.In w w.heap.size v) (ho:aq w w.heap.size o x.ms) (h1:aj x.item) (h2:aj x.n) (h3:aj x.by_) (h4:aj x.other):
 am 160 #[.agg (x.vals o),ptr mb] w (.bool (!cE m x)):=by
 have HV:=aa (fun W (hW:Below w.heap.size w W)=>Hb m v x o W (hv.to hW (ae _) hW.size) ((ho.below hW (ae _)).more hW.size) h1 h2 h3 h4)
 obtain⟨A,n,c,rfl,hn,hc,hcm⟩:=ho.sk.form
 generalize cE m x=r at HV
 rw[aU.vals_def] at HV⊢
 rw[aC.cells_def] at HV hm
 obtain⟨e0,e1,e2,e3,e4,e5,e6,e7,e8,e9,e10⟩:=cd hm
 obtain⟨⟨Sa,sc,hs,hs1,hs2⟩,⟨Fa,fc,hf',hf1,hf2⟩,⟨Ra,rc,hr,hr1,hr2⟩,⟨Ma,mc,hma,hm1,hm2⟩,⟨La,lc,hl,hl1,hl2⟩,⟨Ia,ic,hi,hi1,hi2⟩,⟨Ua,uc,hu,hu1,hu2⟩⟩:=hv.cells
 rw[hs,hf',hr,hma,hl,hi,hu] at HV
 rw[hs] at e0;rw[hf'] at e1;rw[hr] at e2;rw[hma] at e3;rw[hl] at e4;rw[hi] at e5;rw[hu] at e10
 have hmb:=blk_lt hm
 have hne: ¬mb=w.heap.size:=by omega
 clear hm hv ho hs hf' hr hma hl hi hu hn h1 h2 h3 h4
 simp only[ptr]
 go_enter func160,ntmps160
 go_wp2_with(go_at_call 161;refine(HV.out _ (ac (B0 w) _)).mono ?_;rintro e w1 ⟨rfl,hb1⟩)
 go_ret
 exact⟨rfl,ag (ac (B0 w) _) hb1⟩
def EP (ob:Nat) (w w':World):Prop:=w.heap.size≤w'.heap.size∧∀i C t f,w.heap[i]? =some (.cells C t f)→¬i=ob→¬t=9→w'.heap[i]? =some (.cells C t f)
theorem EP.refl (ob:Nat) (w:World):EP ob w w:=⟨ae _,fun _ _ _ _ h _ _=>h⟩
theorem EP.trans {ob:Nat} {a b c:World} (h:EP ob a b) (k:EP ob b c):EP ob a c:=⟨aP h.1 k.1,fun i C t f h1 h2 h3=>k.2 i C t f (h.2 i C t f h1 h2 h3) h2 h3⟩
theorem EP.of_below {ob:Nat} {w w':World} (h:Below w.heap.size w w'):EP ob w w':=⟨h.size,fun i C t f h1 _ _=>ah h1 h⟩
theorem aI.sk {w:World} {B:Nat} {v:Value} {l:List ai} (h:aI w B v l):aQ 1 (R1 fun s=>Value.string (bs s)) w B v l:=by
 have h':Sl w B v (l.map fun s=>Value.string (bs s)):=by
  unfold aI aL at h
  rwa [List.map_map] at h
 exact h'.k1
theorem aI.cell {w:World} {B n c:Nat} {A:Option Addr} {l:List ai} (h:aI w B (.slice A n c) l) {j:Nat} {x:ai} (hx:l[j]? =some x): ∃b o,A=some ⟨b,o,none⟩∧b<B∧w.cell? ⟨b,o+j,none⟩=some (.string (bs x)):=by
 exact xI
def em (m:aC):Nat→List ai
 |0=>m.sites
 |1=>m.feeds
 |2=>m.racks.map (·.name)
 |3=>m.machs.map (·.name)
 |4=>m.items.map (·.name)
 |_=>[]
def nw:Nat→Nat
 |0=>326
 |1=>328
 |2=>330
 |3=>332
 |_=>334
def nx:Nat→Nat
 |0=>327
 |1=>329
 |2=>331
 |3=>333
 |_=>335
def pm (mb:Nat):Nat→Array Value
 |0=> #[]
 |1=> #[]
 |2=> #[]
 |3=> #[]
 |_=> #[ptr mb]
def hZ (m:aC):Nat→List ai
 |0=>[]
 |k+1=>hZ m k++em m k
theorem He (m:aC):hZ m 5=di m:=by simp[hZ,em,di]
theorem Hf (m:aC) (k:Nat) (hk:k<5):(hZ m k).length+(em m k).length≤(di m).length:=by
 have:k=0∨k=1∨k=2∨k=3∨k=4:=by omega
 rcases this with rfl|rfl|rfl|rfl|rfl<;>simp[hZ,em,di]<;>omega
def fD (m:aC) (v:MV) (mb B:Nat) (w:World):Prop:=w.heap[mb]? =some (.cells (m.cells v) 29 (0,0))∧m.In w B v
section
variable {m:aC} {v:MV} {mb B:Nat} {w:World}
theorem Hg (h:fD m v mb B w) (hB:B≤w.heap.size) {j:Nat} {s:ai} (hs:m.sites[j]? =some s):Calls prog 326 #[.int .i64 j,ptr mb] w fun e w'=>e= .returned (.string (bs s))∧w'=w:=by
 obtain⟨hm,hv⟩:=h
 obtain⟨A,c,he,h1,h2⟩: ∃A c,v.s= .slice A m.sites.length c∧m.sites.length≤c∧c≤9223372036854775807:=by
  obtain⟨a0,a1,_⟩:=hv.cells
  exact a0
 have hx:aI w B v.s m.sites:=hv.ss
 rw[he] at hx
 obtain⟨b,o,rfl,hb,hc⟩:=hx.cell hs
 have e0:w.cell? ⟨mb,0,none⟩=some (.slice (some ⟨b,o,none⟩) m.sites.length c):=by rw[←he];exact af hm rfl
 have hj:j<m.sites.length:=(List.getElem?_eq_some_iff.1 hs).1
 have hj0:(0:Int)≤(j:Int):=by omega
 have hj1:(j:Int)<(m.sites.length:Nat):=by omega
 clear hm hv he hx hs
 simp only[ptr]
 go_enter func326,ntmps326
 exact jV
theorem Hh (h:fD m v mb B w) (hB:B≤w.heap.size) {j:Nat} {s:ai} (hs:m.feeds[j]? =some s):Calls prog 328 #[.int .i64 j,ptr mb] w fun e w'=>e= .returned (.string (bs s))∧w'=w:=by
 obtain⟨hm,hv⟩:=h
 obtain⟨A,c,he,h1,h2⟩: ∃A c,v.f= .slice A m.feeds.length c∧m.feeds.length≤c∧c≤9223372036854775807:=by
  obtain⟨a0,a1,_⟩:=hv.cells
  exact a1
 have hx:aI w B v.f m.feeds:=hv.fs
 rw[he] at hx
 obtain⟨b,o,rfl,hb,hc⟩:=hx.cell hs
 have e0:w.cell? ⟨mb,1,none⟩=some (.slice (some ⟨b,o,none⟩) m.feeds.length c):=by rw[←he];exact af hm rfl
 have hj:j<m.feeds.length:=(List.getElem?_eq_some_iff.1 hs).1
 have hj0:(0:Int)≤(j:Int):=by omega
 have hj1:(j:Int)<(m.feeds.length:Nat):=by omega
 clear hm hv he hx hs
 simp only[ptr]
 go_enter func328,ntmps328
 exact jV
theorem Hi (h:fD m v mb B w) (hB:B≤w.heap.size) {j:Nat} {y:eN} (hs:m.racks[j]? =some y):Calls prog 330 #[.int .i64 j,ptr mb] w fun e w'=>e= .returned (.string (bs y.name))∧w'=w:=by
 obtain⟨hm,hv⟩:=h
 obtain⟨A,c,he,h1,h2⟩: ∃A c,v.r= .slice A m.racks.length c∧m.racks.length≤c∧c≤9223372036854775807:=by
  obtain⟨a0,a1,a2,a3,a4,a5,_⟩:=hv.cells
  exact a2
 have hx:=hv.rs
 rw[he] at hx
 obtain⟨b,o,cs,rfl,hb,_,hR,hc⟩:=hx.at_ hs
 obtain⟨rfl,_⟩:=hR
 have e0:w.cell? ⟨mb,2,none⟩=some (.slice (some ⟨b,o,none⟩) m.racks.length c):=by rw[←he];exact af hm rfl
 have e1:=hc 0 _ rfl
 simp only[Nat.add_zero] at e1
 have hj:j<m.racks.length:=(List.getElem?_eq_some_iff.1 hs).1
 have hj0:(0:Int)≤(j:Int):=by omega
 have hj1:(j:Int)<(m.racks.length:Nat):=by omega
 clear hm hv he hx hs hc
 simp only[ptr]
 go_enter func330,ntmps330
 exact jV
theorem Hj (h:fD m v mb B w) (hB:B≤w.heap.size) {j:Nat} {y:fR} (hs:m.machs[j]? =some y):Calls prog 332 #[.int .i64 j,ptr mb] w fun e w'=>e= .returned (.string (bs y.name))∧w'=w:=by
 obtain⟨hm,hv⟩:=h
 obtain⟨A,c,he,h1,h2⟩: ∃A c,v.m= .slice A m.machs.length c∧m.machs.length≤c∧c≤9223372036854775807:=by
  obtain⟨a0,a1,a2,a3,a4,a5,_⟩:=hv.cells
  exact a3
 have hx:=hv.ms
 rw[he] at hx
 obtain⟨b,o,cs,rfl,hb,_,hR,hc⟩:=hx.at_ hs
 obtain⟨rfl,_⟩:=hR
 have e0:w.cell? ⟨mb,3,none⟩=some (.slice (some ⟨b,o,none⟩) m.machs.length c):=by rw[←he];exact af hm rfl
 have e1:=hc 0 _ rfl
 simp only[Nat.add_zero] at e1
 have hj:j<m.machs.length:=(List.getElem?_eq_some_iff.1 hs).1
 have hj0:(0:Int)≤(j:Int):=by omega
 have hj1:(j:Int)<(m.machs.length:Nat):=by omega
 clear hm hv he hx hs hc
 simp only[ptr]
 go_enter func332,ntmps332
 exact jV
theorem Hk (h:fD m v mb B w) (hB:B≤w.heap.size) {j:Nat} {y:bQ} (hs:m.items[j]? =some y):Calls prog 334 #[.int .i64 j,ptr mb] w fun e w'=>e= .returned (.string (bs y.name))∧w'=w:=by
 obtain⟨hm,hv⟩:=h
 obtain⟨A,c,he,h1,h2⟩: ∃A c,v.i= .slice A m.items.length c∧m.items.length≤c∧c≤9223372036854775807:=by
  obtain⟨a0,a1,a2,a3,a4,a5,_⟩:=hv.cells
  exact a5
 have hx:=hv.is
 rw[he] at hx
 obtain⟨b,o,cs,rfl,hb,_,hR,hc⟩:=hx.at_ hs
 obtain⟨yo,rfl,_⟩:=hR
 have e0:w.cell? ⟨mb,5,none⟩=some (.slice (some ⟨b,o,none⟩) m.items.length c):=by rw[←he];exact af hm rfl
 have e1:=hc 0 _ rfl
 simp only[Nat.add_zero] at e1
 have hj:j<m.items.length:=(List.getElem?_eq_some_iff.1 hs).1
 have hj0:(0:Int)≤(j:Int):=by omega
 have hj1:(j:Int)<(m.items.length:Nat):=by omega
 clear hm hv he hx hs hc
 simp only[ptr]
 go_enter func334,ntmps334
 exact jV
theorem Hl (k:Int) (w:World):Calls prog 336 #[.int .i64 k] w fun e w'=>(∃n:Int,e= .returned (.int .i64 n))∧w'=w:=by
 by_cases h0:(k==0)=true
 ·go_enter func336,ntmps336
  exact kz
 ·have h0':(k==0)=false:=by simpa using h0
  clear h0
  by_cases h1:(k==1)=true
  ·go_enter func336,ntmps336
   exact kz
  ·have h1':(k==1)=false:=by simpa using h1
   clear h1
   go_enter func336,ntmps336
   exact kz
theorem Hm (j:Int) (w:World):Calls prog 327 #[.int .i64 j] w fun e w'=>(∃n:Int,e= .returned (.int .i64 n))∧w'=w:=by
 go_enter func327,ntmps327
 exact kz
theorem Hn (j:Int) (w:World):Calls prog 329 #[.int .i64 j] w fun e w'=>(∃n:Int,e= .returned (.int .i64 n))∧w'=w:=by
 go_enter func329,ntmps329
 exact kz
theorem Ho (j:Int) (w:World):Calls prog 331 #[.int .i64 j] w fun e w'=>(∃n:Int,e= .returned (.int .i64 n))∧w'=w:=by
 go_enter func331,ntmps331
 exact kz
theorem Hp (j:Int) (w:World):Calls prog 333 #[.int .i64 j] w fun e w'=>(∃n:Int,e= .returned (.int .i64 n))∧w'=w:=by
 go_enter func333,ntmps333
 exact kz
theorem Hq (h:fD m v mb B w) (hB:B≤w.heap.size) {j:Nat} (hs:j<m.items.length):Calls prog 335 #[.int .i64 j,ptr mb] w fun e w'=>(∃n:Int,e= .returned (.int .i64 n))∧w'=w:=by
 obtain⟨hm,hv⟩:=h
 obtain⟨A,c,he,h1,h2⟩: ∃A c,v.i= .slice A m.items.length c∧m.items.length≤c∧c≤9223372036854775807:=by
  obtain⟨a0,a1,a2,a3,a4,a5,_⟩:=hv.cells
  exact a5
 have hx:=hv.is
 rw[he] at hx
 obtain⟨y,hy⟩: ∃y,m.items[j]? =some y:=⟨_,List.getElem?_eq_getElem hs⟩
 obtain⟨b,o,cs,rfl,hb,_,hR,hc⟩:=hx.at_ hy
 obtain⟨yo,rfl,_⟩:=hR
 have e0:w.cell? ⟨mb,5,none⟩=some (.slice (some ⟨b,o,none⟩) m.items.length c):=by rw[←he];exact af hm rfl
 have e1:=hc 1 _ rfl
 have HK:=aa (fun W=>Hl y.kind W)
 have hj0:(0:Int)≤(j:Int):=by omega
 have hj1:(j:Int)<(m.items.length:Nat):=by omega
 clear hm hv he hx hc hy
 simp only[ptr]
 go_enter func335,ntmps335
 go_wp2_with(go_at_call 336;refine(HK.out _).mono ?_;rintro e w1 ⟨⟨n,rfl⟩,rfl⟩)
 go_ret
 exact⟨⟨_,rfl⟩,rfl⟩
theorem Hr (h:fD m v mb B w) (hB:B≤w.heap.size) {k j:Nat} {s:ai} (hk:k<5) (hs:(em m k)[j]? =some s):Calls prog (nw k) #[.int .i64 j,ptr mb] w fun e w'=>e= .returned (.string (bs s))∧w'=w:=by
 have:k=0∨k=1∨k=2∨k=3∨k=4:=by omega
 rcases this with rfl|rfl|rfl|rfl|rfl
 ·exact Hg h hB hs
 ·exact Hh h hB hs
 all_goals
  simp only[em,List.getElem?_map,Option.map_eq_some_iff] at hs
  obtain⟨y,hy,rfl⟩:=hs
 ·exact Hi h hB hy
 ·exact Hj h hB hy
 ·exact Hk h hB hy
theorem Hs (h:fD m v mb B w) (hB:B≤w.heap.size) {k j:Nat} (hk:k<5) (hs:j<(em m k).length):Calls prog (nx k) (#[.int .i64 j]++pm mb k) w fun e w'=>(∃n:Int,e= .returned (.int .i64 n))∧w'=w:=by
 have:k=0∨k=1∨k=2∨k=3∨k=4:=by omega
 rcases this with rfl|rfl|rfl|rfl|rfl
 ·exact Hm j w
 ·exact Hn j w
 ·exact Ho j w
 ·exact Hp j w
 ·exact Hq h hB (by simpa[em] using hs)
theorem Ht {k:Nat} (hk:k<5):bc (nw k):=by
 have:k=0∨k=1∨k=2∨k=3∨k=4:=by omega
 rcases this with rfl|rfl|rfl|rfl|rfl
 ·exact enters_of func326 (by kernel_rfl) rfl
 ·exact enters_of func328 (by kernel_rfl) rfl
 ·exact enters_of func330 (by kernel_rfl) rfl
 ·exact enters_of func332 (by kernel_rfl) rfl
 ·exact enters_of func334 (by kernel_rfl) rfl
theorem Hu {k:Nat} (hk:k<5):bc (nx k):=by
 have:k=0∨k=1∨k=2∨k=3∨k=4:=by omega
 rcases this with rfl|rfl|rfl|rfl|rfl
 ·exact enters_of func327 (by kernel_rfl) rfl
 ·exact enters_of func329 (by kernel_rfl) rfl
 ·exact enters_of func331 (by kernel_rfl) rfl
 ·exact enters_of func333 (by kernel_rfl) rfl
 ·exact enters_of func335 (by kernel_rfl) rfl
end
end
end Go.Proofs.YthnkonlbfogkgaaGreatDoor
