/- A part of the proof. -/
import Derived.Test.YthnkonlbfogkgaaGreatDoorQbl
set_option linter.unusedVariables false
set_option linter.unusedSimpArgs false
set_option maxRecDepth 100000
set_option maxHeartbeats 32000000
namespace Go.Proofs.YthnkonlbfogkgaaGreatDoor
section
open Go Go.RowKit Tryz
theorem Ju {t:bU} {i:Nat} (h:eM t=some i):i<17:=by
 unfold eM at h
 split at h
 ·exact(List.findIdx?_eq_some_iff_findIdx_eq.1 h).1
 ·cases h
theorem zG {p:PS} {x:du} {l:List du}:p.parts (x::l)=(if p.e=0 then p.part x else p).parts l:=rfl
theorem kN {α:Type} {l:List α} {k:Nat} {x:α} (h:l[k]? =some x):l.drop k=x::l.drop (k+1):=by
 have hk:=(List.getElem?_eq_some_iff.1 h)
 rw[List.drop_eq_getElem_cons hk.1,hk.2]
theorem PS.fail_d (p:PS) (e:Nat):(p.fail e).d=p.d:=by unfold PS.fail;split<;>rfl
theorem PS.take_d (p:PS) (k:Nat) (l:List ai):(p.take k l).1.d=p.d:=by
 unfold PS.take
 split
 ·exact PS.fail_d p 3
 ·rfl
theorem PS.comma_d (p:PS):p.comma.1.d=p.d:=by
 unfold PS.comma
 split
 ·rfl
 ·exact PS.take_d _ _ _
theorem PS.ref_kind (p:PS):p.ref.d.kind=p.d.kind:=by
 show(p.take 1 []).1.d.kind=_
 rw[PS.take_d]
theorem PS.listGo_kind (n:Nat) (p:PS):(PS.listGo n p).d.kind=p.d.kind:=by
 fun_induction PS.listGo n p with
 |case1 n p h ih=>
  refine ih.trans ((PS.ref_kind _).trans ?_)
  split
  ·rw[PS.fail_d,PS.comma_d]
  ·rw[PS.comma_d]
 |case2 n p h=>rw[PS.comma_d]
theorem PS.classGo_kind (l:List ai) (p:PS):(PS.classGo l p).d.kind=p.d.kind:=by
 rw[PS.classGo]
 split
 ·rw[PS.fail_d]
 ·have h2:=PS.take_le p 2 l
  have h3:(p.take 2 l).1.d.kind=p.d.kind:=congrArg ar.kind (PS.take_d p 2 l)
  dsimp only
  split
  ·rename_i h
   have h1:=PS.comma_lt _ h
   rw[PS.classGo_kind,PS.comma_d]
   exact h3
  ·rw[PS.comma_d]
   exact h3
termination_by p.ts.length
decreasing_by exact aF h1 h2
theorem PS.part_kind (p:PS) (x:du):(p.part x).d.kind=p.d.kind:=by
 cases x with
 |name=>(have h:=congrArg ar.kind (PS.take_d p 1 []);exact h)
 |ref=>exact PS.ref_kind p
 |number=>(have h:=congrArg ar.kind (PS.take_d p 3 []);exact h)
 |list=>exact(PS.listGo_kind 1 p.ref).trans (PS.ref_kind p)
 |classes=>exact PS.classGo_kind _ p
 |domain=>(have h:=congrArg ar.kind (PS.take_d p 2 [bV,ca,dg]);exact h)
 |alw=>
  show p.alw.d.kind=_
  unfold PS.alw
  split
  ·(have h:=congrArg ar.kind (PS.take_d p 2 []);exact h)
  ·rfl
 |word s=>(have h:=congrArg ar.kind (PS.take_d p 2 [s]);exact h)
theorem PS.parts_kind: ∀(l:List du) (p:PS),(p.parts l).d.kind=p.d.kind
 |[],p=>rfl
 |x::l,p=>by
  rw[PS.parts,PS.parts_kind l]
  split
  ·exact PS.part_kind p x
  ·rfl
theorem Jv (pb B M:Nat) (p:PS) (w:World) (hM:M≤100000) (h:aJ w pb B M p) (i:Nat) (hr:eM p.head=some i):
 Calls prog 43 #[ptr pb] w (nM w pb B M p.decl):=by
 have HQ:=aa (zE hr)
 have hi17:=Ju hr
 refine py fun HP HN=> ?_
 have HT:=aa (fun W (hW:aJ W pb B M p)=>iY pb B M p W 2 2 [] (.slice none 0 0) rfl hW (by decide) (aI.nil_ _ _))
 have HTE:=aa (fun(p:PS) (M:Nat) (hM:p.Ok M)=>sK (l:=[[59]]) hM (show(4:Nat)≠0 by decide))
 have HT4:=aa (fun W B' q v (hW:aJ W pb B' (M+1) q) (hv:aI W W.heap.size v [[59]])=>iY pb B' (M+1) q W 4 4 [[59]] v rfl hW (by decide) hv)
 have hpw:=h.cells.1
 have hsz:=h.size
 have HR:=aa (fun W (hW:pb<W.heap.size)=>sT pb W hW)
 generalize p.head=t at HN hr
 have HC:=aa (fun(W:World) v b (hb:b<W.heap.size) (h0:W.cell? ⟨b,0,none⟩=some (.int .i64 t.kind)) (h1:W.cell? ⟨b,1,none⟩=some (.string (bs t.text))) (hs:aQ 3 fZ W W.heap.size v rules)=>
  rD fZ fZ.ab v rules 127 #[ptr b] (cJ rules (iA t)) W hs (enters_of func127 (by kernel_rfl) rfl)
   (fun j x cs W2 hx hW hr _=>by
     rw[dx hx]
     exact zr x cs t b _ W2 hr ((hW.cell (p:=⟨b,0,none⟩) hb).trans h0) ((hW.cell (p:=⟨b,1,none⟩) hb).trans h1) (aF hb hW.size)))
 rw[rz,zB,hr] at HC
 refine eG fun hmf=> ?_
 have hI1:(0:Int)≤(i:Int):=by omega
 have hI2:(i:Int)<17:=by omega
 obtain⟨rl,hrl⟩: ∃r,rules[i]? =some r:=⟨_,List.getElem?_eq_getElem (by exact hi17)⟩
 have HRL:=aa hrl
 have hgd:rules.getD i ([],[])=rl:=by rw[List.getD_eq_getElem?_getD,hrl];rfl
 rw[hgd] at HQ
 generalize p.decl=pd at HQ
 generalize p.take 2 []=pt at HQ HT
 obtain⟨p1,t1⟩:=pt
 dsimp only at HQ
 clear h hr hrl hgd
 unfold ptr at HN HR HC HT HT4
 unfold az at HC
 rw[eI] at HN
 simp only[ptr]
 go_enter func43,ntmps43
 go_wp2_with first
  |(go_at_call 40;refine(HN.out _ (HP.out.later (ac (B0 w) _))).mono ?_
    rintro e w1 ⟨rfl,hb1⟩
    have hb1a:=ag (ac (B0 w) _) hb1
    have hs1:=hb1a.size
    have hr1:=ah (aN w _) hb1)
  |(go_at_call 124;refine(HR.out _ (by simp;omega)).mono ?_
    rintro e w2 ⟨v,rfl,hv,hb2⟩
    refine zF fun hb3 ht hb4=> ?_
    have hr2:=ah (ah hr1 (ac (B0 w1) _)) hb2)
  |(go_at_call 126;refine(HC.out _ _ _ (blk_lt ht) (af ht rfl) (af ht rfl) hv.sl).mono ?_
    rintro e w3 ⟨rfl,hb5⟩
    have HB5:=aa (ag hb4 hb5)
    have HR3:=aa (ah hr2 hb5)
    have HV3:=aa (hv.keep (KP.of_below (pb:=pb) hb5 (ae _) hb5.size) hb5.size)
    clear hb1 hb1a hr1 hb2 hb3 ht hb4 hr2 hb5 hv)
  |(go_at_call 128;refine(HT.out _ (HP.out.later HB5.out)).mono ?_
    unfold fE
    rintro e w4 ⟨rfl,hP4,hK4,hD4⟩
    have hr4:=hK4.blk HR3.out (blk_lt HR3.out) (by omega)
    have hz34:=hK4.size
    have HV4:=aa (HV3.out.keep hK4 hz34)
    obtain⟨rb,rfl,hv1,hv2,hv3⟩:=HV4.out
    obtain⟨pv,g0,g1,g2,g3⟩:=hv3 i rl HRL.out
    obtain⟨hp4,hf4,_⟩:=hP4.cells
    have f2:=hf4 2
    have f3:=hf4 3
    have f4:=hf4 4
    have f5:=hf4 5
    have f6:=hf4 6
    have f7:=hf4 7
    have d2:=(hP4.cells).2.2.2.1
    have d3:=(hP4.cells).2.2.2.2.1
    have d6:=(hP4.cells).2.2.2.2.2.1
    have d7:=(hP4.cells).2.2.2.2.2.2
    obtain⟨tv,rv,nv,hb44,_⟩:=id hP4
    have d4:w4.cell? ⟨pb,4,none⟩=some rv:=af hb44 rfl
    have d5:w4.cell? ⟨pb,5,none⟩=some nv:=af hb44 rfl
    have hrw:rb<w4.heap.size:=by omega
    have hrp: ¬rb=pb:=by omega
    have HP4:=aa hP4;have HK4:=aa hK4;have HR4:=aa hr4;have HG3:=aa g3
    obtain⟨b2,c2,rfl,hl2,hm2,hpb2,hb2lt,hgp⟩:=g3
    have HGP:=aa hgp
    clear hP4 hK4 hD4 hr4 hf4 hv1 hv2 hv3 hb44 hgp)
 have hq0:=HP4.out.reset (k:=i) (B':=w4.heap.size) (by omega) (ae _)
 have hkw:KP w4.heap.size pb w4 ((((((w4.setCell ⟨pb,2,none⟩ (.int .i64 i)).setCell ⟨pb,3,none⟩ (.string ⟨#[]⟩)).setCell ⟨pb,4,none⟩ (.slice none 0 0)).setCell ⟨pb,5,none⟩ (.slice none 0 0)).setCell ⟨pb,6,none⟩ (.int .i64 0)).setCell ⟨pb,7,none⟩ (.bool false)):=
  ((((((KP.refl _ _ _).set (.inl rfl) _).set (.inl rfl) _).set (.inl rfl) _).set (.inl rfl) _).set (.inl rfl) _).set (.inl rfl) _
 refine bt (fun W=>aJ W pb w4.heap.size M {p1 with d:={kind:=i}}∧KP w4.heap.size pb w4 W) ⟨hq0,hkw⟩ ?_
 intro W5 ⟨hP5,hK5⟩
 have HP5:=aa hP5;have HK5:=aa hK5
 have hz45:=hK5.size
 have hzr4:=blk_lt HR4.out
 have HQP:Hid (pd=((((PS.parts {p1 with d:={kind:=i}} rl.2).take 4 [[59]]).1),(((PS.parts {p1 with d:={kind:=i}} rl.2).take 4 [[59]]).1).d)):=HQ.out
 have HK0:=aa (show({p1 with d:={kind:=i}}:PS).d.kind=i from rfl)
 generalize ({p1 with d:={kind:=i}}:PS)=q0 at HP5 HQP HK0
 obtain⟨n,hn⟩: ∃n,rl.2.length=n:=⟨_,rfl⟩
 have HNn:=aa hn
 simp only[hn]
 have hnc:n≤c2:=by omega
 have hnm:c2≤9223372036854775807:=by simpa[maxLen] using hm2
 clear hq0 hkw hP5 hK5 hn g0 g1 g2 hp4 f2 f3 f4 f5 f6 f7 d2 d3 d4 d5 d6 d7 hl2 hm2 HP4 HQ
 go_loopw [37] (fun i wr=> ∃(k:Nat) (q:PS),i= .int .i64 k∧k≤n∧aJ wr pb w4.heap.size (M+1) q∧(q.e=0→q.Ok M)∧KP w4.heap.size pb w4 wr∧q0.parts rl.2=q.parts (rl.2.drop k)) (fun i _=>n - (intOf i).toNat)
 case atStart=>exact⟨0,q0,rfl,aY _,HP5.out.more (Nat.le_succ M),fun _=>HP5.out.ok,HK5.out,by rw[List.drop_zero]⟩
 case round=>
  obtain⟨k,q,rfl,hk,hPq,hOq,hKq,hpq⟩:=hrel
  have HKq:=aa hKq;have HPp:=aa hpq
  by_cases hlt:k<n
  ·have hJ1:(0:Int)≤(k:Int):=by omega
   have hJ2:(k:Int)<n:=by omega
   obtain⟨x,hx⟩: ∃x,rl.2[k]? =some x:=⟨_,List.getElem?_eq_getElem (by rw[HNn.out];exact hlt)⟩
   obtain⟨u,hu,g,bnd,caps,rfl,eg,hcall⟩:=HGP.out k x hx
   have hcu:=(hKq.cell k hb2lt (by omega)).trans hu
   have HX:=aa hx
   unfold bc at eg
   by_cases hqe:q.e=0
   ·have hPM:=hPq.okM (hOq hqe)
    have HCall:=aa (hcall wr w4.heap.size M q (by omega) hKq (ae _) hPM)
    have HSt:=aa (show q.parts (rl.2.drop k)=(q.part x).parts (rl.2.drop (k+1)) from by rw[kN hx,zG,if_pos hqe])
    have a1:=hPq.cells.2.2.1
    have hz:=hPq.cells.1
    have he1:((q.e:Int)==0)=true:=by simp;omega
    have hsw:=hKq.size
    clear hPq hOq hKq hpq hx hu hcall hPM hqe
    go_wp2_with fail
    refine HCall.out.mono ?_
    unfold fM
    rintro e w6 ⟨rfl,hP6,hO6,hK6⟩
    go_wp2_with fail
    exact⟨⟨k+1,q.part x,by go_num,by omega,hP6,hO6,HKq.out.trans hK6,by rw[HPp.out,HSt.out]⟩,by simp[intOf];omega⟩
   ·have HSt:=aa (show q.parts (rl.2.drop k)=q.parts (rl.2.drop (k+1)) from by rw[kN hx,zG,if_neg hqe])
    have a1:=hPq.cells.2.2.1
    have hz:=hPq.cells.1
    have he1:((q.e:Int)==0)=false:=by simp;omega
    have HP6:=aa hPq;have HO6:=aa hOq
    clear hPq hOq hKq hpq hx hu hcall hqe
    go_wp2_with fail
    exact⟨⟨k+1,q,by go_num,by omega,HP6.out,HO6.out,HKq.out,by rw[HPp.out,HSt.out]⟩,by simp[intOf];omega⟩
  ·have hkn:k=n:=by omega
   have HQL:=aa (show q0.parts rl.2=q from by rw[hpq,hkn,←HNn.out,List.drop_length];rfl)
   rw[HQL.out] at HQP
   have HPq:=aa hPq;have HOq:=aa hOq
   have hzr:=aF hzr4 hKq.size
   have hrr:=hKq.blk HR4.out hzr4 (by omega)
   have HRr:=aa hrr
   have HT4r:=aa (fun v (hv:aI (wr.alloc (.cells #[.string ⟨#[59]⟩] 9)) (wr.alloc (.cells #[.string ⟨#[59]⟩] 9)).heap.size v [[59]])=>HT4.out _ _ q v (hPq.later (ac (B0 wr) _)) hv)
   have HSn:=aa (aI.of_new (w:=wr) [[59]] (t:=9) (C:= #[.string ⟨#[59]⟩]) (n:=1) (c:=1) rfl rfl rfl rfl (by simp))
   have HOk:=aa (fun h0=>HTE.out q M h0)
   have HTe:=aa (show((q.take 4 [[59]]).1.e=0→q.e=0) from fun h0=>by
    apply Classical.byContradiction
    intro hne
    rw[PS.take_err hne] at h0
    exact hne h0)
   have HKd:=aa (show(q.take 4 [[59]]).1.d.kind=i from by rw[PS.take_d,←HQL.out,PS.parts_kind];exact HK0.out)
   generalize q.take 4 [[59]]=qt at HT4r HQP HOk HTe HKd
   obtain⟨r,rt⟩:=qt
   dsimp only at HQP HOk HTe HKd
   clear hPq hOq hKq hpq hkn hrr
   go_wp2_with fail
   refine(HT4r.out _ HSn.out).mono ?_
   unfold fE
   rintro e w7 ⟨rfl,hP7,hK7,hD7⟩
   obtain⟨tv,rv,nv,c1,c2',c3,c4,c5,c6,c7⟩:=id hP7
   obtain⟨rA,rn,rc,rfl⟩:=bT c3
   obtain⟨nA,nn,nc,rfl⟩:=bT c4
   have d2:w7.cell? ⟨pb,2,none⟩=some (.int .i64 r.d.kind):=af c1 rfl
   have d3:w7.cell? ⟨pb,3,none⟩=some (.string (bs r.d.name)):=af c1 rfl
   have d4:w7.cell? ⟨pb,4,none⟩=some (.slice rA rn rc):=af c1 rfl
   have d5:w7.cell? ⟨pb,5,none⟩=some (.slice nA nn nc):=af c1 rfl
   have d6:w7.cell? ⟨pb,6,none⟩=some (.int .i64 r.d.by_):=af c1 rfl
   have d7:w7.cell? ⟨pb,7,none⟩=some (.bool r.d.always):=af c1 rfl
   have hz7:=blk_lt c1
   have hr7:=hK7.blk (ah HRr.out (ac (B0 wr) _)) (by simp;omega) (by omega)
   obtain⟨q0',q1,q2,q3,q4,q5⟩:=wl hr7
   have r0:=af (o:=0) hr7 rfl
   have r1:=af (o:=1) hr7 rfl
   have r2:=af (o:=2) hr7 rfl
   have r3:=af (o:=3) hr7 rfl
   have r4:=af (o:=4) hr7 rfl
   have r5:=af (o:=5) hr7 rfl
   have hzz:=blk_lt hr7
   have C3:=aa c3;have C4:=aa c4;have C7:=aa c7
   have HP7:=aa hP7;have HK7:=aa hK7;have HR7:=aa hr7
   clear hP7 hK7 hD7 hr7 c1 c2' c3 c4 c5 c6 c7
   go_wp2_with fail
   refine bodyPost_ret (v:= .agg #[.int .i64 r.d.kind,.string (bs r.d.name),.slice rA rn rc,.slice nA nn nc,.int .i64 r.d.by_,.bool r.d.always]) (by simp[results,results43,go_sem,r0,r1,r2,r3,r4,r5,hzz]) rfl ?_
   rw[HQP.out]
   have hbb:w.heap.size<w4.heap.size:=hzr4
   have hby:=C7.out.by_
   have hkd:r.d.kind≤1000000:=by rw[HKd.out];omega
   refine⟨_,w4.heap.size,rfl,⟨_,_,rfl,zC C3.out hbb,zC C4.out hbb,hkd,by show r.d.by_≤1000000;omega⟩,HP7.out.set6 HR7.out (by decide) hpw,fun h0=>(HOk.out (HOq.out (HTe.out h0))).1,?_⟩
   have hk0:KP w.heap.size pb w w7:=(((KP.of_below HB5.out (ae _) HB5.out.size).trans (HK4.out.mono HB5.out.size)).trans (HKq.out.mono (bN hbb))).trans ((KP.of_below (ac (B0 wr) _) (by have:=HKq.out.size;omega) (by simp)).trans (HK7.out.mono (by have:=HKq.out.size;simp;omega)))
   exact(((((hk0.set (.inr (ae _)) _).set (.inr (ae _)) _).set (.inr (ae _)) _).set (.inr (ae _)) _).set (.inr (ae _)) _).set (.inr (ae _)) _
theorem Jw (pb B M:Nat) (p:PS) (w:World) (hM:M≤100000) (h:aJ w pb B M p):Calls prog 43 #[ptr pb] w (nM w pb B M p.decl):=by
 cases hr:eM p.head with
 |none=>exact Jt pb B M p w h hr
 |some i=>exact Jv pb B M p w hM h i hr
def sY (w:World) (r:Except (Nat×Nat) (List ar)) (e:Ending) (w':World):Prop:=
 Below w.heap.size w w'∧match r with
  | .error x=>e= .returned (.tuple #[.slice none 0 0,.int .i64 x.1,.int .i64 x.2])
  | .ok l=> ∃v,e= .returned (.tuple #[v,.int .i64 0,.int .i64 0])∧aQ 6 fy w' w'.heap.size v l
theorem infoDecl:(Tryz.prog.info? 87).map (fun i=>(i.zero,i.size,i.bytes))=some (some (.agg #[.int .i64 0,.string ⟨#[]⟩,.slice none 0 0,.slice none 0 0,.int .i64 0,.bool false]),6,88):=by kernel_rfl
def ta (d:ar) (r n:Value):List Value:=[.int .i64 d.kind,.string (bs d.name),r,n,.int .i64 d.by_,.bool d.always]
def gF (w:World) (pb:Nat) (rows:List (List Value)) (l:List ar):Prop:=
 rows.length=l.length∧∀(j:Nat) d,l[j]? =some d→∃r n B,rows[j]? =some (ta d r n)∧pb<B∧w.ownsRow B 9 1 r d.refs.length (d.refs.map fun s=>Value.string (bs s))∧w.ownsRow B 3 1 n d.nums.length (d.nums.map fun(k:Nat)=>Value.int .i64 k)∧d.kind≤1000000∧d.by_≤1000000∧∀k∈d.nums,k≤2000000
theorem gF.kp {w w':World} {pb:Nat} {rows:List (List Value)} {l:List ar} (h:gF w pb rows l) (hk:KP w.heap.size pb w w'):gF w' pb rows l:=
 ⟨h.1,fun j d hd=>by
  obtain⟨r,n,B,h1,h2,h3,h4,h5⟩:=h.2 j d hd
  exact⟨r,n,B,h1,h2,j8 h3 hk (ae _) h2,j8 h4 hk (ae _) h2,h5⟩⟩
theorem gF.grown {w w':World} {pb:Nat} {rows:List (List Value)} {l:List ar} (h:gF w pb rows l) {base:Nat} {v:Value} {n:Nat} {xs:List Value} (ho:w.ownsRow base 87 6 v n xs) (hg:w.grownBy w' v.ownBlock):gF w' pb rows l:=by
 have far {B e:Nat} {u:Value} {m:Nat} {ys:List Value} (hu:w.ownsRow B e 1 u m ys) (he: ¬e=87):w'.ownsRow B e 1 u m ys:=by
  refine⟨hu.1,?_⟩
  rcases hu.2 with hn|⟨g,cap,cur,h1,h2,h3,h4⟩
  ·exact .inl hn
  ·refine .inr ⟨g,cap,cur,h1,h2,eD h3 hg (fun k hk e'=> ?_),h4⟩
   subst e'
   rcases ho.2 with ⟨rfl,_⟩|⟨g2,cap2,cur2,rfl,_,hg2,_⟩
   ·simp[Value.ownBlock] at hk
   ·have:g2=g:=by simpa[Value.ownBlock] using hk
    subst this
    rw[hg2] at h3
    injection h3 with h3
    injection h3 with _ h3 _
    exact he h3.symm
 refine⟨h.1,fun j d hd=> ?_⟩
 obtain⟨r,n,B,h1,h2,h3,h4,h5⟩:=h.2 j d hd
 exact⟨r,n,B,h1,h2,far h3 (by decide),far h4 (by decide),h5⟩
theorem gF.snoc {w:World} {pb B:Nat} {rows:List (List Value)} {l:List ar} {d:ar} {r n:Value} (h:gF w pb rows l) (hB:pb<B) (h3:w.ownsRow B 9 1 r d.refs.length (d.refs.map fun s=>Value.string (bs s)))
 (h4:w.ownsRow B 3 1 n d.nums.length (d.nums.map fun(k:Nat)=>Value.int .i64 k)) (h5:d.kind≤1000000∧d.by_≤1000000∧∀k∈d.nums,k≤2000000):gF w pb (rows++[ta d r n]) (l++[d]):=by
 refine⟨by simp[h.1],fun j x hx=> ?_⟩
 rcases Nat.lt_or_ge j l.length with hj|hj
 ·rw[List.getElem?_append_left hj] at hx
  obtain⟨r',n',B',g1,g⟩:=h.2 j x hx
  exact⟨r',n',B',by rw[List.getElem?_append_left (by rw[h.1];exact hj)];exact g1,g⟩
 ·rw[List.getElem?_append_right hj] at hx
  have hj0:j - l.length=0:=by
   have:=(List.getElem?_eq_some_iff.1 hx).1
   simp at this
   omega
  rw[hj0] at hx
  simp at hx
  subst hx
  refine⟨r,n,B,?_,hB,h3,h4,h5⟩
  rw[List.getElem?_append_right (by rw[h.1];exact hj),h.1,hj0]
  rfl
theorem gF.sl {w:World} {pb base:Nat} {rows:List (List Value)} {l:List ar} {v:Value} (h:gF w pb rows l) (ho:w.ownsRow base 87 6 v l.length rows.flatten):aQ 6 fy w w.heap.size v l:=by
 refine aQ.of_own rows (fun r hr=> ?_) h.1 ho (fun j r x hr hx=> ?_)
 ·obtain⟨j,hj⟩:=List.mem_iff_getElem?.1 hr
  have hlt:=(List.getElem?_eq_some_iff.1 hj).1
  obtain⟨d,hd⟩: ∃d,l[j]? =some d:=⟨_,List.getElem?_eq_getElem (by rw[←h.1];exact hlt)⟩
  obtain⟨r',n',B',g1,_⟩:=h.2 j d hd
  rw[hj] at g1
  injection g1 with g1
  subst g1
  rfl
 ·obtain⟨r',n',B',g1,g2,g3,g4,g5,g6,g7⟩:=h.2 j x hx
  rw[hr] at g1
  injection g1 with g1
  subst g1
  refine⟨r',n',rfl,?_,?_,g5,g6⟩
  ·have hs:=Sl.of_own g3
   unfold aI aL
   rw[List.map_map]
   exact hs
  ·have hs:=Sl.of_own g4
   refine⟨by rw[List.map_map];exact hs,fun y hy=> ?_⟩
   obtain⟨k,hk,rfl⟩:=List.mem_map.1 hy
   have:=g7 k hk
   constructor<;>omega
end
section
open Go Go.RowKit Go.MapKept Tryz
theorem zH {a b:Bool} (h:a=b):Ending.returned (Value.bool a)= .returned (.bool b):=by rw[h]
theorem zI (k:Nat) (w:World):am 134 #[.int .i64 k] w (.int .i64 (bM k)):=by
 by_cases h1:5≤k
 ·have k1:(5:Int)≤(k:Int):=by omega
  by_cases h2:k≤7
  ·have k2:(k:Int)≤7:=by omega
   have e:bM k=5:=by unfold bM;rw[if_pos ⟨h1,h2⟩]
   exact pG
  ·have k2: ¬(k:Int)≤7:=by omega
   by_cases h3:10≤k
   ·have k3:(10:Int)≤(k:Int):=by omega
    have e:bM k=10:=by unfold bM;rw[if_neg (by omega),if_pos h3]
    exact pG
   ·have k3: ¬(10:Int)≤(k:Int):=by omega
    have e:bM k=k:=by unfold bM;rw[if_neg (by omega),if_neg h3]
    exact pG
 ·have k1: ¬(5:Int)≤(k:Int):=by omega
  have k3: ¬(10:Int)≤(k:Int):=by omega
  have e:bM k=k:=by unfold bM;rw[if_neg (by omega),if_neg (by omega)]
  exact pG
theorem zJ (k:Nat) (w:World):Calls prog 224 #[.int .i64 k] w fun e w'=> ∃b,e= .returned (.func (.func 318) #[] #[ptr b])∧w.heap.size≤b∧w'.heap[b]? =some (.cells #[.int .i64 k] 3 (0,0))∧Below w.heap.size w w':=by
 refine eG fun hmf=> ?_
 go_enter func224,ntmps224
 go_wp2_with fail
 go_ret
 exact⟨_,rfl,ae _,aN w _,ac (B0 w) _⟩
theorem zK (b k j:Nat) (w:World) (hb:w.heap[b]? =some (.cells #[.int .i64 k] 3 (0,0))):am 318 #[.int .i64 j,ptr b] w (.bool (decide (j=k))):=by
 have c0:w.cell? ⟨b,0,none⟩=some (.int .i64 k):=af hb rfl
 simp only[ptr]
 clear hb
 go_enter func318,ntmps318
 go_wp2_with fail
 go_ret
 refine⟨zH ?_,B0 w⟩
 rw[Bool.eq_iff_iff];simp;try omega
theorem zL (k:Nat) (w:World):am 225 #[.int .i64 k] w (.bool (decide (bM k=5))):=by
 have HS:=aa (zI k w)
 generalize bM k=s at HS
 go_enter func225,ntmps225
 go_wp2_with(go_at_call 134;refine HS.out.mono ?_;rintro e w2 ⟨rfl,hb2⟩)
 go_ret
 refine⟨zH ?_,hb2⟩
 rw[Bool.eq_iff_iff];simp;try omega
def pH (x:Nat×Nat):Value:= .agg #[.int .i64 x.1,.int .i64 x.2]
def dr (t:br) (s:ai):Option Value:=(dR t s).map pH
theorem zM (t:br) (s:ai): ∃k:Int,(dr t s).getD (.agg #[.int .i64 0,.int .i64 0])= .agg #[.int .i64 k,.int .i64 (bE t s)]:=by
 unfold dr bE pH
 cases dR t s with
 |none=>exact⟨0,rfl⟩
 |some x=>exact⟨x.1,rfl⟩
theorem td (rb Mb:Nat) (t:br) (v:Value) (l:List ai) (w:World) (hr:w.cell? ⟨rb,0,none⟩=some (.map (some Mb))) (hM:aZ dI w Mb (dr t)) (hv:aI w w.heap.size v l) (hl:l.length≤100000):
 Calls prog 49 #[ptr rb,v] w fun e w'=> ∃u,e= .returned u∧w'.ownsRow w.heap.size 3 1 u l.length ((l.map (bE t)).map fun x=>Value.int .i64 x)∧Below w.heap.size w w':=by
 have hzr:=aH _ _ hr
 obtain⟨A,n,c,rfl,hn,hc,hcm⟩:=hv.sk.form
 refine mL fun i0 hi hz0 hz1 hz2=> ?_
 have hfd: ∀(a b:Value) (w:World),(Instr.field 178 (.agg #[a,b]) 1).run prog w= .ok b w:=fun _ _ _=>by rfl
 have HR:=aa hr;have HM:=aa hM;have HV:=aa hv;have HN:=aa hn
 simp only[ptr]
 rw[hn]
 rw[hn] at hl
 clear hr hM hv hn
 go_enter func49,ntmps49
 go_wp2_with fail
 go_loopw [5,10] (fun u i wr=> ∃k:Nat,k≤n∧i= .int .i64 k∧wr.ownsRow w.heap.size 3 1 u k (((l.take k).map (bE t)).map fun x=>Value.int .i64 x)∧Below w.heap.size w wr) (fun _ i _=>n - (intOf i).toNat)
 case atStart=>exact⟨0,aY _,rfl,World.ownsRow_nil _ _ _ _,B0 w⟩
 case round=>
  obtain⟨k,hk,rfl,hok,hBk⟩:=hrel
  by_cases hlt:k<n
  ·have hI1:(0:Int)≤k:=by omega
   have hI2:(k:Int)<n:=by omega
   obtain⟨s,hs⟩: ∃s,l[k]? =some s:=⟨_,List.getElem?_eq_getElem (by rw[HN.out];exact hlt)⟩
   obtain⟨b,o,rfl,hb,hcell⟩:=aI.cell (HV.out.below hBk (ae _)) hs
   have hr0:wr.cell? ⟨rb,0,none⟩=some (.map (some Mb)):=(hBk.cell (p:=⟨rb,0,none⟩) hzr).trans HR.out
   have HMr:=aa (HM.out.below hBk (aF HM.out.lt (ae _)))
   obtain⟨kq,hkq⟩:=zM t s
   have HKQ:=aa hkq
   have HTk:=aa (show((l.take (k+1)).map (bE t)).map (fun x=>Value.int .i64 x)=((l.take k).map (bE t)).map (fun x=>Value.int .i64 x)++[.int .i64 (bE t s)] from by
    rw[List.take_add_one,hs];simp)
   have HO:=aa hok;have HBk:=aa hBk
   have hzw:=hBk.size
   generalize bE t s=q at HKQ HTk
   clear hok hBk hs hkq
   go_wp2_with first
    |(at_lookup;refine jz rfl (.tmp 18) (.tmp 19) 99 false rfl 9 178 .string underlying99 underlying9 j7 Mb (dr t) rfl HMr.out s (.agg #[.int .i64 0,.int .i64 0]) rfl (zeroValue178 _) ?_
      rw[HKQ.out]
      simp only[Bool.false_eq_true,if_false])
    |(at_builtin;refine wpList_append_own _ rfl (.tmp 14) (.tmp 22) _ rfl w.heap.size 3 i0 _ 1 8 underlying30 hi hz0 hz1 hz2 rfl (by decide) _ k (((l.take k).map (bE t)).map fun x=>Value.int .i64 x) rfl (HO.out.alloc _) ⟨wr.heap.size,0,none⟩ 1 1 [.int .i64 q] rfl rfl (eE rfl) (by simp[Value.oneCell']) (by simp[maxLen];omega) (by omega) (by simp;omega) ?_
      intro v' w3 hown' hgrow _
      have HOW:=aa hown'
      have HB3:=aa (ir (HO.out.alloc (.cells #[.int .i64 q] 3)) (ac HBk.out _) (ae _) hgrow)
      clear hown' hgrow)
   refine⟨⟨k+1,by omega,by go_num,?_,HB3.out⟩,by simp[intOf];omega⟩
   rw[HTk.out]
   exact HOW.out
  ·have hkn:k=n:=by omega
   subst hkn
   have HO:=aa hok;have HBk:=aa hBk
   clear hok hBk
   go_wp2_with fail
   go_ret
   refine⟨_,rfl,?_,HBk.out⟩
   have h:=HO.out
   rw[List.take_of_length_le (by rw[HN.out];exact ae _)] at h
   exact h
def addF (qb mb:Nat):Int→Option Value:=(aS (aS (aS (aS (aS (aS (aS (aS (aS (aS (fun _=>none) 0 (.func (.func 135) #[] #[ptr mb])) 1 (.func (.func 136) #[] #[ptr mb])) 2 (.func (.func 137) #[] #[ptr mb])) 3 (.func (.func 138) #[] #[ptr mb])) 4 (.func (.func 139) #[] #[ptr mb])) 5 (.func (.func 140) #[] #[ptr mb,ptr qb])) 6 (.func (.func 142) #[] #[ptr mb,ptr qb])) 7 (.func (.func 143) #[] #[ptr mb,ptr qb])) 8 (.func (.func 144) #[] #[ptr mb])) 9 (.func (.func 145) #[] #[ptr mb]))
theorem Jy (qb mb:Nat) {k:Int} (h: ¬(0≤k∧k≤9)):addF qb mb k=none:=by
 unfold addF aS
 repeat rw[if_neg (by omega)]
theorem Jz (rb:Nat) (w:World):
 Calls prog 47 #[ptr rb] w fun e w'=> ∃M qb mb,e= .returned (.map (some M))∧aZ cC w' M (addF qb mb)∧w.heap.size≤qb∧w.heap.size≤mb∧w.heap.size≤M∧
  w'.heap[qb]? =some (.cells #[ptr rb] 98 (0,0))∧w'.heap[mb]? =some (.cells #[.pointer (some ⟨rb,1,none⟩)] 181 (0,0))∧Below w.heap.size w w':=by
 refine fU fun hmm=> ?_
 refine eG fun hmf=> ?_
 simp only[ptr]
 go_enter func47,ntmps47
 go_upto_region 2 with (fail)
 refine bt (fun W=>Below w.heap.size w W∧W.heap[w.heap.size]? =some (.cells #[.pointer (some ⟨rb,0,none⟩)] 98 (0,0))∧W.heap[w.heap.size+1]? =some (.cells #[.pointer (some ⟨rb,1,none⟩)] 181 (0,0))) ⟨by first|exact ac (ac (B0 w) _) _|exact aR (ac (ac (B0 w) _) _) (by simp) _,(gE w _ _ _ _).1,(gE w _ _ _ _).2⟩ ?_
 intro W1 ⟨hBW,hqW,hpW⟩
 have HB0:=aa (show Below W1.heap.size W1 (W1.alloc (.map #[] 0)) from ac (B0 W1) _)
 have HBW:=aa hBW;have HqW:=aa hqW;have HpW:=aa hpW
 clear hBW hqW hpW
 go_wp2_with first
  |(refine bm rfl (.tmp 7) (.const (.int .i64 0)) (.tmp 8) 104 (.inr rfl) 3 107 (.int .i64) underlying104 underlying3 aO W1.heap.size (fun _=>none) rfl (aZ.made cC W1) 0 (.func (.func 135) #[] #[ptr (w.heap.size+1)]) rfl rfl ?_
    intro w1 hL1 hT1
    have HB1:=aa (hT1.1 _ _ HB0.out (ae _))
    clear hT1)
  |(refine bm rfl (.tmp 7) (.const (.int .i64 1)) (.tmp 9) 104 (.inr rfl) 3 107 (.int .i64) underlying104 underlying3 aO W1.heap.size _ rfl hL1 1 (.func (.func 136) #[] #[ptr (w.heap.size+1)]) rfl rfl ?_
    intro w2 hL2 hT2
    have HB2:=aa (hT2.1 _ _ HB1.out (ae _))
    clear hT2 hL1)
  |(refine bm rfl (.tmp 7) (.const (.int .i64 2)) (.tmp 10) 104 (.inr rfl) 3 107 (.int .i64) underlying104 underlying3 aO W1.heap.size _ rfl hL2 2 (.func (.func 137) #[] #[ptr (w.heap.size+1)]) rfl rfl ?_
    intro w3 hL3 hT3
    have HB3:=aa (hT3.1 _ _ HB2.out (ae _))
    clear hT3 hL2)
  |(refine bm rfl (.tmp 7) (.const (.int .i64 3)) (.tmp 11) 104 (.inr rfl) 3 107 (.int .i64) underlying104 underlying3 aO W1.heap.size _ rfl hL3 3 (.func (.func 138) #[] #[ptr (w.heap.size+1)]) rfl rfl ?_
    intro w4 hL4 hT4
    have HB4:=aa (hT4.1 _ _ HB3.out (ae _))
    clear hT4 hL3)
  |(refine bm rfl (.tmp 7) (.const (.int .i64 4)) (.tmp 12) 104 (.inr rfl) 3 107 (.int .i64) underlying104 underlying3 aO W1.heap.size _ rfl hL4 4 (.func (.func 139) #[] #[ptr (w.heap.size+1)]) rfl rfl ?_
    intro w5 hL5 hT5
    have HB5:=aa (hT5.1 _ _ HB4.out (ae _))
    clear hT5 hL4)
  |(refine bm rfl (.tmp 7) (.const (.int .i64 5)) (.tmp 13) 104 (.inr rfl) 3 107 (.int .i64) underlying104 underlying3 aO W1.heap.size _ rfl hL5 5 (.func (.func 140) #[] #[ptr (w.heap.size+1),ptr w.heap.size]) rfl rfl ?_
    intro w6 hL6 hT6
    have HB6:=aa (hT6.1 _ _ HB5.out (ae _))
    clear hT6 hL5)
  |(refine bm rfl (.tmp 7) (.const (.int .i64 6)) (.tmp 14) 104 (.inr rfl) 3 107 (.int .i64) underlying104 underlying3 aO W1.heap.size _ rfl hL6 6 (.func (.func 142) #[] #[ptr (w.heap.size+1),ptr w.heap.size]) rfl rfl ?_
    intro w7 hL7 hT7
    have HB7:=aa (hT7.1 _ _ HB6.out (ae _))
    clear hT7 hL6)
  |(refine bm rfl (.tmp 7) (.const (.int .i64 7)) (.tmp 15) 104 (.inr rfl) 3 107 (.int .i64) underlying104 underlying3 aO W1.heap.size _ rfl hL7 7 (.func (.func 143) #[] #[ptr (w.heap.size+1),ptr w.heap.size]) rfl rfl ?_
    intro w8 hL8 hT8
    have HB8:=aa (hT8.1 _ _ HB7.out (ae _))
    clear hT8 hL7)
  |(refine bm rfl (.tmp 7) (.const (.int .i64 8)) (.tmp 16) 104 (.inr rfl) 3 107 (.int .i64) underlying104 underlying3 aO W1.heap.size _ rfl hL8 8 (.func (.func 144) #[] #[ptr (w.heap.size+1)]) rfl rfl ?_
    intro w9 hL9 hT9
    have HB9:=aa (hT9.1 _ _ HB8.out (ae _))
    clear hT9 hL8)
  |(refine bm rfl (.tmp 7) (.const (.int .i64 9)) (.tmp 17) 104 (.inr rfl) 3 107 (.int .i64) underlying104 underlying3 aO W1.heap.size _ rfl hL9 9 (.func (.func 145) #[] #[ptr (w.heap.size+1)]) rfl rfl ?_
    intro w10 hL10 hT10
    have HB10:=aa (hT10.1 _ _ HB9.out (ae _))
    clear hT10 hL9
    have HL10:=aa hL10
    clear hL10)
 go_ret
 exact⟨_,w.heap.size,w.heap.size+1,rfl,HL10.out,ae _,Nat.le_succ _,HBW.out.size,ah HqW.out HB10.out,ah HpW.out HB10.out,ag HBW.out HB10.out⟩
theorem JA (rb mb:Nat) (d:ar) (RA NA A:Option Addr) (rn rc nn nc n c:Nat) (C:Array Value) (T:TypeId) (u:Value) (w:World) (hr:w.heap[rb]? =some (.cells C T (0,0))) (hC:C[10]? =some u)
 (hm:w.heap[mb]? =some (.cells #[.pointer (some ⟨rb,1,none⟩)] 181 (0,0))):
 Calls prog 145 #[.agg #[.int .i64 d.kind,.string (bs d.name),.slice RA rn rc,.slice NA nn nc,.int .i64 d.by_,.bool d.always],.slice A n c,ptr mb] w fun e w'=>
  (∃v,e= .returned v)∧w'.heap[rb]? =some (.cells (C.setIfInBounds 10 (.int .i64 d.by_)) T (0,0))∧KP w.heap.size rb w w':=by
 have hlr:=blk_lt hr
 have hr1:=ay hr 10 (.int .i64 d.by_)
 have c0:w.cell? ⟨mb,0,none⟩=some (.pointer (some ⟨rb,1,none⟩)):=af hm rfl
 have c1:w.cell? ⟨rb,10,none⟩=some u:=af hr hC
 have f1:=aW hr 10
 have hlm:=blk_lt hm
 have hn1: ¬rb=w.heap.size:=by omega
 have hn2: ¬mb=w.heap.size:=by omega
 have HR1:=aa hr1
 simp only[ptr]
 clear hr hm hr1
 go_enter func145,ntmps145
 go_wp2_with fail
 go_end0
 refine⟨⟨_,rfl⟩,ah HR1.out (ac (B0 _) _),?_⟩
 exact KP.alloc (KP.set (KP.refl _ _ _) (.inl rfl) _) (ae _) _
theorem JB (rb mb ab ao qb qo:Nat) (d:ar) (RA:Option Addr) (rn rc nn nc n c:Nat) (k0 k1 k2:Int) (C:Array Value) (T:TypeId) (u7 u8 u9:Value) (w:World) (hr:w.heap[rb]? =some (.cells C T (0,0))) (h7:C[7]? =some u7) (h8:C[8]? =some u8) (h9:C[9]? =some u9)
 (hm:w.heap[mb]? =some (.cells #[.pointer (some ⟨rb,1,none⟩)] 181 (0,0))) (hnm: ¬mb=rb) (hna: ¬ab=rb) (hnq: ¬qb=rb)
 (ha:w.cell? ⟨ab,ao,none⟩=some (.int .i64 k0)) (hq1:w.cell? ⟨qb,qo,none⟩=some (.int .i64 k1)) (hq2:w.cell? ⟨qb,qo+1,none⟩=some (.int .i64 k2)):
 Calls prog 144 #[.agg #[.int .i64 d.kind,.string (bs d.name),.slice RA rn rc,.slice (some ⟨qb,qo,none⟩) (nn+2) nc,.int .i64 d.by_,.bool d.always],.slice (some ⟨ab,ao,none⟩) (n+1) c,ptr mb] w fun e w'=>
  (∃v,e= .returned v)∧w'.heap[rb]? =some (.cells (((C.setIfInBounds 7 (.int .i64 k0)).setIfInBounds 8 (.int .i64 k1)).setIfInBounds 9 (.int .i64 k2)) T (0,0))∧KP w.heap.size rb w w':=by
 have hlr:=blk_lt hr
 have hlm:=blk_lt hm
 have hla:=aH _ _ ha
 have hlq:=aH _ _ hq1
 simp only[ptr]
 go_enter func144,ntmps144
 go_upto_region 1 with (fail)
 refine bt (fun W=>Below w.heap.size w W∧W.heap[w.heap.size]? =some (.cells #[.int .i64 d.kind,.string (bs d.name),.slice RA rn rc,.slice (some ⟨qb,qo,none⟩) (nn+2) nc,.int .i64 d.by_,.bool d.always] 87 (0,0))) ⟨ac (B0 w) _,aN w _⟩ ?_
 intro W1 ⟨hBW,hxW⟩
 have x3:W1.cell? ⟨w.heap.size,3,none⟩=some (.slice (some ⟨qb,qo,none⟩) (nn+2) nc):=af hxW rfl
 refine jB fun hrW c0=> ?_
 have n0:W1.cell? ⟨ab,ao,none⟩=some (.int .i64 k0):=(hBW.cell (p:=⟨ab,ao,none⟩) hla).trans ha
 have n1:W1.cell? ⟨qb,qo,none⟩=some (.int .i64 k1):=(hBW.cell (p:=⟨qb,qo,none⟩) hlq).trans hq1
 have n2:W1.cell? ⟨qb,qo+1,none⟩=some (.int .i64 k2):=(hBW.cell (p:=⟨qb,qo+1,none⟩) hlq).trans hq2
 have r7:W1.cell? ⟨rb,7,none⟩=some u7:=af hrW h7
 have r8:W1.cell? ⟨rb,8,none⟩=some u8:=af hrW h8
 have r9:W1.cell? ⟨rb,9,none⟩=some u9:=af hrW h9
 have z7:=aW hrW 7
 have z8:=aW hrW 8
 have z9:=aW hrW 9
 have hzm:mb<W1.heap.size:=aF hlm hBW.size
 have hza:ab<W1.heap.size:=aF hla hBW.size
 have hzq:qb<W1.heap.size:=aF hlq hBW.size
 have hzx:=blk_lt hxW
 have hnx: ¬w.heap.size=rb:=by omega
 have hb0:(0:Int)<(nn:Int)+2:=by omega
 have hb1:(1:Int)<(nn:Int)+2:=by omega
 have HBW:=aa hBW;have HrW:=aa hrW
 clear hBW hxW hrW hr hm ha hq1 hq2 h7 h8 h9
 go_wp2_with fail
 refine bH (S:=fun w'=>w'.cell? ⟨mb,0,none⟩=some (.pointer (some ⟨rb,1,none⟩))∧w'.cell? ⟨w.heap.size,3,none⟩=some (.slice (some ⟨qb,qo,none⟩) (nn+2) nc)∧w'.cell? ⟨ab,ao,none⟩=some (.int .i64 k0)∧w'.cell? ⟨qb,qo,none⟩=some (.int .i64 k1)∧w'.cell? ⟨qb,qo+1,none⟩=some (.int .i64 k2)) 23 (by exact⟨c0,x3,n0,n1,n2⟩) fun hS=> ?_
 iterate 16 refine gH 23 5 ?_
 refine cH 16 fun K hK=> ?_
 go_simp
 refine hK.out _ _ (by refine(fun(hk:KP W1.heap.size rb W1 _)=>⟨(hk.cell 0 hzm hnm).trans c0,(hk.cell 3 hzx hnx).trans x3,(hk.cell ao hza hna).trans n0,(hk.cell qo hzq hnq).trans n1,(hk.cell (qo+1) hzq hnq).trans n2⟩) (KP.set (KP.refl _ _ W1).drew (.inl rfl) _)) (fun hS=> ?_)
 clear hK
 refine ak ?_
 iterate 2 refine gH 23 4 ?_
 refine cH 19 fun K hK=> ?_
 go_simp
 refine hK.out _ _ (by refine(fun(hk:KP W1.heap.size rb W1 _)=>⟨(hk.cell 0 hzm hnm).trans c0,(hk.cell 3 hzx hnx).trans x3,(hk.cell ao hza hna).trans n0,(hk.cell qo hzq hnq).trans n1,(hk.cell (qo+1) hzq hnq).trans n2⟩) (KP.set (KP.set (KP.refl _ _ W1).drew (.inl rfl) _) (.inl rfl) _)) (fun hS=> ?_)
 clear hK
 refine ak ?_
 iterate 2 refine gH 23 3 ?_
 refine cH 22 fun K hK=> ?_
 go_simp
 refine hK.out _ _ (by refine(fun(hk:KP W1.heap.size rb W1 _)=>⟨(hk.cell 0 hzm hnm).trans c0,(hk.cell 3 hzx hnx).trans x3,(hk.cell ao hza hna).trans n0,(hk.cell qo hzq hnq).trans n1,(hk.cell (qo+1) hzq hnq).trans n2⟩) (KP.set (KP.set (KP.set (KP.refl _ _ W1).drew (.inl rfl) _) (.inl rfl) _) (.inl rfl) _)) (fun hS=> ?_)
 clear hK
 refine ak ?_
 refine eH ?_
 go_wp2_with fail
 go_end0
 refine⟨⟨_,rfl⟩,ay (ay (ay HrW.out 7 _) 8 _) 9 _,?_⟩
 exact(KP.of_below HBW.out (ae _) HBW.out.size).trans ((KP.set (KP.set (KP.set (KP.refl _ _ W1).drew (.inl rfl) _) (.inl rfl) _) (.inl rfl) _:KP W1.heap.size rb W1 _).mono HBW.out.size)
structure GP (rb:Nat) (ob:Option Nat) (w w':World):Prop where
 os:w'.os=w.os
 tape:w'.tape=w.tape
 output:w'.output=w.output
 size:w.heap.size≤w'.heap.size
 block: ∀i,i<w.heap.size→¬i=rb→some i≠ob→w'.heap[i]? =w.heap[i]?
def ev (w:World) (rb B:Nat) (T:TypeId) (C:Array Value) (off:Nat) (E k:Nat) (v:Value) (n:Nat) (xs news:List Value) (w':World):Prop:=
 ∃v',w'.heap[rb]? =some (.cells (C.setIfInBounds off v') T (0,0))∧w'.ownsRow B E k v' (n+1) (xs++news)∧(∀j,v'.ownBlock=some j→v.ownBlock=some j∨w.heap.size≤j)∧GP rb v.ownBlock w w'
theorem GP.of_below {rb:Nat} {ob:Option Nat} {w w':World} (h:Below w.heap.size w w'):GP rb ob w w':=⟨h.os,h.tape,h.output,h.size,fun i hi _ _=>h.block i hi⟩
theorem GP.trans {rb:Nat} {ob:Option Nat} {a b c:World} (h:GP rb ob a b) (k:GP rb ob b c):GP rb ob a c:=
 ⟨k.os.trans h.os,k.tape.trans h.tape,k.output.trans h.output,aP h.size k.size,fun i hi h1 h2=>(k.block i (aF hi h.size) h1 h2).trans (h.block i hi h1 h2)⟩
theorem GP.grown {rb:Nat} {ob:Option Nat} {w w':World} (h:w.grownBy w' ob):GP rb ob w w':=⟨h.os,h.tape,h.output,h.size,fun i hi _ h2=>h.block i hi h2⟩
theorem GP.set {rb:Nat} {ob:Option Nat} (w:World) (o:Nat) (u:Value):GP rb ob w (w.setCell ⟨rb,o,none⟩ u):=
 ⟨rfl,rfl,rfl,by simp[World.setCell],fun i hi h1 _=>Below.heap_setCell w ⟨rb,o,none⟩ u i h1⟩
theorem ev.mk' {w W W3:World} {rb B off E k n gg cap H:Nat} {T:TypeId} {C:Array Value} {v:Value} {xs news:List Value} (hr:W.heap[rb]? =some (.cells C T (0,0))) (hb:Below w.heap.size w W) (hg:W.grownBy W3 v.ownBlock)
 (hv:v.ownBlock≠some rb) (hown:W3.ownsRow B E k (.slice (some ⟨gg,0,none⟩) (n+1) cap) (n+1) (xs++news)) (hat:v.ownBlock=some gg∨gg=H) (hH:w.heap.size≤H) (hne: ¬gg=rb):
 ev w rb B T C off E k v n xs news (W3.setCell ⟨rb,off,none⟩ (.slice (some ⟨gg,0,none⟩) (n+1) cap)):=by
 have h3:=eD hr hg (fun j hj e=>hv (by rw[hj,e]))
 refine⟨_,ay h3 off _,dM hown (fun j hj=> ?_) _ _,fun j hj=> ?_,((GP.of_below hb).trans (GP.grown hg)).trans (GP.set _ _ _)⟩
 ·have:gg=j:=by simpa[Value.ownBlock] using hj
  omega
 ·have:gg=j:=by simpa[Value.ownBlock] using hj
  subst this
  rcases hat with h|h
  ·exact .inl h
  ·exact .inr (by omega)
theorem bC {w w':World} {ob:Option Nat} (hg:w.grownBy w' ob) {b o:Nat} (hb:b<w.heap.size) (hne:ob≠some b):w'.cell? ⟨b,o,none⟩=w.cell? ⟨b,o,none⟩:=
 World.cell?_of_block (hg.block b hb (fun e=>hne e.symm))
theorem JC (rb mb B ab ao qb qo:Nat) (d:ar) (RA NA A:Option Addr) (rn rc nn nc nl n c:Nat) (k0 k1 k2:Int) (C:Array Value) (T:TypeId) (v:Value) (xs:List Value) (w:World) (hr:w.heap[rb]? =some (.cells C T (0,0))) (hC:C[1]? =some v)
 (hm:w.heap[mb]? =some (.cells #[.pointer (some ⟨rb,1,none⟩)] 181 (0,0))) (hrB:rb<B) (hmB:mb<B) (hBw:B≤w.heap.size) (hown:w.ownsRow B 9 1 v n xs) (hn:n≤1000000):
 Calls prog 135 #[.agg #[.int .i64 d.kind,.string (bs d.name),.slice RA rn rc,.slice NA nn nc,.int .i64 d.by_,.bool d.always],.slice A nl c,ptr mb] w fun e w'=>(∃u,e= .returned u)∧ev w rb B T C 1 9 1 v n xs [.string (bs d.name)] w':=by
 refine nH fun i0 hi hz0 hz1 hz2=> ?_
 have hlt:=World.ownsRow.lt hown
 have hvr:v.ownBlock≠some rb:=fun e=>by have:=(hlt rb e).1;omega
 have hvm:v.ownBlock≠some mb:=fun e=>by have:=(hlt mb e).1;omega
 have hvx:v.ownBlock≠some w.heap.size:=fun e=>by have:=(hlt _ e).2;omega
 simp only[ptr]
 go_enter func135,ntmps135
 go_upto_region 1 with (fail)
 refine te ?_
 intro W1 ⟨hBW,hxW⟩
 refine nN fun hzW x1=> ?_
 refine jB fun hrW c0=> ?_
 have c1:W1.cell? ⟨rb,1,none⟩=some v:=af hrW hC
 have hI:=aa (cB hown hBW)
 have HOW:Hid (W1.drew.ownsRow B 9 1 v n xs):=hI.out
 have HBW:=aa hBW;have HrW:=aa hrW
 clear hI hBW hxW hrW hr hm hC hown hlt
 go_wp2_with fail
 refine bP (S:=fun w'=>w'.cell? ⟨mb,0,none⟩=some (.pointer (some ⟨rb,1,none⟩))∧w'.cell? ⟨rb,1,none⟩=some (v)∧w'.cell? ⟨w.heap.size,1,none⟩=some (.string (bs d.name))) 9 12 (by exact⟨c0,c1,x1⟩) fun hS=> ?_
 iterate 7 refine gP 12 5 ?_
 refine cP 7 fun K hK=> ?_
 go_simp
 refine hK.out _ _ (by exact⟨((ac (B0 _) _).cell (p:=⟨mb,0,none⟩) (aH _ _ (hS.1))).trans (hS.1),((ac (B0 _) _).cell (p:=⟨rb,1,none⟩) (aH _ _ (hS.2.1))).trans (hS.2.1),((ac (B0 _) _).cell (p:=⟨w.heap.size,1,none⟩) (aH _ _ (hS.2.2))).trans (hS.2.2)⟩) (fun hS=> ?_)
 clear hK
 refine ak ?_
 refine cP 8 fun K hK=> ?_
 refine zN ?_
 intro gg cap w3 hown3 hgrow hat hlt
 refine zO fun hS=> ?_
 clear hK
 refine ak ?_
 refine cQ 9 fun K hK=> ?_
 go_simp
 refine hK.out _ _ ?_
 clear hK
 refine ak ?_
 refine cQ 10 fun K hK=> ?_
 go_simp
 refine hK.out _ _ ?_
 clear hK
 refine ak ?_
 have f1:w3.frozen? ⟨rb,1,none⟩=false:=aW (eD (ah HrW.out (ac (au (B0 _)) _)) hgrow (fun j hj e=>hvr (by rw[hj,e]))) 1
 refine cQ 11 fun K hK=> ?_
 exact nO
theorem JD (rb mb B ab ao qb qo:Nat) (d:ar) (RA NA A:Option Addr) (rn rc nn nc nl n c:Nat) (k0 k1 k2:Int) (C:Array Value) (T:TypeId) (v:Value) (xs:List Value) (w:World) (hr:w.heap[rb]? =some (.cells C T (0,0))) (hC:C[2]? =some v)
 (hm:w.heap[mb]? =some (.cells #[.pointer (some ⟨rb,1,none⟩)] 181 (0,0))) (hrB:rb<B) (hmB:mb<B) (hBw:B≤w.heap.size) (hown:w.ownsRow B 9 1 v n xs) (hn:n≤1000000):
 Calls prog 136 #[.agg #[.int .i64 d.kind,.string (bs d.name),.slice RA rn rc,.slice NA nn nc,.int .i64 d.by_,.bool d.always],.slice A nl c,ptr mb] w fun e w'=>(∃u,e= .returned u)∧ev w rb B T C 2 9 1 v n xs [.string (bs d.name)] w':=by
 refine nH fun i0 hi hz0 hz1 hz2=> ?_
 have hlt:=World.ownsRow.lt hown
 have hvr:v.ownBlock≠some rb:=fun e=>by have:=(hlt rb e).1;omega
 have hvm:v.ownBlock≠some mb:=fun e=>by have:=(hlt mb e).1;omega
 have hvx:v.ownBlock≠some w.heap.size:=fun e=>by have:=(hlt _ e).2;omega
 simp only[ptr]
 go_enter func136,ntmps136
 go_upto_region 1 with (fail)
 refine te ?_
 intro W1 ⟨hBW,hxW⟩
 refine nN fun hzW x1=> ?_
 refine jB fun hrW c0=> ?_
 have c1:W1.cell? ⟨rb,2,none⟩=some v:=af hrW hC
 have hI:=aa (cB hown hBW)
 have HOW:Hid (W1.drew.ownsRow B 9 1 v n xs):=hI.out
 have HBW:=aa hBW;have HrW:=aa hrW
 clear hI hBW hxW hrW hr hm hC hown hlt
 go_wp2_with fail
 refine bP (S:=fun w'=>w'.cell? ⟨mb,0,none⟩=some (.pointer (some ⟨rb,1,none⟩))∧w'.cell? ⟨rb,2,none⟩=some (v)∧w'.cell? ⟨w.heap.size,1,none⟩=some (.string (bs d.name))) 9 12 (by exact⟨c0,c1,x1⟩) fun hS=> ?_
 iterate 7 refine gP 12 5 ?_
 refine cP 7 fun K hK=> ?_
 go_simp
 refine hK.out _ _ (by exact⟨((ac (B0 _) _).cell (p:=⟨mb,0,none⟩) (aH _ _ (hS.1))).trans (hS.1),((ac (B0 _) _).cell (p:=⟨rb,2,none⟩) (aH _ _ (hS.2.1))).trans (hS.2.1),((ac (B0 _) _).cell (p:=⟨w.heap.size,1,none⟩) (aH _ _ (hS.2.2))).trans (hS.2.2)⟩) (fun hS=> ?_)
 clear hK
 refine ak ?_
 refine cP 8 fun K hK=> ?_
 refine zN ?_
 intro gg cap w3 hown3 hgrow hat hlt
 refine zO fun hS=> ?_
 clear hK
 refine ak ?_
 refine cQ 9 fun K hK=> ?_
 go_simp
 refine hK.out _ _ ?_
 clear hK
 refine ak ?_
 refine cQ 10 fun K hK=> ?_
 go_simp
 refine hK.out _ _ ?_
 clear hK
 refine ak ?_
 have f1:w3.frozen? ⟨rb,2,none⟩=false:=aW (eD (ah HrW.out (ac (au (B0 _)) _)) hgrow (fun j hj e=>hvr (by rw[hj,e]))) 2
 refine cQ 11 fun K hK=> ?_
 exact nO
theorem JE (rb mb B ab ao qb qo:Nat) (d:ar) (RA NA A:Option Addr) (rn rc nn nc nl n c:Nat) (k0 k1 k2:Int) (C:Array Value) (T:TypeId) (v:Value) (xs:List Value) (w:World) (hr:w.heap[rb]? =some (.cells C T (0,0))) (hC:C[3]? =some v)
 (hm:w.heap[mb]? =some (.cells #[.pointer (some ⟨rb,1,none⟩)] 181 (0,0))) (hrB:rb<B) (hmB:mb<B) (hBw:B≤w.heap.size) (hown:w.ownsRow B 128 3 v n xs) (hn:n≤1000000) (hva:v.ownBlock≠some ab) (ha0:w.cell? ⟨ab,ao,none⟩=some (.int .i64 k0)) (ha1:w.cell? ⟨ab,ao+1,none⟩=some (.int .i64 k1)):
 Calls prog 137 #[.agg #[.int .i64 d.kind,.string (bs d.name),.slice RA rn rc,.slice NA nn nc,.int .i64 d.by_,.bool d.always],.slice (some ⟨ab,ao,none⟩) (nl+2) c,ptr mb] w fun e w'=>(∃u,e= .returned u)∧ev w rb B T C 3 128 3 v n xs [.string (bs d.name),.int .i64 k0,.int .i64 k1] w':=by
 obtain⟨i0,hi,hz0,hz1,hz2⟩:=info_parts (show(Tryz.prog.info? 128).map (fun i=>(i.zero,i.size,i.bytes))=some (some (.agg #[.string ⟨#[]⟩,.int .i64 0,.int .i64 0]),3,32) by kernel_rfl)
 have hlt:=World.ownsRow.lt hown
 have hvr:v.ownBlock≠some rb:=fun e=>by have:=(hlt rb e).1;omega
 have hvm:v.ownBlock≠some mb:=fun e=>by have:=(hlt mb e).1;omega
 have hvx:v.ownBlock≠some w.heap.size:=fun e=>by have:=(hlt _ e).2;omega
 simp only[ptr]
 go_enter func137,ntmps137
 go_upto_region 1 with (fail)
 refine te ?_
 intro W1 ⟨hBW,hxW⟩
 refine nN fun hzW x1=> ?_
 refine jB fun hrW c0=> ?_
 have c1:W1.cell? ⟨rb,3,none⟩=some v:=af hrW hC
 have n0:=kc hBW ha0
 have n1:=kc hBW ha1
 have hI:=aa (cB hown hBW)
 have HOW:Hid (W1.drew.ownsRow B 128 3 v n xs):=hI.out
 have HBW:=aa hBW;have HrW:=aa hrW
 have hb0:(0:Int)<(nl:Int)+2:=by omega
 have hb1:(1:Int)<(nl:Int)+2:=by omega
 clear hI hBW hxW hrW hr hm hC hown hlt
 go_wp2_with fail
 refine bP (S:=fun w'=>w'.cell? ⟨mb,0,none⟩=some (.pointer (some ⟨rb,1,none⟩))∧w'.cell? ⟨rb,3,none⟩=some (v)∧w'.cell? ⟨w.heap.size,1,none⟩=some (.string (bs d.name))∧w'.cell? ⟨ab,ao,none⟩=some (.int .i64 k0)∧w'.cell? ⟨ab,ao+1,none⟩=some (.int .i64 k1)) 16 19 (by exact⟨c0,c1,x1,n0,n1⟩) fun hS=> ?_
 iterate 14 refine gP 19 5 ?_
 refine cP 14 fun K hK=> ?_
 go_simp
 refine hK.out _ _ (by exact⟨((ac (B0 _) _).cell (p:=⟨mb,0,none⟩) (aH _ _ (hS.1))).trans (hS.1),((ac (B0 _) _).cell (p:=⟨rb,3,none⟩) (aH _ _ (hS.2.1))).trans (hS.2.1),((ac (B0 _) _).cell (p:=⟨w.heap.size,1,none⟩) (aH _ _ (hS.2.2.1))).trans (hS.2.2.1),((ac (B0 _) _).cell (p:=⟨ab,ao,none⟩) (aH _ _ (hS.2.2.2.1))).trans (hS.2.2.2.1),((ac (B0 _) _).cell (p:=⟨ab,ao+1,none⟩) (aH _ _ (hS.2.2.2.2))).trans (hS.2.2.2.2)⟩) (fun hS=> ?_)
 clear hK
 refine ak ?_
 refine cP 15 fun K hK=> ?_
 refine step_append_lies _ (by rfl) _ _ _ (by rfl) B 128 i0 _ 3 32 underlying23 hi hz0 hz1 hz2 rfl (by omega) _ _ _ (by rfl) ((HOW.out).alloc _) ⟨_,0,none⟩ 1 1 [.string (bs d.name),.int .i64 k0,.int .i64 k1] (by rfl) (by rfl) (eE rfl) (by simp[Value.oneCell']) (by omega) (by simp[maxLen];omega) (by first|omega|(simp;omega)) (by first|omega|(simp;omega)) _ rfl ?_
 intro gg cap w3 hown3 hgrow hat hlt
 refine hK.out _ _ (by exact⟨(bC hgrow (aH _ _ (hS.1)) hvm).trans (hS.1),(bC hgrow (aH _ _ (hS.2.1)) hvr).trans (hS.2.1),(bC hgrow (aH _ _ (hS.2.2.1)) hvx).trans (hS.2.2.1),(bC hgrow (aH _ _ (hS.2.2.2.1)) hva).trans (hS.2.2.2.1),(bC hgrow (aH _ _ (hS.2.2.2.2)) hva).trans (hS.2.2.2.2)⟩) (fun hS=> ?_)
 clear hK
 refine ak ?_
 refine cQ 16 fun K hK=> ?_
 go_simp
 refine hK.out _ _ ?_
 clear hK
 refine ak ?_
 refine cQ 17 fun K hK=> ?_
 go_simp
 refine hK.out _ _ ?_
 clear hK
 refine ak ?_
 have f1:w3.frozen? ⟨rb,3,none⟩=false:=aW (eD (ah HrW.out (ac (au (B0 _)) _)) hgrow (fun j hj e=>hvr (by rw[hj,e]))) 3
 refine cQ 18 fun K hK=> ?_
 exact nO
theorem JF (rb mb B ab ao qb qo:Nat) (d:ar) (RA NA A:Option Addr) (rn rc nn nc nl n c:Nat) (k0 k1 k2:Int) (C:Array Value) (T:TypeId) (v:Value) (xs:List Value) (w:World) (hr:w.heap[rb]? =some (.cells C T (0,0))) (hC:C[4]? =some v)
 (hm:w.heap[mb]? =some (.cells #[.pointer (some ⟨rb,1,none⟩)] 181 (0,0))) (hrB:rb<B) (hmB:mb<B) (hBw:B≤w.heap.size) (hown:w.ownsRow B 130 3 v n xs) (hn:n≤1000000) (hva:v.ownBlock≠some ab) (ha0:w.cell? ⟨ab,ao,none⟩=some (.int .i64 k0)) (hqB:qb<B) (hq:w.cell? ⟨qb,qo,none⟩=some (.int .i64 k2)):
 Calls prog 138 #[.agg #[.int .i64 d.kind,.string (bs d.name),.slice RA rn rc,.slice (some ⟨qb,qo,none⟩) (nn+1) nc,.int .i64 d.by_,.bool d.always],.slice (some ⟨ab,ao,none⟩) (nl+1) c,ptr mb] w fun e w'=>(∃u,e= .returned u)∧ev w rb B T C 4 130 3 v n xs [.string (bs d.name),.int .i64 k0,.int .i64 k2] w':=by
 obtain⟨i0,hi,hz0,hz1,hz2⟩:=info_parts (show(Tryz.prog.info? 130).map (fun i=>(i.zero,i.size,i.bytes))=some (some (.agg #[.string ⟨#[]⟩,.int .i64 0,.int .i64 0]),3,32) by kernel_rfl)
 have hlt:=World.ownsRow.lt hown
 have hvr:v.ownBlock≠some rb:=fun e=>by have:=(hlt rb e).1;omega
 have hvm:v.ownBlock≠some mb:=fun e=>by have:=(hlt mb e).1;omega
 have hvx:v.ownBlock≠some w.heap.size:=fun e=>by have:=(hlt _ e).2;omega
 have hvq:v.ownBlock≠some qb:=fun e=>by have:=(hlt qb e).1;omega
 simp only[ptr]
 go_enter func138,ntmps138
 go_upto_region 1 with (fail)
 refine zP ?_
 intro W1 ⟨hBW,hxW⟩
 refine nN fun hzW x1=> ?_
 have x3:W1.cell? ⟨w.heap.size,3,none⟩=some (.slice (some ⟨qb,qo,none⟩) (nn+1) nc):=af hxW rfl
 have q0:=kc hBW hq
 refine jB fun hrW c0=> ?_
 have c1:W1.cell? ⟨rb,4,none⟩=some v:=af hrW hC
 have n0:=kc hBW ha0
 have hI:=aa (cB hown hBW)
 have HOW:Hid (W1.drew.ownsRow B 130 3 v n xs):=hI.out
 have HBW:=aa hBW;have HrW:=aa hrW
 have hb0:(0:Int)<(nl:Int)+1:=by omega
 have hb2:(0:Int)<(nn:Int)+1:=by omega
 clear hI hBW hxW hrW hr hm hC hown hlt
 go_wp2_with fail
 refine bP (S:=fun w'=>w'.cell? ⟨mb,0,none⟩=some (.pointer (some ⟨rb,1,none⟩))∧w'.cell? ⟨rb,4,none⟩=some (v)∧w'.cell? ⟨w.heap.size,1,none⟩=some (.string (bs d.name))∧w'.cell? ⟨w.heap.size,3,none⟩=some (.slice (some ⟨qb,qo,none⟩) (nn+1) nc)∧w'.cell? ⟨qb,qo,none⟩=some (.int .i64 k2)∧w'.cell? ⟨ab,ao,none⟩=some (.int .i64 k0)) 17 20 (by exact⟨c0,c1,x1,x3,q0,n0⟩) fun hS=> ?_
 iterate 15 refine gP 20 5 ?_
 refine cP 15 fun K hK=> ?_
 go_simp
 refine hK.out _ _ (by exact⟨((ac (B0 _) _).cell (p:=⟨mb,0,none⟩) (aH _ _ (hS.1))).trans (hS.1),((ac (B0 _) _).cell (p:=⟨rb,4,none⟩) (aH _ _ (hS.2.1))).trans (hS.2.1),((ac (B0 _) _).cell (p:=⟨w.heap.size,1,none⟩) (aH _ _ (hS.2.2.1))).trans (hS.2.2.1),((ac (B0 _) _).cell (p:=⟨w.heap.size,3,none⟩) (aH _ _ (hS.2.2.2.1))).trans (hS.2.2.2.1),((ac (B0 _) _).cell (p:=⟨qb,qo,none⟩) (aH _ _ (hS.2.2.2.2.1))).trans (hS.2.2.2.2.1),((ac (B0 _) _).cell (p:=⟨ab,ao,none⟩) (aH _ _ (hS.2.2.2.2.2))).trans (hS.2.2.2.2.2)⟩) (fun hS=> ?_)
 clear hK
 refine ak ?_
 refine cP 16 fun K hK=> ?_
 refine step_append_lies _ (by rfl) _ _ _ (by rfl) B 130 i0 _ 3 32 underlying24 hi hz0 hz1 hz2 rfl (by omega) _ _ _ (by rfl) ((HOW.out).alloc _) ⟨_,0,none⟩ 1 1 [.string (bs d.name),.int .i64 k0,.int .i64 k2] (by rfl) (by rfl) (eE rfl) (by simp[Value.oneCell']) (by omega) (by simp[maxLen];omega) (by first|omega|(simp;omega)) (by first|omega|(simp;omega)) _ rfl ?_
 intro gg cap w3 hown3 hgrow hat hlt
 refine hK.out _ _ (by exact⟨(bC hgrow (aH _ _ (hS.1)) hvm).trans (hS.1),(bC hgrow (aH _ _ (hS.2.1)) hvr).trans (hS.2.1),(bC hgrow (aH _ _ (hS.2.2.1)) hvx).trans (hS.2.2.1),(bC hgrow (aH _ _ (hS.2.2.2.1)) hvx).trans (hS.2.2.2.1),(bC hgrow (aH _ _ (hS.2.2.2.2.1)) hvq).trans (hS.2.2.2.2.1),(bC hgrow (aH _ _ (hS.2.2.2.2.2)) hva).trans (hS.2.2.2.2.2)⟩) (fun hS=> ?_)
 clear hK
 refine ak ?_
 refine cQ 17 fun K hK=> ?_
 go_simp
 refine hK.out _ _ ?_
 clear hK
 refine ak ?_
 refine cQ 18 fun K hK=> ?_
 go_simp
 refine hK.out _ _ ?_
 clear hK
 refine ak ?_
 have f1:w3.frozen? ⟨rb,4,none⟩=false:=aW (eD (ah HrW.out (ac (au (B0 _)) _)) hgrow (fun j hj e=>hvr (by rw[hj,e]))) 4
 refine cQ 19 fun K hK=> ?_
 exact nO
theorem JG (rb mb B ab ao qb qo:Nat) (d:ar) (RA NA A:Option Addr) (rn rc nn nc nl n c:Nat) (k0 k1 k2:Int) (C:Array Value) (T:TypeId) (v:Value) (xs:List Value) (w:World) (hr:w.heap[rb]? =some (.cells C T (0,0))) (hC:C[5]? =some v)
 (hm:w.heap[mb]? =some (.cells #[.pointer (some ⟨rb,1,none⟩)] 181 (0,0))) (hrB:rb<B) (hmB:mb<B) (hBw:B≤w.heap.size) (hown:w.ownsRow B 132 3 v n xs) (hn:n≤1000000) (hva:v.ownBlock≠some ab) (ha0:w.cell? ⟨ab,ao,none⟩=some (.int .i64 k0)) (ha1:w.cell? ⟨ab,ao+1,none⟩=some (.int .i64 k1)) (hqB:qb<B) (hq:w.cell? ⟨qb,qo,none⟩=some (.int .i64 k2)):
 Calls prog 139 #[.agg #[.int .i64 d.kind,.string (bs d.name),.slice RA rn rc,.slice (some ⟨qb,qo,none⟩) (nn+1) nc,.int .i64 d.by_,.bool d.always],.slice (some ⟨ab,ao,none⟩) (nl+2) c,ptr mb] w fun e w'=>(∃u,e= .returned u)∧ev w rb B T C 5 132 3 v n xs [.int .i64 (min k0 k1),.int .i64 (max k0 k1),.int .i64 k2] w':=by
 obtain⟨i0,hi,hz0,hz1,hz2⟩:=info_parts (show(Tryz.prog.info? 132).map (fun i=>(i.zero,i.size,i.bytes))=some (some (.agg #[.int .i64 0,.int .i64 0,.int .i64 0]),3,24) by kernel_rfl)
 have hlt:=World.ownsRow.lt hown
 have hvr:v.ownBlock≠some rb:=fun e=>by have:=(hlt rb e).1;omega
 have hvm:v.ownBlock≠some mb:=fun e=>by have:=(hlt mb e).1;omega
 have hvx:v.ownBlock≠some w.heap.size:=fun e=>by have:=(hlt _ e).2;omega
 have hvq:v.ownBlock≠some qb:=fun e=>by have:=(hlt qb e).1;omega
 simp only[ptr]
 go_enter func139,ntmps139
 go_upto_region 1 with (fail)
 refine zP ?_
 intro W1 ⟨hBW,hxW⟩
 refine nN fun hzW x1=> ?_
 have x3:W1.cell? ⟨w.heap.size,3,none⟩=some (.slice (some ⟨qb,qo,none⟩) (nn+1) nc):=af hxW rfl
 have q0:=kc hBW hq
 refine jB fun hrW c0=> ?_
 have c1:W1.cell? ⟨rb,5,none⟩=some v:=af hrW hC
 have n0:=kc hBW ha0
 have n1:=kc hBW ha1
 have hI:=aa (cB hown hBW)
 have HOW:Hid (W1.drew.ownsRow B 132 3 v n xs):=hI.out
 have HBW:=aa hBW;have HrW:=aa hrW
 have hb0:(0:Int)<(nl:Int)+2:=by omega
 have hb1:(1:Int)<(nl:Int)+2:=by omega
 have hb2:(0:Int)<(nn:Int)+1:=by omega
 clear hI hBW hxW hrW hr hm hC hown hlt
 go_wp2_with fail
 refine bP (S:=fun w'=>w'.cell? ⟨mb,0,none⟩=some (.pointer (some ⟨rb,1,none⟩))∧w'.cell? ⟨rb,5,none⟩=some (v)∧w'.cell? ⟨w.heap.size,1,none⟩=some (.string (bs d.name))∧w'.cell? ⟨w.heap.size,3,none⟩=some (.slice (some ⟨qb,qo,none⟩) (nn+1) nc)∧w'.cell? ⟨qb,qo,none⟩=some (.int .i64 k2)∧w'.cell? ⟨ab,ao,none⟩=some (.int .i64 k0)∧w'.cell? ⟨ab,ao+1,none⟩=some (.int .i64 k1)) 26 29 (by exact⟨c0,c1,x1,x3,q0,n0,n1⟩) fun hS=> ?_
 iterate 24 refine gP 29 5 ?_
 refine cP 24 fun K hK=> ?_
 go_simp
 refine hK.out _ _ (by exact⟨((ac (B0 _) _).cell (p:=⟨mb,0,none⟩) (aH _ _ (hS.1))).trans (hS.1),((ac (B0 _) _).cell (p:=⟨rb,5,none⟩) (aH _ _ (hS.2.1))).trans (hS.2.1),((ac (B0 _) _).cell (p:=⟨w.heap.size,1,none⟩) (aH _ _ (hS.2.2.1))).trans (hS.2.2.1),((ac (B0 _) _).cell (p:=⟨w.heap.size,3,none⟩) (aH _ _ (hS.2.2.2.1))).trans (hS.2.2.2.1),((ac (B0 _) _).cell (p:=⟨qb,qo,none⟩) (aH _ _ (hS.2.2.2.2.1))).trans (hS.2.2.2.2.1),((ac (B0 _) _).cell (p:=⟨ab,ao,none⟩) (aH _ _ (hS.2.2.2.2.2.1))).trans (hS.2.2.2.2.2.1),((ac (B0 _) _).cell (p:=⟨ab,ao+1,none⟩) (aH _ _ (hS.2.2.2.2.2.2))).trans (hS.2.2.2.2.2.2)⟩) (fun hS=> ?_)
 clear hK
 refine ak ?_
 refine cP 25 fun K hK=> ?_
 refine step_append_lies _ (by rfl) _ _ _ (by rfl) B 132 i0 _ 3 24 underlying25 hi hz0 hz1 hz2 rfl (by omega) _ _ _ (by rfl) ((HOW.out).alloc _) ⟨_,0,none⟩ 1 1 [.int .i64 (min k0 k1),.int .i64 (max k0 k1),.int .i64 k2] (by rfl) (by rfl) (eE rfl) (by simp[Value.oneCell']) (by omega) (by simp[maxLen];omega) (by first|omega|(simp;omega)) (by first|omega|(simp;omega)) _ rfl ?_
 intro gg cap w3 hown3 hgrow hat hlt
 refine hK.out _ _ (by exact⟨(bC hgrow (aH _ _ (hS.1)) hvm).trans (hS.1),(bC hgrow (aH _ _ (hS.2.1)) hvr).trans (hS.2.1),(bC hgrow (aH _ _ (hS.2.2.1)) hvx).trans (hS.2.2.1),(bC hgrow (aH _ _ (hS.2.2.2.1)) hvx).trans (hS.2.2.2.1),(bC hgrow (aH _ _ (hS.2.2.2.2.1)) hvq).trans (hS.2.2.2.2.1),(bC hgrow (aH _ _ (hS.2.2.2.2.2.1)) hva).trans (hS.2.2.2.2.2.1),(bC hgrow (aH _ _ (hS.2.2.2.2.2.2)) hva).trans (hS.2.2.2.2.2.2)⟩) (fun hS=> ?_)
 clear hK
 refine ak ?_
 refine cQ 26 fun K hK=> ?_
 go_simp
 refine hK.out _ _ ?_
 clear hK
 refine ak ?_
 refine cQ 27 fun K hK=> ?_
 go_simp
 refine hK.out _ _ ?_
 clear hK
 refine ak ?_
 have f1:w3.frozen? ⟨rb,5,none⟩=false:=aW (eD (ah HrW.out (ac (au (B0 _)) _)) hgrow (fun j hj e=>hvr (by rw[hj,e]))) 5
 refine cQ 28 fun K hK=> ?_
 exact nO
end
end Go.Proofs.YthnkonlbfogkgaaGreatDoor
