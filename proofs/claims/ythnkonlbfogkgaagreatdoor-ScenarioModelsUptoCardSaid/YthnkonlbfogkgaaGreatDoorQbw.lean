/- A part of the proof. -/
import Derived.Test.YthnkonlbfogkgaaGreatDoorQbv
set_option linter.unusedVariables false
set_option linter.unusedSimpArgs false
set_option maxRecDepth 100000
set_option maxHeartbeats 32000000
namespace Go.Proofs.YthnkonlbfogkgaaGreatDoor
section
open Go Go.RowKit Go.MapKept Tryz
theorem Np (t:ai) (w:World) (hG:bY w) (hs:t.length≤65536) (hi:eW (aX t)= -1):Calls prog 12 #[.string (bs t)] w (gm w (.error ((aX t).length+1,3))):=by
 have hsz:((bs t).size:Int)≤65536:=by rw[bq];omega
 have HG:=aa hG;have HI:=aa hi
 clear hG hi
 go_enter func12,ntmps12
 go_upto_region 1 with (fail)
 refine uM ?_
 intro W1 ⟨hBW,hT1⟩
 have HBW:=aa hBW;have HT1:=aa hT1
 clear hBW hT1
 go_upto_region 4 with
  (go_at_call 29
   refine(B7 t _ (HG.out.g.step HBW.out) hs).mono ?_
   rintro e w2 ⟨b,o,n,c,z,rfl,hv,hn1,hn2,hnc,hln,hlz,hcz,hb2⟩
   have HB2:=aa (ag HBW.out hb2);have HT2:=aa (ah HT1.out hb2);have HV2:=aa hv;have HLn:=aa hln;have HLz:=aa hlz
   clear hv hln hlz hb2)
 refine B8 fun i1 i2 i3 i4=> ?_
 have hlast:(Lib.split t [10]).getLast?=some z:=by
  rw[List.getLast?_eq_getElem?,HLn.out];exact HLz.out
 have HLast:=aa hlast
 clear hlast
 by_cases hz:z=[]
 ·subst hz
  have hcz':w2.cell? ⟨b,o+(n - 1),none⟩=some (.string ⟨#[]⟩):=hcz
  have hll:aX t=(Lib.split t [10]).dropLast:=by
   unfold aX
   simp only[HLast.out,if_true]
  have HLs:Hid (Sl w2 w2.heap.size (.slice (some ⟨b,o,none⟩) (n - 1) c) ((aX t).map de)):=by
   refine aa ?_
   rw[hll,List.map_dropLast]
   exact HV2.out.dropLast
  have i5:(n:Int) - 1≤(c:Int):=by omega
  have i6:n - 1≤c:=by omega
  clear hcz hll
  skip
  have hN:(aX t).length=n - 1:=by
   have:=HLs.out
   obtain⟨A',c',he,_⟩:=this
   injection he with _ he _
   rw[List.length_map] at he
   exact he.symm
  have HNl:=aa hN
  clear hN
  have i9:IntKind.i64.wrap (((n - 1:Nat):Int)+1)=((n - 1:Nat):Int)+1:=IntWalk.i64_in _ (by omega)
  go_upto_region 8 with
   (go_at_call 30
    refine(uK _ (aX t) _ HLs.out).mono ?_
    rintro e w3 ⟨rfl,hb3⟩
    have HB3:=aa (ag HB2.out hb3);have HT3:=aa (ah HT2.out hb3)
    clear hb3
    rw[HI.out])
  generalize hrr:w.heap.size=rt at HT3⊢
  have hrt:w.heap.size≤rt:=by omega
  clear hrr
  have hT:=HT3.out
  obtain⟨q0,q1,q2,q3,q4,q5,q6,q7,q8,q9,q10,q11,q12,q13⟩:=dw hT
  obtain⟨z0,z1,z2,z3,z4,z5,z6,z7,z8,z9,z10,z11,z12,z13⟩:=qU hT
  have HTT:=aa hT
  clear hT
  go_wp2_with fail
  refine jK (by rfl) (by rfl) (by rfl) (by rfl) HTT.out (fun W7 hK=> ?_)
  exact gm.err rfl (by have e9:((n - 1:Nat):Int)+1=(((aX t).length+1:Nat):Int):=by rw[HNl.out];omega
                       rw[e9];rfl) (ke HB3.out ((hK.below (bN (blk_lt HTT.out))).mono hrt))
 ·have hll:aX t=Lib.split t [10]:=by
   unfold aX
   simp only[HLast.out,Option.some.injEq,hz,if_false]
  have HLs:Hid (Sl w2 w2.heap.size (.slice (some ⟨b,o,none⟩) n c) ((aX t).map de)):=by
   refine aa ?_
   rw[hll]
   exact HV2.out
  have q1:((bs z).toList==([]:List UInt8))=false:=by
   rw[beq_eq_false_iff_ne]
   intro e
   apply hz
   have:=congrArg List.length e
   rw[cD] at this
   cases z with
   |nil=>rfl
   |cons x y=>simp[bs] at this
  have hcz':w2.cell? ⟨b,o+(n - 1),none⟩=some (.string (bs z)):=hcz
  clear hcz hll hz
  skip
  have hN:(aX t).length=n:=by
   have:=HLs.out
   obtain⟨A',c',he,_⟩:=this
   injection he with _ he _
   rw[List.length_map] at he
   exact he.symm
  have HNl:=aa hN
  clear hN
  have i9:IntKind.i64.wrap (((n:Nat):Int)+1)=((n:Nat):Int)+1:=IntWalk.i64_in _ (by omega)
  go_upto_region 8 with
   (go_at_call 30
    refine(uK _ (aX t) _ HLs.out).mono ?_
    rintro e w3 ⟨rfl,hb3⟩
    have HB3:=aa (ag HB2.out hb3);have HT3:=aa (ah HT2.out hb3)
    clear hb3
    rw[HI.out])
  generalize hrr:w.heap.size=rt at HT3⊢
  have hrt:w.heap.size≤rt:=by omega
  clear hrr
  have hT:=HT3.out
  obtain⟨q0,q1,q2,q3,q4,q5,q6,q7,q8,q9,q10,q11,q12,q13⟩:=dw hT
  obtain⟨z0,z1,z2,z3,z4,z5,z6,z7,z8,z9,z10,z11,z12,z13⟩:=qU hT
  have HTT:=aa hT
  clear hT
  go_wp2_with fail
  refine jK (by rfl) (by rfl) (by rfl) (by rfl) HTT.out (fun W7 hK=> ?_)
  exact gm.err rfl (by have e9:((n:Nat):Int)+1=(((aX t).length+1:Nat):Int):=by rw[HNl.out];omega
                       rw[e9];rfl) (ke HB3.out ((hK.below (bN (blk_lt HTT.out))).mono hrt))
end
section
open Go Go.RowKit Tryz
theorem Nq (len:Nat): ∀(N:Nat) (s:ai) (ts:List bU),s.length≤N→dB len s= .ok ts→(∃l e,ts=l++[e]∧e.kind=0)∧(∀t∈ts,t.n≤2000000)∧ts.length≤s.length+1:=by
 intro N
 induction N with
 |zero=>
  intro s ts hN h
  cases s with
  |nil=>
   rw[dB] at h
   injection h with h
   subst h
   exact⟨⟨[],_,rfl,rfl⟩,by simp,by simp⟩
  |cons c r=>simp at hN
 |succ N ih=>
  intro s ts hN h
  cases s with
  |nil=>
   rw[dB] at h
   injection h with h
   subst h
   exact⟨⟨[],_,rfl,rfl⟩,by simp,by simp⟩
  |cons c r=>
   rw[dB] at h
   cases ht:eX (c::r) with
   |error e=>rw[ht] at h;cases h
   |ok y=>
    obtain⟨k,t,n⟩:=y
    rw[ht] at h
    simp only at h
    obtain⟨h1,h2,h3,h4⟩:=sF ht
    have hs:=lh (r.drop (t.length - 1))
    rw[List.length_drop] at hs
    cases hq:dB len (bZ (r.drop (t.length - 1))) with
    |error e=>rw[hq] at h;cases h
    |ok l=>
     rw[hq] at h
     simp only[Except.map] at h
     injection h with h
     subst h
     obtain⟨⟨l',e,e1,e2⟩,h5,h6⟩:=ih _ l (by simp at hN;omega) hq
     refine⟨⟨_::l',e,by rw[e1];rfl,e2⟩,fun x hx=> ?_,by simp;omega⟩
     rcases List.mem_cons.1 hx with rfl|hx
     ·show n≤2000000
      omega
     ·exact h5 x hx
theorem Nr (len:Nat): ∀(N:Nat) (s:ai) (x:Nat×Nat),s.length≤N→dB len s= .error x→x.2=8∨x.2=3∨x.2=2:=by
 intro N
 induction N with
 |zero=>
  intro s x hN h
  cases s with
  |nil=>rw[dB] at h;cases h
  |cons c r=>simp at hN
 |succ N ih=>
  intro s x hN h
  cases s with
  |nil=>rw[dB] at h;cases h
  |cons c r=>
   rw[dB] at h
   cases ht:eX (c::r) with
   |error e=>
    rw[ht] at h
    injection h with h
    subst h
    exact yV ht
   |ok y=>
    obtain⟨k,t,n⟩:=y
    rw[ht] at h
    simp only at h
    obtain⟨h1,h2,h3,h4⟩:=sF ht
    have hs:=lh (r.drop (t.length - 1))
    rw[List.length_drop] at hs
    cases hq:dB len (bZ (r.drop (t.length - 1))) with
    |error e=>
     rw[hq] at h
     injection h with h
     subst h
     exact ih _ _ (by simp at hN;omega) hq
    |ok l=>rw[hq] at h;cases h
theorem Ns {s:ai} {ts:List bU} (h:eK s= .ok ts):(∃l e,ts=l++[e]∧e.kind=0)∧(∀t∈ts,t.n≤2000000)∧ts.length≤16385:=by
 unfold eK at h
 split at h
 ·cases h
 ·rename_i hs
  obtain⟨h1,h2,h3⟩:=Nq _ _ _ _ (ae _) h
  have:=lh s
  exact⟨h1,h2,by omega⟩
theorem B9 {s:ai} {x:Nat×Nat} (h:eK s= .error x):x.2=8∨x.2=3∨x.2=2:=by
 unfold eK at h
 split at h
 ·injection h with h
  subst h
  exact .inl rfl
 ·exact Nr _ _ _ _ (ae _) h
theorem Nt (p:PS):p.decl.2=p.decl.1.d∨p.decl.2={}:=by
 cases hr:eM p.head with
 |none=>rw[zD hr];exact .inr rfl
 |some i=>rw[zE hr];exact .inl rfl
def tokM (pb:Nat) (w:World):Nat:=match w.cell? ⟨pb,0,none⟩ with|some (.slice _ n _)=>n|_=>0
theorem aJ.tokM {w:World} {pb B M:Nat} {p:PS} (h:aJ w pb B M p):tokM pb w=p.ts.length:=by
 obtain⟨t,r,n,h1,h2,h3⟩:=h
 obtain⟨A,k,c,rfl,hk,_⟩:=h2.form
 have hc:w.cell? ⟨pb,0,none⟩=some (.slice A k c):=af h1 rfl
 unfold Go.Proofs.YthnkonlbfogkgaaGreatDoor.tokM
 rw[hc,←hk]
theorem aJ.other {w w':World} {pb B M:Nat} {p:PS} {base:Nat} {v:Value} {n:Nat} {xs:List Value} (h:aJ w pb B M p) (ho:w.ownsRow base 87 6 v n xs) (hb:pb<base) (hg:w.grownBy w' v.ownBlock):aJ w' pb B M p:=by
 obtain⟨t,r,nn,h1,h2,h3,h4,h5,h6,h7⟩:=h
 have far {e:Nat} {u:Value} {m:Nat} {ys:List Value} (hu:w.ownsRow B e 1 u m ys) (he: ¬e=87):w'.ownsRow B e 1 u m ys:=by
  refine⟨hu.1,?_⟩
  rcases hu.2 with hn|⟨g,cap,cur,k1,k2,k3,k4⟩
  ·exact .inl hn
  ·refine .inr ⟨g,cap,cur,k1,k2,eD k3 hg (fun k hk e'=> ?_),k4⟩
   subst e'
   rcases ho.2 with ⟨rfl,_⟩|⟨g2,cap2,cur2,rfl,_,hg2,_⟩
   ·simp[Value.ownBlock] at hk
   ·have:g2=g:=by simpa[Value.ownBlock] using hk
    subst this
    rw[hg2] at k3
    injection k3 with k3
    injection k3 with _ k3 _
    exact he k3.symm
 have hB:Below pb w w':=(Below.refl pb w).grown hg (bN (blk_lt h1)) (fun k hk=>by have:=(World.ownsRow.lt ho k hk).1;omega)
 exact⟨t,r,nn,eD h1 hg (fun k hk=>by have:=(World.ownsRow.lt ho k hk).1;omega),h2.to dU.ab hB (ae _) (ae _),far h3 (by decide),far h4 (by decide),h5,aP h6 hg.size,h7⟩
theorem Nu (s:ByteArray) (w:World) (hG:bY w) (x:Nat×Nat) (hs:eK s.data.toList= .error x):Calls prog 16 #[.string s] w (sY w (dP s.data.toList)):=by
 have HR:Hid (dP s.data.toList= .error x):=by show _=_;unfold dP;rw[hs]
 have hx:=B9 hs
 have HS:=yX s w hG
 rw[hs] at HS
 have HSC:=aa HS
 have hne:((x.2:Int)!=0)=true:=by simp;omega
 clear HS hs hx hG
 go_enter func16,ntmps16
 go_wp2_with(go_at_call 39;refine HSC.out.mono ?_
             unfold sG
             rintro e w1 ⟨hb1,hr⟩
             simp only at hr
             subst hr
             have HB:=aa hb1
             clear hb1)
 go_ret3
 rw[HR.out]
 exact⟨HB.out,rfl⟩
theorem Nv (s:ByteArray) (w:World) (hG:bY w) (ts:List bU) (hs:eK s.data.toList= .ok ts):Calls prog 16 #[.string s] w (sY w (dP s.data.toList)):=by
 have HR:Hid (dP s.data.toList=eR ⟨ts,0,{}⟩ []):=by show _=_;unfold dP;rw[hs]
 obtain⟨hl1,hl2,hl3⟩:=Ns hs
 have HS:=yX s w hG
 rw[hs] at HS
 have HSC:=aa HS
 obtain⟨M,hM⟩: ∃M,ts.length=M:=⟨_,rfl⟩
 have HOk:Hid (PS.Ok ⟨ts,0,{}⟩ M):=⟨hl1,by simp;omega,by simp;omega,by simp,by simp;omega,hl2,by simp⟩
 rw[hM] at hl3
 have hM1:M≤100000:=by omega
 have hfd0:=fun a b c d w=>zg a b c d w
 have hfd3: ∀(a b c d:Value) (w:World),Sem.run prog (Instr.field 91 (.agg #[a,b,c,d]) 3) w= .ok d w:=fun a b c d w=>by kernel_rfl
 obtain⟨i0,hi,hz0,hz1,hz2⟩:=info_parts infoDecl
 clear HS hs hl1 hl2 hM hG
 go_enter func16,ntmps16
 go_wp2_with(go_at_call 39;refine HSC.out.mono ?_
             unfold sG
             rintro e w1 ⟨hb1,v,rfl,hv⟩
             have HV:=aa hv
             obtain⟨A,n,c,rfl,hn,hc,hcm⟩:=hv.form
             have HB1:=aa hb1
             clear hb1 hv hn)
 refine bt (fun W=>aJ W w1.heap.size (w1.heap.size+1) M ⟨ts,0,{}⟩∧Below w1.heap.size w1 W∧W.heap.size=w1.heap.size+1) ⟨⟨_,_,_,aN w1 _,HV.out.to dU.ab (ac (B0 w1) _) (ae _) (ae _),World.ownsRow_nil _ _ _ _,World.ownsRow_nil _ _ _ _,Nat.lt_succ_self _,by simp,HOk.out⟩,ac (B0 w1) _,by simp⟩ ?_
 intro W0 ⟨hP0,hB0,hz0'⟩
 obtain⟨pb,hpb⟩: ∃pb,w1.heap.size=pb:=⟨_,rfl⟩
 rw[hpb] at hP0 hz0'
 have HZ0:=aa hz0'
 simp only[hpb]
 have HB0:=aa (ag HB1.out hB0)
 have HPb:=aa (show w.heap.size≤pb from by rw[←hpb];exact HB1.out.size)
 have HP0:=aa hP0
 clear hP0 hB0 hpb hz0'
 go_loopw [9] (fun v wr=> ∃(q:PS) (out:List ar) (rows:List (List Value)) (B':Nat),aJ wr pb B' M q∧q.e=0∧dP s.data.toList=eR q out∧gF wr pb rows out∧wr.ownsRow (pb+1) 87 6 v out.length rows.flatten∧out.length≤1024∧KP (pb+1) pb W0 wr) (fun _ wr=>tokM pb wr)
 case atStart=>exact⟨_,[],[],_,HP0.out,rfl,HR.out,⟨rfl,by simp⟩,World.ownsRow_nil _ _ _ _,by simp,KP.refl _ _ _⟩
 case round=>
  obtain⟨q,out,rows,B',hPq,hqe,hpq,hRo,hown,hol,hKq⟩:=hrel
  have HPq:=aa hPq;have HPp:=aa hpq;have HRo:=aa hRo;have HOw:=aa hown;have HKq:=aa hKq;have HQe:=aa hqe
  have hpw:=hPq.cells.1
  have HTm:=aa hPq.tokM
  have HN:=aa (kE pb B' M q wr hPq)
  have hBall:Below w.heap.size w wr:=HB0.out.trans ((hKq.below (Nat.le_succ _)).mono HPb.out)
  have HBa:=aa hBall
  obtain⟨vA,vn,vc,rfl⟩:=bT hown
  have evn:vn=out.length:=by
   rcases hown.2 with ⟨hv,h0⟩|⟨g,cap,cur,hv,_⟩
   ·injection hv with _ h2 _;omega
   ·injection hv with _ h2 _
  subst evn
  by_cases hk0:q.head.kind=0
  ·have hk:((q.head.kind:Int)!=0)=false:=by simp;omega
   have HRes:=aa (Jr (out:=out) hk0)
   unfold ptr at HN
   rw[eI] at HN
   clear hPq hpq hRo hown hKq hqe hk0 hBall
   go_wp2_with(go_at_call 40;refine HN.out.mono ?_;rintro e w3 ⟨rfl,hb3⟩;have HB3:=aa hb3;clear hb3)
   go_ret3
   rw[HPp.out,HRes.out]
   refine⟨ag HBa.out HB3.out,_,rfl,?_⟩
   exact gF.sl (HRo.out.kp (KP.of_below HB3.out (ae _) HB3.out.size)) (cB HOw.out HB3.out)
  ·have hk:((q.head.kind:Int)!=0)=true:=by simp;omega
   by_cases ho:out.length=1024
   ·have hvn:((out.length:Int)==1024)=true:=by simp;omega
    have HRes:=aa (Jq hk0 ho hqe)
    have HBy:=aa (fun W (hW:aJ W pb B' M q)=>I7 pb B' M q W hW)
    have hb8:q.beyond≤8∧q.beyond≠0:=by unfold PS.beyond;split<;>decide
    have HFl:=aa (fun W (hW:aJ W pb B' M q)=>nF pb B' M q W q.beyond hW hb8.1)
    have HFe:=aa (show(q.fail q.beyond).e=q.beyond from by unfold PS.fail;rw[if_pos hqe])
    have HFh:=aa (show(q.fail q.beyond).head=q.head from by unfold PS.head;rw[PS.fail_ts])
    have HNx:=aa (fun W (hW:aJ W pb B' M (q.fail q.beyond))=>kE pb B' M (q.fail q.beyond) W hW)
    have hbe:((q.beyond:Int)!=0)=true:=by have:=hb8.2;simp;omega
    generalize q.beyond=by8 at HRes HBy HFl HFe HFh HNx hbe
    generalize q.fail by8=qf at HFl HFe HFh HNx
    rw[HFh.out] at HNx
    unfold ptr at HN HBy HFl HNx
    rw[eI] at HN HNx
    clear hPq hpq hRo hown hKq hqe hk0 hBall hb8
    go_wp2_with first
     |(go_at_call 40;refine HN.out.mono ?_;rintro e w3 ⟨rfl,hb3⟩;have HB3:=aa hb3;clear hb3)
     |(go_at_call 42;refine(HBy.out _ (HPq.out.later HB3.out)).mono ?_;rintro e w4 ⟨rfl,hb4⟩;have HB4:=aa (ag HB3.out hb4);clear hb4)
     |(go_at_call 41;refine(HFl.out _ (HPq.out.later HB4.out)).mono ?_
       rintro e w5 ⟨rfl,hP5,hK5,hD5⟩
       have HPx:=aa hP5
       have hpx:=hP5.cells.1
       have ep1:=hP5.cells.2.2.1
       rw[HFe.out] at ep1
       have HK5:=aa ((KP.of_below HB4.out (ae _) HB4.out.size:KP wr.heap.size pb wr w4).trans (hK5.mono HB4.out.size))
       clear hP5 hK5 hD5)
    refine bH (S:=fun w'=>w'.cell? ⟨pb,1,none⟩=some (.int .i64 (by8:Nat))) 10 (by exact ep1) fun hS=> ?_
    refine eC 0 44 ?_
    iterate 4 refine gH 12 44 ?_
    refine cH 1 fun K hK=> ?_
    go_simp
    refine(HNx.out _ (HPx.out.later (au (B0 _)))).mono ?_
    rintro e w9 ⟨rfl,hb9⟩
    have ep9:=(hb9.cell (p:=⟨pb,1,none⟩) hpx).trans ep1
    have HB9:=aa (ag (au (B0 _)) hb9)
    clear hb9
    try go_simp
    clear hS
    refine hK.out _ _ (by exact ep9) (fun hS=> ?_)
    clear hK
    refine ak ?_
    refine eC 2 46 ?_
    refine eC 7 2 ?_
    refine eC 8 3 ?_
    refine eC 9 4 ?_
    refine eH ?_
    go_wp2_with fail
    go_ret3
    rw[HPp.out,HRes.out]
    refine⟨?_,rfl⟩
    exact(HBa.out.trans ((HK5.out.below (bN hpw)).mono HPb.out)).trans (HB9.out.mono (aP HBa.out.size HK5.out.size))
   ·have hvn:((out.length:Int)==1024)=false:=by simp;omega
    have HDc:=aa (fun W (hW:aJ W pb B' M q)=>Jw pb B' M q W hM1 hW)
    have HDd:=aa (Nt q)
    have HLt:=aa (fun h=>PS.decl_lt (p:=q) h)
    have HGo:=aa (fun h=>Jo (p:=q) hk0 ho h)
    have HGe:=aa (fun h=>Jp (p:=q) hk0 ho h)
    generalize q.decl=qd at HDc HDd HLt HGo HGe
    obtain⟨q2,d⟩:=qd
    dsimp only at HDd HLt HGo HGe
    unfold ptr at HN HDc
    rw[eI] at HN
    clear hPq hpq hRo hown hKq hqe hk0 hBall
    by_cases he:q2.e=0
    ·have hee:((q2.e:Int)!=0)=false:=by simp;omega
     have HE:=aa he
     clear he
     go_wp2_with first
      |(go_at_call 40;refine HN.out.mono ?_;rintro e w3 ⟨rfl,hb3⟩;have HB3:=aa hb3;clear hb3)
      |(go_at_call 43;refine(HDc.out _ (HPq.out.later HB3.out)).mono ?_
        unfold nM
        rintro e w4 ⟨dv,B2,rfl,⟨r,nn,rfl,hr1,hr2,hd1,hd2⟩,hP4,hO4,hK4⟩
        obtain⟨rA,rn,rc,rfl⟩:=bT hr1
        obtain⟨nA,n2,nc,rfl⟩:=bT hr2
        have hp4:=hP4.size
        have HK4:=aa ((KP.of_below HB3.out (ae _) HB3.out.size:KP wr.heap.size pb wr w3).trans (hK4.mono HB3.out.size))
        have HO4:=aa hO4;have HP4:=aa hP4;have HR1:=aa hr1;have HR2:=aa hr2
        refine Cb fun HD12 HOw4 hz4=> ?_
        clear hr1 hr2 hd1 hd2 hP4 hO4 hK4)
      |(at_builtin;refine wpList_append_own _ rfl (.tmp 34) (.tmp 37) _ rfl (pb+1) 87 i0 _ 6 88 underlying50 hi hz0 hz1 hz2 rfl (by decide) _ out.length rows.flatten rfl HOw4.out ⟨w4.heap.size,0,none⟩ 1 1 [.int .i64 d.kind,.string (bs d.name),.slice rA rn rc,.slice nA n2 nc,.int .i64 d.by_,.bool d.always] rfl rfl (eE rfl) (by simp[Value.oneCell']) (by simp[maxLen];omega) (by omega) (by simp;omega) ?_
        intro v' w5 hown' hgrow _
        refine Cd fun hR5=> ?_
        have hR6:=hR5.snoc (d:=d) hp4.1 (cB HR1.out (ac (B0 w4) _)) (cB HR2.out (ac (B0 w4) _)) ⟨HD12.out.1,HD12.out.2,by
         rcases HDd.out with e|e
         ·rw[e];exact HP4.out.ok.n.2
         ·rw[e];simp⟩
        have HR6:=aa (hR6.grown HOw4.out hgrow)
        have HP5:Hid (aJ w5 pb B2 (M+1) q2):=aJ.other (HP4.out.later (ac (B0 w4) _)) HOw4.out (Nat.lt_succ_self _) hgrow
        have HOw5:=aa hown'
        have hz0w:pb+1≤wr.heap.size:=by have:=HKq.out.size;have:=HZ0.out;omega
        refine Ce fun HK5 hpx ep1=> ?_
        clear hgrow hown' hR5 hR6)
     refine⟨⟨q2,out++[d],rows++[ta d (.slice rA rn rc) (.slice nA n2 nc)],B2,HP5.out.okM (HO4.out HE.out),HE.out,by rw[HPp.out,HGo.out HE.out],HR6.out,?_,by simp;omega,HK5.out⟩,?_⟩
     ·have h:=HOw5.out
      rw[List.length_append,List.flatten_append]
      exact h
     ·rw[HP5.out.tokM,HTm.out]
      exact HLt.out HE.out
    ·have hee:((q2.e:Int)!=0)=true:=by simp;omega
     have HE:=aa he
     clear he
     have HNx:=aa (fun W B2 (hW:aJ W pb B2 (M+1) q2)=>kE pb B2 (M+1) q2 W hW)
     unfold ptr at HNx
     rw[eI] at HNx
     go_wp2_with first
      |(go_at_call 40;refine HN.out.mono ?_;rintro e w3 ⟨rfl,hb3⟩;have HB3:=aa hb3;clear hb3)
      |(go_at_call 43;refine(HDc.out _ (HPq.out.later HB3.out)).mono ?_
        unfold nM
        rintro e w4 ⟨dv,B2,rfl,⟨r,nn,rfl,hr1,hr2,hd1,hd2⟩,hP4,hO4,hK4⟩
        obtain⟨rA,rn,rc,rfl⟩:=bT hr1
        obtain⟨nA,n2,nc,rfl⟩:=bT hr2
        have hp4:=hP4.size
        have HK4:=aa ((KP.of_below HB3.out (ae _) HB3.out.size:KP wr.heap.size pb wr w3).trans (hK4.mono HB3.out.size))
        have HO4:=aa hO4;have HP4:=aa hP4;have HR1:=aa hr1;have HR2:=aa hr2
        refine Cb fun HD12 HOw4 hz4=> ?_
        clear hr1 hr2 hd1 hd2 hP4 hO4 hK4)
      |(at_builtin;refine wpList_append_own _ rfl (.tmp 34) (.tmp 37) _ rfl (pb+1) 87 i0 _ 6 88 underlying50 hi hz0 hz1 hz2 rfl (by decide) _ out.length rows.flatten rfl HOw4.out ⟨w4.heap.size,0,none⟩ 1 1 [.int .i64 d.kind,.string (bs d.name),.slice rA rn rc,.slice nA n2 nc,.int .i64 d.by_,.bool d.always] rfl rfl (eE rfl) (by simp[Value.oneCell']) (by simp[maxLen];omega) (by omega) (by simp;omega) ?_
        intro v' w5 hown' hgrow _
        refine Cd fun hR5=> ?_
        have hR6:=hR5.snoc (d:=d) hp4.1 (cB HR1.out (ac (B0 w4) _)) (cB HR2.out (ac (B0 w4) _)) ⟨HD12.out.1,HD12.out.2,by
         rcases HDd.out with e|e
         ·rw[e];exact HP4.out.ok.n.2
         ·rw[e];simp⟩
        have HR6:=aa (hR6.grown HOw4.out hgrow)
        have HP5:Hid (aJ w5 pb B2 (M+1) q2):=aJ.other (HP4.out.later (ac (B0 w4) _)) HOw4.out (Nat.lt_succ_self _) hgrow
        have HOw5:=aa hown'
        have hz0w:pb+1≤wr.heap.size:=by have:=HKq.out.size;have:=HZ0.out;omega
        refine Ce fun HK5 hpx ep1=> ?_
        clear hgrow hown' hR5 hR6)
     have HPx:=HP5
     refine bH (S:=fun w'=>w'.cell? ⟨pb,1,none⟩=some (.int .i64 (q2.e:Nat))) 10 (by exact ep1) fun hS=> ?_
     refine eC 0 44 ?_
     iterate 4 refine gH 12 44 ?_
     refine cH 1 fun K hK=> ?_
     go_simp
     refine(HNx.out _ _ (HPx.out.later (au (B0 _)))).mono ?_
     rintro e w9 ⟨rfl,hb9⟩
     have ep9:=(hb9.cell (p:=⟨pb,1,none⟩) hpx).trans ep1
     have HB9:=aa (ag (au (B0 _)) hb9)
     clear hb9
     try go_simp
     clear hS
     refine hK.out _ _ (by exact ep9) (fun hS=> ?_)
     clear hK
     refine ak ?_
     refine eC 2 46 ?_
     refine eC 7 2 ?_
     refine eC 8 3 ?_
     refine eC 9 4 ?_
     refine eH ?_
     go_wp2_with fail
     go_ret3
     rw[HPp.out,HGe.out HE.out]
     refine⟨?_,rfl⟩
     exact(HB0.out.trans ((HK5.out.below (Nat.le_succ _)).mono HPb.out)).trans (HB9.out.mono (aP HB0.out.size HK5.out.size))
theorem Cf (s:ByteArray) (w:World) (hG:bY w):Calls prog 16 #[.string s] w (sY w (dP s.data.toList)):=by
 cases hs:eK s.data.toList with
 |error x=>exact Nu s w hG x hs
 |ok ts=>exact Nv s w hG ts hs
end
section
open Go Go.RowKit Go.MapKept Tryz
theorem uN: ∀(n:Nat) (p:PS) (out:List ar),p.ts.length≤n→out.length≤1024→(∀x,eR p out= .error x→x.2≠0)∧(∀l,eR p out= .ok l→l.length≤1024)
 |n,p,out,hn,ho=>by
  have hrec: ∀q:PS×List ar,q.1.ts.length<p.ts.length→q.2.length≤1024→(∀x,eR q.1 q.2= .error x→x.2≠0)∧(∀l,eR q.1 q.2= .ok l→l.length≤1024):=fun q hq h2=>by
   cases n with
   |zero=>omega
   |succ n=>exact uN n q.1 q.2 (by omega) h2
  rw[eR]
  split
  ·exact⟨(fun x h=>by cases h),fun l h=>by injection h with h;subst h;exact ho⟩
  ·simp only
   have h2:(if out.length=1024 then(p.fail p.beyond,out) else(p.decl.1,out++[p.decl.2])).2.length≤1024:=by
    split
    ·exact ho
    ·simp;omega
   generalize (if out.length=1024 then(p.fail p.beyond,out) else(p.decl.1,out++[p.decl.2]))=q at h2
   split
   ·rename_i he
    exact⟨(fun x h=>by injection h with h;subst h;exact he),fun l h=>by cases h⟩
   ·split
    ·rename_i hlt
     exact hrec q hlt h2
    ·exact⟨(fun x h=>by cases h),fun l h=>by injection h with h;subst h;exact h2⟩
theorem Cg {s:ai} {x:Nat×Nat} (h:dP s= .error x):x.2≠0:=by
 unfold dP at h
 cases hs:eK s with
 |error y=>
  rw[hs] at h
  injection h with h
  subst h
  have:=B9 hs
  omega
 |ok ts=>
  rw[hs] at h
  exact(uN _ _ [] (ae _) (by simp)).1 x h
theorem Ch {s:ai} {l:List ar} (h:dP s= .ok l):l.length≤1024:=by
 unfold dP at h
 cases hs:eK s with
 |error y=>rw[hs] at h;cases h
 |ok ts=>
  rw[hs] at h
  exact(uN _ _ [] (ae _) (by simp)).2 l h
theorem Ci (t:br): ∀(l:List ar) (i:Nat) (m:aC) (x:Nat×Nat),fH t i m l= .error x→x.2≠0
 |[],_,_,_,h=>by cases h
 |d::r,i,m,x,h=>by
  by_cases hc:ez t d=0
  ·rw[AT hc] at h;exact Ci t r _ _ x h
  ·rw[AS hc] at h
   injection h with h
   subst h
   exact hc
theorem Cj {l:List ar} {x:Nat×Nat} (h:dL l= .error x):x.2≠0:=by
 unfold dL at h
 cases hc:dm [] [] l with
 |error y=>
  rw[hc] at h
  injection h with h
  subst h
  have:=uf _ _ _ _ hc
  omega
 |ok t=>
  rw[hc] at h
  simp only at h
  cases hs:fH t 0 {} l with
  |error y=>
   rw[hs] at h
   injection h with h
   subst h
   exact Ci t _ _ _ _ hs
  |ok m=>
   rw[hs] at h
   simp only at h
   split at h
   ·injection h with h;subst h;simp
   ·split at h
    ·cases h
    ·injection h with h;subst h;simp
theorem uO (L:List ai) (k:Nat):(bb (L.take k)).length≤(bb L).length:=by
 have e:bb L=bb (L.take k)++bb (L.drop k):=by
  unfold bb
  rw[←List.flatten_append,←List.map_append,List.take_append_drop]
 rw[e,List.length_append];omega
theorem qr {L:List ai} {x:ai} (h:x∈L):x.length+1≤(bb L).length:=by
 induction L with
 |nil=>cases h
 |cons a l ih=>
  have e:bb (a::l)=a++[10]++bb l:=by simp[bb]
  rw[e,List.length_append,List.length_append]
  rcases List.mem_cons.1 h with rfl|h
  ·simp<;>omega
  ·have:=ih h;simp<;>omega
theorem Nw {line:ai} {c:List Int×Int} (h:gC line=some c):c.1.length≤line.length+1:=by
 obtain⟨a,b,f,hcut⟩: ∃a b f,Lib.cut (line.drop 8) dV=(a,b,f):=⟨_,_,_,rfl⟩
 rw[BN hcut] at h
 split at h
 ·obtain⟨n,_,h⟩:=Option.bind_eq_some_iff.1 h
  obtain⟨l,hl,rfl⟩:=Option.map_eq_some_iff.1 h
  have h1:=jP hl
  rw[List.length_map] at h1
  have h2:=Lib.countB_le ⟨#[44,32]⟩ (by decide) (bs a).size (bs a) (ae _)
  have h3:(Lib.splitB ⟨#[44,32]⟩ 0 (Lib.countB (bs a) ⟨#[44,32]⟩) (bs a)).length≤Lib.countB (bs a) ⟨#[44,32]⟩+1:=Lib.splitB_length_le ⟨#[44,32]⟩ 0 _ _
  rw[ql,List.length_map] at h3
  have h4:=(BM hcut).1
  rw[List.length_drop] at h4
  rw[bq] at h2
  show l.length≤_
  have e:Lib.split a [44,32]=Lib.split a ((⟨#[44,32]⟩:ByteArray).data.toList):=rfl
  rw[e] at h1
  omega
 ·cases h
theorem Ck (L:List ai) {k:Nat} {x:ai} (h:L[k]? =some x):bb (L.take (k+1))=bb (L.take k)++(x++[10]):=by
 rw[List.take_add_one,h]
 exact uh _ _
def of (v m:Value) (l:List Int):Prop:=l≠[]→∀a n c,m= .slice (some a) n c→v.ownBlock≠some a.block
def Cl (w:World) (B:Nat) (v:Value) (x:ap) (m s:Value):Prop:=
 x.In w w.heap.size m s∧da B m∧da B s∧of v m x.ms∧of v s x.ss∧x.ms.length≤1000000∧x.ss.length≤1000000
def ij (w:World) (B:Nat) (v:Value) (rows:List (List Value)) (l:List ap):Prop:=
 rows.length=l.length∧∀(j:Nat) x,l[j]? =some x→∃m s,rows[j]? =some (x.cells m s).toList∧Cl w B v x m s
theorem aq.at_blk {w w':World} {v:Value} {l:List Int} (h:aq w w.heap.size v l) (hz:w.heap.size≤w'.heap.size) (hk:l≠[]→∀a n c,v= .slice (some a) n c→a.block<w.heap.size→w'.heap[a.block]? =w.heap[a.block]?):aq w' w'.heap.size v l:=by
 obtain⟨⟨A,c',rfl,h1,h2,h3⟩,hI⟩:=h
 refine⟨⟨_,_,rfl,h1,h2,fun hn=> ?_⟩,hI⟩
 obtain⟨b',o',rfl,hb,hc⟩:=h3 hn
 exact⟨_,_,rfl,by omega,fun j u' hu=>(show w'.cell? ⟨b',o'+j,none⟩=w.cell? ⟨b',o'+j,none⟩ from World.cell?_of_block (hk (fun e=>hn (by rw[e];rfl)) ⟨b',o',none⟩ _ _ rfl hb)).trans (hc j u' hu)⟩
theorem aq.blk_lt {w:World} {B:Nat} {v:Value} {l:List Int} (h:aq w B v l) (hn:l≠[]) {a:Addr} {n c:Nat} (e:v= .slice (some a) n c):a.block<B:=by
 obtain⟨⟨A,c',rfl,h1,h2,h3⟩,hI⟩:=h
 obtain⟨b',o',rfl,hb,hc⟩:=h3 (by simpa using hn)
 injection e with e
 injection e with e
 subst e
 exact hb
theorem In.at_blk {x:ap} {w w':World} {m s:Value} (h:x.In w w.heap.size m s) (hz:w.heap.size≤w'.heap.size) (hm:x.ms≠[]→∀a n c,m= .slice (some a) n c→a.block<w.heap.size→w'.heap[a.block]? =w.heap[a.block]?) (hs:x.ss≠[]→∀a n c,s= .slice (some a) n c→a.block<w.heap.size→w'.heap[a.block]? =w.heap[a.block]?):x.In w' w'.heap.size m s:=
 ⟨h.kind,h.a,h.b,h.c,h.ok,h.key,h.val,h.old,h.ms.at_blk hz hm,h.ss.at_blk hz hs⟩
section
variable {w w':World} {B sb:Nat} {v v':Value} {rows:List (List Value)} {l:List ap}
theorem ij.kp (h:ij w B v rows l) (hk:KP w.heap.size sb w w') (hs:sb<B):ij w' B v rows l:=
 ⟨h.1,fun j x hx=>by
  obtain⟨m,s,h1,h2,h3,h4,h5,h6,h7⟩:=h.2 j x hx
  exact⟨m,s,h1,In.at_blk h2 hk.size (fun _ a n c e hlt=>hk.block _ hlt (by have:=h3 a n c e;omega)) (fun _ a n c e hlt=>hk.block _ hlt (by have:=h4 a n c e;omega)),h3,h4,h5,h6,h7⟩⟩
theorem of.turn {m:Value} {ys:List Int} (h:of v m ys) (hi:aq w w.heap.size m ys) (hv:v'.ownBlock=v.ownBlock∨v'.ownBlock=some w.heap.size):of v' m ys:=by
 intro hn a n c e hv'
 rcases hv with hv|hv
 ·exact h hn a n c e (hv▸hv')
 ·have:=hi.blk_lt hn e
  rw[hv] at hv'
  injection hv' with hv'
  omega
theorem ij.grown (h:ij w B v rows l) (hg:w.grownBy w' v.ownBlock) (hv:v'.ownBlock=v.ownBlock∨v'.ownBlock=some w.heap.size):ij w' B v' rows l:=
 ⟨h.1,fun j x hx=>by
  obtain⟨m,s,h1,h2,h3,h4,h5,h6,h7⟩:=h.2 j x hx
  exact⟨m,s,h1,In.at_blk h2 hg.size (fun hn a n c e hlt=>hg.block _ hlt (fun e'=>h5 hn a n c e e'.symm)) (fun hn a n c e hlt=>hg.block _ hlt (fun e'=>h6 hn a n c e e'.symm)),h3,h4,h5.turn h2.ms hv,h6.turn h2.ss hv,h7⟩⟩
theorem ij.snoc {x:ap} {m s:Value} (h:ij w B v rows l) (hx:Cl w B v x m s):ij w B v (rows++[(x.cells m s).toList]) (l++[x]):=by
 refine⟨by simp[h.1],fun j y hy=> ?_⟩
 rcases Nat.lt_or_ge j l.length with hj|hj
 ·rw[List.getElem?_append_left hj] at hy
  obtain⟨m',s',g1,g⟩:=h.2 j y hy
  exact⟨m',s',by rw[List.getElem?_append_left (by rw[h.1];exact hj)];exact g1,g⟩
 ·rw[List.getElem?_append_right hj] at hy
  have hj0:j - l.length=0:=by
   have:=(List.getElem?_eq_some_iff.1 hy).1
   simp at this
   omega
  rw[hj0] at hy
  simp at hy
  subst hy
  refine⟨m,s,?_,hx⟩
  rw[List.getElem?_append_right (by rw[h.1];exact hj),h.1,hj0]
  rfl
theorem ij.sl {base:Nat} (h:ij w B v rows l) (ho:w.ownsRow base 45 10 v l.length rows.flatten):aQ 10 jj w w.heap.size v l:=by
 refine aQ.of_own rows (fun r hr=> ?_) h.1 ho (fun j r x hr hx=> ?_)
 ·obtain⟨j,hj⟩:=List.mem_iff_getElem?.1 hr
  have hlt:=(List.getElem?_eq_some_iff.1 hj).1
  obtain⟨d,hd⟩: ∃d,l[j]? =some d:=⟨_,List.getElem?_eq_getElem (by rw[←h.1];exact hlt)⟩
  obtain⟨m,s,g1,_⟩:=h.2 j d hd
  rw[hj] at g1
  injection g1 with g1
  subst g1
  rfl
 ·obtain⟨m,s,g1,g2,_,_,_,_,g3⟩:=h.2 j x hx
  rw[hr] at g1
  injection g1 with g1
  subst g1
  exact⟨m,s,rfl,g2,g3⟩
end
theorem Nx {s:ByteArray} {y:ap} (h:el (ba s)=some y) (hs:s.size≤100000):y.ms.length≤1000000∧y.ss.length≤1000000:=by
 have h1:=yn s hs
 obtain⟨w,r,e,_⟩:=oM s
 have h2:el (ba s)=(fh (aE (ba s) 0)).bind fun k=>(cr k ((ba s).drop 1)).bind fun y=>if cL y then some y else none:=by
  rw[e]
  rfl
 rw[h2] at h
 obtain⟨k,_,h⟩:=Option.bind_eq_some_iff.1 h
 obtain⟨z,hz,h⟩:=Option.bind_eq_some_iff.1 h
 split at h
 ·injection h with h
  subst h
  have h3:=yp hz
  rw[List.length_drop] at h3
  omega
 ·cases h
end
end Go.Proofs.YthnkonlbfogkgaaGreatDoor
