/- A part of the proof. -/
import Derived.Test.YthnkonlbfogkgaaGreatDoorQbj
set_option linter.unusedVariables false
set_option linter.unusedSimpArgs false
set_option maxRecDepth 100000
set_option maxHeartbeats 32000000
namespace Go.Proofs.YthnkonlbfogkgaaGreatDoor
section
open Go Go.RowKit Tryz
theorem sN {p:PS} (h: ¬(p.e=0∧p.head.kind=2∧p.head.text=mA)):p.alw=p:=by unfold PS.alw;rw[if_neg h]
theorem IL {p:PS} (h:p.e=0∧p.head.kind=2∧p.head.text=mA):p.alw={(p.take 2 []).1 with d:={(p.take 2 []).1.d with always:=true}}:=by unfold PS.alw;rw[if_pos h]
theorem IM (pb B M:Nat) (p:PS) (w:World) (h:aJ w pb B M p):
 Calls prog 216 #[ptr pb] w (fM w pb B M p.alw):=by
 have HP:=aa h
 have hsz:=h.size
 have hok0:=h.ok
 have HN:=aa (fun W (hW:aJ W pb B M p)=>kE pb B M p W hW)
 have HT:=aa (fun W (hW:aJ W pb B M p)=>iY pb B M p W 2 2 [] (.slice none 0 0) rfl hW (by decide) (aI.nil_ _ _))
 obtain⟨tv,r,n,h1,h2,h3,h4,h5,h6,h7⟩:=id h
 obtain⟨t,ts,hts,hh,htl⟩:=h7.cons
 rw[hh] at HN
 unfold ptr at HN HT
 rw[eI] at HN
 have hpw:=blk_lt h1
 have H1:=aa h1
 have HH:=aa hh
 have HOK:=aa hok0
 clear h h1 h2 h3 h4 h7 hh hts htl hok0
 by_cases he:p.e=0
 ·have he':((p.e:Int)==0)=true:=by simp;omega
  by_cases hk:t.kind=2
  ·have hk':((t.kind:Int)==2)=true:=by simp;omega
   by_cases ht:t.text=mA
   ·have ht':((bs t.text).toList==[97,108,119,97,121,115])=true:=ze ht
    have HC:Hid (p.alw={(p.take 2 []).1 with d:={(p.take 2 []).1.d with always:=true}}):=IL (by rw[HH.out];exact⟨he,hk,ht⟩)
    clear he hk ht
    simp only[ptr]
    go_enter func216,ntmps216
    go_wp2_with first
     |(go_at_call 40;refine(HN.out _ HP.out).mono ?_
       rintro e w1 ⟨rfl,hb1⟩
       have hbp:=ah H1.out hb1
       refine kG fun p1 hpw1=> ?_
       have HB1:=aa hb1
       clear hbp hb1)
     |(go_at_call 128;refine(HT.out _ ((HP.out.later HB1.out).later (ac (B0 w1) _))).mono ?_
       unfold fE
       rintro e w2 ⟨rfl,hP2,hK2,hD2⟩
       obtain⟨hp2,hf2,c1,c2,c3,c6,c7⟩:=hP2.cells
       have f7:=hf2 7
       have HP2:=aa hP2;have HK2:=aa hK2
       clear hP2 hK2 hD2 hf2)
    go_end0
    rw[HC.out]
    have hP:=HP2.out
    have hok:PS.Ok {(p.take 2 []).1 with d:={(p.take 2 []).1.d with always:=true}} M:=⟨hP.ok.last,hP.ok.toks,hP.ok.nums,hP.ok.e,hP.ok.by_,hP.ok.n⟩
    have hQ:aJ (w2.setCell ⟨pb,7,none⟩ (.bool true)) pb B M {(p.take 2 []).1 with d:={(p.take 2 []).1.d with always:=true}}:=hP.setD rfl rfl rfl (fun _ _ _=>rfl) hok
    exact⟨rfl,hQ.more (Nat.le_succ M),fun _=>hok,(((KP.of_below HB1.out hsz.2 HB1.out.size).alloc hsz.2 _).trans (HK2.out.mono (by have:=HB1.out.size;simp;omega))).set (.inl rfl) _⟩
   ·have ht':((bs t.text).toList==[97,108,119,97,121,115])=false:=zf ht
    have HC:Hid (p.alw=p):=sN (fun h=>ht (by rw[←HH.out];exact h.2.2))
    exact sO
  ·have hk':((t.kind:Int)==2)=false:=by simp;omega
   have HC:Hid (p.alw=p):=sN (fun h=>hk (by rw[←HH.out];exact h.2.1))
   exact sO
 ·have he':((p.e:Int)==0)=false:=by simp;omega
  have HC:Hid (p.alw=p):=sN (fun h=>he h.1)
  exact sO
theorem zl {p:PS} (h:p.comma.2=true):p.e=0:=by
 by_cases hc:p.e≠0∨p.head.kind≠4∨p.head.text≠[44]
 ·rw[nG hc] at h;cases h
 ·apply Classical.byContradiction
  intro he
  exact hc (.inl he)
theorem IN {p:PS} (h:p.comma.2=false):p.comma.1=p:=by
 by_cases hc:p.e≠0∨p.head.kind≠4∨p.head.text≠[44]
 ·rw[nG hc]
 ·rw[zd hc] at h;cases h
theorem IP (pb B M:Nat) (p:PS) (w:World) (hM:M≤1000000) (h:aJ w pb B M p):
 Calls prog 214 #[ptr pb] w (fM w pb B M p.list):=by
 have HP:=aa h
 have hsz:=h.size
 have hfd:=fun a b c d w=>zg a b c d w
 have HRF:=aa (fun W q (hW:aJ W pb B M q)=>zk pb B M q W hM hW)
 have HL:Hid (p.list=PS.listGo 1 p.ref):=rfl
 have hle:=PS.ref_le p
 have hL:p.ts.length≤M:=by have:=h.ok.toks;omega
 unfold ptr at HRF
 obtain⟨L,hLL⟩: ∃L,p.ts.length=L:=⟨_,rfl⟩
 rw[hLL] at hle hL
 clear h hLL
 simp only[ptr]
 go_enter func214,ntmps214
 go_wp2_with(go_at_call 213;refine(HRF.out _ p HP.out).mono ?_
             unfold fM
             rintro e w1 ⟨rfl,hP1,hO1,hK1⟩)
 go_loopw [2] (fun i wr=> ∃(k:Nat) (q:PS),i= .int .i64 k∧1≤k∧k+q.ts.length≤L+1∧aJ wr pb B (M+1) q∧(q.e=0→q.Ok M)∧KP B pb w wr∧p.list=PS.listGo k q) (fun i _=>L+2 - (intOf i).toNat)
 case atStart=>exact⟨1,p.ref,rfl,ae _,by omega,hP1,hO1,hK1,HL.out⟩
 case round=>
  obtain⟨k,q,rfl,hk1,hkl,hPq,hOq,hKq,hlq⟩:=hrel
  have HLQ:=aa hlq
  have HKq:=aa hKq
  have HBs:=aa hPq.size.2
  have hk0:IntKind.i64.wrap ((k:Int)+1)=(k:Int)+1:=IntWalk.i64_in _ (by omega)
  clear hlq hKq
  cases hb:q.comma.2 with
  |false=>
   have HC:=aa (sI pb B (M+1) q wr hPq)
   have hq1:=IN hb
   rw[show q.comma=(q,false) from Prod.ext hq1 hb] at HC
   unfold ptr at HC
   have HG:Hid (PS.listGo k q=q):=by show _=_;rw[PS.listGo,dif_neg (by rw[hb];simp)];exact hq1
   have HO:=aa hOq
   clear hb hq1 hPq hOq
   go_wp2_with(go_at_call 288;refine HC.out.mono ?_
               unfold lP
               rintro e w2 ⟨rfl,hP2,hK2,_⟩
               have HP2:=aa hP2;have HK2:=aa hK2
               clear hP2 hK2)
   go_end0
   rw[HLQ.out,HG.out]
   exact⟨rfl,HP2.out,HO.out,HKq.out.trans (HK2.out.mono HBs.out)⟩
  |true=>
   have he:=zl hb
   have hq0:=hPq.okM (hOq he)
   have HC:=aa (sI pb B M q wr hq0)
   have hlt:=PS.comma_lt q hb
   have HG:Hid (PS.listGo k q=PS.listGo (k+1) (if k=16∧q.comma.1.head.kind=1 then q.comma.1.fail 8 else q.comma.1).ref):=by show _=_;rw[PS.listGo,dif_pos hb]
   obtain⟨c,hcc⟩: ∃c,q.comma.1=c:=⟨_,rfl⟩
   rw[show q.comma=(c,true) from Prod.ext hcc hb] at HC
   rw[hcc] at hlt HG
   clear hb hPq hOq he hq0 hcc
   have HN:=aa (fun W (hW:aJ W pb B M c)=>kE pb B M c W hW)
   have HFL:=aa (fun W (hW:aJ W pb B M c)=>nF pb B M c W 8 hW (by omega))
   unfold ptr at HC HN HFL
   rw[eI] at HN
   by_cases h16:k=16
   ·have hk16:((k:Int)==16)=true:=by simp;omega
    by_cases hk1':c.head.kind=1
    ·have hkk:((c.head.kind:Int)==1)=true:=by simp;omega
     rw[if_pos ⟨h16,hk1'⟩] at HG
     have hfts:=PS.fail_ts c 8
     clear hk1'
     go_wp2_with first
                 |(go_at_call 288;refine HC.out.mono ?_
                   unfold lP
                   rintro e w2 ⟨rfl,hP2,hK2,_⟩
                   have HP2:=aa hP2;have HK2:=aa hK2
                   have HBs2:=aa hP2.size.2
                   clear hP2 hK2)
                 |(go_at_call 40;refine(HN.out _ HP2.out).mono ?_
                   rintro e w3 ⟨rfl,hb3⟩
                   have HB3:=aa hb3
                   have HBs3:=aa (aP HBs2.out hb3.size)
                   clear hb3)
                 |(go_at_call 41;refine(HFL.out _ (HP2.out.later HB3.out)).mono ?_
                   rintro e w4 ⟨rfl,hP4,hK4,hD4⟩
                   have HP4:=aa hP4;have HK4:=aa hK4
                   clear hP4 hK4 hD4)
                 |(go_at_call 213;refine(HRF.out _ (c.fail 8) HP4.out).mono ?_
                   unfold fM
                   rintro e w5 ⟨rfl,hP5,hO5,hK5⟩
                   have HP5:=aa hP5;have HO5:=aa hO5;have HK5:=aa hK5
                   clear hP5 hO5 hK5)
     refine⟨⟨k+1,(c.fail 8).ref,by go_num,by omega,?_,HP5.out,HO5.out,(HKq.out.trans (HK2.out.mono HBs.out)).trans ((((KP.of_below HB3.out (HBs2.out) HB3.out.size)).trans (HK4.out.mono HBs3.out)).trans HK5.out),?_⟩,by simp[intOf];omega⟩
     ·have:=PS.ref_le (c.fail 8)
      rw[hfts] at this
      omega
     ·rw[HLQ.out,HG.out]
    ·have hkk:((c.head.kind:Int)==1)=false:=by simp;omega
     rw[if_neg (fun h=>hk1' h.2)] at HG
     clear hk1'
     go_wp2_with first
                 |(go_at_call 288;refine HC.out.mono ?_
                   unfold lP
                   rintro e w2 ⟨rfl,hP2,hK2,_⟩
                   have HP2:=aa hP2;have HK2:=aa hK2
                   have HBs2:=aa hP2.size.2
                   clear hP2 hK2)
                 |(go_at_call 40;refine(HN.out _ HP2.out).mono ?_
                   rintro e w3 ⟨rfl,hb3⟩
                   have HB3:=aa hb3
                   have HBs3:=aa (aP HBs2.out hb3.size)
                   clear hb3)
                 |(go_at_call 41;refine(HFL.out _ (HP2.out.later HB3.out)).mono ?_
                   rintro e w4 ⟨rfl,hP4,hK4,hD4⟩
                   have HP4:=aa hP4;have HK4:=aa hK4
                   clear hP4 hK4 hD4)
                 |(go_at_call 213;refine(HRF.out _ c (HP2.out.later HB3.out)).mono ?_
                   unfold fM
                   rintro e w5 ⟨rfl,hP5,hO5,hK5⟩
                   have HP5:=aa hP5;have HO5:=aa hO5;have HK5:=aa hK5
                   clear hP5 hO5 hK5)
     refine⟨⟨k+1,c.ref,by go_num,by omega,?_,HP5.out,HO5.out,(HKq.out.trans (HK2.out.mono HBs.out)).trans ((KP.of_below HB3.out (HBs2.out) HB3.out.size).trans HK5.out),?_⟩,by simp[intOf];omega⟩
     ·have:=PS.ref_le c
      omega
     ·rw[HLQ.out,HG.out]
   ·have hk16:((k:Int)==16)=false:=by simp;omega
    rw[if_neg (fun h=>h16 h.1)] at HG
    go_wp2_with first
                |(go_at_call 288;refine HC.out.mono ?_
                  unfold lP
                  rintro e w2 ⟨rfl,hP2,hK2,_⟩
                  have HP2:=aa hP2;have HK2:=aa hK2
                  have HBs2:=aa hP2.size.2
                  clear hP2 hK2)
                |(go_at_call 40;refine(HN.out _ HP2.out).mono ?_
                  rintro e w3 ⟨rfl,hb3⟩
                  have HB3:=aa hb3
                  have HBs3:=aa (aP HBs2.out hb3.size)
                  clear hb3)
                |(go_at_call 41;refine(HFL.out _ (HP2.out.later HB3.out)).mono ?_
                  rintro e w4 ⟨rfl,hP4,hK4,hD4⟩
                  have HP4:=aa hP4;have HK4:=aa hK4
                  clear hP4 hK4 hD4)
                |(go_at_call 213;refine(HRF.out _ c HP2.out).mono ?_
                  unfold fM
                  rintro e w5 ⟨rfl,hP5,hO5,hK5⟩
                  have HP5:=aa hP5;have HO5:=aa hO5;have HK5:=aa hK5
                  clear hP5 hO5 hK5)
    refine⟨⟨k+1,c.ref,by go_num,by omega,?_,HP5.out,HO5.out,(HKq.out.trans (HK2.out.mono HBs.out)).trans HK5.out,?_⟩,by simp[intOf];omega⟩
    ·have:=PS.ref_le c
     omega
    ·rw[HLQ.out,HG.out]
def fN (w:World) (pb B:Nat) (u:Value) (x:du):Prop:=
 ∃g bnd caps,u= .func (.func g) bnd caps∧bc g∧∀(W:World) (B' M:Nat) (p:PS),M≤1000000→KP B pb w W→B≤B'→aJ W pb B' M p→Calls prog g (bnd++caps) W (fM W pb B' M (p.part x))
theorem fN.keep {w w':World} {pb B B₂:Nat} {u:Value} {x:du} (h:fN w pb B u x) (hk:KP B pb w w') (hB:B≤B₂):fN w' pb B₂ u x:=by
 obtain⟨g,bnd,caps,h1,h2,h3⟩:=h
 exact⟨g,bnd,caps,h1,h2,fun W B' M p hM hW hBB hp=>h3 W B' M p hM (hk.trans (hW.mono hB)) (aP hB hBB) hp⟩
def nI (w:World) (pb B:Nat) (v:Value) (l:List du):Prop:=
 ∃b c,v= .slice (some ⟨b,0,none⟩) l.length c∧l.length≤c∧c≤maxLen∧pb<b∧b<B∧∀(j:Nat) x,l[j]? =some x→∃u,w.cell? ⟨b,j,none⟩=some u∧fN w pb B u x
theorem KP.cell {B pb:Nat} {w w':World} (h:KP B pb w w') {b:Nat} (o:Nat) (hb:b<B) (hn: ¬b=pb):w'.cell? ⟨b,o,none⟩=w.cell? ⟨b,o,none⟩:=World.cell?_of_block (h.block b hb hn)
theorem nI.keep {w w':World} {pb B B₂:Nat} {v:Value} {l:List du} (h:nI w pb B v l) (hk:KP B pb w w') (hB:B≤B₂):nI w' pb B₂ v l:=by
 obtain⟨b,c,h1,h2,h3,h4,h5,h6⟩:=h
 refine⟨b,c,h1,h2,h3,h4,aF h5 hB,fun j x hx=> ?_⟩
 obtain⟨u,h7,h8⟩:=h6 j x hx
 exact⟨u,(hk.cell j h5 (by omega)).trans h7,h8.keep hk hB⟩
def kJ (w:World) (pb B:Nat) (v:Value):Prop:=
 ∃b,v= .slice (some ⟨b,0,none⟩) 17 17∧pb<b∧b<B∧∀(i:Nat) r,rules[i]? =some r→∃pv,w.cell? ⟨b,i*3,none⟩=some (.string (bs r.1))∧w.cell? ⟨b,i*3+1,none⟩=some (.int .i64 i)∧w.cell? ⟨b,i*3+2,none⟩=some pv∧nI w pb B pv r.2
theorem kJ.keep {w w':World} {pb B B₂:Nat} {v:Value} (h:kJ w pb B v) (hk:KP B pb w w') (hB:B≤B₂):kJ w' pb B₂ v:=by
 obtain⟨b,h1,h4,h5,h6⟩:=h
 refine⟨b,h1,h4,aF h5 hB,fun i r hr=> ?_⟩
 obtain⟨pv,h7,h8,h9,h10⟩:=h6 i r hr
 exact⟨pv,(hk.cell _ h5 (by omega)).trans h7,(hk.cell _ h5 (by omega)).trans h8,(hk.cell _ h5 (by omega)).trans h9,h10.keep hk hB⟩
def fZ (_:World) (_:Nat) (cs:List Value) (r:ai×List du):Prop:= ∃k b n c,cs=[.string (bs r.1),.int .i64 k,.slice (some ⟨b,0,none⟩) n c]
theorem fZ.ab:cI fZ:=fun _ _ _ _ _ _ _ h _ _ _=>h
theorem kJ.sl {w:World} {pb B:Nat} {v:Value} (h:kJ w pb B v):aQ 3 fZ w B v rules:=by
 obtain⟨b,rfl,h4,h5,h6⟩:=h
 refine⟨_,17,rfl,by decide,by decide,fun _=>⟨b,0,rfl,h5,fun j x hx=> ?_⟩⟩
 obtain⟨pv,h7,h8,h9,pb2,pc,rfl,_⟩:=h6 j x hx
 refine⟨[.string (bs x.1),.int .i64 j,.slice (some ⟨pb2,0,none⟩) x.2.length pc],rfl,⟨j,pb2,_,pc,rfl⟩,fun i u hu=> ?_⟩
 rw[Nat.zero_add]
 match i,hu with
 |0,hu=>simp at hu;subst hu;exact h7
 |1,hu=>simp at hu;subst hu;exact h8
 |2,hu=>simp at hu;subst hu;exact h9
 |i+3,hu=>simp at hu
theorem kK {g pb:Nat} {x:du} (eg:bc g) (h: ∀(W:World) (B M:Nat) (p:PS),M≤1000000→aJ W pb B M p→Calls prog g #[ptr pb] W (fM W pb B M (p.part x))) (w:World) (B:Nat):fN w pb B (.func (.func g) #[ptr pb] #[]) x:=
 ⟨g,#[ptr pb],#[],rfl,eg,fun W B' M p hM _ _ hp=>h W B' M p hM hp⟩
theorem kL (w:World) (pb B:Nat):fN w pb B (.func (.func 212) #[ptr pb] #[]) .name:=kK (x:= .name) (enters_of func212 (by kernel_rfl) rfl) (fun W B M p _ hp=>IB pb B M p W hp) w B
theorem ga (w:World) (pb B:Nat):fN w pb B (.func (.func 213) #[ptr pb] #[]) .ref:=kK (x:= .ref) (enters_of func213 (by kernel_rfl) rfl) (fun W B M p hM hp=>zk pb B M p W hM hp) w B
theorem eS (w:World) (pb B:Nat):fN w pb B (.func (.func 211) #[ptr pb] #[]) .number:=kK (x:= .number) (enters_of func211 (by kernel_rfl) rfl) (fun W B M p hM hp=>IK pb B M p W hM hp) w B
theorem sP (w:World) (pb B:Nat):fN w pb B (.func (.func 214) #[ptr pb] #[]) .list:=kK (x:= .list) (enters_of func214 (by kernel_rfl) rfl) (fun W B M p hM hp=>IP pb B M p W hM hp) w B
theorem IQ (w:World) (pb B:Nat):fN w pb B (.func (.func 217) #[ptr pb] #[]) .domain:=kK (x:= .domain) (enters_of func217 (by kernel_rfl) rfl) (fun W B M p _ hp=>IH pb B M p W hp) w B
theorem IR (w:World) (pb B:Nat):fN w pb B (.func (.func 216) #[ptr pb] #[]) .alw:=kK (x:= .alw) (enters_of func216 (by kernel_rfl) rfl) (fun W B M p _ hp=>IM pb B M p W hp) w B
end
section
open Go Go.RowKit Go.Shelf Go.Lib Tryz
def IS:Go.Shelf.Ren:=⟨fun|10=>289|6=>30|n=>n,fun|0=>0|3=>3|4=>4|22=>22|23=>9|25=>58|n=>n,fun|n=>n⟩
theorem IT:Go.Proofs.SlLaysH.n10 prog IS:={
 mixed:=by kernel_rfl
 f6:=⟨Tryz.f30.name,by decide,Tryz.func30.trans (congrArg some (by kernel_rfl))⟩
 f10:=⟨Tryz.f289.name,by decide,Tryz.func289.trans (congrArg some (by kernel_rfl))⟩
 t0:=underlying0
 a0:=Tryz.isAgg0
 z0:=Tryz.sizeOf0
 v0:=zeroValue0
 t3:=underlying3
 a3:=Tryz.isAgg3
 z3:=Tryz.sizeOf3
 v3:=zeroValue3
 t4:=underlying4
 a4:=Tryz.isAgg4
 z4:=Tryz.sizeOf4
 v4:=zeroValue4
 t22:=underlying22
 a22:=Tryz.isAgg22
 z22:=Tryz.sizeOf22
 v22:=zeroValue22
 a23:=Tryz.isAgg9
 z23:=Tryz.sizeOf9
 t25:=underlying58
 a25:=Tryz.isAgg58
 z25:=Tryz.sizeOf58
 v25:=zeroValue58}
def gc (s:ai):Value:= .string (bs s)
theorem zm (x word:ai) (b:Nat) (w:World) (h:w.cell? ⟨b,0,none⟩=some (.string (bs word))):
 FnGives prog 290 #[ptr b] #[gc x] (.bool (decide (x=word))) w:=by
 show Calls prog 290 #[.string (bs x),ptr b] w _
 have hd:((bs x).toList==(bs word).toList)=decide (x=word):=by
  rw[cD,cD,bL,bL,Bool.eq_iff_iff]
  simp
 simp only[ptr]
 go_enter func290,ntmps290
 go_wp2
 all_goals (go_ret;exact⟨by simp_all,0,rfl⟩)
theorem IU (l:List ai) (word:ai) (blk cap bw:Nat) (w:World) (hH:Sort.Holds gc w blk 0 l.toArray) (hw:w.cell? ⟨bw,0,none⟩=some (.string (bs word))) (hbw:bw<w.heap.size) (hne: ¬bw=blk) (hcap:l.length≤cap) (hcm:cap≤100):
 Calls prog 289 #[.slice (some ⟨blk,0,none⟩) l.length cap,az 290 #[ptr bw]] w fun e w'=>e= .returned (.slice (some ⟨blk,0,none⟩) (l.filter fun s=> !decide (s=word)).length cap)∧
  Sort.Holds gc w' blk 0 (l.filter fun s=> !decide (s=word)).toArray∧(∀i,¬i=blk→w'.heap[i]? =w.heap[i]?)∧w'.os=w.os∧w'.tape=w.tape∧w'.output=w.output∧w'.heap.size=w.heap.size:=by
 have eg: ∀args w,(callFunc 290 args).run prog w= .ok (.enter 290 args) w:=enters_of func290 (by kernel_rfl) rfl
 have hcon:=AnyE.slices_DeleteFunc IT gc (fun _=>rfl) (fun x=>decide (x=word)) 290 #[ptr bw] eg [] (fun w=>zeroValue9 w) blk 0 cap l.toArray w
  (fun W x hb=>zm x word bw W ((hb.cell (p:=⟨bw,0,none⟩) hbw).trans hw))
  (fun n os dk x _=>zm x word bw _ (by
    unfold sortWorld
    rw[Sort.cell?_grow _ _ _ (by show bw<(Sort.putRow _ _ _ _ _).heap.size;rw[Sort.size_putRow];exact hbw),Sort.cell?_putRow_other _ _ blk 0 _ _ (Or.inl hne)]
    exact hw)) hH (by simp;omega) (by simpa using hcap)
 generalize hf:(l.filter fun s=> !decide (s=word))=r
 have hr:r.length≤l.length:=by rw[←hf];exact List.length_filter_le _ _
 have hf':(l.toArray.toList.filter fun x=> !decide (x=word))=r:=hf
 rw[hf'] at hcon
 refine hcon.mono ?_
 rintro e w' ⟨rfl,q,rfl⟩
 have hold: ∀i,¬i=blk→(Sort.putRow gc (Sort.ahead w q) blk 0 (r++List.replicate (l.toArray.size - r.length) []).toArray).heap[i]? =w.heap[i]? :=fun i hi=>by
  show(w.heap.modify blk _)[i]? =_
  rw[Array.getElem?_modify,if_neg (fun e=>hi e.symm)]
 refine⟨rfl,fun j hj=> ?_,hold,rfl,rfl,rfl,by simp[Sort.ahead]⟩
 have hH':Sort.Holds gc (Sort.ahead w q) blk 0 l.toArray:=hH
 have h:=Sort.holds_putRow gc (Sort.ahead w q) blk 0 l.toArray (r++List.replicate (l.toArray.size - r.length) []).toArray hH' (by simp;omega) j (by simp at hj⊢;omega)
 have e:(r++List.replicate (l.toArray.size - r.length) []).toArray[j]! =r.toArray[j]! :=by
  have hj':j<r.length:=by simpa using hj
  rw[getElem!_pos _ j (by simp;omega),getElem!_pos _ j hj]
  simp[List.getElem_append_left hj']
 rw[e] at h
 exact h
end
section
open Go Go.RowKit Go.Shelf Go.Lib Go.MapKept Tryz
def lQ:List (ai×Int):=[(gM,1),(bV,2),(ca,4)]
theorem IV (s:ai):(lQ.lookup s).getD 0=(eL s:Nat):=by
 unfold eL
 by_cases h1:s=gM
 ·subst h1;rfl
 by_cases h2:s=bV
 ·subst h2;rfl
 by_cases h3:s=ca
 ·subst h3;rfl
 have e1:=beq_eq_false_iff_ne.2 h1
 have e2:=beq_eq_false_iff_ne.2 h2
 have e3:=beq_eq_false_iff_ne.2 h3
 simp[lQ,List.lookup,e1,e2,e3,h1,h2,h3]
theorem zn (s:ai):eL s≤4:=by
 unfold eL
 split<;>(try split)<;>(try split)<;>omega
theorem pB {w w':World} {b:Nat} {d:Array ai} (h:Sort.Holds gc w b 0 d) (e:w'.heap[b]? =w.heap[b]?):Sort.Holds gc w' b 0 d:=fun j hj=>by
 obtain⟨h1,h2⟩:=h j hj
 refine⟨(World.cell?_of_block (a:=⟨b,0+j,none⟩) e).trans h1,?_⟩
 simp only[World.frozen?,e] at h2⊢
 exact h2
theorem IW {w:World} {b c:Nat} {l:List ai} (h:Sort.Holds gc w b 0 l.toArray) (hb:b<w.heap.size) (hl:l.length≤c) (hc:c≤100):aI w w.heap.size (.slice (some ⟨b,0,none⟩) l.length c) l:=by
 refine⟨_,c,by simp,by simpa using hl,by simp[maxLen];omega,fun _=>⟨b,0,rfl,hb,fun j u hj=> ?_⟩⟩
 have hjl:j<l.length:=by
  have:=(List.getElem?_eq_some_iff.1 hj).1
  simpa using this
 obtain⟨h1,_⟩:=h j (by simpa using hjl)
 rw[h1,getElem!_pos _ j (by simpa using hjl)]
 simp[List.getElem?_eq_getElem hjl] at hj
 rw[←hj]
 simp[gc]
theorem aJ.del {w w':World} {pb B M blk:Nat} {p:PS} {r n:Value} (h:aJ w pb B M p) (h4:w.cell? ⟨pb,4,none⟩=some r) (h5:w.cell? ⟨pb,5,none⟩=some n) (hr: ∀g,r.ownBlock=some g→¬g=blk) (hn: ∀g,n.ownBlock=some g→¬g=blk)
 (hb:pb<blk) (hh: ∀i,¬i=blk→w'.heap[i]? =w.heap[i]?) (h1:w'.os=w.os) (h2:w'.tape=w.tape) (h3:w'.output=w.output) (hs:w'.heap.size=w.heap.size):aJ w' pb B M p:=by
 obtain⟨t,r',n',g1,g2,g3,g4,g5,g6,g7⟩:=h
 have e4:w.cell? ⟨pb,4,none⟩=some r':=af g1 rfl
 have e5:w.cell? ⟨pb,5,none⟩=some n':=af g1 rfl
 rw[h4] at e4
 rw[h5] at e5
 injection e4 with e4
 injection e5 with e5
 subst e4 e5
 have own {e:TypeId} {v:Value} {k:Nat} {xs:List Value} (ho:w.ownsRow B e 1 v k xs) (hv: ∀g,v.ownBlock=some g→¬g=blk):w'.ownsRow B e 1 v k xs:=by
  refine⟨ho.1,?_⟩
  rcases ho.2 with hn|⟨g,cap,cur,k1,k2,k3,k4⟩
  ·exact .inl hn
  ·exact .inr ⟨g,cap,cur,k1,k2,(hh g (hv g (by rw[k1];rfl))).trans k3,k4⟩
 refine⟨t,_,_,(hh pb (by omega)).trans g1,g2.to dU.ab (B₂:=pb) ⟨h1,h2,h3,by omega,fun i hi=>hh i (by omega)⟩ (ae _) (ae _),own g3 hr,own g4 hn,g5,by omega,g7⟩
def PS.clsR (q:PS×bU):PS:={q.1 with d:={q.1.d with by_:=q.1.d.by_+eL q.2.text}}
theorem IX {p:PS} {l:List ai} (hl:l≠[]):p.classGo l=if(PS.clsR (p.take 2 l)).comma.2=true then PS.classGo (l.filter fun s=> !decide (s=(p.take 2 l).2.text)) (PS.clsR (p.take 2 l)).comma.1 else(PS.clsR (p.take 2 l)).comma.1:=by
 rw[PS.classGo,if_neg hl]
 by_cases h:(PS.clsR (p.take 2 l)).comma.2=true
 ·rw[if_pos h];exact dif_pos h
 ·rw[if_neg h];exact dif_neg h
theorem IY {p:PS} {M:Nat} {l:List ai} (hp:p.Ok M) (hq:(p.take 2 l).1.Ok M):(PS.clsR (p.take 2 l)).Ok M:=by
 show PS.Ok {(p.take 2 l).1 with d:={(p.take 2 l).1.d with by_:=(p.take 2 l).1.d.by_+eL (p.take 2 l).2.text}} M
 refine⟨hq.last,hq.toks,hq.nums,hq.e,?_,hq.n⟩
 have ht:=hq.by_
 by_cases hc:p.e≠0∨p.head.kind≠2∨(l≠[]∧p.head.text∉l)
 ·rw[kF hc] at ht⊢
  have:eL ([]:ai)=0:=rfl
  simp only[this]
  dsimp only at ht⊢
  omega
 ·rw[lO hc]
  have:=zn p.head.text
  have hpt:=hp.by_
  obtain⟨a,r,h1,h2,h3⟩:=hp.cons
  simp only[h1,List.tail_cons]
  rw[h1] at hpt
  simp at hpt
  omega
theorem zo (w:World) (o:Obj) {b:Nat} (h:b<w.heap.size):(w.alloc o).heap[b]? =w.heap[b]? :=(ac (B0 w) o).block b h
theorem zp (w:World) {b o j:Nat} {u:Value} (h: ¬o=j):(w.setCell ⟨b,o,none⟩ u).cell? ⟨b,j,none⟩=w.cell? ⟨b,j,none⟩:=by
 simp only[World.cell?,World.setCell,Array.getElem?_modify]
 cases hq:w.heap[b]? with
 |none=>simp
 |some ob=>cases ob<;>simp[Array.getElem?_setIfInBounds,h]
def sQ (v m:Value):Nat:=2*(match v with| .slice _ n _=>n|_=>0)+(match m with| .bool true=>1|_=>0)
theorem IZ {p:PS} {l:List ai} (hl:l≠[]) (h:(PS.clsR (p.take 2 l)).comma.2=true):(l.filter fun s=> !decide (s=(p.take 2 l).2.text)).length<l.length:=by
 have he:(p.take 2 l).1.e=0:=zl (p:=PS.clsR (p.take 2 l)) h
 by_cases hc:p.e≠0∨p.head.kind≠2∨(l≠[]∧p.head.text∉l)
 ·rw[kF hc] at he
  exact absurd he (p.fail_e (by decide))
 ·rw[lO hc]
  have hm:p.head.text∈l:=by
   apply Classical.byContradiction
   intro hn
   exact hc (.inr (.inr ⟨hl,hn⟩))
  rcases Nat.lt_or_eq_of_le (List.length_filter_le (fun s=> !decide (s=p.head.text)) l) with h|h
  ·exact h
  ·have:=List.filter_eq_self.1 (List.filter_sublist.eq_of_length h) p.head.text hm
   simp at this
theorem I0 (pb B M:Nat) (p:PS) (w:World) (hM:M≤1000000) (h:aJ w pb B M p):
 Calls prog 215 #[ptr pb] w (fM w pb B M p.classes):=by
 have HP:=aa h
 have hsz:=h.size
 have hfd:=fun a b c d w=>pz a b c d w
 refine fU fun hmm=> ?_
 obtain⟨tv,r,n,h1,h2,h3,h4,h5,h6,h7⟩:=id h
 have hpw:=blk_lt h1
 have HC4:=aa (show w.cell? ⟨pb,4,none⟩=some r from af h1 rfl)
 have HC5:=aa (show w.cell? ⟨pb,5,none⟩=some n from af h1 rfl)
 have HR:=aa (fun g hg=>show ¬g=w.heap.size from by have:=(World.ownsRow.lt h3 g hg).2;omega)
 have HNB:=aa (fun g hg=>show ¬g=w.heap.size from by have:=(World.ownsRow.lt h4 g hg).2;omega)
 have HL0:=fun o=>(show bG ((w.alloc o).alloc (.map #[] 0)) (w.heap.size+1) (ie []) from by have h:=bG.made (w.alloc o);rw[show(w.alloc o).heap.size=w.heap.size+1 from by simp] at h;exact h)
 have HCL:Hid (p.classes=p.classGo [gM,bV,ca]):=rfl
 clear h h1 h2 h3 h4 h5 h6 h7
 simp only[ptr]
 go_enter func215,ntmps215
 go_wp2_with first
             |(refine gS _ rfl (.tmp 7) (.const (.string ⟨#[109,97,99,104,105,110,101]⟩)) (.const (.int .i64 1)) 220 (.inr rfl) 9 3 .string underlying220 underlying9 (w.heap.size+1) (ie []) rfl (HL0 _) (.string (bs gM)) (.int .i64 1) rfl rfl iZ (kI (by decide)) ?_
               intro w1 hL1 hT1)
             |(refine gS _ rfl (.tmp 7) (.const (.string ⟨#[114,97,99,107]⟩)) (.const (.int .i64 2)) 220 (.inr rfl) 9 3 .string underlying220 underlying9 (w.heap.size+1) (ie [(gM,1)]) rfl hL1 (.string (bs bV)) (.int .i64 2) rfl rfl iZ (kI (by decide)) ?_
               intro w2 hL2 hT2)
             |(refine gS _ rfl (.tmp 7) (.const (.string ⟨#[102,101,101,100]⟩)) (.const (.int .i64 4)) 220 (.inr rfl) 9 3 .string underlying220 underlying9 (w.heap.size+1) (ie [(gM,1),(bV,2)]) rfl hL2 (.string (bs ca)) (.int .i64 4) rfl rfl iZ (kI (by decide)) ?_
               intro w3 hL3 hT3
               have HB3:=aa (hT3.1 _ _ (hT2.1 _ _ (hT1.1 _ _ (ac (ac (B0 w) _) _) (by omega)) (by omega)) (by omega))
               have HX3:=aa (fun i (hi: ¬i=w.heap.size+1)=>(hT3.2.2 i hi).trans ((hT2.2.2 i hi).trans (hT1.2.2 i hi)))
               have HL3:=aa hL3
               clear hL1 hT1 hL2 hT2 hL3 hT3)
 go_loopw [2,4] (fun v m wr=> ∃(left:List ai) (q:PS) (more:Bool),v= .slice (some ⟨w.heap.size,0,none⟩) left.length 3∧m= .bool more∧Sort.Holds gc wr w.heap.size 0 left.toArray∧left.length≤3∧aJ wr pb B M q∧KP B pb w wr∧bG wr (w.heap.size+1) (ie lQ)∧wr.cell? ⟨pb,4,none⟩=some r∧wr.cell? ⟨pb,5,none⟩=some n∧p.classes=(if more then q.classGo left else q)) (fun v m _=>sQ v m)
 case atStart=>
  have hs3:=HB3.out.size
  have hb:w3.heap[w.heap.size]? =some (.cells #[.string (bs gM),.string (bs bV),.string (bs ca)] 9 (0,0)):=(HX3.out _ (by omega)).trans (fV (aN w _) (ac (B0 _) _) (by simp))
  have hk3:KP B pb w w3:=KP.of_below HB3.out hsz.2 hs3
  refine⟨[gM,bV,ca],p,true,rfl,rfl,fun j hj=> ?_,by decide,HP.out.later HB3.out,hk3,HL3.out,(HB3.out.cell (p:=⟨pb,4,none⟩) hpw).trans HC4.out,(HB3.out.cell (p:=⟨pb,5,none⟩) hpw).trans HC5.out,HCL.out⟩
  refine⟨af hb ?_,aW hb _⟩
  match j,hj with
  |0,_=>rfl
  |1,_=>rfl
  |2,_=>rfl
  |j+3,hj=>exact absurd hj (by simp)
 case round=>
  obtain⟨left,q,more,rfl,rfl,hH,hl3,hPq,hK,hMp,hc4,hc5,hcl⟩:=hrel
  have HCLS:=aa hcl
  have HMP:=aa hMp
  have HKr:=aa hK
  have HPQ:=aa hPq
  have HH:=aa hH
  have hszr:=hPq.size
  have hwr:=hK.size
  have hmr:=hMp.lt
  clear hcl hMp hK hPq hH
  cases more with
  |false=>
   go_wp2_with fail
   go_end0
   rw[HCLS.out]
   exact⟨rfl,HPQ.out.more (Nat.le_succ M),fun _=>HPQ.out.ok,HKr.out⟩
  |true=>
   by_cases hl0:left=[]
   ·subst hl0
    have HF:=aa (nF pb B M q wr 3 HPQ.out (by omega))
    have HG:Hid (p.classes=q.fail 3):=by
     show _=_
     have h:=HCLS.out
     rw[if_pos rfl,PS.classGo,if_pos rfl] at h
     exact h
    clear HCLS
    unfold ptr at HF
    go_wp2_with(go_at_call 41;refine HF.out.mono ?_
                rintro e w4 ⟨rfl,hP4,hK4,hD4⟩
                have HP4:=aa hP4;have HK4:=aa hK4
                clear hP4 hK4 hD4)
    refine bodyPost_ret (v:= .tuple #[]) (by simp[results,results215,go_sem]) rfl ?_
    rw[HG.out]
    exact⟨rfl,HP4.out.more (Nat.le_succ M),fun _=>HP4.out.ok,HKr.out.trans (HK4.out.mono hszr.2)⟩
   ·have hnl:((left.length:Int)==0)=false:=by
     have:=List.length_pos_iff.2 hl0
     simp;omega
    have HT:=aa (iY pb B M q wr 2 2 left (.slice (some ⟨w.heap.size,0,none⟩) left.length 3) rfl HPQ.out (by decide) (IW HH.out (by omega) hl3 (by omega)))
    have HOK:=aa (fun hq=>IY (l:=left) (p:=q) (M:=M) HPQ.out.ok hq)
    have HLT:=aa (fun hc=>IZ (p:=q) hl0 hc)
    have HG:Hid (p.classes=if(PS.clsR (q.take 2 left)).comma.2=true then PS.classGo (left.filter fun s=> !decide (s=(q.take 2 left).2.text)) (PS.clsR (q.take 2 left)).comma.1 else(PS.clsR (q.take 2 left)).comma.1):=by
     show _=_
     have h:=HCLS.out
     rw[if_pos rfl,IX hl0] at h
     exact h
    clear HCLS
    generalize q.take 2 left=qt at HT HOK HLT HG
    obtain⟨q1,t⟩:=qt
    dsimp only at HOK HLT HG
    obtain⟨q2,hq2⟩: ∃q2:PS,PS.clsR (q1,t)=q2:=⟨_,rfl⟩
    have HQ2:Hid (q2={q1 with d:={q1.d with by_:=q1.d.by_+eL t.text}}):=hq2.symm
    rw[hq2] at HOK HLT HG
    have HCM:=aa (fun W hW=>sI pb B M q2 W hW)
    generalize q2.comma=cm at HCM HLT HG
    obtain⟨q3,more⟩:=cm
    dsimp only at HLT HG
    obtain⟨left2,hl2⟩: ∃l2,(left.filter fun s=> !decide (s=t.text))=l2:=⟨_,rfl⟩
    have hl23:left2.length≤left.length:=by rw[←hl2];exact List.length_filter_le _ _
    have HDL:=aa (fun W (hW:W.heap.size>w.heap.size+1) (h1:Sort.Holds gc W w.heap.size 0 left.toArray) bw (h2:W.cell? ⟨bw,0,none⟩=some (.string (bs t.text))) (h3:bw<W.heap.size) (h4: ¬bw=w.heap.size)=>IU left t.text w.heap.size 3 bw W h1 h2 h3 h4 hl3 (by omega))
    rw[hl2] at HDL HLT HG
    clear hq2 hl2
    unfold ptr at HT HCM HDL
    unfold az at HDL
    go_wp2_with first
                |(go_at_call 128;refine HT.out.mono ?_
                  unfold fE
                  rintro e w4 ⟨rfl,hP4,hK4,hD4⟩
                  have HP4:=aa hP4;have HK4:=aa hK4;have HD4:=aa hD4
                  have hs4:=hK4.size
                  have HH4:=aa (pB HH.out (hK4.block w.heap.size (by omega) (by omega)))
                  have HM4:=aa (hK4.blk HMP.out hmr (by omega))
                  clear hP4 hK4 hD4
                  simp only[eI])
                |(go_at_call 289;refine(HDL.out _ (by simp;omega) (pB HH4.out (zo _ _ (by omega))) w4.heap.size (af (aN w4 _) rfl) (by simp) (by omega)).mono ?_
                  rintro e w5 ⟨rfl,hH5,hh5,ho5,ht5,hu5,hs5⟩
                  have HH5:=aa hH5
                  clear hH5)
    have h4p:=HP4.out.later (ac (B0 w4) (.cells #[.string (bs t.text)] 9))
    have e4:(w4.alloc (.cells #[.string (bs t.text)] 9)).cell? ⟨pb,4,none⟩=some r:=((dq.of_below (ac (B0 w4) _) (by omega)) 4 (by decide)).trans ((HD4.out 4 (by decide)).trans hc4)
    have e5:(w4.alloc (.cells #[.string (bs t.text)] 9)).cell? ⟨pb,5,none⟩=some n:=((dq.of_below (ac (B0 w4) _) (by omega)) 5 (by decide)).trans ((HD4.out 5 (by decide)).trans hc5)
    have hP5:aJ w5 pb B M q1:=h4p.del e4 e5 HR.out HNB.out hpw hh5 ho5 ht5 hu5 hs5
    have e4':w5.cell? ⟨pb,4,none⟩=some r:=(World.cell?_of_block (a:=⟨pb,4,none⟩) (hh5 pb (by omega))).trans e4
    have e5':w5.cell? ⟨pb,5,none⟩=some n:=(World.cell?_of_block (a:=⟨pb,5,none⟩) (hh5 pb (by omega))).trans e5
    have hK5:KP B pb w w5:=(HKr.out.trans (((HK4.out.mono hszr.2).alloc (aP hszr.2 (ae _)) (.cells #[.string (bs t.text)] 9)))).trans ⟨ho5,ht5,hu5,by omega,fun i hi _=>hh5 i (by omega)⟩
    have hM5:bG w5 (w.heap.size+1) (ie lQ):=(hh5 _ (by omega)).trans ((zo w4 _ (by omega)).trans HM4.out)
    have cw:w5.cell? ⟨w4.heap.size,0,none⟩=some (.string (bs t.text)):=(World.cell?_of_block (a:=⟨w4.heap.size,0,none⟩) (hh5 w4.heap.size (by omega))).trans (af (aN w4 _) rfl)
    obtain⟨hp5,hf5,c1,c2,c3,c6,c7⟩:=hP5.cells
    have f6:=hf5 6
    have hlk:=zi (w:=w5.drew) (l:=lQ) (by decide) hM5 t.text
    rw[IV] at hlk
    have hby:=hP5.ok.by_
    have hsz5:w.heap.size+1<w5.heap.size:=by rw[hs5];simp;omega
    have hbl:=zn t.text
    have hwr6:IntKind.i64.wrap ((q1.d.by_:Int)+(eL t.text:Nat))=(q1.d.by_:Int)+(eL t.text:Nat):=IntWalk.i64_in _ (by omega)
    have HP5:=aa hP5;have HK5:=aa hK5;have HM5:=aa hM5;have HE4:=aa e4';have HE5:=aa e5'
    clear h4p e4 e5 hP5 e4' e5' hK5 hM5 hf5 hh5 ho5 ht5 hu5 c1 c2 c3 c7 hc4 hc5 hfd hmm HL0
    go_region
    have hq2:=HQ2.out
    have hok2:q2.Ok M:=HOK.out HP5.out.ok
    have hv:Value.int .i64 ((q1.d.by_:Int)+(eL t.text:Nat))= .int .i64 (q2.d.by_:Nat):=by rw[hq2];simp
    rw[hv]
    have hP6:aJ (w5.setCell ⟨pb,6,none⟩ (.int .i64 (q2.d.by_:Nat))).drew pb B M q2:=aJ.later (HP5.out.setD (by rw[hq2]) (by rw[hq2]) (by rw[hq2]) (fun _ _ _=>by rw[hq2];rfl) hok2) (au (B0 _))
    have hK6:KP B pb w (w5.setCell ⟨pb,6,none⟩ (.int .i64 (q2.d.by_:Nat))).drew:=(HK5.out.set (.inl rfl) _).drew
    have hx4:(w5.setCell ⟨pb,6,none⟩ (.int .i64 (q2.d.by_:Nat))).drew.cell? ⟨pb,4,none⟩=some r:=(zp w5 (by decide)).trans HE4.out
    have hx5:(w5.setCell ⟨pb,6,none⟩ (.int .i64 (q2.d.by_:Nat))).drew.cell? ⟨pb,5,none⟩=some n:=(zp w5 (by decide)).trans HE5.out
    have hs6:(w5.setCell ⟨pb,6,none⟩ (.int .i64 (q2.d.by_:Nat))).drew.heap.size=w5.heap.size:=by simp[World.setCell]
    have hHM6:bG (w5.setCell ⟨pb,6,none⟩ (.int .i64 (q2.d.by_:Nat))).drew (w.heap.size+1) (ie lQ):=(gz HM5.out (by omega))
    have hHH6:Sort.Holds gc (w5.setCell ⟨pb,6,none⟩ (.int .i64 (q2.d.by_:Nat))).drew w.heap.size 0 left2.toArray:=pB HH5.out (Below.heap_setCell w5 ⟨pb,6,none⟩ _ w.heap.size (by simp;omega))
    generalize (w5.setCell ⟨pb,6,none⟩ (.int .i64 (q2.d.by_:Nat))).drew=w6 at hP6 hK6 hx4 hx5 hs6 hHM6 hHH6⊢
    have hsz7:w.heap.size+1<w6.heap.size:=by rw[hs6];exact hsz5
    have HC6:=aa (HCM.out w6 hP6)
    have HAll:=aa (And.intro hK6 (And.intro hx4 (And.intro hx5 (And.intro hHM6 hHH6))))
    have hsz6:=hP6.size
    clear hP6 hK6 hx4 hx5 hHM6 hHH6 hq2 hok2 hv cw c6 f6 hlk
    go_wp2_with(go_at_call 288;refine HC6.out.mono ?_
                unfold lP
                rintro e w7 ⟨rfl,hP7,hK7,hD7⟩
                have HP7:=aa hP7;have HK7:=aa hK7;have HD7:=aa hD7
                clear hP7 hK7 hD7)
    obtain⟨hK6,hx4,hx5,hHM6,hHH6⟩:=HAll.out
    refine⟨⟨left2,q3,more,rfl,rfl,pB hHH6 (HK7.out.block _ (by omega) (by omega)),by omega,HP7.out,hK6.trans (HK7.out.mono hsz6.2),HK7.out.blk hHM6 (by omega) (by omega),(HD7.out 4 (by decide)).trans hx4,(HD7.out 5 (by decide)).trans hx5,HG.out⟩,?_⟩
    have hlt:=HLT.out
    cases more with
    |true=>
     have:=hlt rfl
     simp[sQ];omega
    |false=>simp[sQ];omega
end
section
open Go Go.RowKit Tryz
theorem I3 (w:World) (pb B:Nat):fN w pb B (.func (.func 215) #[ptr pb] #[]) .classes:=kK (x:= .classes) (enters_of func215 (by kernel_rfl) rfl) (fun W B M p hM hp=>I0 pb B M p W hM hp) w B
def nJ (F:World) (pb B:Nat):List Value→List du→Prop
 |[],[]=>True
 |u::us,x::l=>fN F pb B u x∧nJ F pb B us l
 |_,_=>False
theorem nJ.get {F:World} {pb B:Nat}: ∀{us:List Value} {l:List du},nJ F pb B us l→us.length=l.length∧∀(j:Nat) x,l[j]? =some x→∃u,us[j]? =some u∧fN F pb B u x
 |[],[],_=>⟨rfl,fun j x h=>by simp at h⟩
 |[],_::_,h=>h.elim
 |_::_,[],h=>h.elim
 |u::us,y::l,h=>by
  obtain⟨h1,h2⟩:=nJ.get h.2
  refine⟨by simp[h1],fun j x hx=> ?_⟩
  cases j with
  |zero=>simp at hx;subst hx;exact⟨u,rfl,h.1⟩
  |succ j=>simpa using h2 j x (by simpa using hx)
theorem fp {F:World} {pb B b n c:Nat} {us:List Value} {l:List du} {C:Array Value} {t:TypeId} (hb:F.heap[b]? =some (.cells C t (0,0))) (hC: ∀(j:Nat) u,us[j]? =some u→C[j]? =some u) (h:nJ F pb B us l) (hn:n=l.length) (hc:l.length≤c) (hcm:c≤maxLen) (hpb:pb<b) (hbB:b<B):nI F pb B (.slice (some ⟨b,0,none⟩) n c) l:=by
 obtain⟨h1,h2⟩:=h.get
 subst hn
 refine⟨b,c,rfl,hc,hcm,hpb,hbB,fun j x hx=> ?_⟩
 obtain⟨u,h3,h4⟩:=h2 j x hx
 exact⟨u,af hb (hC j u h3),h4⟩
theorem gd {us:List Value} (j:Nat) (u:Value) (h:us[j]? =some u):us.toArray[j]? =some u:=by simpa using h
theorem lR {w:World} {e:TypeId} {us:List Value} {n:Nat} (hn:n=us.length) (h0:us≠[]) (hm:us.length≤1000):(w.alloc (.cells us.toArray e)).ownsRow w.heap.size e 1 (.slice (some ⟨w.heap.size,0,none⟩) n n) n us:=by
 subst hn
 refine⟨by simp,.inr ⟨w.heap.size,us.length,us.toArray,rfl,ae _,aN w _,ae _,by simp[maxLen];omega,by simp,by simp⟩⟩
theorem I4 (w:World) (pb:Nat) (s:ai) (hpb:pb<w.heap.size):
 Calls prog 210 #[ptr pb,.string (bs s)] w fun e w'=> ∃caps,e= .returned (.func (.func 287) #[] caps)∧fN w' pb w'.heap.size (.func (.func 287) #[] caps) (.word s)∧Below w.heap.size w w':=by
 refine(IC pb s w).mono ?_
 rintro e w' ⟨rfl,rfl⟩
 refine⟨_,rfl,⟨287,#[],#[ptr w.heap.size,ptr (w.heap.size+1)],rfl,enters_of func287 (by kernel_rfl) rfl,fun W B' M p _ hK _ hp=> ?_⟩,ac (ac (B0 w) _) _⟩
 have h1:=hK.blk (fV (aN w _) (ac (B0 _) _) (by simp)) (by simp;omega) (by omega)
 have h2:=hK.blk (aN (w.alloc (.cells #[ptr pb] 85)) (.cells #[.string (bs s)] 9)) (by simp) (by simp;omega)
 simp at h2
 exact ID pb B' M p s _ _ W hp (af h1 rfl) (af h2 rfl)
theorem pC {w:World} {base:Nat} {e:TypeId} {v:Value} {n:Nat} {xs:List Value} (h:w.ownsRow base e 1 v n xs) (h0:0<n):
 ∃g cap cur,v= .slice (some ⟨g,0,none⟩) n cap∧base≤g∧w.heap[g]? =some (.cells cur e (0,0))∧n≤cap∧cap≤maxLen∧cur.toList.take n=xs:=by
 rcases h.2 with ⟨_,hn⟩|⟨g,cap,cur,h1,h2,h3,h4,h5,_,h6⟩
 ·omega
 ·exact⟨g,cap,cur,h1,h2,h3,h4,h5,by simpa using h6⟩
theorem sR {cur:Array Value} {n:Nat} {us:List Value} (h:cur.toList.take n=us) (j:Nat) (u:Value) (hj:us[j]? =some u):cur[j]? =some u:=by
 subst h
 rw[List.getElem?_take] at hj
 split at hj
 ·simpa using hj
 ·cases hj
theorem pD (w:World) (a b c d:Obj):((((w.alloc a).alloc b).alloc c).alloc d).heap[w.heap.size]? =some a∧((((w.alloc a).alloc b).alloc c).alloc d).heap[w.heap.size+1]? =some b∧((((w.alloc a).alloc b).alloc c).alloc d).heap[w.heap.size+2]? =some c∧((((w.alloc a).alloc b).alloc c).alloc d).heap[w.heap.size+3]? =some d:=by
 refine⟨ah (ah (ah (aN w a) (ac (B0 _) b)) (ac (B0 _) c)) (ac (B0 _) d),?_,?_,?_⟩
 ·have h:=ah (ah (aN (w.alloc a) b) (ac (B0 _) c)) (ac (B0 _) d)
  simpa only[World.size_alloc] using h
 ·have h:=ah (aN ((w.alloc a).alloc b) c) (ac (B0 _) d)
  simpa only[World.size_alloc] using h
 ·have h:=aN (((w.alloc a).alloc b).alloc c) d
  simpa only[World.size_alloc] using h
theorem sT (pb:Nat) (w:World) (hpb:pb<w.heap.size):
 Calls prog 124 #[ptr pb] w fun e w'=> ∃v,e= .returned v∧kJ w' pb w'.heap.size v∧Below w.heap.size w w':=by
 obtain⟨i0,hi,hz0,hz1,hz2⟩:=info_parts (show(Tryz.prog.info? 174).map (fun i=>(i.zero,i.size,i.bytes))=some (some .nilFunc,1,8) by kernel_rfl)
 have HW:=aa (fun W s h=>I4 W pb s h)
 unfold ptr at HW
 have hz0':=hpb
 simp only[ptr]
 go_enter func124,ntmps124
 go_wp2_with fail
 refine(HW.out _ lj (by first|omega|(simp;omega))).mono ?_
 rintro e w1 ⟨caps1,rfl,hp1,hb1⟩
 have HB1:=aa (ag (B0 w) hb1)
 have hsw1:=HB1.out.size
 have HP1:=aa hp1
 clear hp1 hb1
 go_wp2_with fail
 refine(HW.out _ lm (by first|omega|(simp;omega))).mono ?_
 rintro e w2 ⟨caps2,rfl,hp2,hb2⟩
 have HB2:=aa (ag (B0 w1) hb2)
 have hsw2:=HB2.out.size
 have HP2:=aa hp2
 clear hp2 hb2
 go_wp2_with fail
 refine(HW.out _ ll (by first|omega|(simp;omega))).mono ?_
 rintro e w3 ⟨caps3,rfl,hp3,hb3⟩
 have HB3:=aa (ag (B0 w2) hb3)
 have hsw3:=HB3.out.size
 have HP3:=aa hp3
 clear hp3 hb3
 go_wp2_with fail
 refine(HW.out _ li (by first|omega|(simp;omega))).mono ?_
 rintro e w4 ⟨caps4,rfl,hp4,hb4⟩
 have hk0:=ah (ah (ah (aN _ (.cells ([.func (.func 287) #[] caps1,.func (.func 211) #[ptr pb] #[],.func (.func 287) #[] caps2,.func (.func 211) #[ptr pb] #[],.func (.func 287) #[] caps3,.func (.func 211) #[ptr pb] #[]]:List Value).toArray 174)) (ac (B0 _) _)) (ac (B0 _) _)) hb4
 have HK0:=aa (show w4.heap[w3.heap.size]? =some (.cells ([.func (.func 287) #[] caps1,.func (.func 211) #[ptr pb] #[],.func (.func 287) #[] caps2,.func (.func 211) #[ptr pb] #[],.func (.func 287) #[] caps3,.func (.func 211) #[ptr pb] #[]]:List Value).toArray 174 (0,0)) from hk0)
 clear hk0
 have hk1:=ah (ah (aN _ (.cells ([.func (.func 212) #[ptr pb] #[]]:List Value).toArray 174)) (ac (B0 _) _)) hb4
 simp only[World.size_alloc] at hk1
 have HK1:=aa (show w4.heap[(w3.heap.size+1)]? =some (.cells ([.func (.func 212) #[ptr pb] #[]]:List Value).toArray 174 (0,0)) from hk1)
 clear hk1
 have hk2:=ah (aN _ (.cells ([.func (.func 212) #[ptr pb] #[]]:List Value).toArray 174)) hb4
 simp only[World.size_alloc] at hk2
 have HK2:=aa (show w4.heap[(w3.heap.size+2)]? =some (.cells ([.func (.func 212) #[ptr pb] #[]]:List Value).toArray 174 (0,0)) from hk2)
 clear hk2
 have HB4:=aa (ag (ac (ac (ac (B0 w3) _) _) _) hb4)
 have hsw4:=HB4.out.size
 have HP4:=aa hp4
 clear hp4 hb4
 go_wp2_with fail
 refine nK ?_
 rintro e w5 ⟨caps5,rfl,hp5,hb5⟩
 have HB5:=aa (ag (B0 w4) hb5)
 have hsw5:=HB5.out.size
 have HP5:=aa hp5
 clear hp5 hb5
 go_wp2_with fail
 refine(HW.out _ li (by first|omega|(simp;omega))).mono ?_
 rintro e w6 ⟨caps6,rfl,hp6,hb6⟩
 have hk3:=ah (aN _ (.cells ([.func (.func 212) #[ptr pb] #[],.func (.func 287) #[] caps4,.func (.func 213) #[ptr pb] #[],.func (.func 287) #[] caps5,.func (.func 213) #[ptr pb] #[]]:List Value).toArray 174)) hb6
 have HK3:=aa (show w6.heap[w5.heap.size]? =some (.cells ([.func (.func 212) #[ptr pb] #[],.func (.func 287) #[] caps4,.func (.func 213) #[ptr pb] #[],.func (.func 287) #[] caps5,.func (.func 213) #[ptr pb] #[]]:List Value).toArray 174 (0,0)) from hk3)
 clear hk3
 have HB6:=aa (ag (ac (B0 w5) _) hb6)
 have hsw6:=HB6.out.size
 have HP6:=aa hp6
 clear hp6 hb6
 go_wp2_with fail
 refine(HW.out _ qz (by first|omega|(simp;omega))).mono ?_
 rintro e w7 ⟨caps7,rfl,hp7,hb7⟩
 have HB7:=aa (ag (B0 w6) hb7)
 have hsw7:=HB7.out.size
 have HP7:=aa hp7
 clear hp7 hb7
 go_wp2_with fail
 refine nK ?_
 rintro e w8 ⟨caps8,rfl,hp8,hb8⟩
 have hk4:=ah (ah (aN _ (.cells ([.func (.func 212) #[ptr pb] #[],.func (.func 287) #[] caps6,.func (.func 213) #[ptr pb] #[],.func (.func 287) #[] caps7,.func (.func 211) #[ptr pb] #[]]:List Value).toArray 174)) (ac (B0 _) _)) hb8
 have HK4:=aa (show w8.heap[w7.heap.size]? =some (.cells ([.func (.func 212) #[ptr pb] #[],.func (.func 287) #[] caps6,.func (.func 213) #[ptr pb] #[],.func (.func 287) #[] caps7,.func (.func 211) #[ptr pb] #[]]:List Value).toArray 174 (0,0)) from hk4)
 clear hk4
 have hk5:=ah (aN _ (.cells ([.func (.func 213) #[ptr pb] #[],.func (.func 213) #[ptr pb] #[],.func (.func 211) #[ptr pb] #[]]:List Value).toArray 174)) hb8
 simp only[World.size_alloc] at hk5
 have HK5:=aa (show w8.heap[(w7.heap.size+1)]? =some (.cells ([.func (.func 213) #[ptr pb] #[],.func (.func 213) #[ptr pb] #[],.func (.func 211) #[ptr pb] #[]]:List Value).toArray 174 (0,0)) from hk5)
 clear hk5
 have HB8:=aa (ag (ac (ac (B0 w7) _) _) hb8)
 have hsw8:=HB8.out.size
 have HP8:=aa hp8
 clear hp8 hb8
 rename_i K hK
 try simp only[List.cons_append,List.nil_append,List.append_eq] at hK
 go_wp2_with(at_builtin;refine wpList_append_own _ rfl (.tmp 63) (.tmp 64) _ rfl w8.heap.size 174 i0 _ 1 8 underlying167 hi hz0 hz1 hz2 rfl (by decide) _ _ _ rfl (lR (us:=[.func (.func 212) #[ptr pb] #[],.func (.func 287) #[] caps8,.func (.func 214) #[ptr pb] #[]]) rfl (by simp) (by simp)) ⟨w3.heap.size,0,none⟩ 6 6 [.func (.func 287) #[] caps1,.func (.func 211) #[ptr pb] #[],.func (.func 287) #[] caps2,.func (.func 211) #[ptr pb] #[],.func (.func 287) #[] caps3,.func (.func 211) #[ptr pb] #[]] rfl rfl (fun j u hu=>World.news_of_block (ah (ah (ah (ah (ah HK0.out HB5.out) HB6.out) HB7.out) HB8.out) (ac (B0 _) _)) j u hu) (by intro u hu;simp at hu;rcases hu with rfl|rfl|rfl|rfl|rfl|rfl<;>rfl) (by simp[maxLen]) (by omega) (by simp) ?_;intro v9 w9 hown9 hgrow9 _;have HB9:=aa (ir (lR (us:=[.func (.func 212) #[ptr pb] #[],.func (.func 287) #[] caps8,.func (.func 214) #[ptr pb] #[]]) rfl (by simp) (by simp)) (ac (B0 w8) _) (ae _) hgrow9);have hsw9:=HB9.out.size;obtain⟨g9,cap9,cur9,rfl,hg9,hh9,hc9,hm9,ht9⟩:=pC hown9 (by decide);have HG9:=aa (And.intro hh9 (And.intro hc9 (And.intro hm9 ht9)));clear hown9 hgrow9 hh9 hc9 hm9 ht9)
 go_wp2_with fail
 refine nK ?_
 rintro e w10 ⟨caps10,rfl,hp10,hb10⟩
 have HB10:=aa (ag (B0 w9) hb10)
 have hsw10:=HB10.out.size
 have HP10:=aa hp10
 clear hp10 hb10
 rename_i K hK
 try simp only[List.cons_append,List.nil_append,List.append_eq] at hK
 go_wp2_with(at_builtin;refine wpList_append_own _ rfl (.tmp 75) (.tmp 76) _ rfl w10.heap.size 174 i0 _ 1 8 underlying167 hi hz0 hz1 hz2 rfl (by decide) _ _ _ rfl (lR (us:=[.func (.func 212) #[ptr pb] #[],.func (.func 211) #[ptr pb] #[],.func (.func 287) #[] caps10,.func (.func 214) #[ptr pb] #[]]) rfl (by simp) (by simp)) ⟨w3.heap.size,0,none⟩ 6 6 [.func (.func 287) #[] caps1,.func (.func 211) #[ptr pb] #[],.func (.func 287) #[] caps2,.func (.func 211) #[ptr pb] #[],.func (.func 287) #[] caps3,.func (.func 211) #[ptr pb] #[]] rfl rfl (fun j u hu=>World.news_of_block (ah (ah (ah (ah (ah (ah (ah HK0.out HB5.out) HB6.out) HB7.out) HB8.out) HB9.out) HB10.out) (ac (B0 _) _)) j u hu) (by intro u hu;simp at hu;rcases hu with rfl|rfl|rfl|rfl|rfl|rfl<;>rfl) (by simp[maxLen]) (by omega) (by simp) ?_;intro v11 w11 hown11 hgrow11 _;have HB11:=aa (ir (lR (us:=[.func (.func 212) #[ptr pb] #[],.func (.func 211) #[ptr pb] #[],.func (.func 287) #[] caps10,.func (.func 214) #[ptr pb] #[]]) rfl (by simp) (by simp)) (ac (B0 w10) _) (ae _) hgrow11);have hsw11:=HB11.out.size;obtain⟨g11,cap11,cur11,rfl,hg11,hh11,hc11,hm11,ht11⟩:=pC hown11 (by decide);have HG11:=aa (And.intro hh11 (And.intro hc11 (And.intro hm11 ht11)));clear hown11 hgrow11 hh11 hc11 hm11 ht11)
 go_wp2_with fail
 refine nK ?_
 rintro e w12 ⟨caps12,rfl,hp12,hb12⟩
 have HB12:=aa (ag (B0 w11) hb12)
 have hsw12:=HB12.out.size
 have HP12:=aa hp12
 clear hp12 hb12
 rename_i K hK
 try simp only[List.cons_append,List.nil_append,List.append_eq] at hK
 go_wp2_with(at_builtin;refine wpList_append_own _ rfl (.tmp 85) (.tmp 86) _ rfl w12.heap.size 174 i0 _ 1 8 underlying167 hi hz0 hz1 hz2 rfl (by decide) _ _ _ rfl (lR (us:=[.func (.func 212) #[ptr pb] #[],.func (.func 287) #[] caps12,.func (.func 213) #[ptr pb] #[]]) rfl (by simp) (by simp)) ⟨w3.heap.size,0,none⟩ 6 6 [.func (.func 287) #[] caps1,.func (.func 211) #[ptr pb] #[],.func (.func 287) #[] caps2,.func (.func 211) #[ptr pb] #[],.func (.func 287) #[] caps3,.func (.func 211) #[ptr pb] #[]] rfl rfl (fun j u hu=>World.news_of_block (ah (ah (ah (ah (ah (ah (ah (ah (ah HK0.out HB5.out) HB6.out) HB7.out) HB8.out) HB9.out) HB10.out) HB11.out) HB12.out) (ac (B0 _) _)) j u hu) (by intro u hu;simp at hu;rcases hu with rfl|rfl|rfl|rfl|rfl|rfl<;>rfl) (by simp[maxLen]) (by omega) (by simp) ?_;intro v13 w13 hown13 hgrow13 _;have HB13:=aa (ir (lR (us:=[.func (.func 212) #[ptr pb] #[],.func (.func 287) #[] caps12,.func (.func 213) #[ptr pb] #[]]) rfl (by simp) (by simp)) (ac (B0 w12) _) (ae _) hgrow13);have hsw13:=HB13.out.size;obtain⟨g13,cap13,cur13,rfl,hg13,hh13,hc13,hm13,ht13⟩:=pC hown13 (by decide);have HG13:=aa (And.intro hh13 (And.intro hc13 (And.intro hm13 ht13)));clear hown13 hgrow13 hh13 hc13 hm13 ht13)
 go_wp2_with fail
 refine(HW.out _ qC (by first|omega|(simp;omega))).mono ?_
 rintro e w14 ⟨caps14,rfl,hp14,hb14⟩
 have HB14:=aa (ag (B0 w13) hb14)
 have hsw14:=HB14.out.size
 have HP14:=aa hp14
 clear hp14 hb14
 go_wp2_with fail
 refine(HW.out _ qA (by first|omega|(simp;omega))).mono ?_
 rintro e w15 ⟨caps15,rfl,hp15,hb15⟩
 have HB15:=aa (ag (B0 w14) hb15)
 have hsw15:=HB15.out.size
 have HP15:=aa hp15
 clear hp15 hb15
 go_wp2_with fail
 refine(HW.out _ qy (by first|omega|(simp;omega))).mono ?_
 rintro e w16 ⟨caps16,rfl,hp16,hb16⟩
 have hk9:=ah (ah (ah (ah (aN _ (.cells ([.func (.func 213) #[ptr pb] #[],.func (.func 287) #[] caps14,.func (.func 211) #[ptr pb] #[],.func (.func 287) #[] caps15,.func (.func 211) #[ptr pb] #[]]:List Value).toArray 174)) (ac (B0 _) _)) (ac (B0 _) _)) (ac (B0 _) _)) hb16
 have HK9:=aa (show w16.heap[w15.heap.size]? =some (.cells ([.func (.func 213) #[ptr pb] #[],.func (.func 287) #[] caps14,.func (.func 211) #[ptr pb] #[],.func (.func 287) #[] caps15,.func (.func 211) #[ptr pb] #[]]:List Value).toArray 174 (0,0)) from hk9)
 clear hk9
 have hk10:=ah (ah (ah (aN _ (.cells ([.func (.func 215) #[ptr pb] #[]]:List Value).toArray 174)) (ac (B0 _) _)) (ac (B0 _) _)) hb16
 simp only[World.size_alloc] at hk10
 have HK10:=aa (show w16.heap[(w15.heap.size+1)]? =some (.cells ([.func (.func 215) #[ptr pb] #[]]:List Value).toArray 174 (0,0)) from hk10)
 clear hk10
 have hk11:=ah (ah (aN _ (.cells ([.func (.func 213) #[ptr pb] #[]]:List Value).toArray 174)) (ac (B0 _) _)) hb16
 simp only[World.size_alloc] at hk11
 have HK11:=aa (show w16.heap[(w15.heap.size+2)]? =some (.cells ([.func (.func 213) #[ptr pb] #[]]:List Value).toArray 174 (0,0)) from hk11)
 clear hk11
 have hk12:=ah (aN _ (.cells ([.func (.func 213) #[ptr pb] #[],.func (.func 211) #[ptr pb] #[],.func (.func 216) #[ptr pb] #[]]:List Value).toArray 174)) hb16
 simp only[World.size_alloc] at hk12
 have HK12:=aa (show w16.heap[(w15.heap.size+3)]? =some (.cells ([.func (.func 213) #[ptr pb] #[],.func (.func 211) #[ptr pb] #[],.func (.func 216) #[ptr pb] #[]]:List Value).toArray 174 (0,0)) from hk12)
 clear hk12
 have HB16:=aa (ag (ac (ac (ac (ac (B0 w15) _) _) _) _) hb16)
 have hsw16:=HB16.out.size
 have HP16:=aa hp16
 clear hp16 hb16
 go_wp2_with fail
 refine nK ?_
 rintro e w17 ⟨caps17,rfl,hp17,hb17⟩
 have hk13:=ah (aN _ (.cells ([.func (.func 213) #[ptr pb] #[],.func (.func 287) #[] caps16,.func (.func 217) #[ptr pb] #[],.func (.func 211) #[ptr pb] #[]]:List Value).toArray 174)) hb17
 have HK13:=aa (show w17.heap[w16.heap.size]? =some (.cells ([.func (.func 213) #[ptr pb] #[],.func (.func 287) #[] caps16,.func (.func 217) #[ptr pb] #[],.func (.func 211) #[ptr pb] #[]]:List Value).toArray 174 (0,0)) from hk13)
 clear hk13
 have HB17:=aa (ag (ac (B0 w16) _) hb17)
 have hsw17:=HB17.out.size
 have HP17:=aa hp17
 clear hp17 hb17
 go_wp2_with fail
 refine(HW.out _ qx (by first|omega|(simp;omega))).mono ?_
 rintro e w18 ⟨caps18,rfl,hp18,hb18⟩
 have hk14:=ah (aN _ (.cells ([.func (.func 213) #[ptr pb] #[],.func (.func 287) #[] caps17,.func (.func 214) #[ptr pb] #[]]:List Value).toArray 174)) hb18
 have HK14:=aa (show w18.heap[w17.heap.size]? =some (.cells ([.func (.func 213) #[ptr pb] #[],.func (.func 287) #[] caps17,.func (.func 214) #[ptr pb] #[]]:List Value).toArray 174 (0,0)) from hk14)
 clear hk14
 have HB18:=aa (ag (ac (B0 w17) _) hb18)
 have hsw18:=HB18.out.size
 have HP18:=aa hp18
 clear hp18 hb18
 go_wp2_with fail
 go_ret
 have BF18:=fun F (h:Below w18.heap.size w18 F)=>h
 have key: ∀F:World,Below w18.heap.size w18 F→F.heap[w18.heap.size]? =some (.cells ([.func (.func 213) #[ptr pb] #[],.func (.func 287) #[] caps18,.func (.func 213) #[ptr pb] #[]]:List Value).toArray 174 (0,0))→F.heap[(w18.heap.size+1)]? =some (.cells ([.func (.func 211) #[ptr pb] #[]]:List Value).toArray 174 (0,0))→F.heap[(w18.heap.size+2)]? =some (.cells ([.func (.func 213) #[ptr pb] #[],.func (.func 211) #[ptr pb] #[]]:List Value).toArray 174 (0,0))→F.heap[(w18.heap.size+3)]? =some (.cells ([.string (bs dg),.int .i64 0,.slice (some ⟨(w3.heap.size+1),0,none⟩) 1 1,.string (bs ca),.int .i64 1,.slice (some ⟨(w3.heap.size+2),0,none⟩) 1 1,.string (bs bV),.int .i64 2,.slice (some ⟨w5.heap.size,0,none⟩) 5 5,.string (bs gM),.int .i64 3,.slice (some ⟨w7.heap.size,0,none⟩) 5 5,.string (bs vg),.int .i64 4,.slice (some ⟨(w7.heap.size+1),0,none⟩) 3 3,.string (bs va),.int .i64 5,.slice (some ⟨g9,0,none⟩) 9 cap9,.string (bs vk),.int .i64 6,.slice (some ⟨g11,0,none⟩) 10 cap11,.string (bs vb),.int .i64 7,.slice (some ⟨g13,0,none⟩) 9 cap13,.string (bs uX),.int .i64 8,.slice (some ⟨w15.heap.size,0,none⟩) 5 5,.string (bs uZ),.int .i64 9,.slice (some ⟨(w15.heap.size+1),0,none⟩) 1 1,.string (bs vp),.int .i64 10,.slice (some ⟨(w15.heap.size+2),0,none⟩) 1 1,.string (bs ve),.int .i64 11,.slice (some ⟨(w15.heap.size+3),0,none⟩) 3 3,.string (bs vt),.int .i64 12,.slice (some ⟨w16.heap.size,0,none⟩) 4 4,.string (bs vh),.int .i64 13,.slice (some ⟨w17.heap.size,0,none⟩) 3 3,.string (bs vj),.int .i64 14,.slice (some ⟨w18.heap.size,0,none⟩) 3 3,.string (bs uY),.int .i64 15,.slice (some ⟨(w18.heap.size+1),0,none⟩) 1 1,.string (bs vq),.int .i64 16,.slice (some ⟨(w18.heap.size+2),0,none⟩) 2 2]:List Value).toArray 169 (0,0))→kJ F pb F.heap.size (.slice (some ⟨(w18.heap.size+3),0,none⟩) 17 17):=by
  intro F BF18 hk15 hk16 hk17 hrow
  have BF17:=ag HB18.out BF18
  have BF16:=ag HB17.out BF17
  have BF15:=ag HB16.out BF16
  have BF14:=ag HB15.out BF15
  have BF13:=ag HB14.out BF14
  have BF12:=ag HB13.out BF13
  have BF11:=ag HB12.out BF12
  have BF10:=ag HB11.out BF11
  have BF9:=ag HB10.out BF10
  have BF8:=ag HB9.out BF9
  have BF7:=ag HB8.out BF8
  have BF6:=ag HB7.out BF7
  have BF5:=ag HB6.out BF6
  have BF4:=ag HB5.out BF5
  have BF3:=ag HB4.out BF4
  have BF2:=ag HB3.out BF3
  have BF1:=ag HB2.out BF2
  have pt0:=fp (l:=[.name]) (n:=1) (c:=1) (ah HK1.out BF4) gd ⟨kL F pb _,trivial⟩ rfl (by decide) (by decide) (by omega) (blk_lt (ah HK1.out BF4))
  have pt1:=fp (l:=[.name]) (n:=1) (c:=1) (ah HK2.out BF4) gd ⟨kL F pb _,trivial⟩ rfl (by decide) (by decide) (by omega) (blk_lt (ah HK2.out BF4))
  have pt2:=fp (l:=[.name,.word li,.ref,.word im,.ref]) (n:=5) (c:=5) (ah HK3.out BF6) gd ⟨kL F pb _,HP4.out.keep (KP.of_below BF4 (ae _) BF4.size) BF4.size,ga F pb _,HP5.out.keep (KP.of_below BF5 (ae _) BF5.size) BF5.size,ga F pb _,trivial⟩ rfl (by decide) (by decide) (by omega) (blk_lt (ah HK3.out BF6))
  have pt3:=fp (l:=[.name,.word li,.ref,.word qz,.number]) (n:=5) (c:=5) (ah HK4.out BF8) gd ⟨kL F pb _,HP6.out.keep (KP.of_below BF6 (ae _) BF6.size) BF6.size,ga F pb _,HP7.out.keep (KP.of_below BF7 (ae _) BF7.size) BF7.size,eS F pb _,trivial⟩ rfl (by decide) (by decide) (by omega) (blk_lt (ah HK4.out BF8))
  have pt4:=fp (l:=[.ref,.ref,.number]) (n:=3) (c:=3) (ah HK5.out BF8) gd ⟨ga F pb _,ga F pb _,eS F pb _,trivial⟩ rfl (by decide) (by decide) (by omega) (blk_lt (ah HK5.out BF8))
  have pt5:=fp (l:=[.name,.word im,.list,.word lj,.number,.word lm,.number,.word ll,.number]) (n:=9) (c:=cap9) (ah HG9.out.1 BF9) (sR HG9.out.2.2.2) ⟨kL F pb _,HP8.out.keep (KP.of_below BF8 (ae _) BF8.size) BF8.size,sP F pb _,HP1.out.keep (KP.of_below BF1 (ae _) BF1.size) BF1.size,eS F pb _,HP2.out.keep (KP.of_below BF2 (ae _) BF2.size) BF2.size,eS F pb _,HP3.out.keep (KP.of_below BF3 (ae _) BF3.size) BF3.size,eS F pb _,trivial⟩ rfl HG9.out.2.1 HG9.out.2.2.1 (by omega) (blk_lt (ah HG9.out.1 BF9))
  have pt6:=fp (l:=[.name,.number,.word im,.list,.word lj,.number,.word lm,.number,.word ll,.number]) (n:=10) (c:=cap11) (ah HG11.out.1 BF11) (sR HG11.out.2.2.2) ⟨kL F pb _,eS F pb _,HP10.out.keep (KP.of_below BF10 (ae _) BF10.size) BF10.size,sP F pb _,HP1.out.keep (KP.of_below BF1 (ae _) BF1.size) BF1.size,eS F pb _,HP2.out.keep (KP.of_below BF2 (ae _) BF2.size) BF2.size,eS F pb _,HP3.out.keep (KP.of_below BF3 (ae _) BF3.size) BF3.size,eS F pb _,trivial⟩ rfl HG11.out.2.1 HG11.out.2.2.1 (by omega) (blk_lt (ah HG11.out.1 BF11))
  have pt7:=fp (l:=[.name,.word im,.ref,.word lj,.number,.word lm,.number,.word ll,.number]) (n:=9) (c:=cap13) (ah HG13.out.1 BF13) (sR HG13.out.2.2.2) ⟨kL F pb _,HP12.out.keep (KP.of_below BF12 (ae _) BF12.size) BF12.size,ga F pb _,HP1.out.keep (KP.of_below BF1 (ae _) BF1.size) BF1.size,eS F pb _,HP2.out.keep (KP.of_below BF2 (ae _) BF2.size) BF2.size,eS F pb _,HP3.out.keep (KP.of_below BF3 (ae _) BF3.size) BF3.size,eS F pb _,trivial⟩ rfl HG13.out.2.1 HG13.out.2.2.1 (by omega) (blk_lt (ah HG13.out.1 BF13))
  have pt8:=fp (l:=[.ref,.word qC,.number,.word qA,.number]) (n:=5) (c:=5) (ah HK9.out BF16) gd ⟨ga F pb _,HP14.out.keep (KP.of_below BF14 (ae _) BF14.size) BF14.size,eS F pb _,HP15.out.keep (KP.of_below BF15 (ae _) BF15.size) BF15.size,eS F pb _,trivial⟩ rfl (by decide) (by decide) (by omega) (blk_lt (ah HK9.out BF16))
  have pt9:=fp (l:=[.classes]) (n:=1) (c:=1) (ah HK10.out BF16) gd ⟨I3 F pb _,trivial⟩ rfl (by decide) (by decide) (by omega) (blk_lt (ah HK10.out BF16))
  have pt10:=fp (l:=[.ref]) (n:=1) (c:=1) (ah HK11.out BF16) gd ⟨ga F pb _,trivial⟩ rfl (by decide) (by decide) (by omega) (blk_lt (ah HK11.out BF16))
  have pt11:=fp (l:=[.ref,.number,.alw]) (n:=3) (c:=3) (ah HK12.out BF16) gd ⟨ga F pb _,eS F pb _,IR F pb _,trivial⟩ rfl (by decide) (by decide) (by omega) (blk_lt (ah HK12.out BF16))
  have pt12:=fp (l:=[.ref,.word qy,.domain,.number]) (n:=4) (c:=4) (ah HK13.out BF17) gd ⟨ga F pb _,HP16.out.keep (KP.of_below BF16 (ae _) BF16.size) BF16.size,IQ F pb _,eS F pb _,trivial⟩ rfl (by decide) (by decide) (by omega) (blk_lt (ah HK13.out BF17))
  have pt13:=fp (l:=[.ref,.word im,.list]) (n:=3) (c:=3) (ah HK14.out BF18) gd ⟨ga F pb _,HP17.out.keep (KP.of_below BF17 (ae _) BF17.size) BF17.size,sP F pb _,trivial⟩ rfl (by decide) (by decide) (by omega) (blk_lt (ah HK14.out BF18))
  have pt14:=fp (l:=[.ref,.word qx,.ref]) (n:=3) (c:=3) hk15 gd ⟨ga F pb _,HP18.out.keep (KP.of_below BF18 (ae _) BF18.size) BF18.size,ga F pb _,trivial⟩ rfl (by decide) (by decide) (by omega) (blk_lt hk15)
  have pt15:=fp (l:=[.number]) (n:=1) (c:=1) hk16 gd ⟨eS F pb _,trivial⟩ rfl (by decide) (by decide) (by omega) (blk_lt hk16)
  have pt16:=fp (l:=[.ref,.number]) (n:=2) (c:=2) hk17 gd ⟨ga F pb _,eS F pb _,trivial⟩ rfl (by decide) (by decide) (by omega) (blk_lt hk17)
  refine⟨(w18.heap.size+3),rfl,by omega,blk_lt hrow,fun i r hr=> ?_⟩
  match i,hr with
  |0,hr=>obtain rfl:=Option.some.inj hr;exact⟨_,af hrow rfl,af hrow rfl,af hrow rfl,pt0⟩
  |1,hr=>obtain rfl:=Option.some.inj hr;exact⟨_,af hrow rfl,af hrow rfl,af hrow rfl,pt1⟩
  |2,hr=>obtain rfl:=Option.some.inj hr;exact⟨_,af hrow rfl,af hrow rfl,af hrow rfl,pt2⟩
  |3,hr=>obtain rfl:=Option.some.inj hr;exact⟨_,af hrow rfl,af hrow rfl,af hrow rfl,pt3⟩
  |4,hr=>obtain rfl:=Option.some.inj hr;exact⟨_,af hrow rfl,af hrow rfl,af hrow rfl,pt4⟩
  |5,hr=>obtain rfl:=Option.some.inj hr;exact⟨_,af hrow rfl,af hrow rfl,af hrow rfl,pt5⟩
  |6,hr=>obtain rfl:=Option.some.inj hr;exact⟨_,af hrow rfl,af hrow rfl,af hrow rfl,pt6⟩
  |7,hr=>obtain rfl:=Option.some.inj hr;exact⟨_,af hrow rfl,af hrow rfl,af hrow rfl,pt7⟩
  |8,hr=>obtain rfl:=Option.some.inj hr;exact⟨_,af hrow rfl,af hrow rfl,af hrow rfl,pt8⟩
  |9,hr=>obtain rfl:=Option.some.inj hr;exact⟨_,af hrow rfl,af hrow rfl,af hrow rfl,pt9⟩
  |10,hr=>obtain rfl:=Option.some.inj hr;exact⟨_,af hrow rfl,af hrow rfl,af hrow rfl,pt10⟩
  |11,hr=>obtain rfl:=Option.some.inj hr;exact⟨_,af hrow rfl,af hrow rfl,af hrow rfl,pt11⟩
  |12,hr=>obtain rfl:=Option.some.inj hr;exact⟨_,af hrow rfl,af hrow rfl,af hrow rfl,pt12⟩
  |13,hr=>obtain rfl:=Option.some.inj hr;exact⟨_,af hrow rfl,af hrow rfl,af hrow rfl,pt13⟩
  |14,hr=>obtain rfl:=Option.some.inj hr;exact⟨_,af hrow rfl,af hrow rfl,af hrow rfl,pt14⟩
  |15,hr=>obtain rfl:=Option.some.inj hr;exact⟨_,af hrow rfl,af hrow rfl,af hrow rfl,pt15⟩
  |16,hr=>obtain rfl:=Option.some.inj hr;exact⟨_,af hrow rfl,af hrow rfl,af hrow rfl,pt16⟩
  |i+17,hr=>exact absurd (List.getElem?_eq_some_iff.1 hr).1 (by simp[rules])
 refine⟨_,rfl,?_,ac (ac (ac (ac (ag (ag (ag (ag (ag (ag (ag (ag (ag (ag (ag (ag (ag (ag (ag (ag (ag HB1.out HB2.out) HB3.out) HB4.out) HB5.out) HB6.out) HB7.out) HB8.out) HB9.out) HB10.out) HB11.out) HB12.out) HB13.out) HB14.out) HB15.out) HB16.out) HB17.out) HB18.out) _) _) _) _⟩
 refine key _ (ac (ac (ac (ac (B0 w18) _) _) _) _) ?_ ?_ ?_ ?_
 ·exact(pD w18 _ _ _ _).1
 ·exact(pD w18 _ _ _ _).2.1
 ·exact(pD w18 _ _ _ _).2.2.1
 ·exact(pD w18 _ _ _ _).2.2.2
end
end Go.Proofs.YthnkonlbfogkgaaGreatDoor
