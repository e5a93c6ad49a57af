/- A part of the proof. -/
import Derived.Test.YthnkonlbfogkgaaGreatDoorQbb
set_option linter.unusedVariables false
set_option linter.unusedSimpArgs false
set_option maxRecDepth 100000
set_option maxHeartbeats 32000000
namespace Go.Proofs.YthnkonlbfogkgaaGreatDoor
section
open Go Go.RowKit Go.MapKept Go.ChangeMaps Tryz
def lB (w:World) (u:Value) (l:List ByteArray):Prop:=
 (u= .slice none 0 0∧l=[])∨∃b o c,u= .slice (some ⟨b,o,none⟩) l.length c∧∀(j:Nat) s,l[j]? =some s→w.cell? ⟨b,o+j,none⟩=some (.string s)
theorem bo.src {w:World} {base:Nat} {v:Value} {l:List ByteArray} (h:bo w base v l):lB w v l:=by
 by_cases hl:l=[]
 ·subst hl
  rcases h.2 with ⟨hv,_⟩|⟨g,cap,cur,hv,_⟩
  ·exact .inl ⟨hv,rfl⟩
  ·exact .inr ⟨g,0,cap,hv,fun j s hs=>by simp at hs⟩
 ·obtain⟨b,o,c,hv,hc⟩: ∃b o c,v= .slice (some ⟨b,o,none⟩) l.length c∧∀(j:Nat) u,(l.map Value.string)[j]? =some u→w.cell? ⟨b,o+j,none⟩=some u:=by
   rcases Sl.cases_ h.slS with ⟨h0,_⟩|⟨_,b,o,c,hv,_,_,_,hc⟩
   ·exact absurd (List.map_eq_nil_iff.1 h0) hl
   ·exact⟨b,o,c,by simpa using hv,hc⟩
  exact .inr ⟨b,o,c,hv,fun j s hs=>hc j _ (by rw[List.getElem?_map,hs];rfl)⟩
theorem aL.src {w:World} {B:Nat} {v:Value} {l:List ByteArray} (h:aL w B v l) (hl:l≠[]):lB w v l:=by
 rcases Sl.cases_ h with ⟨h0,_⟩|⟨_,b,o,c,hv,_,_,_,hc⟩
 ·exact absurd (List.map_eq_nil_iff.1 h0) hl
 ·exact .inr ⟨b,o,c,by simpa using hv,fun j s hs=>hc j _ (by rw[List.getElem?_map,hs];rfl)⟩
theorem DR (l:List ByteArray): ∀u∈l.map Value.string,u.oneCell'=true:=by
 intro u hu
 obtain⟨s,_,rfl⟩:=List.mem_map.1 hu
 rfl
theorem qP {w:World} {o:Oper} {a:Act} {K:Act→World→Prop} {Q:Exit→Act→World→Prop} (s x:Operand)
 (ho:o.op= .call {callee:= .builtin .append,args:= #[s,x],argTypes:= #[22,22]}) (base:Nat) (v u:Value) (l l':List ByteArray)
 (hs:a.eval s=v) (hx:a.eval x=u) (hown:bo w base v l) (hsrc:lB w u l') (hlen:l.length+l'.length≤1000000) (hbase:base≤w.heap.size)
 (h: ∀v' w',bo w' base v' (l++l')→w.grownBy w' v.ownBlock→K (a.put o.dst v') w'):o.wp prog a w K Q:=by
 obtain⟨i0,hi,hz0,hz1,hz2⟩:=info_parts qK
 rcases hsrc with ⟨rfl,rfl⟩|⟨b,off,c,rfl,hc⟩
 ·have hrun:=run_append_owned_none (P:=prog) (w:=w) base 22 o.type 9 i0 1 underlying22 hi v _ _ hown
  exact wh
 ·refine wp_append_own w s x 22 ho base 9 i0 _ 1 16 underlying22 hi hz0 hz1 hz2 rfl (by decide) v l.length _ hs hown ⟨b,off,none⟩ l'.length c (l'.map Value.string) hx (by simp) (fun j y hy=> ?_) (DR l') (by simp[maxLen];omega) (by omega) hbase (fun v' w' h1 h2 _=>h v' w' ?_ h2)
  ·rw[List.getElem?_map] at hy
   obtain⟨s',hs',rfl⟩:=Option.map_eq_some_iff.1 hy
   have:=hc j s' hs'
   unfold Addr.add
   split
   ·rename_i e;have:j=0:=by simpa using e
    subst this;exact hc 0 s' hs'
   ·exact this
  ·show w'.ownsRow _ _ _ _ _ _
   rw[List.length_append,List.map_append];exact h1
theorem qQ {w:World} {ops:Array Oper} {rest:List Oper} {o:Oper} {a:Act} {Q:Exit→Act→World→Prop} (hgd:o.guard=none) (s x:Operand)
 (ho:o.op= .call {callee:= .builtin .append,args:= #[s,x],argTypes:= #[22,22]}) (base:Nat) (v u:Value) (l l':List ByteArray)
 (hs:a.eval s=v) (hx:a.eval x=u) (hown:bo w base v l) (hsrc:lB w u l') (hlen:l.length+l'.length≤1000000) (hbase:base≤w.heap.size)
 (h: ∀v' w',bo w' base v' (l++l')→w.grownBy w' v.ownBlock→wpList prog ops Q rest (a.put o.dst v') w'):wpList prog ops Q (o::rest) a w:=
 wpList_plain hgd fun _ hK=>qP s x ho base v u l l' hs hx hown hsrc hlen hbase fun v' w' h2 h3=>hK _ _ (h v' w' h2 h3)
theorem oI {w:World} {ops:Array Oper} {o:Oper} {a:Act} {K:Act→World→Prop} {Q:Exit→Act→World→Prop} {E:Prop} (hgd:o.guard=none) (s x:Operand)
 (ho:o.op= .call {callee:= .builtin .append,args:= #[s,x],argTypes:= #[22,22]}) (base:Nat) (v u:Value) (l l':List ByteArray)
 (hs:a.eval s=v) (hx:a.eval x=u) (hown:bo w base v l) (hsrc:lB w u l') (hlen:l.length+l'.length≤1000000) (hbase:base≤w.heap.size)
 (h: ∀v' w',bo w' base v' (l++l')→w.grownBy w' v.ownBlock→K (a.put o.dst v') w'):
 if Region.wanted o (yielded ops a.tmps)=true then Oper.wp prog o a w K Q else E:=by
 have hw:Region.wanted o (yielded ops a.tmps)=true:=by simp[Region.wanted,hgd]
 rw[if_pos hw]
 exact qP s x ho base v u l l' hs hx hown hsrc hlen hbase h
def iN (w:World) (l:List ByteArray) (e:Ending) (w':World):Prop:= ∃u,e= .returned u∧bo w' w.heap.size u l∧Below w.heap.size w w'
theorem wj (x:ap) (m s:Value) (w:World):
 Calls prog 197 #[.agg (x.cells m s)] w (iN w []):=by
 rw[ap.cells_def]
 go_enter func197,ntmps197
 go_wp2_with fail
 go_ret
 exact⟨_,rfl,bo.nil_ _ _,ac (B0 w) _⟩
theorem jt {w:World} {a b:Nat} {v:Value} {l:List ByteArray} (h:bo w a v l) (hab:b≤a):bo w b v l:=by
 obtain⟨h1,h2⟩:=h
 refine⟨h1,?_⟩
 rcases h2 with h2|⟨g,cap,cur,hv,hg,hrest⟩
 ·exact .inl h2
 ·exact .inr ⟨g,cap,cur,hv,aP hab hg,hrest⟩
theorem iO (x:ap) (m s:Value) (w:World) (hG:aT w) (ha:aj x.a):
 Calls prog 193 #[.agg (x.cells m s)] w (iN w [eZ x.a]):=by
 have HG:=aa hG
 clear hG
 rw[ap.cells_def]
 go_enter func193,ntmps193
 go_wp2_with(go_at_call 58;refine(jO _ [x.a] _ (HG.out.step (ac (ac (B0 w) _) _)) (aq.of1 (by go_simp) (by simp) ha) (by simp)).mono ?_;rintro e w1 ⟨u,rfl,hu,hb1⟩)
 exact qR
theorem DS (x:ap) (m s:Value) (w:World) (hG:aT w) (ha:aj x.a) (hb:aj x.b):
 Calls prog 95 #[.agg (x.cells m s)] w (iN w [eZ x.a,eZ x.b]):=by
 have HG:=aa hG
 clear hG
 rw[ap.cells_def]
 go_enter func95,ntmps95
 go_wp2_with(go_at_call 58;refine(jO _ [x.a,x.b] _ (HG.out.step (ac (ac (B0 w) _) _)) (aq.of2 (by go_simp) (by go_simp) (by simp) ha hb) (by simp)).mono ?_;rintro e w1 ⟨u,rfl,hu,hb1⟩)
 exact qR
theorem aq.of3 {W:World} {h:Nat} {a b c:Int} (hc:W.cell? ⟨h,0,none⟩=some (.int .i64 a)) (hc1:W.cell? ⟨h,1,none⟩=some (.int .i64 b)) (hc2:W.cell? ⟨h,2,none⟩=some (.int .i64 c)) (hh:h<W.heap.size) (ha:aj a) (hb:aj b) (hcc:aj c):aq W W.heap.size (.slice (some ⟨h,0,none⟩) 3 3) [a,b,c]:=
 ⟨⟨_,3,rfl,by simp,by simp[maxLen],fun _=>⟨h,0,rfl,hh,fun j u hu=>by
   rw[Nat.zero_add]
   match j,hu with
   |0,hu=>simp at hu;subst hu;exact hc
   |1,hu=>simp at hu;subst hu;exact hc1
   |2,hu=>simp at hu;subst hu;exact hc2
   |j+3,hu=>simp at hu⟩⟩,by
   intro y hy
   simp at hy
   rcases hy with rfl|rfl|rfl<;>assumption⟩
theorem DT (x:ap) (m s:Value) (w:World) (hG:aT w) (ha:aj x.a) (hb:aj x.b) (hc:aj x.c):
 Calls prog 113 #[.agg (x.cells m s)] w (iN w [eZ x.a,eZ x.b,eZ x.c]):=by
 have HG:=aa hG
 clear hG
 rw[ap.cells_def]
 go_enter func113,ntmps113
 go_wp2_with(go_at_call 58;refine(jO _ [x.a,x.b,x.c] _ (HG.out.step (ac (ac (B0 w) _) _)) (aq.of3 (by go_simp) (by go_simp) (by go_simp) (by simp) ha hb hc) (by simp)).mono ?_;rintro e w1 ⟨u,rfl,hu,hb1⟩)
 exact qR
theorem DU (x:ap) (m s:Value) (w:World) (hG:aT w) (hm:aq w w.heap.size m x.ms) (hl:x.ms.length≤100000):
 Calls prog 117 #[.agg (x.cells m s)] w (iN w (x.ms.map eZ)):=by
 obtain⟨Am,nm,cm,rfl,hnm,hcm,hmm⟩:=hm.form
 have HG:=aa hG;have HM:=aa hm;have HL:=aa hl
 clear hG hm hl hnm
 rw[ap.cells_def]
 go_enter func117,ntmps117
 go_wp2_with(go_at_call 58;refine(jO _ x.ms _ (HG.out.step (ac (B0 w) _)) ((HM.out.below (ac (B0 w) _) (ae _)).more (Below.size (ac (B0 w) _))) HL.out).mono ?_;rintro e w1 ⟨u,rfl,hu,hb1⟩)
 go_ret
 exact⟨_,rfl,jt hu (by simp),ag (ac (B0 w) _) hb1⟩
theorem DV (x:ap) (m s:Value) (w:World) (hG:aT w) (ha:aj x.a) (hs:aq w w.heap.size s x.ss) (hl:x.ss.length≤100000):
 Calls prog 91 #[.agg (x.cells m s)] w (iN w (eZ x.a::x.ss.map eZ)):=by
 obtain⟨As,ns,cs,rfl,hns,hcs,hms⟩:=hs.form
 have HG:=aa hG;have HS:=aa hs;have HL:=aa hl
 clear hG hs hl hns
 rw[ap.cells_def]
 go_enter func91,ntmps91
 go_wp2_with fail
 go_region_held3 (fun w'=>w'.cell? ⟨w.heap.size,1,none⟩=some (.int .i64 x.a)∧w'.cell? ⟨w.heap.size,9,none⟩=some (.slice As ns cs)) (go_simp)
  (first
    |(go_at_call_of 58 (Value.slice As ns cs);refine(jO _ x.ss _ (HG.out.step hB1) ((HS.out.below hB1 (ae _)).more (Below.size hB1)) HL.out).mono ?_;rintro e w2 ⟨u2,rfl,hu2,hb2⟩;have hB2:=ag hB1 hb2;have hz2:w.heap.size<w2.heap.size:=dJ hb2 hz1;have hu12:=hu1.below hb2;obtain⟨hc2,hf2⟩:=ck hb2)
    |(go_at_call 58;refine(jO _ [x.a] _ (HG.out.step (au (ac (ac (B0 w) _) _))) (aq.of1 (by go_simp) (by simp) ha) (by simp)).mono ?_;rintro e w1 ⟨u1,rfl,hu1,hb1⟩;have hB1:=ag (au (ac (ac (B0 w) _) _)) hb1;have hz1:w.heap.size<w1.heap.size:=dJ hb1 (by simp;omega);obtain⟨hc1,hf1⟩:=ck hb1)
    |(refine oI rfl (.tmp 6) (.tmp 9) rfl w.heap.size u1 u2 _ _ rfl rfl (jt hu12 (by simp;omega)) (hu2.src) (by have:=HL.out;simp;omega) hB2.size ?_;intro v' w3 hown hgr;have hB3:=(jt hu12 (by simp;omega)).grown hB2 hgr;have hc3: ∀o,w3.cell? ⟨w.heap.size,o,none⟩=w2.cell? ⟨w.heap.size,o,none⟩:=fun o=>World.grownBy.cell_far hgr ⟨w.heap.size,o,none⟩ hz2 (fun e=>by have:=(World.ownsRow.lt hu12 _ e.symm).1;simp at this;omega)))
 go_wp2_with fail
 go_ret
 exact⟨_,rfl,hown,hB3⟩
theorem DW (x:ap) (m s:Value) (w:World) (hG:aT w) (ha:aj x.a) (hb:aj x.b) (hv:aj x.val):
 Calls prog 108 #[.agg (x.cells m s)] w (iN w [eZ x.a,eZ x.b,eZ x.val]):=by
 have HG:=aa hG
 have HF:=aa (fun W (hg:aT W)=>oo x.val hv W hg)
 clear hG
 rw[ap.cells_def]
 go_enter func108,ntmps108
 go_wp2_with fail
 go_region_held3 (fun w'=>w'.cell? ⟨w.heap.size,1,none⟩=some (.int .i64 x.a)∧w'.cell? ⟨w.heap.size,2,none⟩=some (.int .i64 x.b)∧w'.cell? ⟨w.heap.size,6,none⟩=some (.int .i64 x.val)) (go_simp)
  (first
    |(go_at_call 109;refine(HF.out _ (HG.out.step hB1)).mono ?_;rintro e w2 ⟨rfl,hb2⟩;have hB2:=ag hB1 hb2;have hz2:w.heap.size<w2.heap.size:=dJ hb2 hz1;have hu12:=hu1.below hb2;obtain⟨hc2,hf2⟩:=ck hb2)
    |(go_at_call 58;refine(jO _ [x.a,x.b] _ (HG.out.step (au (ac (ac (B0 w) _) _))) (aq.of2 (by go_simp) (by go_simp) (by simp) ha hb) (by simp)).mono ?_;rintro e w1 ⟨u1,rfl,hu1,hb1⟩;have hB1:=ag (au (ac (ac (B0 w) _) _)) hb1;have hz1:w.heap.size<w1.heap.size:=dJ hb1 (by simp;omega);obtain⟨hc1,hf1⟩:=ck hb1)
    |(refine oI rfl (.tmp 8) (.tmp 13) rfl w.heap.size u1 _ _ [bs (Lib.itoa x.val)] rfl rfl (jt (hu12.alloc _) (by simp;omega)) (.inr ⟨w2.heap.size,0,1,rfl,fun j s hs=>by
       match j,hs with
       |0,hs=>simp at hs;subst hs;go_simp⟩) (by simp) (ac hB2 _).size ?_;intro v' w3 hown hgr;have hB3:=bo.grown (jt (hu12.alloc _) (by simp;omega)) (ac hB2 _) hgr;have hc3: ∀o,w3.cell? ⟨w.heap.size,o,none⟩=w2.cell? ⟨w.heap.size,o,none⟩:=fun o=>(World.grownBy.cell_far hgr ⟨w.heap.size,o,none⟩ (by simp;omega) (fun e=>by have:=(World.ownsRow.lt hu12 _ e.symm).1;simp at this;omega)).trans (by go_simp)))
 go_wp2_with fail
 go_ret
 exact⟨_,rfl,hown,hB3⟩
theorem DX (x:ap) (m s:Value) (w:World) (hG:aT w) (ha:aj x.a) (hb:aj x.b) (hv:aj x.val) (ho:aj x.old) (h0:0≤x.ok) (h3:x.ok≤3):
 Calls prog 102 #[.agg (x.cells m s)] w (iN w ([eZ x.a,eZ x.b]++gV x)):=by
 have HG:=aa hG
 have HF:=aa (fun W (hg:aT W)=>DD x W hg h0 h3 hv ho)
 have hwl:gV x≠[]∧(gV x).length≤4:=by
  unfold gV
  repeat' split
  all_goals simp
 have HW:=aa hwl
 simp only[mG] at HF
 clear hG hwl h0 h3
 rw[ap.cells_def]
 go_enter func102,ntmps102
 go_wp2_with fail
 go_region_held3 (fun w'=>w'.cell? ⟨w.heap.size,1,none⟩=some (.int .i64 x.a)∧w'.cell? ⟨w.heap.size,2,none⟩=some (.int .i64 x.b)∧w'.cell? ⟨w.heap.size,4,none⟩=some (.int .i64 x.ok)∧w'.cell? ⟨w.heap.size,5,none⟩=some (.string x.key)∧w'.cell? ⟨w.heap.size,6,none⟩=some (.int .i64 x.val)∧w'.cell? ⟨w.heap.size,7,none⟩=some (.int .i64 x.old)) (go_simp)
  (first
    |(go_at_call 103;refine(HF.out _ (HG.out.step hB1)).mono ?_;rintro e w2 ⟨u2,rfl,hu2,hb2⟩;have hB2:=ag hB1 hb2;have hz2:w.heap.size<w2.heap.size:=dJ hb2 hz1;have hu12:=hu1.below hb2;obtain⟨hc2,hf2⟩:=ck hb2)
    |(go_at_call 58;refine(jO _ [x.a,x.b] _ (HG.out.step (au (ac (ac (B0 w) _) _))) (aq.of2 (by go_simp) (by go_simp) (by simp) ha hb) (by simp)).mono ?_;rintro e w1 ⟨u1,rfl,hu1,hb1⟩;have hB1:=ag (au (ac (ac (B0 w) _) _)) hb1;have hz1:w.heap.size<w1.heap.size:=dJ hb1 (by simp;omega);obtain⟨hc1,hf1⟩:=ck hb1)
    |(refine oI rfl (.tmp 8) (.tmp 11) rfl w.heap.size u1 u2 _ (gV x) rfl rfl (jt hu12 (by simp;omega)) (hu2.src HW.out.1) (by have:=HW.out.2;simp;omega) hB2.size ?_;intro v' w3 hown hgr;have hB3:=(jt hu12 (by simp;omega)).grown hB2 hgr;have hc3: ∀o,w3.cell? ⟨w.heap.size,o,none⟩=w2.cell? ⟨w.heap.size,o,none⟩:=fun o=>World.grownBy.cell_far hgr ⟨w.heap.size,o,none⟩ hz2 (fun e=>by have:=(World.ownsRow.lt hu12 _ e.symm).1;simp at this;omega)))
 go_wp2_with fail
 go_ret
 exact⟨_,rfl,hown,hB3⟩
end
section
open Go Tryz
theorem sZ {α:Type} (x:α) (xs:List α) (a:α):(x::xs).set 0 a=a::xs:=rfl
theorem sS {α:Type} (x:α) (xs:List α) (n:Nat) (a:α):(x::xs).set (n+1) a=x::xs.set n a:=rfl
theorem sA {α:Type} (xs:List α) (i:Nat) (a:α):xs.toArray.setIfInBounds i a=(xs.set i a).toArray:=List.setIfInBounds_toArray ..
section
variable {P:Program} {ops:Array Oper} {Q:Exit→Act→World→Prop} {md:Region.Mode} {S:World→Prop}
def eB (md:Region.Mode) (ops:Array Oper) (listed:Array Bool) (i t:Nat):Bool:=
 Region.noSelect ops&&Region.free md ops listed i&&(Region.ready md ops listed).contains i&&match ops[i]? with|some o=>o.dst==some t|none=>false
theorem lC {listed:Array Bool} {i t:Nat} {oi:Oper} (h:eB md ops listed i t=true) (hi:ops[i]? =some oi):Region.noSelect ops=true∧Region.free md ops listed i=true∧(Region.ready md ops listed).contains i=true∧oi.dst=some t:=by
 unfold eB at h
 rw[hi] at h
 simp only[Bool.and_eq_true,beq_iff_eq] at h
 exact⟨h.1.1.1,h.1.1.2,h.1.2,h.2⟩
theorem tA (m s:Nat) {oi:Oper} {v:Value} {fuel:Nat} {listed:Array Bool} {a:Act} {w:World} (hi:ops[m - (fuel+1)]? =some oi) (hk:eB md ops listed (m - (fuel+1)) (s+(m - (fuel+1)))=true)
 (hQ: ∀c a w,Q (.panic c) (a.put (some (s+(m - (fuel+1)))) v) w→Q (.panic c) a w) (hy:Yields P ops oi v a)
 (h:wpAny P md ops Q fuel (listed.setIfInBounds (m - (fuel+1)) true) (a.put (some (s+(m - (fuel+1)))) v) w):wpAny P md ops Q (fuel+1) listed a w:=by
 obtain⟨h1,h2,h3,hd⟩:=lC hk hi
 rw[←hd] at h hQ
 exact wpAny_take hi h1 h2 h3 hQ hy h
theorem tH (m s:Nat) {oi:Oper} {v:Value} {fuel:Nat} {listed:Array Bool} {a:Act} {w:World} (hi:ops[m - (fuel+1)]? =some oi) (hk:eB md ops listed (m - (fuel+1)) (s+(m - (fuel+1)))=true)
 (hQ: ∀c a w,Q (.panic c) (a.put (some (s+(m - (fuel+1)))) v) w→Q (.panic c) a w) (hy:YieldsIf P ops S oi v a) (hS:S w)
 (h:wpAnyH P md ops Q S fuel (listed.setIfInBounds (m - (fuel+1)) true) (a.put (some (s+(m - (fuel+1)))) v) w):wpAnyH P md ops Q S (fuel+1) listed a w:=by
 obtain⟨h1,h2,h3,hd⟩:=lC hk hi
 rw[←hd] at h hQ
 exact wpAnyH_take hi h1 h2 h3 hQ hy hS h
theorem DY (i t:Nat) {oi:Oper} {v:Value} {fuel:Nat} {listed:Array Bool} {a:Act} {w:World} (hi:ops[i]? =some oi) (hk:eB md ops listed i t=true)
 (hQ: ∀c a w,Q (.panic c) (a.put (some t) v) w→Q (.panic c) a w) (hy:Yields P ops oi v a)
 (h:wpAny P md ops Q fuel (listed.setIfInBounds i true) (a.put (some t) v) w):wpAny P md ops Q (fuel+1) listed a w:=by
 obtain⟨h1,h2,h3,hd⟩:=lC hk hi
 rw[←hd] at h hQ
 exact wpAny_take hi h1 h2 h3 hQ hy h
theorem DZ (i t:Nat) {oi:Oper} {v:Value} {fuel:Nat} {listed:Array Bool} {a:Act} {w:World} (hi:ops[i]? =some oi) (hk:eB md ops listed i t=true)
 (hQ: ∀c a w,Q (.panic c) (a.put (some t) v) w→Q (.panic c) a w) (hy:YieldsIf P ops S oi v a) (hS:S w)
 (h:wpAnyH P md ops Q S fuel (listed.setIfInBounds i true) (a.put (some t) v) w):wpAnyH P md ops Q S (fuel+1) listed a w:=by
 obtain⟨h1,h2,h3,hd⟩:=lC hk hi
 rw[←hd] at h hQ
 exact wpAnyH_take hi h1 h2 h3 hQ hy hS h
theorem gA (m s:Nat) {oi:Oper} {v:Value} {fuel:Nat} {listed:Array Bool} {a:Act} {w:World} {p:Prop} (h:p)
 (hi:ops[m - (fuel+1)]? =some oi:=by rfl) (hk:eB md ops listed (m - (fuel+1)) (s+(m - (fuel+1)))=true:=by kernel_rfl)
 (hQ: ∀c a w,Q (.panic c) (a.put (some (s+(m - (fuel+1)))) v) w→Q (.panic c) a w:=by exact fun _ _ _ h=>h) (hy:Yields P ops oi v a:=by(refine Or.inl ⟨by rfl,?_⟩;intro w;go_simp;try with_reducible rfl))
 (hn:p→wpAny P md ops Q fuel (listed.setIfInBounds (m - (fuel+1)) true) (a.put (some (s+(m - (fuel+1)))) v) w:=by(intro hq;simp only[Act.put,sA,sZ,sS,Nat.reduceSub,Nat.reduceAdd];exact hq)):wpAny P md ops Q (fuel+1) listed a w:=
 tA m s hi hk hQ hy (hn h)
theorem kA (m s:Nat) {oi:Oper} {fuel:Nat} {listed:Array Bool} {a:Act} {w:World} {p:Prop} (h:p)
 (hi:ops[m - (fuel+1)]? =some oi:=by rfl) (hk:eB md ops listed (m - (fuel+1)) (s+(m - (fuel+1)))=true:=by kernel_rfl)
 (hQ: ∀c a w,Q (.panic c) (a.put (some (s+(m - (fuel+1)))) undef) w→Q (.panic c) a w:=by exact fun _ _ _ h=>h) (hy:Yields P ops oi undef a:=by exact Or.inr ⟨by rfl,rfl⟩)
 (hn:p→wpAny P md ops Q fuel (listed.setIfInBounds (m - (fuel+1)) true) (a.put (some (s+(m - (fuel+1)))) undef) w:=by(intro hq;simp only[Act.put,sA,sZ,sS,Nat.reduceSub,Nat.reduceAdd];exact hq)):wpAny P md ops Q (fuel+1) listed a w:=
 tA m s hi hk hQ hy (hn h)
theorem dG (i t:Nat) {oi:Oper} {v:Value} {fuel:Nat} {listed:Array Bool} {a:Act} {w:World} {p:Prop} (h:p)
 (hi:ops[i]? =some oi:=by rfl) (hk:eB md ops listed i t=true:=by kernel_rfl)
 (hQ: ∀c a w,Q (.panic c) (a.put (some t) v) w→Q (.panic c) a w:=by exact fun _ _ _ h=>h) (hy:Yields P ops oi v a:=by(refine Or.inl ⟨by rfl,?_⟩;intro w;go_simp;try with_reducible rfl))
 (hn:p→wpAny P md ops Q fuel (listed.setIfInBounds i true) (a.put (some t) v) w:=by(intro hq;simp only[Act.put,sA,sZ,sS];exact hq)):wpAny P md ops Q (fuel+1) listed a w:=
 DY i t hi hk hQ hy (hn h)
theorem gH (m s:Nat) {oi:Oper} {v:Value} {fuel:Nat} {listed:Array Bool} {a:Act} {w:World} {p:Prop} (h:p) (hS:S w:=by exact hS)
 (hi:ops[m - (fuel+1)]? =some oi:=by rfl) (hk:eB md ops listed (m - (fuel+1)) (s+(m - (fuel+1)))=true:=by kernel_rfl)
 (hQ: ∀c a w,Q (.panic c) (a.put (some (s+(m - (fuel+1)))) v) w→Q (.panic c) a w:=by exact fun _ _ _ h=>h) (hy:YieldsIf P ops S oi v a:=by(refine Or.inl ⟨by rfl,?_⟩;intro w hSw;(try have hSw:=HSB.out w hSw);(try dsimp only at hSw);go_simp;try with_reducible rfl))
 (hn:p→wpAnyH P md ops Q S fuel (listed.setIfInBounds (m - (fuel+1)) true) (a.put (some (s+(m - (fuel+1)))) v) w:=by(intro hq;simp only[Act.put,sA,sZ,sS,Nat.reduceSub,Nat.reduceAdd];exact hq)):wpAnyH P md ops Q S (fuel+1) listed a w:=
 tH m s hi hk hQ hy hS (hn h)
theorem kH (m s:Nat) {oi:Oper} {fuel:Nat} {listed:Array Bool} {a:Act} {w:World} {p:Prop} (h:p) (hS:S w:=by exact hS)
 (hi:ops[m - (fuel+1)]? =some oi:=by rfl) (hk:eB md ops listed (m - (fuel+1)) (s+(m - (fuel+1)))=true:=by kernel_rfl)
 (hQ: ∀c a w,Q (.panic c) (a.put (some (s+(m - (fuel+1)))) undef) w→Q (.panic c) a w:=by exact fun _ _ _ h=>h) (hy:YieldsIf P ops S oi undef a:=by exact Or.inr ⟨by rfl,rfl⟩)
 (hn:p→wpAnyH P md ops Q S fuel (listed.setIfInBounds (m - (fuel+1)) true) (a.put (some (s+(m - (fuel+1)))) undef) w:=by(intro hq;simp only[Act.put,sA,sZ,sS,Nat.reduceSub,Nat.reduceAdd];exact hq)):wpAnyH P md ops Q S (fuel+1) listed a w:=
 tH m s hi hk hQ hy hS (hn h)
theorem eC (i t:Nat) {oi:Oper} {v:Value} {fuel:Nat} {listed:Array Bool} {a:Act} {w:World} {p:Prop} (h:p) (hS:S w:=by exact hS)
 (hi:ops[i]? =some oi:=by rfl) (hk:eB md ops listed i t=true:=by kernel_rfl)
 (hQ: ∀c a w,Q (.panic c) (a.put (some t) v) w→Q (.panic c) a w:=by exact fun _ _ _ h=>h) (hy:YieldsIf P ops S oi v a:=by(refine Or.inl ⟨by rfl,?_⟩;intro w hSw;(try have hSw:=HSB.out w hSw);(try dsimp only at hSw);go_simp;try with_reducible rfl))
 (hn:p→wpAnyH P md ops Q S fuel (listed.setIfInBounds i true) (a.put (some t) v) w:=by(intro hq;simp only[Act.put,sA,sZ,sS];exact hq)):wpAnyH P md ops Q S (fuel+1) listed a w:=
 DZ i t hi hk hQ hy hS (hn h)
theorem cA (i:Nat) {o:Oper} {fuel:Nat} {listed:Array Bool} {a:Act} {w:World} (h: ∀K':Act→World→Prop,(∀a w,wpAny P md ops Q fuel (listed.setIfInBounds i true) a w→K' a w)→if Region.wanted o (yielded ops a.tmps)=true then Oper.wp P o a w K' Q else K' (a.put o.dst undef) w)
 (hr:Region.ready md ops listed=[i]:=by kernel_rfl) (ho:ops[i]? =some o:=by rfl):wpAny P md ops Q (fuel+1) listed a w:=wpAny_ready hr (by simp) (AllReady.cons ho h AllReady.nil)
theorem cH (i:Nat) {o:Oper} {fuel:Nat} {listed:Array Bool} {a:Act} {w:World} (h: ∀K':Act→World→Prop,Shut (∀a w,S w→(S w→wpAnyH P md ops Q S fuel (listed.setIfInBounds i true) a w)→K' a w)→if Region.wanted o (yielded ops a.tmps)=true then Oper.wp P o a w K' Q else K' (a.put o.dst undef) w)
 (hr:Region.ready md ops listed=[i]:=by kernel_rfl) (ho:ops[i]? =some o:=by rfl):wpAnyH P md ops Q S (fuel+1) listed a w:=wpAnyH_ready hr (by simp) (AllReadyH.cons ho h AllReadyH.nil)
theorem bA (n:Nat) {id:Nat} {a:Act} {w:World} (h:wpAny P .any ops Q n (Array.replicate n false) a (World.drew w)) (hm:P.follows .mixedOrders=true:=by kernel_rfl) (hn:ops.size=n:=by rfl):(Code.region id ops true).wp P Q a w:=by
 subst hn;exact wp_region_any hm h
theorem bH {S:World→Prop} (n:Nat) {id:Nat} {a:Act} {w:World} (hS:S (World.drew w)) (h:S (World.drew w)→wpAnyH P .any ops Q S n (Array.replicate n false) a (World.drew w)) (hm:P.follows .mixedOrders=true:=by kernel_rfl) (hn:ops.size=n:=by rfl):(Code.region id ops true).wp P Q a w:=by
 subst hn;exact wp_region_held_drew hm hS h
theorem eA {listed:Array Bool} {a:Act} {w:World} {fuel:Nat} (h:Q .normal a w) (hr:Region.ready md ops listed=[]:=by kernel_rfl):wpAny P md ops Q fuel listed a w:=wpAny_done hr h fuel
theorem eH {listed:Array Bool} {a:Act} {w:World} {fuel:Nat} (h:Q .normal a w) (hr:Region.ready md ops listed=[]:=by kernel_rfl):wpAnyH P md ops Q S fuel listed a w:=wpAnyH_done hr h fuel
end
end
section
open Go Go.RowKit Tryz
def aI (w:World) (B:Nat) (v:Value) (l:List ai):Prop:=aL w B v (l.map bs)
theorem aI.below {w w':World} {B B₂:Nat} {v:Value} {l:List ai} (h:aI w B v l) (hb:Below B₂ w w') (hB:B≤B₂):aI w' B v l:=aL.below h hb hB
theorem aI.more {w:World} {B B':Nat} {v:Value} {l:List ai} (h:aI w B v l) (hB:B≤B'):aI w B' v l:=aL.more h hB
theorem aI.nil_ (w:World) (B:Nat):aI w B (.slice none 0 0) []:=Sl.nil_ w B
def cI {α:Type} (R:World→Nat→List Value→α→Prop):Prop:= ∀(w w':World) (B B₂ B':Nat) cs x,R w B cs x→Below B₂ w w'→B≤B₂→B≤B'→R w' B' cs x
def aQ {α:Type} (k:Nat) (R:World→Nat→List Value→α→Prop) (w:World) (B:Nat) (v:Value) (xs:List α):Prop:=
 ∃A c,v= .slice A xs.length c∧xs.length≤c∧c≤maxLen∧
  (xs≠[]→∃b o,A=some ⟨b,o,none⟩∧b<B∧∀(j:Nat) x,xs[j]? =some x→∃cs:List Value,cs.length=k∧R w B cs x∧∀(i:Nat) u,cs[i]? =some u→w.cell? ⟨b,o+j*k+i,none⟩=some u)
section
variable {α:Type} {k:Nat} {R:World→Nat→List Value→α→Prop} {w w':World} {B B' B₂:Nat} {v:Value} {xs:List α}
theorem aQ.nil_ (w:World) (B:Nat):aQ k R w B (.slice none 0 0) []:=⟨none,0,rfl,by simp,by simp[maxLen],fun h=>absurd rfl h⟩
theorem aQ.to (h:aQ k R w B v xs) (hR:cI R) (hb:Below B₂ w w') (hB:B≤B₂) (hB':B≤B'):aQ k R w' B' v xs:=by
 obtain⟨A,c,rfl,h1,h2,h3⟩:=h
 refine⟨A,c,rfl,h1,h2,fun hn=> ?_⟩
 obtain⟨b,o,rfl,hlt,hc⟩:=h3 hn
 refine⟨b,o,rfl,by omega,fun j x hx=> ?_⟩
 obtain⟨cs,h4,h5,h6⟩:=hc j x hx
 exact⟨cs,h4,hR _ _ _ _ _ _ _ h5 hb hB hB',fun i u hu=>(hb.cell (p:=⟨b,_,none⟩) (aF hlt hB)).trans (h6 i u hu)⟩
theorem aQ.below (h:aQ k R w B v xs) (hR:cI R) (hb:Below B₂ w w') (hB:B≤B₂):aQ k R w' B v xs:=h.to hR hb hB (ae _)
theorem aQ.form (h:aQ k R w B v xs): ∃A n c,v= .slice A n c∧xs.length=n∧n≤c∧c≤9223372036854775807:=by
 obtain⟨A,c,rfl,h1,h2,_⟩:=h
 exact⟨A,_,c,rfl,rfl,h1,h2⟩
theorem aQ.at_ {A:Option Addr} {n c:Nat} (h:aQ k R w B (.slice A n c) xs) {j:Nat} {x:α} (hx:xs[j]? =some x):
 ∃b o cs,A=some ⟨b,o,none⟩∧b<B∧cs.length=k∧R w B cs x∧∀(i:Nat) u,cs[i]? =some u→w.cell? ⟨b,o+j*k+i,none⟩=some u:=by
 obtain⟨A',c',he,h1,h2,h3⟩:=h
 injection he with e1 e2 e3
 subst e1
 obtain⟨b,o,hA,hb,hc⟩:=h3 (fun e=>by rw[e] at hx;simp at hx)
 obtain⟨cs,h4,h5,h6⟩:=hc j x hx
 exact⟨b,o,cs,hA,hb,h4,h5,h6⟩
end
def dU (_:World) (_:Nat) (cs:List Value) (t:bU):Prop:=cs=[.int .i64 t.kind,.string (bs t.text),.int .i64 t.n,.int .i64 t.pos]
def fy (w:World) (B:Nat) (cs:List Value) (d:ar):Prop:=
 ∃r n,cs=[.int .i64 d.kind,.string (bs d.name),r,n,.int .i64 d.by_,.bool d.always]∧aI w B r d.refs∧aq w B n (d.nums.map fun x:Nat=>(x:Int))∧d.kind≤1000000∧d.by_≤1000000
def fd (_:World) (_:Nat) (cs:List Value) (x:eN):Prop:=cs=[.string (bs x.name),.int .i64 x.site,.int .i64 x.feed]∧aj x.site∧aj x.feed
def gW (_:World) (_:Nat) (cs:List Value) (x:fR):Prop:=cs=[.string (bs x.name),.int .i64 x.rack,.int .i64 x.cap]∧aj x.rack∧aj x.cap
def fe (_:World) (_:Nat) (cs:List Value) (x:gq):Prop:=cs=[.int .i64 x.a,.int .i64 x.b,.int .i64 x.cap]∧aj x.a∧aj x.b∧aj x.cap
def kg (w:World) (B:Nat) (cs:List Value) (x:bQ):Prop:=
 ∃o,cs=[.string (bs x.name),.int .i64 x.kind,.int .i64 x.count,.int .i64 x.load,.int .i64 x.size,.int .i64 x.share,o]∧aq w B o x.on∧(aj x.kind∧aj x.count∧aj x.load∧aj x.size∧aj x.share)
def kh (w:World) (B:Nat) (cs:List Value) (x:aU):Prop:=
 ∃o,cs=[.int .i64 x.kind,.int .i64 x.item,.int .i64 x.other,.int .i64 x.n,.int .i64 x.by_,.bool x.always,o]∧aq w B o x.ms∧(aj x.kind∧aj x.item∧aj x.other∧aj x.n∧aj x.by_)
theorem dU.ab:cI dU:=fun _ _ _ _ _ _ _ h _ _ _=>h
theorem fd.ab:cI fd:=fun _ _ _ _ _ _ _ h _ _ _=>h
theorem gW.ab:cI gW:=fun _ _ _ _ _ _ _ h _ _ _=>h
theorem fe.ab:cI fe:=fun _ _ _ _ _ _ _ h _ _ _=>h
theorem fy.ab:cI fy:=fun _ _ _ _ _ _ _ ⟨r,n,h1,h2,h3,h4⟩ hb hB hB'=>⟨r,n,h1,(h2.below hb hB).more hB',(h3.below hb hB).more hB',h4⟩
theorem kg.ab:cI kg:=fun _ _ _ _ _ _ _ ⟨o,h1,h2,h3⟩ hb hB hB'=>⟨o,h1,(h2.below hb hB).more hB',h3⟩
theorem kh.ab:cI kh:=fun _ _ _ _ _ _ _ ⟨o,h1,h2,h3⟩ hb hB hB'=>⟨o,h1,(h2.below hb hB).more hB',h3⟩
structure MV where
 s:Value
 f:Value
 r:Value
 m:Value
 l:Value
 i:Value
 u:Value
def aC.cells (m:aC) (v:MV):Array Value:= #[v.s,v.f,v.r,v.m,v.l,v.i,.int .i64 m.dark,.int .i64 m.slots,.int .i64 m.reserve,.int .i64 m.failures,v.u]
theorem aC.cells_def (m:aC) (v:MV):m.cells v= #[v.s,v.f,v.r,v.m,v.l,v.i,.int .i64 m.dark,.int .i64 m.slots,.int .i64 m.reserve,.int .i64 m.failures,v.u]:=rfl
structure aC.In (m:aC) (w:World) (B:Nat) (v:MV):Prop where
 ss:aI w B v.s m.sites
 fs:aI w B v.f m.feeds
 rs:aQ 3 fd w B v.r m.racks
 ms:aQ 3 gW w B v.m m.machs
 ls:aQ 3 fe w B v.l m.links
 is:aQ 7 kg w B v.i m.items
 us:aQ 7 kh w B v.u m.rules
 dark:aj m.dark
 slots:aj m.slots
 reserve:aj m.reserve
 failures:aj m.failures
theorem aC.In.to {m:aC} {w w':World} {B B₂ B':Nat} {v:MV} (h:m.In w B v) (hb:Below B₂ w w') (hB:B≤B₂) (hB':B≤B'):m.In w' B' v:=
 ⟨(h.ss.below hb hB).more hB',(h.fs.below hb hB).more hB',h.rs.to fd.ab hb hB hB',h.ms.to gW.ab hb hB hB',h.ls.to fe.ab hb hB hB',h.is.to kg.ab hb hB hB',h.us.to kh.ab hb hB hB',h.dark,h.slots,h.reserve,h.failures⟩
theorem aN (w:World) (o:Obj):(w.alloc o).heap[w.heap.size]? =some o:=by
 show(w.heap.push o)[w.heap.size]? =_
 exact Array.getElem?_push_size
theorem fV {B b:Nat} {w w':World} {o:Obj} (h:w.heap[b]? =some o) (hb:Below B w w') (hlt:b<B):w'.heap[b]? =some o:=(hb.block b hlt).trans h
theorem ah {b:Nat} {w w':World} {o:Obj} (h:w.heap[b]? =some o) (hb:Below w.heap.size w w'):w'.heap[b]? =some o:=fV h hb (Array.getElem?_eq_some_iff.1 h).1
theorem blk_lt {b:Nat} {w:World} {o:Obj} (h:w.heap[b]? =some o):b<w.heap.size:=(Array.getElem?_eq_some_iff.1 h).1
theorem af {w:World} {b o:Nat} {C:Array Value} {t:TypeId} (h:w.heap[b]? =some (.cells C t (0,0))) {v:Value} (hv:C[o]? =some v):w.cell? ⟨b,o,none⟩=some v:=by
 simp only[World.cell?,h]
 exact hv
theorem aW {w:World} {b:Nat} {C:Array Value} {t:TypeId} (h:w.heap[b]? =some (.cells C t (0,0))) (o:Nat):w.frozen? ⟨b,o,none⟩=false:=by
 simp[World.frozen?,h]
theorem wk {w:World} {b:Nat} {r:List Value} {t:TypeId} {a0 a1 a2:Value} (h:w.heap[b]? =some (.cells (List.toArray (a0::a1::a2::r)) t (0,0))):w.cell? ⟨b,0,none⟩=some a0∧w.cell? ⟨b,1,none⟩=some a1∧w.cell? ⟨b,2,none⟩=some a2:=
 ⟨af h rfl,af h rfl,af h rfl⟩
theorem qS {w:World} {b:Nat} {r:List Value} {t:TypeId} {a0 a1 a2 a3:Value} (h:w.heap[b]? =some (.cells (List.toArray (a0::a1::a2::a3::r)) t (0,0))):w.cell? ⟨b,0,none⟩=some a0∧w.cell? ⟨b,1,none⟩=some a1∧w.cell? ⟨b,2,none⟩=some a2∧w.cell? ⟨b,3,none⟩=some a3:=
 ⟨af h rfl,af h rfl,af h rfl,af h rfl⟩
theorem iq {w:World} {b:Nat} {r:List Value} {t:TypeId} {a0 a1 a2 a3 a4 a5:Value} (h:w.heap[b]? =some (.cells (List.toArray (a0::a1::a2::a3::a4::a5::r)) t (0,0))):w.cell? ⟨b,0,none⟩=some a0∧w.cell? ⟨b,1,none⟩=some a1∧w.cell? ⟨b,2,none⟩=some a2∧w.cell? ⟨b,3,none⟩=some a3∧w.cell? ⟨b,4,none⟩=some a4∧w.cell? ⟨b,5,none⟩=some a5:=
 ⟨af h rfl,af h rfl,af h rfl,af h rfl,af h rfl,af h rfl⟩
theorem cZ {w:World} {b:Nat} {r:List Value} {t:TypeId} {a0 a1 a2 a3 a4 a5 a6:Value} (h:w.heap[b]? =some (.cells (List.toArray (a0::a1::a2::a3::a4::a5::a6::r)) t (0,0))):w.cell? ⟨b,0,none⟩=some a0∧w.cell? ⟨b,1,none⟩=some a1∧w.cell? ⟨b,2,none⟩=some a2∧w.cell? ⟨b,3,none⟩=some a3∧w.cell? ⟨b,4,none⟩=some a4∧w.cell? ⟨b,5,none⟩=some a5∧w.cell? ⟨b,6,none⟩=some a6:=
 ⟨af h rfl,af h rfl,af h rfl,af h rfl,af h rfl,af h rfl,af h rfl⟩
theorem qT {w:World} {b:Nat} {r:List Value} {t:TypeId} {a0 a1 a2 a3 a4 a5 a6 a7:Value} (h:w.heap[b]? =some (.cells (List.toArray (a0::a1::a2::a3::a4::a5::a6::a7::r)) t (0,0))):w.cell? ⟨b,0,none⟩=some a0∧w.cell? ⟨b,1,none⟩=some a1∧w.cell? ⟨b,2,none⟩=some a2∧w.cell? ⟨b,3,none⟩=some a3∧w.cell? ⟨b,4,none⟩=some a4∧w.cell? ⟨b,5,none⟩=some a5∧w.cell? ⟨b,6,none⟩=some a6∧w.cell? ⟨b,7,none⟩=some a7:=
 ⟨af h rfl,af h rfl,af h rfl,af h rfl,af h rfl,af h rfl,af h rfl,af h rfl⟩
theorem D0 {w:World} {b:Nat} {r:List Value} {t:TypeId} {a0 a1 a2 a3 a4 a5 a6 a7 a8 a9:Value} (h:w.heap[b]? =some (.cells (List.toArray (a0::a1::a2::a3::a4::a5::a6::a7::a8::a9::r)) t (0,0))):w.cell? ⟨b,0,none⟩=some a0∧w.cell? ⟨b,1,none⟩=some a1∧w.cell? ⟨b,2,none⟩=some a2∧w.cell? ⟨b,3,none⟩=some a3∧w.cell? ⟨b,4,none⟩=some a4∧w.cell? ⟨b,5,none⟩=some a5∧w.cell? ⟨b,6,none⟩=some a6∧w.cell? ⟨b,7,none⟩=some a7∧w.cell? ⟨b,8,none⟩=some a8∧w.cell? ⟨b,9,none⟩=some a9:=
 ⟨af h rfl,af h rfl,af h rfl,af h rfl,af h rfl,af h rfl,af h rfl,af h rfl,af h rfl,af h rfl⟩
theorem cd {w:World} {b:Nat} {r:List Value} {t:TypeId} {a0 a1 a2 a3 a4 a5 a6 a7 a8 a9 a10:Value} (h:w.heap[b]? =some (.cells (List.toArray (a0::a1::a2::a3::a4::a5::a6::a7::a8::a9::a10::r)) t (0,0))):w.cell? ⟨b,0,none⟩=some a0∧w.cell? ⟨b,1,none⟩=some a1∧w.cell? ⟨b,2,none⟩=some a2∧w.cell? ⟨b,3,none⟩=some a3∧w.cell? ⟨b,4,none⟩=some a4∧w.cell? ⟨b,5,none⟩=some a5∧w.cell? ⟨b,6,none⟩=some a6∧w.cell? ⟨b,7,none⟩=some a7∧w.cell? ⟨b,8,none⟩=some a8∧w.cell? ⟨b,9,none⟩=some a9∧w.cell? ⟨b,10,none⟩=some a10:=
 ⟨af h rfl,af h rfl,af h rfl,af h rfl,af h rfl,af h rfl,af h rfl,af h rfl,af h rfl,af h rfl,af h rfl⟩
theorem mU {w:World} {b:Nat} {r:List Value} {t:TypeId} {a0 a1 a2 a3 a4 a5 a6 a7 a8 a9 a10 a11:Value} (h:w.heap[b]? =some (.cells (List.toArray (a0::a1::a2::a3::a4::a5::a6::a7::a8::a9::a10::a11::r)) t (0,0))):w.cell? ⟨b,0,none⟩=some a0∧w.cell? ⟨b,1,none⟩=some a1∧w.cell? ⟨b,2,none⟩=some a2∧w.cell? ⟨b,3,none⟩=some a3∧w.cell? ⟨b,4,none⟩=some a4∧w.cell? ⟨b,5,none⟩=some a5∧w.cell? ⟨b,6,none⟩=some a6∧w.cell? ⟨b,7,none⟩=some a7∧w.cell? ⟨b,8,none⟩=some a8∧w.cell? ⟨b,9,none⟩=some a9∧w.cell? ⟨b,10,none⟩=some a10∧w.cell? ⟨b,11,none⟩=some a11:=
 ⟨af h rfl,af h rfl,af h rfl,af h rfl,af h rfl,af h rfl,af h rfl,af h rfl,af h rfl,af h rfl,af h rfl,af h rfl⟩
theorem dw {w:World} {b:Nat} {r:List Value} {t:TypeId} {a0 a1 a2 a3 a4 a5 a6 a7 a8 a9 a10 a11 a12 a13:Value} (h:w.heap[b]? =some (.cells (List.toArray (a0::a1::a2::a3::a4::a5::a6::a7::a8::a9::a10::a11::a12::a13::r)) t (0,0))):w.cell? ⟨b,0,none⟩=some a0∧w.cell? ⟨b,1,none⟩=some a1∧w.cell? ⟨b,2,none⟩=some a2∧w.cell? ⟨b,3,none⟩=some a3∧w.cell? ⟨b,4,none⟩=some a4∧w.cell? ⟨b,5,none⟩=some a5∧w.cell? ⟨b,6,none⟩=some a6∧w.cell? ⟨b,7,none⟩=some a7∧w.cell? ⟨b,8,none⟩=some a8∧w.cell? ⟨b,9,none⟩=some a9∧w.cell? ⟨b,10,none⟩=some a10∧w.cell? ⟨b,11,none⟩=some a11∧w.cell? ⟨b,12,none⟩=some a12∧w.cell? ⟨b,13,none⟩=some a13:=
 ⟨af h rfl,af h rfl,af h rfl,af h rfl,af h rfl,af h rfl,af h rfl,af h rfl,af h rfl,af h rfl,af h rfl,af h rfl,af h rfl,af h rfl⟩
theorem iP {w:World} {b:Nat} {C:Array Value} {t:TypeId} (h:w.heap[b]? =some (.cells C t (0,0))):w.frozen? ⟨b,0,none⟩=false∧w.frozen? ⟨b,1,none⟩=false∧w.frozen? ⟨b,2,none⟩=false∧w.frozen? ⟨b,3,none⟩=false:=
 ⟨aW h 0,aW h 1,aW h 2,aW h 3⟩
theorem wl {w:World} {b:Nat} {C:Array Value} {t:TypeId} (h:w.heap[b]? =some (.cells C t (0,0))):w.frozen? ⟨b,0,none⟩=false∧w.frozen? ⟨b,1,none⟩=false∧w.frozen? ⟨b,2,none⟩=false∧w.frozen? ⟨b,3,none⟩=false∧w.frozen? ⟨b,4,none⟩=false∧w.frozen? ⟨b,5,none⟩=false:=
 ⟨aW h 0,aW h 1,aW h 2,aW h 3,aW h 4,aW h 5⟩
theorem jU {w:World} {b:Nat} {C:Array Value} {t:TypeId} (h:w.heap[b]? =some (.cells C t (0,0))):w.frozen? ⟨b,0,none⟩=false∧w.frozen? ⟨b,1,none⟩=false∧w.frozen? ⟨b,2,none⟩=false∧w.frozen? ⟨b,3,none⟩=false∧w.frozen? ⟨b,4,none⟩=false∧w.frozen? ⟨b,5,none⟩=false∧w.frozen? ⟨b,6,none⟩=false:=
 ⟨aW h 0,aW h 1,aW h 2,aW h 3,aW h 4,aW h 5,aW h 6⟩
theorem mV {w:World} {b:Nat} {C:Array Value} {t:TypeId} (h:w.heap[b]? =some (.cells C t (0,0))):w.frozen? ⟨b,0,none⟩=false∧w.frozen? ⟨b,1,none⟩=false∧w.frozen? ⟨b,2,none⟩=false∧w.frozen? ⟨b,3,none⟩=false∧w.frozen? ⟨b,4,none⟩=false∧w.frozen? ⟨b,5,none⟩=false∧w.frozen? ⟨b,6,none⟩=false∧w.frozen? ⟨b,7,none⟩=false∧w.frozen? ⟨b,8,none⟩=false∧w.frozen? ⟨b,9,none⟩=false∧w.frozen? ⟨b,10,none⟩=false:=
 ⟨aW h 0,aW h 1,aW h 2,aW h 3,aW h 4,aW h 5,aW h 6,aW h 7,aW h 8,aW h 9,aW h 10⟩
theorem qU {w:World} {b:Nat} {C:Array Value} {t:TypeId} (h:w.heap[b]? =some (.cells C t (0,0))):w.frozen? ⟨b,0,none⟩=false∧w.frozen? ⟨b,1,none⟩=false∧w.frozen? ⟨b,2,none⟩=false∧w.frozen? ⟨b,3,none⟩=false∧w.frozen? ⟨b,4,none⟩=false∧w.frozen? ⟨b,5,none⟩=false∧w.frozen? ⟨b,6,none⟩=false∧w.frozen? ⟨b,7,none⟩=false∧w.frozen? ⟨b,8,none⟩=false∧w.frozen? ⟨b,9,none⟩=false∧w.frozen? ⟨b,10,none⟩=false∧w.frozen? ⟨b,11,none⟩=false∧w.frozen? ⟨b,12,none⟩=false∧w.frozen? ⟨b,13,none⟩=false:=
 ⟨aW h 0,aW h 1,aW h 2,aW h 3,aW h 4,aW h 5,aW h 6,aW h 7,aW h 8,aW h 9,aW h 10,aW h 11,aW h 12,aW h 13⟩
theorem ws {W w1:World} (hb:Below W.drew.heap.size W.drew w1):(∀b o,b<W.heap.size→w1.cell? ⟨b,o,none⟩=W.cell? ⟨b,o,none⟩)∧(∀b o,b<W.heap.size→w1.frozen? ⟨b,o,none⟩=W.frozen? ⟨b,o,none⟩):=
 ⟨fun b o h=>hb.cell (p:=⟨b,o,none⟩) h,fun b o h=>hb.frozen (p:=⟨b,o,none⟩) h⟩
section
variable {P:Program} {ops:Array Oper} {Q:Exit→Act→World→Prop} {md:Region.Mode}
end
theorem ay {w:World} {b:Nat} {C:Array Value} {t:TypeId} (h:w.heap[b]? =some (.cells C t (0,0))) (o:Nat) (u:Value):(w.setCell ⟨b,o,none⟩ u).heap[b]? =some (.cells (C.setIfInBounds o u) t (0,0)):=by
 simp[World.setCell,Array.getElem?_modify,h]
theorem gz {w:World} {b p o:Nat} {u:Value} {ob:Obj} (h:w.heap[b]? =some ob) (hne: ¬b=p):(w.setCell ⟨p,o,none⟩ u).heap[b]? =some ob:=
 (Below.heap_setCell w ⟨p,o,none⟩ u b (by intro e;exact hne (by rw[e]))).trans h
theorem wt {w:World} {b j p o:Nat} {u:Value} (hne: ¬b=p):(w.setCell ⟨p,o,none⟩ u).cell? ⟨b,j,none⟩=w.cell? ⟨b,j,none⟩:=
 World.cell?_of_block (Below.heap_setCell w ⟨p,o,none⟩ u b (by intro e;exact hne (by rw[e])))
theorem bt {P:Program} {c:Code} {Q:Exit→Act→World→Prop} {a:Act} {W:World} (F:World→Prop) (hF:F W) (h: ∀W0,F W0→Code.wp P c Q a W0):Code.wp P c Q a W:=h W hF
theorem wu {k:Nat}: ∀(rows:List (List Value)),(∀r∈rows,r.length=k)→∀(j i:Nat) r u,rows[j]? =some r→r[i]? =some u→rows.flatten[j*k+i]? =some u
 |[],_,j,i,r,u,h,_=>by simp at h
 |x::rows,hk,0,i,r,u,h,hu=>by
  simp at h
  subst h
  rw[List.flatten_cons,Nat.zero_mul,Nat.zero_add,List.getElem?_append_left (List.getElem?_eq_some_iff.1 hu).1]
  exact hu
 |x::rows,hk,j+1,i,r,u,h,hu=>by
  have hx:=hk x (by simp)
  have ih:=wu rows (fun y hy=>hk y (by simp[hy])) j i r u (by simpa using h) hu
  rw[List.flatten_cons,List.getElem?_append_right (by rw[hx,Nat.add_mul];omega),hx]
  have:(j+1)*k+i - k=j*k+i:=by rw[Nat.add_mul];omega
  rw[this]
  exact ih
theorem aQ.of_own {α:Type} {R:World→Nat→List Value→α→Prop} {w:World} {base:Nat} {e:TypeId} {k:Nat} {v:Value} {xs:List α} (rows:List (List Value)) (hk: ∀r∈rows,r.length=k) (hl:rows.length=xs.length)
 (h:w.ownsRow base e k v xs.length rows.flatten) (hR: ∀(j:Nat) r x,rows[j]? =some r→xs[j]? =some x→R w w.heap.size r x):aQ k R w w.heap.size v xs:=by
 by_cases hn:0<xs.length
 ·obtain⟨g,cap,hv,_,hlt⟩:=h.form hn
  have hc:xs.length≤cap∧cap≤maxLen:=by
   exact uV
  subst hv
  refine⟨_,cap,rfl,hc.1,hc.2,fun _=>⟨g,0,rfl,hlt,fun j x hx=> ?_⟩⟩
  have hj:j<rows.length:=by rw[hl];exact(List.getElem?_eq_some_iff.1 hx).1
  refine⟨rows[j],hk _ (List.getElem_mem hj),hR j _ x (List.getElem?_eq_getElem hj) hx,fun i u hu=> ?_⟩
  have hf:=wu rows hk j i _ u (List.getElem?_eq_getElem hj) hu
  have:=h.cells (g:=g) rfl (j*k+i) u hf
  rw[Nat.zero_add]
  generalize j*k+i=m at this
  by_cases h0:m=0
  ·subst h0
   simpa[Addr.add] using this
  ·simpa[Addr.add,h0] using this
 ·have h0:xs=[]:=List.eq_nil_of_length_eq_zero (by omega)
  subst h0
  rcases h.2 with ⟨rfl,_⟩|⟨g,cap,_,rfl,_,_,h1,h2,_⟩
  ·exact aQ.nil_ _ _
  ·exact⟨_,cap,rfl,by simp,h2,fun h=>absurd rfl h⟩
theorem cB {w w':World} {base:Nat} {e:TypeId} {size:Nat} {v:Value} {n:Nat} {xs:List Value} (h:w.ownsRow base e size v n xs) (hb:Below w.heap.size w w'):w'.ownsRow base e size v n xs:=by
 refine⟨h.1,?_⟩
 rcases h.2 with hn|⟨g,cap,cur,h1,h2,h3,h4⟩
 ·exact .inl hn
 ·exact .inr ⟨g,cap,cur,h1,h2,ah h3 hb,h4⟩
theorem dM {w:World} {base:Nat} {e:TypeId} {size:Nat} {v:Value} {n:Nat} {xs:List Value} (h:w.ownsRow base e size v n xs) {p:Nat} (hp: ∀k,v.ownBlock=some k→¬k=p) (o:Nat) (u:Value):(w.setCell ⟨p,o,none⟩ u).ownsRow base e size v n xs:=by
 refine⟨h.1,?_⟩
 rcases h.2 with hn|⟨g,cap,cur,h1,h2,h3,h4⟩
 ·exact .inl hn
 ·exact .inr ⟨g,cap,cur,h1,h2,gz h3 (hp g (by rw[h1];rfl)),h4⟩
theorem ir {a w w':World} {base:Nat} {e:TypeId} {size:Nat} {v:Value} {n:Nat} {xs:List Value} (h:w.ownsRow base e size v n xs) (hb:Below a.heap.size a w) (hB:a.heap.size≤base) (hg:w.grownBy w' v.ownBlock):Below a.heap.size a w':=
 hb.grown hg hb.size fun k hk=>aP hB (World.ownsRow.lt h k hk).1
theorem eD {w w':World} {v:Value} {b:Nat} {o:Obj} (h:w.heap[b]? =some o) (hg:w.grownBy w' v.ownBlock) (hne: ∀k,v.ownBlock=some k→¬b=k):w'.heap[b]? =some o:=
 (hg.block b (blk_lt h) (fun e=>hne b e.symm rfl)).trans h
theorem eE {w:World} {C:List Value} {t:TypeId} {g:Nat} (hg:g=w.heap.size): ∀(j:Nat) u,C[j]? =some u→(w.alloc (.cells C.toArray t)).cell? ((⟨g,0,none⟩:Addr).add j)=some u:=by
 subst hg
 intro j u hu
 have h:(w.alloc (.cells C.toArray t)).cell? ⟨w.heap.size,j,none⟩=some u:=af (aN w _) (by simpa using hu)
 by_cases h0:j=0
 ·subst h0;simpa[Addr.add] using h
 ·simpa[Addr.add,h0] using h
end
section
open Go Go.RowKit Go.MapKept Go.ChangeMaps Tryz
def eF (s:ByteArray):Option Int:=
 if s=bs [103,101,116] then some 0 else if s=bs [112,117,116] then some 1 else if s=bs [99,97,115] then some 2 else if s=bs [97,100,100] then some 3 else none
def gX (n:Nat) (f:Nat→ByteArray):Option Int→Option (Int×ByteArray×Int×Int)
 |none=>none
 |some k=>
  if k=0 then(if n=2 then some (0,f 1,0,0) else none)
  else if k=2 then(if n=4 then(bg (f 2)).bind fun o=>(bg (f 3)).map fun v=>(2,f 1,v,o) else none)
  else(if n=3 then(bg (f 2)).map fun v=>(k,f 1,v,0) else none)
def gY (l:List ByteArray):Option (Int×ByteArray×Int×Int):=
 match eF (aE l 0) with
 |none=>none
 |some k=>
  if k=0 then(if l.length=2 then some (0,aE l 1,0,0) else none)
  else if k=2 then(if l.length=4 then(bg (aE l 2)).bind fun o=>(bg (aE l 3)).map fun v=>(2,aE l 1,v,o) else none)
  else(if l.length=3 then(bg (aE l 2)).map fun v=>(k,aE l 1,v,0) else none)
theorem D3 (l:List ByteArray):gY l=gX l.length (aE l) (eF (aE l 0)):=by
 unfold gY
 cases eF (aE l 0)<;>rfl
def dH (r:Int×ByteArray×Int×Int):Value:= .agg #[.int .i64 r.1,.string r.2.1,.int .i64 r.2.2.1,.int .i64 r.2.2.2]
def fJ (w:World) (p:Option (Int×ByteArray×Int×Int)) (e:Ending) (w':World):Prop:=
 Below w.heap.size w w'∧∃r,e= .returned (.tuple #[dH r,.bool p.isSome])∧∀q,p=some q→q=r
theorem fJ.mk {w w':World} {p:Option (Int×ByteArray×Int×Int)} {e:Ending} (r:Int×ByteArray×Int×Int) (b:Bool) (he:e= .returned (.tuple #[dH r,.bool b])) (hb:Below w.heap.size w w') (h1:p.isSome=b) (h2: ∀q,p=some q→q=r):fJ w p e w':=
 ⟨hb,r,by rw[he,h1],h2⟩
theorem gB {s:ByteArray}:IsKey .string (.string s):=trivial
def iQ:List (Value×Value):=[(.string (bs [103,101,116]),.int .i64 0),(.string (bs [112,117,116]),.int .i64 1),(.string (bs [99,97,115]),.int .i64 2),(.string (bs [97,100,100]),.int .i64 3)]
theorem D4: ∀p∈iQ,IsKey .string p.1:=by simp[iQ,gB]
theorem wv {s:ByteArray} {k:Int} (h:eF s=some k):(∀p∈iQ,p.1= .string s→p.2= .int .i64 k)∧∃p∈iQ,p.1= .string s:=by
 unfold eF at h
 repeat' split at h
 all_goals first|(cases h;done)|(subst s;injection h with h;subst h;refine⟨?_,by simp[iQ]⟩;simp[iQ,bs])
theorem D5 {s:ByteArray} (h:eF s=none): ∀p∈iQ,IsKey .string p.1∧p.1≠ .string s:=by
 unfold eF at h
 repeat (split at h;cases h)
 rename_i h1 h2 h3 h4
 simp only[iQ,List.mem_cons,List.not_mem_nil,or_false]
 rintro p (rfl|rfl|rfl|rfl)<;>refine⟨trivial,fun e=> ?_⟩<;>simp only[Value.string.injEq] at e<;>exact absurd e.symm (by assumption)
theorem D6 (w:World):(zeroValue 3).run prog w= .ok (.int .i64 0) w:=by
 kernel_rfl
theorem cM.trans {w w1 w2:World} {b:Nat} (h:cM w w1 b) (k:cM w1 w2 b):cM w w2 b:=
 ⟨fun B w0 hB hle=>k.1 B w0 (h.1 B w0 hB hle) hle,k.2.1.trans h.2.1,fun i hi=>(k.2.2 i hi).trans (h.2.2 i hi)⟩
section
variable {ops:Array Oper} {Q:Exit→Act→World→Prop} {o:Oper} {rest:List Oper} {a:Act} {w:World}
theorem D7 (hg:o.guard=none) (m x:Operand) (hop:o.op=Op.lookup 220 m x true) (b:Nat) (hm:a.eval m= .map (some b)) (hb:bG w b iQ) (s:ByteArray) (hx:a.eval x= .string s) {k:Option Int} (hk:eF s=k)
 (hK:wpList prog ops Q rest (a.put o.dst (.tuple #[.int .i64 (k.getD 0),.bool k.isSome])) w):wpList prog ops Q (o::rest) a w:=by
 cases k with
 |none=>exact Dv _ hg m x _ true hop _ _ _ underlying220 underlying9 b _ hm hb (.string s) (.int .i64 0) hx gB (D5 hk) (D6 _) hK
 |some k=>exact vR _ hg m x _ true hop _ _ _ underlying220 underlying9 b _ hm hb (.string s) (.int .i64 k) hx gB D4 (wv hk).1 (wv hk).2 hK
theorem oJ (hg:o.guard=none) (m:Operand) (s:ByteArray) (n:Int) (hop:o.op=Op.insert 220 m (.const (.string s)) (.const (.int .i64 n))) (b:Nat) (l:List (Value×Value)) (hm:a.eval m= .map (some b)) (hb:bG w b l) (hkeys: ∀p∈l,IsKey .string p.1∧p.1≠ .string s)
 (hK: ∀w',bG w' b (l++[(.string s,.int .i64 n)])→cM w w' b→wpList prog ops Q rest (a.put o.dst undef) w'):wpList prog ops Q (o::rest) a w:=
 gS _ hg m _ _ _ (.inr hop) _ _ _ underlying220 underlying9 b l hm hb (.string s) (.int .i64 n) rfl rfl gB hkeys hK
end
theorem lD {W:World} {b:Nat} {a0 a1 a2 a3:Value} {t:TypeId} (h:W.heap[b]? =some (.cells #[a0,a1,a2,a3] t (0,0))):(W.cell? ⟨b,0,none⟩=some a0∧W.cell? ⟨b,1,none⟩=some a1∧W.cell? ⟨b,2,none⟩=some a2∧W.cell? ⟨b,3,none⟩=some a3)∧
 W.frozen? ⟨b,0,none⟩=false∧W.frozen? ⟨b,1,none⟩=false∧W.frozen? ⟨b,2,none⟩=false∧W.frozen? ⟨b,3,none⟩=false:=by
 simp[World.cell?,World.frozen?,h]
theorem D8 (v:Value) (l:List ByteArray) (w:World) (h:aL w w.heap.size v l) (hn2:l.length<2):
 Calls prog 101 #[v] w fun e w'=>Below w.heap.size w w'∧∃r,e= .returned (.tuple #[dH r,.bool false]):=by
 obtain⟨A,n,c,rfl,hl,hc,hm⟩:=h.form
 have g1:((n:Int)<2):=by omega
 clear h hl hc hm hn2
 go_enter func101,ntmps101
 go_wp2_with fail
 refine bodyPost_ret (v:= .tuple #[dH (0,bs [],0,0),.bool false]) (by simp[results,results101,go_sem];try rfl) rfl ?_
 exact⟨ac (B0 w) _,_,rfl⟩
theorem D9 (v:Value) (l:List ByteArray) (w:World) (hG:aT w) (h:aL w w.heap.size v l) (hsz: ∀s∈l,s.size≤1000000) (hn2:2≤l.length):
 Calls prog 101 #[v] w (fJ w (gY l)):=by
 obtain⟨A,n,c,rfl,hl,hc,hm⟩:=h.form
 obtain⟨bl,ol,rfl,hbl,hcell⟩:=h.at_ 0 (by omega)
 obtain⟨k,hk⟩: ∃q,eF (aE l 0)=q:=⟨_,rfl⟩
 rw[D3,hk,hl]
 have HC:=aa hcell;have HK:=aa hk;have HG:=aa hG;have HSZ:=aa hsz;have HN:=aa hl;have HBl:=aa hbl
 have g1: ¬((n:Int)<2):=by omega
 have i0:(0:Int)<n:=by omega
 have i1:(1:Int)<n:=by omega
 refine fU fun hmm=> ?_
 have hL0: ∀o,bG ((w.alloc o).alloc (.map #[] 0)) (w.heap.size+1) []:=fun o=>by have:=bG.made (w.alloc o);simpa using this
 obtain⟨P,hP⟩: ∃q,gX n (aE l) k=q:=⟨_,rfl⟩
 have HP:=aa hP
 rw[hP]
 clear hcell hk hG hsz hl h hP
 go_enter func101,ntmps101
 go_upto_region 5 with (first
  |(refine oJ rfl (.tmp 14) _ 0 rfl (w.heap.size+1) _ rfl (hL0 _) (by simp) ?_;intro w1 hL1 hT1)
  |(refine oJ rfl (.tmp 14) _ 1 rfl (w.heap.size+1) _ rfl hL1 (by simp[gB]) ?_;intro w2 hL2 hT2)
  |(refine oJ rfl (.tmp 14) _ 2 rfl (w.heap.size+1) _ rfl hL2 (by simp[gB]) ?_;intro w3 hL3 hT3)
  |(refine oJ rfl (.tmp 14) _ 3 rfl (w.heap.size+1) _ rfl hL3 (by simp[gB]) ?_;intro w4 hL4 hT4
    have hT:=hT1.trans (hT2.trans (hT3.trans hT4))
    have hL:bG w4 (w.heap.size+1) iQ:=hL4
    have z4:w4.heap.size=w.heap.size+2:=by rw[hT.2.1];simp
    have hB4:Below w.heap.size w w4:=hT.1 _ _ (ac (ac (B0 w) _) _) (by omega)
    have e0:w4.cell? ⟨bl,ol,none⟩=some (.string (aE l 0)):=(hB4.cell (p:=⟨bl,ol,none⟩) hbl).trans (HC.out 0 (by omega))
    have e1:w4.cell? ⟨bl,ol+1,none⟩=some (.string (aE l 1)):=(hB4.cell (p:=⟨bl,ol+1,none⟩) hbl).trans (HC.out 1 (by omega))
    have r4:w4.heap[w.heap.size]? =some (.cells #[.int .i64 0,.string {data:= #[]},.int .i64 0,.int .i64 0] 43 (0,0)):=by rw[hT.2.2 _ (by omega),(ac (B0 (w.alloc _)) _).block _ (by simp),heap_alloc_new]
    have HR4:=aa r4;have HB4:=aa hB4;have HZ4:=aa z4
    clear hL1 hL2 hL3 hL4 hT1 hT2 hT3 hT4 hL0 hT r4 hB4 z4)
  |(refine D7 rfl (.tmp 15) (.tmp 18) rfl (w.heap.size+1) rfl hL (aE l 0) rfl HK.out ?_))
 refine bt (fun W=>Below w.heap.size w W∧W.heap[w.heap.size]? =some (.cells #[.int .i64 0,.string {data:= #[]},.int .i64 0,.int .i64 0] 43 (0,0))∧W.heap[w4.heap.size]? =some (.cells #[.int .i64 (k.getD 0),.string (aE l 1),.int .i64 0,.int .i64 0] 43 (0,0))∧w.heap.size<w4.heap.size) ⟨ac HB4.out _,ah HR4.out (ac (B0 _) _),aN _ _,blk_lt HR4.out⟩ ?_
 intro w5 ⟨hB5,hR5,hO5,hz5⟩
 generalize w4.heap.size=ob at hO5 hz5⊢
 obtain⟨⟨d0,d1,d2,d3⟩,f0,f1,f2,f3⟩:=lD hR5
 have HB5:=aa hB5;have HR5:=aa hR5;have HO5:=aa hO5
 clear hB5 hR5 hO5 hL e0 e1 HR4 HB4 HZ4 hmm i0 i1
 cases k with
 |none=>
  go_wp2_with fail
  refine bodyPost_ret (v:= .tuple #[dH (0,bs [],0,0),.bool false]) (by simp[results,results101,go_sem,dH, *];try rfl) rfl ?_
  exact fJ.mk (0,bs [],0,0) false rfl (aR (aR (aR (aR HB5.out (ae _) _) (ae _) _) (ae _) _) (ae _) _) (by rw[←HP.out];rfl) (by rw[←HP.out];intro q hq;cases hq)
 |some k=>
  simp only[Option.getD_some,Option.isSome_some] at HO5⊢
  obtain⟨⟨o0,o1,o2,o3⟩,_⟩:=lD HO5.out
  by_cases k0:k=0
  ·subst k0
   by_cases n2:n=2
   ·subst n2
    have hx:gX 2 (aE l) (some 0)=some (0,aE l 1,0,0):=rfl
    go_wp2_with fail
    refine bodyPost_ret (v:= .tuple #[dH (0,aE l 1,0,0),.bool true]) (by simp[results,results101,go_sem,dH, *]) rfl ?_
    exact fJ.mk (0,aE l 1,0,0) true rfl (aR (aR (aR (aR HB5.out (ae _) _) (ae _) _) (ae _) _) (ae _) _) (by rw[←HP.out,hx];rfl) (by rw[←HP.out,hx];intro q hq;injection hq with hq;exact hq.symm)
   ·have g2:((n:Int)==2)=false:=by simp;omega
    have hx:gX n (aE l) (some 0)=none:=by simp[gX,n2]
    go_wp2_with fail
    refine bodyPost_ret (v:= .tuple #[dH (0,aE l 1,0,0),.bool false]) (by simp[results,results101,go_sem,dH, *]) rfl ?_
    exact fJ.mk (0,aE l 1,0,0) false rfl (aR (aR (aR (aR HB5.out (ae _) _) (ae _) _) (ae _) _) (ae _) _) (by rw[←HP.out,hx];rfl) (by rw[←HP.out,hx];intro q hq;cases hq)
  ·have e0:(k==0)=false:=by simp[k0]
   by_cases k2:k=2
   ·subst k2
    by_cases n4:n=4
    ·subst n4
     have c2:w5.cell? ⟨bl,ol+2,none⟩=some (.string (aE l 2)):=(HB5.out.cell (p:=⟨bl,ol+2,none⟩) HBl.out).trans (HC.out 2 (by omega))
     obtain⟨b2,hb2⟩: ∃q,(bg (aE l 2)).isSome=q:=⟨_,rfl⟩
     obtain⟨b3,hb3⟩: ∃q,(bg (aE l 3)).isSome=q:=⟨_,rfl⟩
     have H2:=aa hb2;have H3:=aa hb3
     have hx:gX 4 (aE l) (some 2)=(bg (aE l 2)).bind fun o=>(bg (aE l 3)).map fun v=>(2,aE l 1,v,o):=rfl
     have HX:=aa hx
     clear hb2 hb3 hx k0
     cases b2 with
     |false=>
      go_wp2_with(first
       |(go_at_call_of 107 (Value.string (aE l 2))
         refine ww ?_
         rintro e w6 ⟨hg,u2,hb,he,hu2⟩
         rw[H2.out] at he
         subst he
         refine qV fun HU2 HB6 hr d0 d1 d2 d3 f0 f1 f2 f3 o0 o1 o2 o3=> ?_
         have HR6:=aa hr;have HO6:=aa hb
         have c3:w6.cell? ⟨bl,ol+3,none⟩=some (.string (aE l 3)):=(HB6.out.cell (p:=⟨bl,ol+3,none⟩) HBl.out).trans (HC.out 3 (by omega))
         clear hg hb hr hu2))
      refine bodyPost_ret (v:= .tuple #[dH (2,aE l 1,0,u2),.bool false]) (by simp[results,results101,go_sem,dH, *]) rfl ?_
      exact fJ.mk (2,aE l 1,0,u2) false rfl (aR (aR (aR (aR HB6.out (ae _) _) (ae _) _) (ae _) _) (ae _) _) (by rw[←HP.out,HX.out,show bg (aE l 2)=none from Option.isNone_iff_eq_none.1 (by have h:=H2.out;simpa using h)];rfl) (by rw[←HP.out,HX.out,show bg (aE l 2)=none from Option.isNone_iff_eq_none.1 (by have h:=H2.out;simpa using h)];intro q hq;cases hq)
     |true=>
      go_wp2_with(first
       |(go_at_call_of 107 (Value.string (aE l 2))
         refine ww ?_
         rintro e w6 ⟨hg,u2,hb,he,hu2⟩
         rw[H2.out] at he
         subst he
         refine qV fun HU2 HB6 hr d0 d1 d2 d3 f0 f1 f2 f3 o0 o1 o2 o3=> ?_
         have HR6:=aa hr;have HO6:=aa hb
         have c3:w6.cell? ⟨bl,ol+3,none⟩=some (.string (aE l 3)):=(HB6.out.cell (p:=⟨bl,ol+3,none⟩) HBl.out).trans (HC.out 3 (by omega))
         clear hg hb hr hu2)
       |(go_at_call_of 107 (Value.string (aE l 3))
         refine(oB (aE l 3) ob 2 43 #[.int .i64 2,.string (aE l 1),.int .i64 0,.int .i64 u2] _ (HG.out.step HB6.out) (HSZ.out _ (jp (by rw[HN.out];omega))) (by have:=HG.out.size;omega) HO6.out (by simp)).mono ?_
         rintro e w7 ⟨hg,u3,hb,he,hu3⟩
         rw[H3.out] at he
         subst he
         have HU3:=aa hu3
         have HB7:Hid (Below w.heap.size w w7):=HB6.out.grown hg (by have:=HB6.out.size;omega) (fun k hk=>by injection hk with hk;omega)
         have hr:=(hg.block _ (by have:=blk_lt HR6.out;omega) (by intro e;injection e with e;omega)).trans HR6.out
         obtain⟨⟨d0,d1,d2,d3⟩,f0,f1,f2,f3⟩:=lD hr
         obtain⟨⟨o0,o1,o2,o3⟩,_⟩:=lD hb
         have HR7:=aa hr;have HO7:=aa hb
         clear hg hb hr hu3))
      refine bodyPost_ret (v:= .tuple #[dH (2,aE l 1,u3,u2),.bool b3]) (by simp[results,results101,go_sem,dH, *]) rfl ?_
      exact fJ.mk (2,aE l 1,u3,u2) b3 rfl (aR (aR (aR (aR HB7.out (ae _) _) (ae _) _) (ae _) _) (ae _) _) (by rw[←HP.out,HX.out];obtain⟨o,ho⟩:=Option.isSome_iff_exists.1 H2.out;rw[ho,Option.bind_some,Option.isSome_map,H3.out]) (by rw[←HP.out,HX.out];intro q hq;obtain⟨o,ho,hq⟩:=Option.bind_eq_some_iff.1 hq;obtain⟨y,hy,rfl⟩:=Option.map_eq_some_iff.1 hq;rw[HU2.out _ ho,HU3.out _ hy])
    ·have g2:((n:Int)==4)=false:=by simp;omega
     have hx:gX n (aE l) (some 2)=none:=by simp[gX,n4]
     go_wp2_with fail
     refine bodyPost_ret (v:= .tuple #[dH (2,aE l 1,0,0),.bool false]) (by simp[results,results101,go_sem,dH, *]) rfl ?_
     exact fJ.mk (2,aE l 1,0,0) false rfl (aR (aR (aR (aR HB5.out (ae _) _) (ae _) _) (ae _) _) (ae _) _) (by rw[←HP.out,hx];rfl) (by rw[←HP.out,hx];intro q hq;cases hq)
   ·have e2:(k==2)=false:=by simp[k2]
    by_cases n3:n=3
    ·subst n3
     have c2:w5.cell? ⟨bl,ol+2,none⟩=some (.string (aE l 2)):=(HB5.out.cell (p:=⟨bl,ol+2,none⟩) HBl.out).trans (HC.out 2 (by omega))
     obtain⟨b2,hb2⟩: ∃q,(bg (aE l 2)).isSome=q:=⟨_,rfl⟩
     have H2:=aa hb2
     have HX:=aa (show gX 3 (aE l) (some k)=(bg (aE l 2)).map fun v=>(k,aE l 1,v,0) by simp[gX,k0,k2])
     clear hb2 k0 k2
     go_wp2_with(first
      |(go_at_call_of 107 (Value.string (aE l 2))
        refine(oB (aE l 2) ob 2 43 #[.int .i64 k,.string (aE l 1),.int .i64 0,.int .i64 0] _ (HG.out.step HB5.out) (HSZ.out _ (jp (by rw[HN.out];omega))) (by have:=HG.out.size;omega) HO5.out (by simp)).mono ?_
        rintro e w6 ⟨hg,u2,hb,he,hu2⟩
        rw[H2.out] at he
        subst he
        refine qV fun HU2 HB6 hr d0 d1 d2 d3 f0 f1 f2 f3 o0 o1 o2 o3=> ?_
        have HR6:=aa hr;have HO6:=aa hb
        clear hg hb hr hu2))
     refine bodyPost_ret (v:= .tuple #[dH (k,aE l 1,u2,0),.bool b2]) (by simp[results,results101,go_sem,dH, *]) rfl ?_
     exact fJ.mk (k,aE l 1,u2,0) b2 rfl (aR (aR (aR (aR HB6.out (ae _) _) (ae _) _) (ae _) _) (ae _) _) (by rw[←HP.out,HX.out,Option.isSome_map,H2.out]) (by rw[←HP.out,HX.out];intro q hq;obtain⟨y,hy,rfl⟩:=Option.map_eq_some_iff.1 hq;rw[HU2.out _ hy])
    ·have g2:((n:Int)==3)=false:=by simp;omega
     have hx:gX n (aE l) (some k)=none:=by simp[gX,k0,k2,n3]
     clear k0 k2
     go_wp2_with fail
     refine bodyPost_ret (v:= .tuple #[dH (k,aE l 1,0,0),.bool false]) (by simp[results,results101,go_sem,dH, *]) rfl ?_
     exact fJ.mk (k,aE l 1,0,0) false rfl (aR (aR (aR (aR HB5.out (ae _) _) (ae _) _) (ae _) _) (ae _) _) (by rw[←HP.out,hx];rfl) (by rw[←HP.out,hx];intro q hq;cases hq)
theorem wy (v:Value) (l:List ByteArray) (w:World) (hG:aT w) (h:aL w w.heap.size v l) (hsz: ∀s∈l,s.size≤1000000):
 Calls prog 101 #[v] w (fJ w (if l.length<2 then none else gY l)):=by
 by_cases hn2:l.length<2
 ·rw[if_pos hn2]
  exact(D8 v l w h hn2).mono fun e w' ⟨hb,r,he⟩=>⟨hb,r,he,fun q hq=>by cases hq⟩
 ·rw[if_neg hn2]
  exact D9 v l w hG h hsz (by omega)
end
end Go.Proofs.YthnkonlbfogkgaaGreatDoor
