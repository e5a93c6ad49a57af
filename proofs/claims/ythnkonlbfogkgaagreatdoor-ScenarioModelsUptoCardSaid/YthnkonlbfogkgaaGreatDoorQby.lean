/- A part of the proof. -/
import Derived.Test.YthnkonlbfogkgaaGreatDoorQbx
import Derived.Test.YthnkonlbfogkgaaGreatDoorRows
import Derived.Test.YthnkonlbfogkgaaGreatDoorCards
import Derived.Test.YthnkonlbfogkgaaGreatDoorTie
set_option linter.unusedVariables false
set_option linter.unusedSimpArgs false
set_option maxRecDepth 100000
set_option maxHeartbeats 32000000
namespace Go.Proofs.YthnkonlbfogkgaaGreatDoor
section
open Go Go.RowKit Go.ChangeShapes Go.WideShapes Go.ChangeAt Go.Proofs.Tryz
open Go.ChangeMaps (open_string shut_string)
theorem NP:Tryz.prog.globalNamed "internal/strconv.uint64pow10" =some 1:=by kernel_rfl
theorem NQ:(Tryz.prog.globals[1]?).map (·.type)=some 304:=by kernel_rfl
theorem CC:Tryz.prog.globalNamed "strconv.ErrRange" =some 6:=by kernel_rfl
theorem NR:(Tryz.prog.globals[6]?).map (·.type)=some 118:=by kernel_rfl
theorem CD:Tryz.prog.globalNamed "strconv.ErrSyntax" =some 5:=by kernel_rfl
theorem NS:(Tryz.prog.globals[5]?).map (·.type)=some 118:=by kernel_rfl
theorem NT:Tryz.prog.globalNamed "strings.asciiSpace" =some 2:=by kernel_rfl
theorem NU:(Tryz.prog.globals[2]?).map (·.type)=some 326:=by kernel_rfl
theorem CE:Tryz.prog.cellsOf 9=1:=by kernel_rfl
theorem CG:Tryz.prog.cellsOf 351=1:=by kernel_rfl
theorem NV:Tryz.prog.cellsOf 274=1:=by kernel_rfl
theorem NW:Tryz.prog.cellsOf 304=20:=by kernel_rfl
theorem NX:Tryz.prog.cellsOf 5=1:=by kernel_rfl
theorem NY:Tryz.prog.cellsOf 326=256:=by kernel_rfl
theorem NZ:Tryz.prog.cellsOf 3=1:=by kernel_rfl
theorem CH: "*" ++ "errors.errorString" = "*errors.errorString" :=by decide
theorem CI (u:TypeId) (h:Tryz.prog.typeName? 3 u=some "*errors.errorString"):u=349:=
 typeName_ptr_named (nm:= "errors.errorString") (by rw[CH];kernel_rfl) (by kernel_rfl) (by decide) u (by rw[CH];exact h)
theorem N0 {W:World} (h:laidMetH prog Rows.scenarioModelsUptoRow.laid W) (hsh:W.ShapedOpen prog):bY W:=by
 rw[MakeChecks.laidMetH_plain _ _ _ (by kernel_rfl)] at h
 have h3:=laidMet.tail (laidMet.tail h)
 have h5:=laidMet.tail (laidMet.tail h3)
 have h6:=laidMet.tail h5
 have h8:=laidMet.tail (laidMet.tail h6)
 have hT:Lib.TabIs prog W "internal/strconv.uint64pow10" .u64 Lib.pow10Tab:=Lib.tabIs_of_head NP NQ underlying304 underlying274 NV NW h3
 have hS:Lib.TabIs prog W "strings.asciiSpace" .u8 Lib.asciiSpaceTab:=Lib.tabIs_of_head NT NU underlying326 underlying5 NX NY h8
 obtain⟨a1,s1,hv1,_⟩:=laid_sentinel h5 CC NR underlying118 CI underlying349 underlying351 rfl rfl underlying9 CG CE
 obtain⟨a2,s2,hv2,_⟩:=laid_sentinel h6 CD NS underlying118 CI underlying349 underlying351 rfl rfl underlying9 CG CE
 have hmost: ∃m,W.cell? ⟨0,0,none⟩=some (.int .i64 m):=cell_of_shapedOpen_int hsh (by decide+kernel) (zero:= #[.int .i64 0]) (t:=3) (by kernel_rfl) rfl (by kernel_rfl) (by kernel_rfl) underlying3
 have h7:9<W.heap.size:=by
  obtain⟨ps,⟨g,t,cs,fuel,p,q,hg,ht,hv,_⟩,_⟩:=laidMet.tail h
  obtain rfl:=Option.some.inj ((show Tryz.prog.globalNamed "math/bits.deBruijn64tab" =some 9 by kernel_rfl).symm.trans hg)
  unfold World.var? at hv
  rw[hg] at hv
  simp only[Option.bind_some] at hv
  rcases Nat.lt_or_ge 9 W.heap.size with h|h
  ·exact h
  ·rw[Array.getElem?_eq_none h] at hv;cases hv
 exact⟨⟨hT,hmost,⟨_,_,by simpa using World.var?_cell CD hv2 0⟩,⟨_,_,by simpa using World.var?_cell CC hv1 0⟩,by have:=h7;omega⟩,hS⟩
section
variable {H:Type} {enc:TypeId×Value→H} {w:World} {base:Nat} {spare:Nat→Bool} {held:Bool}
theorem N1 {fuel:Nat} {c:Value} {x:DataW H×List MemPlace} (h:DataW.trod enc prog w base spare held fuel 30 [c]=some x): ∃A n cap l,c= .slice A n cap∧l.length=n∧aq w w.heap.size (.slice A n cap) l:=by
 rcases open_ints underlying30 underlying3 NZ h with ⟨h1,_⟩|⟨a,len,cap,zs,h1,_,hl,hm,hz,_,hc,hw⟩
 ·injection h1 with h1
  exact⟨none,0,0,[],h1,rfl,aq.nil_ _ _⟩
 ·injection h1 with h1
  have hlz:len≤zs.length:=by rw[hz];split<;>omega
  have hlen:(zs.take len).length=len:=by rw[List.length_take];omega
  refine⟨some a,len,cap,zs.take len,h1,hlen,⟨some a,cap,by rw[List.length_map,hlen],by rw[List.length_map,hlen];exact hl,hm,fun hne=> ?_⟩,fun n hn=>bounds_i64 (hw n (List.mem_of_mem_take hn))⟩
  have hpos:0<zs.length:=by
   rcases Nat.eq_zero_or_pos zs.length with h0|h0
   ·have:zs=[]:=List.eq_nil_of_length_eq_zero h0
    subst this;simp at hne
   ·exact h0
  obtain⟨b,o,rfl,hc'⟩:=ints_at hc hpos
  refine⟨b,o,rfl,aH w ⟨b,o+0,none⟩ (hc' 0 hpos),fun j u hj=> ?_⟩
  rw[List.getElem?_map,List.getElem?_take] at hj
  split at hj
  ·rename_i hjl
   have hjz:j<zs.length:=by omega
   rw[List.getElem?_eq_getElem hjz] at hj
   simp only[Option.map_some,Option.some.injEq] at hj
   rw[hc' j hjz,←hj,List.getD,List.getElem?_eq_getElem hjz];rfl
  ·cases hj
end
theorem N2 (s:ByteArray) (A:Option Addr) (n c:Nat) (ctl:List Int) (cl:Int) (w:World) (hG:bY w) (ht:s.size≤1048576) (hv:aq w w.heap.size (.slice A n c) ctl) (hn:ctl.length=n) (hcl:aj cl):
 am 4 #[.string s,.slice A n c,.int .i64 cl] w (.bool true):=by
 obtain⟨t,rfl⟩: ∃t,s=bs t:=⟨s.data.toList,(dZ s).symm⟩
 rw[bq] at ht
 by_cases h1:3000<t.length
 ·exact uQ t A n c cl w hG ht (.inl h1)
 by_cases h2:0≤eW (aX t)
 ·exact uQ t A n c cl w hG ht (.inr (.inl h2))
 by_cases h3:10<n
 ·exact uQ t A n c cl w hG ht (.inr (.inr h3))
 refine NO t A n c ctl cl w hG (by omega) ?_ hv hn (by omega) hcl
 unfold eW at h2⊢
 split<;>rename_i hf
 ·rw[hf] at h2;simp only at h2;omega
 ·rfl
theorem N3:ownKnob Tryz.prog.godebug=none:=by kernel_rfl
theorem N4 (os:Os) {H:Type} (enc:TypeId×Value→H): ∃places,DataW.whole enc prog ((World.laidAll prog os Rows.scenarioModelsUptoRow.laid).forCall (fun _ _=>0) ⟨#[],#[.string ⟨#[]⟩,.slice none 0 0,.int .i64 0],[]⟩).memory Tryz.f4.params.toList Rows.scenarioModelsSpec.vars false #[Value.string ⟨#[]⟩,.slice none 0 0,.int .i64 0].toList 8=some ([.lit (.string []),.nil,.lit (.int .i64 0)],[],places):=
 ⟨[],by kernel_rfl⟩
theorem N5 (H:Type) (enc:TypeId×Value→H) (W:World) (base:Nat) (args:Array Value) (ds gs:List (DataW H)) (before:List MemPlace)
 (hval0: ∀(j:Nat) t v,Tryz.f4.params[j]? =some t→args[j]? =some v→Value.okWide prog W .any base t v)
 (hW:DataW.Whole enc prog Tryz.f4.params.toList Rows.scenarioModelsSpec.vars false W args.toList ds gs before) (hk:Rows.uptoSmall H (ds++gs)=true) (hL:laidMetH prog Rows.scenarioModelsUptoRow.laid W) (hsh:W.ShapedOpen prog):
 Calls prog 4 args W fun e W'=> ∃v,e= .returned v∧Rows.scenarioModelsSpec.post enc prog Tryz.f4 false true false false W args v W':=by
 have hval: ∀(j:Nat) t v,Tryz.f4.params[j]? =some t→args[j]? =some v→Value.okWide prog W .any base t v:=hval0
 have hW':=hW
 obtain⟨p,q,hA0,hV,rfl,_,_⟩:=hW
 have hA:DataW.TrodAll enc prog W 0 (fun _=>true) true Tryz.f4.params.toList args.toList ds p:=hA0
 rw[Tryz.params4] at hA hval
 obtain⟨v0,vs0,d0,ds0,p0,q0,hargs,rfl,rfl,h0,r0⟩:=trodAll_cons hA
 obtain⟨v1,vs1,d1,ds1,p1,q1,rfl,rfl,rfl,h1,r1⟩:=trodAll_cons r0
 obtain⟨v2,vs2,d2,ds2,p2,q2,rfl,rfl,rfl,h2,r2⟩:=trodAll_cons r1
 obtain⟨rfl,rfl,rfl⟩:=trodAll_nil r2
 obtain rfl:args= #[v0,v1,v2]:=by cases args;simp_all
 obtain⟨rfl,rfl⟩:=trodVars_none hV
 have hlt:=hW'.lt
 have h0':=h0
 obtain⟨s,rfl,rfl,rfl,hs⟩:=open_string underlying9 (hval 0 9 v0 rfl rfl) h0'
 have h2':=h2
 obtain⟨cl,rfl,rfl,rfl,hcl⟩:=open_int underlying3 (hval 2 3 v2 rfl rfl) h2'
 have h1':=h1
 obtain⟨fuel,hf⟩:=h1'
 obtain⟨A,n,c,rfl⟩:=okWide_slice underlying30 (hval 1 30 v1 rfl rfl)
 have hf':DataW.trod enc prog W 0 (fun _=>true) true fuel 30 [.slice A n c]=some (d1,p1):=hf
 obtain⟨A',n',c',ctl,he,hn,hsl⟩:=N1 hf'
 injection he with e1 e2 e3
 subst e1 e2 e3
 have hG:bY W:=N0 hL hsh
 have hsz:s.size≤1048576:=by
  have h:Rows.uptoBulkAll ([DataW.lit (H:=H) (.string s.data.toList),d1,.lit (.int .i64 cl)]++[])≤1048576:=of_decide_eq_true hk
  simp only[List.append_nil,Rows.uptoBulkAll,Rows.uptoBulk] at h
  have e:s.data.toList.length=s.size:=by rw[Array.length_toList];rfl
  omega
 refine(N2 s A n c ctl cl W hG hsz hsl hn (bounds_i64 hcl)).mono fun e W' ⟨he,hb⟩=> ?_
 subst he
 have T: ∀{t v d ps},DataW.Trod enc prog W 0 (fun _=>true) true t v d ps→t<Tryz.prog.types.size→Tryz.prog.readableRec t=true→(∀x∈ps,x.block<W.heap.size)→DataW.Trod enc prog W' 0 (fun b=>decide (b<W.heap.size)) true t v d ps:=
  fun h ht hr hl=>Below.trod (by kernel_rfl) hr ht h hb hl
 exact⟨_,rfl,_,_,_,[],_,[],hW',trodAll_mk1 (shut_bool underlying4 _),trodAll_cons_mk (T h0 (of_decide_eq_true (by kernel_rfl)) (by kernel_rfl) (fun x hx=>by cases hx)) (trodAll_cons_mk (T h1 (of_decide_eq_true (by kernel_rfl)) (by kernel_rfl) (fun x hx=>hlt x (by simp[hx]))) (trodAll_cons_mk (T h2 (of_decide_eq_true (by kernel_rfl)) (by kernel_rfl) (fun x hx=>by cases hx)) trodAll_mk0)),rfl,hb.frame _,fun h=>by cases h⟩
theorem N6 (os:Os) (started:os.Started) (H:Type) (enc:TypeId×Value→H) (F:Stop.Interp):
 ReturnsInHanded {} Tryz.checked os 4 .any ((Rows.OpenSpec.upto Rows.scenarioModelsSpec).preRow enc prog Tryz.f4 Rows.scenarioModelsUptoRow.domain false Rows.scenarioModelsUptoRow.laid) (((Rows.OpenSpec.upto Rows.scenarioModelsSpec).at F).post enc prog Tryz.f4 false true false false):=by
 obtain⟨places,hx⟩:=N4 os enc
 refine returnsInHanded_of_row (C:=Tryz.checked) (s:=Rows.OpenSpec.upto Rows.scenarioModelsSpec) N3 started (by kernel_rfl) func4
  (witness_row_atRef (enc:=enc) (C:=Tryz.checked) false (World.laidAll prog os Rows.scenarioModelsUptoRow.laid) #[.string ⟨#[]⟩,.slice none 0 0,.int .i64 0] (World.laidAll_os _ _ _) (by kernel_rfl) (by kernel_rfl) (by kernel_rfl)
    (OpenSpec.preRow_of_cond 8 hx (by kernel_rfl) (fun k hk=>by cases hk;kernel_rfl) (by kernel_rfl) (by
      rw[MakeChecks.laidMetH_plain _ _ _ (by kernel_rfl)];exact laidMet_laidAll _ (by kernel_rfl) (by kernel_rfl)))) ?_
 intro W base args ds gs before hval hW _ hcond _ hL hsh _
 exact N5 H enc W base args ds gs before hval hW (hcond _ rfl) hL hsh
end
end Go.Proofs.YthnkonlbfogkgaaGreatDoor
