/- A part of the proof. Here: scripts that stand often. -/
import Derived.Test.YthnkonlbfogkgaaGreatDoorProg
import Derived.Test.YthnkonlbfogkgaaGreatDoorQz
import Derived.WalkKit
import Derived.WalkSpells
import Derived.BigQuiet
import Derived.Deep.QuietTactic
import Derived.Deep.Draws
import Derived.Laws.OwnMore
import Derived.Deep.AppendLies
import Derived.Lib.Hide
import Derived.Lib.ItoaNum
import Derived.Lib.ItoaLen
import Derived.Laws.BytesString
import Derived.Lib.AppendIntMem
import Derived.Lib.AtoiErrMem
import Derived.Shelf.Strings.Builder1
import Derived.Shelf.Strings.Builder2
import Derived.Shelf.Strings.OnBuilder
import Derived.Shelf.Small.Bits
import Derived.Shelf.Small.Strs
import Derived.Shelf.Small.Wraps
import Derived.Shelf.Strings.BuilderF
import Derived.Shelf.Strings.BuilderK
import Derived.Shelf.Strings.Builder2Cap
import Derived.Shelf.Strconv.Atoi
import Derived.Shelf.Strconv.Itoa0
import Derived.Shelf.Strconv.Itoa1
import Derived.Shelf.LaysM
import Derived.Shelf.Strconv.Itoa2
import Derived.Shelf.Strconv.Itoa3
import Derived.Shelf.Strconv.Itoa4
import Derived.Shelf.Strconv.AtoiErrFast
import Derived.Shelf.Strconv.ParseIntEmpty
import Derived.Shelf.Strconv.AtoiFail
import Derived.Shelf.Strconv.Clone
import Derived.Shelf.Strconv.SyntaxError
import Derived.Shelf.LaysC
import Derived.Shelf.Strconv.ToError
import Derived.Shelf.Strconv.AtoiErr
import Derived.Shelf.Strconv.ErrVar
import Derived.Shelf.Strconv.Lower
import Derived.Shelf.Strconv.ParseUint10
import Derived.Shelf.Strconv.ParseUint10Empty
import Derived.Shelf.Strconv.ParseUint10Any
import Derived.Shelf.Strconv.ParseInt10
import Derived.Shelf.Strconv.AtoiLong
import Derived.Shelf.Strconv.AtoiInnerAll
import Derived.Shelf.Strconv.RangeError
import Derived.Shelf.Strconv.ToErrorRange
import Derived.Shelf.Strconv.AtoiAll
import Derived.Shelf.Strconv.ErrVarAll
import Derived.Shelf.Strconv.ParseUintEmpty
import Derived.Shelf.Strconv.ParseUint10b64
import Derived.Shelf.Strconv.ParseUint10b32
import Derived.Shelf.Strconv.ParseUint10b16
import Derived.Shelf.Strconv.ParseUint10b8
import Derived.Shelf.Strconv.ParseUint10At
import Derived.Shelf.Strconv.ParseInt10At64
import Derived.Shelf.Strconv.ParseInt10At32
import Derived.Shelf.Strconv.ParseInt10At16
import Derived.Shelf.Strconv.ParseInt10At8
import Derived.Shelf.Strconv.ParseInt10All
import Derived.Shelf.Strconv.ParseIntPublic10
import Derived.Shelf.Strconv.ErrVarParseInt
import Derived.Shelf.Strings.Search1
import Derived.Shelf.Strings.Search2
import Derived.Shelf.Strings.Search3
import Derived.Shelf.Strings.Cut
import Derived.Shelf.Strings.Count
import Derived.Shelf.Strings.Shaped
import Derived.Shelf.Sort.Plain
import Derived.Shelf.Strings.LastIndex
import Derived.Shelf.GgClosure.StringsIndexFunc
import Derived.Ground.GgwProg
import Derived.Shelf.GgClosure.StringsIndexFuncTop
import Derived.Shelf.GgClosure.StringsRunes
import Derived.Shelf.Strings.Prefix
import Derived.Shelf.Strings.Split
import Derived.Shelf.Strings.Fields
import Derived.Shelf.Strings.SplitShaped
import Derived.Shelf.Unicode.Latin
import Derived.Shelf.Unicode.Decode
import Derived.Shelf.Strings.RuneCount
import Derived.Shelf.Strings.Explode
import Derived.Shelf.Unicode.DecodeSlow
import Derived.Shelf.Unicode.DecodeAny
import Derived.Shelf.Unicode.Is16White
import Derived.Shelf.Unicode.IsSpaceAny
import Derived.Shelf.Unicode.Is16WhiteD
import Derived.Shelf.Unicode.IsSpaceAnyD
import Derived.Shelf.Unicode.Is16Any
import Derived.Shelf.Unicode.Is32Any
import Derived.Shelf.Unicode.ExclAny
import Derived.Shelf.Strings.BuilderCap
import Derived.Shelf.Slices.Turned
import Derived.Shelf.Slices.Equal
import Derived.Ground.Names2Prog
import Derived.Shelf.Slices.Clone
import Derived.Shelf.Slices.CompactS
import Derived.Shelf.Slices.SearchI
import Derived.Shelf.Slices.Cells
import Derived.Shelf.Slices.In.SortNone
import Derived.Shelf.Slices.Empties2
import Derived.Ground.SlgnProg
import Derived.Shelf.SlicesE.Equal
import Derived.Shelf.SlicesE.Compact
import Derived.Ground.SlgfProg
import Derived.Shelf.SlicesE.IndexFunc
import Derived.Shelf.SlicesE.DeleteFunc
import Derived.Deep.RegionHeld3
import Derived.Lib.Join
import Derived.Maps.RangeWalk
import Derived.ChangeMaps5
import Derived.Laws.AppendOwnNone
import Derived.Deep.RegionHeld
import Derived.Lib.AtoiAllCases
import Derived.Lib.SplitLaws
import Derived.Orders
import Derived.Shelf.Abstract
import Derived.Laws.EntriesVeiled
import Derived.IntWalk
import Derived.Deep.DeepCutAuto
import Derived.Deep.RegionWith
import Derived.Outline
import Derived.Lib.ConvBytes
import Derived.Maps.AppendAt
import Derived.RangeFuncBox
import Derived.RangeFuncLeaves
import Derived.OwnWalkIn
import Derived.TacticsInMore
import Derived.LoopNIn
import Derived.LoopIn
import Derived.Lib.OwnBridge
import Derived.Lib.SlicesCompact
import Derived.Lib.RowBridge
import Derived.ProofKit
import Derived.OpenShut
import Derived.LaidMore
import Derived.Lay
import Derived.Carry
import Derived.Stop.LaidErr
import Derived.Lib.LaidTab
import Derived.Shelf.Vars
import Derived.LaidLaws
import Derived.JoinedCond
import Derived.Deep.DeepHandedRow
import Derived.Deep.DeepWitnessRowRef
import Derived.SevenTiedAt
set_option linter.unusedVariables false
set_option linter.unusedSimpArgs false
set_option maxRecDepth 100000
set_option maxHeartbeats 32000000
namespace Go.Proofs.YthnkonlbfogkgaaGreatDoor
open Go Go.RowKit Tryz
abbrev am (f:Nat) (args:Array Value) (w:World) (x:Value):Prop:=Calls prog f args w fun e w'=>e= .returned x∧Below w.heap.size w w'
theorem aa {p:Prop} (h:p):RowKit.Hid p:=Lib.hid h
theorem ae (n:Nat):n≤n:=Nat.le_refl n
theorem aF {a b c:Nat} (h:a<b) (k:b≤c):a<c:=Nat.lt_of_lt_of_le h k
theorem aP {a b c:Nat} (h:a≤b) (k:b≤c):a≤c:=Nat.le_trans h k
theorem bN {a b:Nat} (h:a<b):a≤b:=Nat.le_of_lt h
theorem aY (n:Nat):0≤n:=Nat.zero_le n
theorem aH (w:World) (a:Addr) {v:Value} (h:w.cell? a=some v):a.block<w.heap.size:=World.block_lt_of_cell? w a h
theorem co {α:Type} {l:List α} {i:Nat} {a:α} (h:l[i]? =some a):a∈l:=List.mem_of_getElem? h
theorem fC {p q:Prop} (h:q) (e:RowKit.Hid q→p:=by
 intro hqZ9
 obtain⟨⟨Sa,sc,hs,hs1,hs2⟩,⟨Fa,fc,hf',hf1,hf2⟩,⟨Ra,rc,hr,hr1,hr2⟩,⟨Ma,mc,hm,hm1,hm2⟩,⟨La,lc,hl,hl1,hl2⟩,⟨Ia,ic,hi,hi1,hi2⟩,⟨Ua,uc,hu,hu1,hu2⟩⟩:=hv.cells
 have HS:=aa (show m.cells v= #[.slice Sa m.sites.length sc,.slice Fa m.feeds.length fc,.slice Ra m.racks.length rc,.slice Ma m.machs.length mc,.slice La m.links.length lc,.slice Ia m.items.length ic,.int .i64 m.dark,.int .i64 m.slots,.int .i64 m.reserve,.int .i64 m.failures,.slice Ua m.rules.length uc] from by rw[aC.cells_def,hs,hf',hr,hm,hl,hi,hu])
 revert Sa sc hs hs1 hs2 Fa fc hf' hf1 hf2 Ra rc hr hr1 hr2 Ma mc hm hm1 hm2 La lc hl hl1 hl2 Ia ic hi hi1 hi2 Ua uc hu hu1 hu2 HS
 exact hqZ9.out):p:=e (aa h)
theorem kR {p q:Prop} (h:q) (e:RowKit.Hid q→p:=by
 intro hqZ9
 have b0:w4.cell? ⟨xb,0,none⟩=some (.int .i64 d.kind):=(hb4.cell (p:=⟨xb,0,none⟩) hzc).trans cx0
 have b1:w4.cell? ⟨xb,1,none⟩=some (.string (bs d.name)):=(hb4.cell (p:=⟨xb,1,none⟩) hzc).trans cx1
 have hr4:=kc hb4 hrc
 have HB4:=aa (ag HBo.out hb4)
 have HM4:=aa (HMk.out.later HB4.out)
 have HC4:=aa (HCk.out.later HB4.out)
 have HO4:=aa (HOk.out.later HB4.out)
 have HK4:Hid (KP w.heap.size Mb w w4):=HKk.out.trans (KP.of_below HB4.out hzo HB4.out.size)
 revert b0 b1 hr4 HB4 HM4 HC4 HO4 HK4
 exact hqZ9.out):p:=e (aa h)
theorem lL {p q:Prop} (h:q) (e:RowKit.Hid q→p:=by
 intro hqZ9
 obtain⟨⟨Sa,sc,hs,hs1,hs2⟩,⟨Fa,fc,hf,hf1,hf2⟩,⟨Ra,rc,hr,hr1,hr2⟩,⟨Ma,mc,hm,hm1,hm2⟩,⟨La,lc,hl,hl1,hl2⟩,⟨Ia,ic,hi,hi1,hi2⟩,⟨Ua,uc,hu,hu1,hu2⟩⟩:=hv.cells
 have HS:=aa (show m.cells v= #[.slice Sa m.sites.length sc,.slice Fa m.feeds.length fc,.slice Ra m.racks.length rc,.slice Ma m.machs.length mc,.slice La m.links.length lc,.slice Ia m.items.length ic,.int .i64 m.dark,.int .i64 m.slots,.int .i64 m.reserve,.int .i64 m.failures,.slice Ua m.rules.length uc] from by rw[aC.cells_def,hs,hf,hr,hm,hl,hi,hu])
 have HI1:=aa (fun W (hW:Below w.heap.size w W)=>xH m v x.item W (hv.to hW (ae _) hW.size))
 revert Sa sc hs hs1 hs2 Fa fc hf hf1 hf2 Ra rc hr hr1 hr2 Ma mc hm hm1 hm2 La lc hl hl1 hl2 Ia ic hi hi1 hi2 Ua uc hu hu1 hu2 HS HI1
 exact hqZ9.out):p:=e (aa h)
theorem eG {p q:Prop} (h:q) (e:RowKit.Hid q→p:=by
 intro hqZ9
 have hmf: ∀(fn:Fn) (first cap:Array Value) (w:World),(Instr.makeFunc fn first cap).run prog w= .ok (.func fn first cap) w:=fun _ _ _ _=>rfl
 revert hmf
 exact hqZ9.out):p:=e (aa h)
theorem rR {p q:Prop} (h:q) (e:RowKit.Hid q→p:=by
 intro hqZ9
 have d4:w1.cell? ⟨pa,4,none⟩=some (.int .i64 0):=by simp[World.cell?,r1]
 have f4:w1.frozen? ⟨pa,4,none⟩=false:=by simp[World.frozen?,r1]
 have d5:w1.cell? ⟨pa,5,none⟩=some (.string ⟨#[]⟩):=by simp[World.cell?,r1]
 have f5:w1.frozen? ⟨pa,5,none⟩=false:=by simp[World.frozen?,r1]
 have d6:w1.cell? ⟨pa,6,none⟩=some (.int .i64 0):=by simp[World.cell?,r1]
 have f6:w1.frozen? ⟨pa,6,none⟩=false:=by simp[World.frozen?,r1]
 have d7:w1.cell? ⟨pa,7,none⟩=some (.int .i64 0):=by simp[World.cell?,r1]
 have f7:w1.frozen? ⟨pa,7,none⟩=false:=by simp[World.frozen?,r1]
 have hlt1:pa<w1.heap.size:=aF hlt hb1.size
 have hne: ¬pa=w1.heap.size:=by omega
 have hne2: ¬w1.heap.size=pa:=by omega
 have R1:=aa r1
 revert d4 f4 d5 f5 d6 f6 d7 f7 hlt1 hne hne2 R1
 exact hqZ9.out):p:=e (aa h)
theorem pO {p q:Prop} (h:q) (e:RowKit.Hid q→p:=by
 intro hqZ9
 have e0:w7.cell? ⟨xb,0,none⟩=some (.int .i64 d.kind):=(hT7.cell hnx0).trans d0
 have e1:w7.cell? ⟨xb,1,none⟩=some (.string (bs d.name)):=(hT7.cell hnx0).trans d1
 have hr7:w7.cell? ⟨rb,0,none⟩=some (.map (some Mb)):=(hT7.cell hnr0).trans hr6
 have HM7:=aa (HM6.out.blk (hT7.2.2 Mb hnm0))
 have HO7:=aa (HO6.out.blk (hT7.2.2 (w.heap.size+1) (by omega)))
 have HC7:=aa (hL7.of_eq (fun x=>(HCs.out x).symm))
 have HK7:Hid (KP w.heap.size Mb w w7):=HK6.out.trans (KP.turnB hT7 (ae _))
 revert e0 e1 hr7 HM7 HO7 HC7 HK7
 exact hqZ9.out):p:=e (aa h)
theorem pj {p q:Prop} (h:q) (e:RowKit.Hid q→p:=by
 intro hqZ9
 have i0:(0:Int)<(n:Int):=by omega
 have n0:0<n:=by omega
 have i1:(1:Int)≤(n:Int):=by omega
 have i2:(n:Int)≤(c:Int):=by omega
 have i3:(1:Int)≤(c:Int):=by omega
 have n2:1≤c:=by omega
 have HV:=aa hv
 have HN:=aa hn
 have HR:=aa (show w1.heap[w.heap.size]? =some (.cells ((aK 0).cells aG aG) 45 (0,0)) from(hb1.block w.heap.size (by simp)).trans (heap_alloc_new w _))
 have hz1:w.heap.size<w1.heap.size:=dJ hb1 (by simp)
 have HB1:=aa (ag (ac (B0 w) _) hb1)
 revert i0 n0 i1 i2 i3 n2 HV HN HR hz1 HB1
 exact hqZ9.out):p:=e (aa h)
theorem pM {p q:Prop} (h:q) (e:RowKit.Hid q→p:=by
 intro hqZ9
 have c0:w5.cell? ⟨xb,0,none⟩=some (.int .i64 d.kind):=(hT5.cell hnx1).trans b0
 have c1:w5.cell? ⟨xb,1,none⟩=some (.string (bs d.name)):=(hT5.cell hnx1).trans b1
 have hr5:w5.cell? ⟨rb,0,none⟩=some (.map (some Mb)):=(hT5.cell hnr1).trans hr4
 have HM5:=aa (HM4.out.blk (hT5.2.2 Mb hnm1))
 have HC5:=aa (HC4.out.blk (hT5.2.2 w.heap.size (by omega)))
 have HO5:=aa (hL5.of_eq (fun x=>(HOs.out x).symm))
 have HK5:Hid (KP w.heap.size Mb w w5):=HK4.out.trans (KP.turnB hT5 (by omega))
 revert c0 c1 hr5 HM5 HC5 HO5 HK5
 exact hqZ9.out):p:=e (aa h)
theorem BK {p q:Prop} (h:q) (e:RowKit.Hid q→p:=by
 intro hqZ9
 have e10:=(HBw.out.cell (p:=⟨B1,p1+k*7+0,none⟩) hb1).trans (hc1 0 _ rfl)
 have e11:=(HBw.out.cell (p:=⟨B1,p1+k*7+1,none⟩) hb1).trans (hc1 1 _ rfl)
 have e12:=(HBw.out.cell (p:=⟨B1,p1+k*7+2,none⟩) hb1).trans (hc1 2 _ rfl)
 have e13:=(HBw.out.cell (p:=⟨B1,p1+k*7+3,none⟩) hb1).trans (hc1 3 _ rfl)
 have e14:=(HBw.out.cell (p:=⟨B1,p1+k*7+4,none⟩) hb1).trans (hc1 4 _ rfl)
 have e15:=(HBw.out.cell (p:=⟨B1,p1+k*7+5,none⟩) hb1).trans (hc1 5 _ rfl)
 have e16:=(HBw.out.cell (p:=⟨B1,p1+k*7+6,none⟩) hb1).trans (hc1 6 _ rfl)
 have e20:=(HBw.out.cell (p:=⟨B2,p2+k*7+0,none⟩) hb2).trans (hc2 0 _ rfl)
 have e21:=(HBw.out.cell (p:=⟨B2,p2+k*7+1,none⟩) hb2).trans (hc2 1 _ rfl)
 have e22:=(HBw.out.cell (p:=⟨B2,p2+k*7+2,none⟩) hb2).trans (hc2 2 _ rfl)
 have e23:=(HBw.out.cell (p:=⟨B2,p2+k*7+3,none⟩) hb2).trans (hc2 3 _ rfl)
 have e24:=(HBw.out.cell (p:=⟨B2,p2+k*7+4,none⟩) hb2).trans (hc2 4 _ rfl)
 have e25:=(HBw.out.cell (p:=⟨B2,p2+k*7+5,none⟩) hb2).trans (hc2 5 _ rfl)
 have e26:=(HBw.out.cell (p:=⟨B2,p2+k*7+6,none⟩) hb2).trans (hc2 6 _ rfl)
 revert e10 e11 e12 e13 e14 e15 e16 e20 e21 e22 e23 e24 e25 e26
 exact hqZ9.out):p:=e (aa h)
theorem xZ {p q:Prop} (h:q) (e:RowKit.Hid q→p:=by
 intro hqZ9
 have hlt2:pa<(((((w1.setCell ⟨pa,4,none⟩ (.int .i64 p0)).setCell ⟨pa,5,none⟩ (.string p1)).setCell ⟨pa,6,none⟩ (.int .i64 p2)).setCell ⟨pa,7,none⟩ (.int .i64 p3))).heap.size:=by simpa[World.setCell] using hlt1
 have hg1:=Gj (gy (gy (gy (gy (iR hb1 (World.grownBy.refl w1 (some pa))) 4 (.int .i64 p0)) 5 (.string p1)) 6 (.int .i64 p2)) 7 (.int .i64 p3)) (.cells #[.int .i64 p0,.string p1,.int .i64 p2,.int .i64 p3] 43)
 have r2:=(Below.heap_alloc _ (.cells #[.int .i64 p0,.string p1,.int .i64 p2,.int .i64 p3] 43) pa hlt2).trans (cU (cU (cU (cU R1.out 4 (.int .i64 p0)) 5 (.string p1)) 6 (.int .i64 p2)) 7 (.int .i64 p3))
 have hbb:=(((((hb1.mono (bN hlt)).setCell (p:=⟨pa,4,none⟩) (ae _) (.int .i64 p0)).setCell (p:=⟨pa,5,none⟩) (ae _) (.string p1)).setCell (p:=⟨pa,6,none⟩) (ae _) (.int .i64 p2)).setCell (p:=⟨pa,7,none⟩) (ae _) (.int .i64 p3)).alloc (bN hlt2) (.cells #[.int .i64 p0,.string p1,.int .i64 p2,.int .i64 p3] 43)
 revert hlt2 hg1 r2 hbb
 exact hqZ9.out):p:=e (aa h)
theorem uz {p q:Prop} (h:q) (e:RowKit.Hid q→p:=by
 intro hqZ9
 have e10:=(HBw.out.cell (p:=⟨B1,p1+k*3+0,none⟩) hb1).trans (hc1 0 _ rfl)
 have e11:=(HBw.out.cell (p:=⟨B1,p1+k*3+1,none⟩) hb1).trans (hc1 1 _ rfl)
 have e12:=(HBw.out.cell (p:=⟨B1,p1+k*3+2,none⟩) hb1).trans (hc1 2 _ rfl)
 have e20:=(HBw.out.cell (p:=⟨B2,p2+k*3+0,none⟩) hb2).trans (hc2 0 _ rfl)
 have e21:=(HBw.out.cell (p:=⟨B2,p2+k*3+1,none⟩) hb2).trans (hc2 1 _ rfl)
 have e22:=(HBw.out.cell (p:=⟨B2,p2+k*3+2,none⟩) hb2).trans (hc2 2 _ rfl)
 revert e10 e11 e12 e20 e21 e22
 exact hqZ9.out):p:=e (aa h)
theorem rL {p q:Prop} (h:q) (e:RowKit.Hid q→p:=by
 intro hqZ9
 have HB1:=aa (ag (ac (ac (B0 w) _) _) hb1)
 have c2:=ah (HN2.out _) hb1
 have c3:=ah (HN3.out _) hb1
 have HZ:=aa (blk_lt c3)
 have e0:=af (o:=0) c2 rfl
 have e1:=af (o:=1) c2 rfl
 have e2:=af (o:=2) c2 rfl
 have e3:=af (o:=3) c2 rfl
 have e4:=af (o:=4) c2 rfl
 have e5:=af (o:=5) c2 rfl
 have e6:=af (o:=6) c2 rfl
 have e7:=af (o:=7) c2 rfl
 have e8:=af (o:=8) c2 rfl
 have e9:=af (o:=9) c2 rfl
 have e10:=af (o:=10) c2 rfl
 have d1:=af (o:=1) c3 rfl
 have d2:=af (o:=2) c3 rfl
 revert HB1 c2 c3 HZ e0 e1 e2 e3 e4 e5 e6 e7 e8 e9 e10 d1 d2
 exact hqZ9.out):p:=e (aa h)
theorem oG {p q:Prop} (h:q) (e:RowKit.Hid q→p:=by
 intro hqZ9
 have z1:W.cell? ⟨px,1,none⟩=some (.int .i64 0):=dp hp (o:=1) (by show _<10;decide)
 have f1:W.frozen? ⟨px,1,none⟩=false:=ei hp 1
 have z2:W.cell? ⟨px,2,none⟩=some (.int .i64 0):=dp hp (o:=2) (by show _<10;decide)
 have f2:W.frozen? ⟨px,2,none⟩=false:=ei hp 2
 revert z1 f1 z2 f2
 exact hqZ9.out):p:=e (aa h)
theorem jB {p q:Prop} (h:q) (e:RowKit.Hid q→p:=by
 intro hqZ9
 have hrW:=ah hr hBW
 have c0:W1.cell? ⟨mb,0,none⟩=some (.pointer (some ⟨rb,1,none⟩)):=af (ah hm hBW) rfl
 revert hrW c0
 exact hqZ9.out):p:=e (aa h)
theorem pK {p q:Prop} (h:q) (e:RowKit.Hid q→p:=by
 intro hqZ9
 have hxb:=ah Hxa.out hb4
 have hfb:=ah Hfa.out hb4
 have bx1:w4.cell? ⟨w.heap.size,1,none⟩=some (.string (bs d.name)):=af hxb rfl
 have bx2:w4.cell? ⟨w.heap.size,2,none⟩=some (.slice RA rn rc):=af hxb rfl
 have bx3:w4.cell? ⟨w.heap.size,3,none⟩=some (.slice NA nn nc):=af hxb rfl
 revert hxb hfb bx1 bx2 bx3
 exact hqZ9.out):p:=e (aa h)
theorem jg {p q:Prop} (h:q) (e:RowKit.Hid q→p:=by
 intro hqZ9
 have HB6:Hid (Below w5.heap.size w5 w6):=ag (au (B0 w5)) hb6
 have HH:=aa (HAH.out w6 _ u HB6.out hu)
 revert HB6 HH
 exact hqZ9.out):p:=e (aa h)
theorem Cz {p q:Prop} (h:q) (e:RowKit.Hid q→p:=by
 intro hqZ9
 have HSn:=aa hSn
 have HMs:=aa (show m.cells v++ #[.slice A n c,.int .i64 cl,.slice none 0 0]= #[.slice Sa m.sites.length sc,.slice Fa m.feeds.length fc,.slice Ra m.racks.length rc,.slice Ma m.machs.length mc,.slice La m.links.length lc,.slice Ia m.items.length ic,.int .i64 m.dark,.int .i64 m.slots,.int .i64 m.reserve,.int .i64 m.failures,.slice Ua m.rules.length uc,.slice A n c,.int .i64 cl,.slice none 0 0] from by rw[HMc.out];rfl)
 have HVs:=aa (fun W (h:Below wn.heap.size wn W)=>Nj m v ctl cl [] (.slice A n c) (.slice none 0 0) W (HOn.out.in_.to h (ae _) h.size) (((HV.out.below (HBn.out.trans (h.mono HBn.out.size)) (ae _)).more (HBn.out.trans (h.mono HBn.out.size)).size)) (by have:=HCl.out;omega))
 revert HSn HMs HVs
 exact hqZ9.out):p:=e (aa h)
theorem pN {p q:Prop} (h:q) (e:RowKit.Hid q→p:=by
 intro hqZ9
 have d0:=kc hb6 c0
 have d1:=kc hb6 c1
 have hr6:=kc hb6 hr5
 have HM6:=aa (HM5.out.later hb6)
 have HC6:=aa (HC5.out.later hb6)
 have HO6:=aa (HO5.out.later hb6)
 have HK6:Hid (KP w.heap.size Mb w w6):=HK5.out.trans (KP.of_below hb6 HK5.out.size hb6.size)
 revert d0 d1 hr6 HM6 HC6 HO6 HK6
 exact hqZ9.out):p:=e (aa h)
theorem fU {p q:Prop} (h:q) (e:RowKit.Hid q→p:=by
 intro hqZ9
 have hmm:=fun(t:TypeId) (w:World)=>run_makeMap (P:=prog) t w
 revert hmm
 exact hqZ9.out):p:=e (aa h)
theorem sj {p q:Prop} (h:q) (e:RowKit.Hid q→p:=by
 intro hqZ9
 have HBW:=aa hBW
 have HBl:=aa hblk
 have HGW:Hid (aT W.drew):=HG.out.step (au (ag (ag HB1.out HB2.out) hBW))
 have h8:8≤wc.heap.size:=aP HG.out.size (aP HB1.out.size HB2.out.size)
 have hzW:w.heap.size<W.heap.size:=by omega
 have HWall:=aa (au (ag (ag HB1.out HB2.out) hBW))
 have HRW:=aa ((hBW.block w.heap.size hz2).trans HRc.out)
 revert HBW HBl HGW h8 hzW HWall HRW
 exact hqZ9.out):p:=e (aa h)
theorem xW {p q:Prop} (h:q) (e:RowKit.Hid q→p:=by
 intro hqZ9
 have HT:=aa (h.take_ 2 (by omega))
 have HS:=aa (fun s (hs:s∈l.take 2)=>hsz s (List.mem_of_mem_take hs))
 have HZ:=aa (hsz _ (jp (k:=2) (by omega)))
 have HQ:=aa hq
 have HLen:=aa (show(l.take 2).length≤100000 by simp;omega)
 have hG0:aT (W.alloc (.cells #[.pointer (some ⟨pa,1,none⟩),.pointer (some ⟨pa,2,none⟩)] 145)).drew:=hG.step (au (ac (B0 W) _))
 have hbw0:Below pa W (W.alloc (.cells #[.pointer (some ⟨pa,1,none⟩),.pointer (some ⟨pa,2,none⟩)] 145)).drew:=my (((B0 W).mono (bN hlt)).alloc (bN hlt) _)
 have hne: ¬pa=W.heap.size:=by omega
 have hne2: ¬W.heap.size=pa:=by omega
 have i2:(2:Int)≤c:=by omega
 have n2:2≤c:=by omega
 revert HT HS HZ HQ HLen hG0 hbw0 hne hne2 i2 n2
 exact hqZ9.out):p:=e (aa h)
theorem uT {p q:Prop} (h:q) (e:RowKit.Hid q→p:=by
 intro hqZ9
 have hxc:=ah Hxb.out hb5
 have cx1:w5.cell? ⟨w.heap.size,1,none⟩=some (.string (bs d.name)):=af hxc rfl
 have cx2:w5.cell? ⟨w.heap.size,2,none⟩=some (.slice RA rn rc):=af hxc rfl
 have cx3:w5.cell? ⟨w.heap.size,3,none⟩=some (.slice NA nn nc):=af hxc rfl
 have HBc:=aa (ag HBb.out hb5)
 have Hxc:=aa hxc
 have hfc1:=kc hb5 bf1
 revert hxc cx1 cx2 cx3 HBc Hxc hfc1
 exact hqZ9.out):p:=e (aa h)
theorem yh {p q:Prop} (h:q) (e:RowKit.Hid q→p:=by
 intro hqZ9
 have hsz2:w2.heap.size=w1.heap.size+1+1:=hT.2.1.trans (by simp)
 obtain⟨l0,l1,l2,l3,l4,l5,l6,l7,l8,l9⟩:=cY.turns (HL1.out.below (ac (ac (B0 w1) _) _) hz1) hT (by omega)
 obtain⟨q0,q1,q2,q3,q4,q5,q6,q7,q8,q9⟩:=hBk.lies
 have p3:w2.cell? ⟨w1.heap.size,3,none⟩=some (.func (.func gf) #[] caps):=(hT.cell (by simp)).trans (by go_simp)
 have hB2:=hT.1 w1.heap.size w1 (ac (ac (B0 w1) _) _) (by omega)
 have HBA:=aa (ag HB1.out hB2)
 have HB2:=aa hB2
 have hz2:w.heap.size<w2.heap.size:=by omega
 have hp2:w1.heap.size<w2.heap.size:=by omega
 have hq2:w1.heap.size+1<w2.heap.size:=by omega
 have SC:=C6 x y (.slice Am nm cm) (.slice As ns cs) m' s' w2 ((HX.out.below HBA.out (ae _)).more HBA.out.size) ((HY.out.below HBA.out (ae _)).more HBA.out.size)
 revert hsz2 l0 l1 l2 l3 l4 l5 l6 l7 l8 l9 q0 q1 q2 q3 q4 q5 q6 q7 q8 q9 p3 hB2 HBA HB2 hz2 hp2 hq2 SC
 exact hqZ9.out):p:=e (aa h)
theorem qV {p q:Prop} (h:q) (e:RowKit.Hid q→p:=by
 intro hqZ9
 have HU2:=aa hu2
 have HB6:Hid (Below w.heap.size w w6):=HB5.out.grown hg (by have:=HB5.out.size;omega) (fun k hk=>by injection hk with hk;omega)
 have hr:=(hg.block _ (by have:=blk_lt HR5.out;omega) (by intro e;injection e with e;omega)).trans HR5.out
 obtain⟨⟨d0,d1,d2,d3⟩,f0,f1,f2,f3⟩:=lD hr
 obtain⟨⟨o0,o1,o2,o3⟩,_⟩:=lD hb
 revert HU2 HB6 hr d0 d1 d2 d3 f0 f1 f2 f3 o0 o1 o2 o3
 exact hqZ9.out):p:=e (aa h)
theorem mp {p q:Prop} (h:q) (e:RowKit.Hid q→p:=by
 intro hqZ9
 have HB:=aa hB
 have HBw:Hid (Below w.heap.size w wr):=ag HBW.out hB
 have hm1r:=ah Hm1.out hB
 have hm2r:=ah Hm2.out hB
 revert HB HBw hm1r hm2r
 exact hqZ9.out):p:=e (aa h)
theorem BX {p q:Prop} (h:q) (e:RowKit.Hid q→p:=by
 intro hqZ9
 have e0:=(HBw.out.cell (p:=⟨b,o+k*7+0,none⟩) hb).trans (hcell 0 _ rfl)
 have e1:=(HBw.out.cell (p:=⟨b,o+k*7+1,none⟩) hb).trans (hcell 1 _ rfl)
 have e2:=(HBw.out.cell (p:=⟨b,o+k*7+2,none⟩) hb).trans (hcell 2 _ rfl)
 have e3:=(HBw.out.cell (p:=⟨b,o+k*7+3,none⟩) hb).trans (hcell 3 _ rfl)
 have e4:=(HBw.out.cell (p:=⟨b,o+k*7+4,none⟩) hb).trans (hcell 4 _ rfl)
 have e5:=(HBw.out.cell (p:=⟨b,o+k*7+5,none⟩) hb).trans (hcell 5 _ rfl)
 have e6:=(HBw.out.cell (p:=⟨b,o+k*7+6,none⟩) hb).trans (hcell 6 _ rfl)
 revert e0 e1 e2 e3 e4 e5 e6
 exact hqZ9.out):p:=e (aa h)
theorem CJ {p q:Prop} (h:q) (e:RowKit.Hid q→p:=by
 intro hqZ9
 obtain⟨hc4,hf4⟩:=ck hb4
 have HB4:=aa (ag HB3.out hb4)
 have HR4:=aa ((hb4.block w.heap.size hzw3).trans HR3.out)
 have HYI4:=aa ((HYI.out.below hb4 (ae _)).more hb4.size)
 have m0:=(hc4 wc.heap.size 0 hlw3).trans l0
 have m1:=(hc4 wc.heap.size 1 hlw3).trans l1
 have m2:=(hc4 wc.heap.size 2 hlw3).trans l2
 have m3:=(hc4 wc.heap.size 3 hlw3).trans l3
 have m4:=(hc4 wc.heap.size 4 hlw3).trans l4
 have m5:=(hc4 wc.heap.size 5 hlw3).trans l5
 have m6:=(hc4 wc.heap.size 6 hlw3).trans l6
 have m7:=(hc4 wc.heap.size 7 hlw3).trans l7
 have m8:=(hc4 wc.heap.size 8 hlw3).trans l8
 have m9:=(hc4 wc.heap.size 9 hlw3).trans l9
 revert hc4 hf4 HB4 HR4 HYI4 m0 m1 m2 m3 m4 m5 m6 m7 m8 m9
 exact hqZ9.out):p:=e (aa h)
theorem jT {p q:Prop} (h:q) (e:RowKit.Hid q→p:=by
 intro hqZ9
 obtain⟨l0,l1,l2,l3,l4,l5,l6,l7,l8,l9⟩:=id ha
 have hne1: ¬px=pa:=hne
 have hne2: ¬pa=px:=fun e=>hne e.symm
 have HP:=aa hp
 revert l0 l1 l2 l3 l4 l5 l6 l7 l8 l9 hne1 hne2 HP
 exact hqZ9.out):p:=e (aa h)
theorem tI {p q:Prop} (h:q) (e:RowKit.Hid q→p:=by
 intro hqZ9
 obtain⟨i0,hi,hz0,hz1,hz2⟩:=info_parts (show(Tryz.prog.info? 135).map (fun i=>(i.zero,i.size,i.bytes))=some (some (.agg #[.string ⟨#[]⟩,.int .i64 0,.int .i64 0,.int .i64 0,.int .i64 0,.int .i64 0,.slice none 0 0]),7,80) by kernel_rfl)
 have hlt:=World.ownsRow.lt hown
 have HLT:=aa hlt
 revert i0 hi hz0 hz1 hz2 hlt HLT
 exact hqZ9.out):p:=e (aa h)
theorem nH {p q:Prop} (h:q) (e:RowKit.Hid q→p:=by
 intro hqZ9
 obtain⟨i0,hi,hz0,hz1,hz2⟩:=info_parts (show(Tryz.prog.info? 9).map (fun i=>(i.zero,i.size,i.bytes))=some (some (.string ⟨#[]⟩),1,16) by kernel_rfl)
 revert i0 hi hz0 hz1 hz2
 exact hqZ9.out):p:=e (aa h)
theorem uU {p q:Prop} (h:q) (e:RowKit.Hid q→p:=by
 intro hqZ9
 have hB3:Below w.heap.size w w3:=HWall.out.grown hg3 HWall.out.size (fun k' e=>by injection e with e;omega)
 have hR3:=(hg3.block w.heap.size (show w.heap.size<W.heap.size from hzW) (fun e=>by injection e with e;omega)).trans HRW.out
 have HB3:=aa hB3
 have HR3:=aa hR3
 revert hB3 hR3 HB3 HR3
 exact hqZ9.out):p:=e (aa h)
theorem lM {p q:Prop} (h:q) (e:RowKit.Hid q→p:=by
 intro hqZ9
 have hn0:(0:Int)≤n:=by omega
 have hns:(n:Int)≤s.size:=by omega
 have hmx:(s.size:Int)≤16384:=by omega
 revert hn0 hns hmx
 exact hqZ9.out):p:=e (aa h)
theorem xP {p q:Prop} (h:q) (e:RowKit.Hid q→p:=by
 intro hqZ9
 have HBe:=aa (hT3.1 _ _ (hT2.1 _ _ (hT1.1 _ _ (ac (ac (ac (B0 w) _) _) _) (by omega)) (by omega)) (by omega))
 have HX:=aa (fun i (hi: ¬i=w.heap.size+1+1)=>(hT3.2.2 i hi).trans ((hT2.2.2 i hi).trans (hT1.2.2 i hi)))
 have hm3:=(HX.out w.heap.size (by omega)).trans (fV HB2.out.1 (ac (B0 _) _) (blk_lt HB2.out.1))
 have hx3:=(HX.out (w.heap.size+1) (by omega)).trans (fV HB2.out.2 (ac (B0 _) _) (blk_lt HB2.out.2))
 have a1:w3.cell? ⟨w.heap.size+1,1,none⟩=some (.int .i64 x.kind):=af hx3 rfl
 revert HBe HX hm3 hx3 a1
 exact hqZ9.out):p:=e (aa h)
theorem mL {p q:Prop} (h:q) (e:RowKit.Hid q→p:=by
 intro hqZ9
 obtain⟨i0,hi,hz0,hz1,hz2⟩:=info_parts (show(Tryz.prog.info? 3).map (fun i=>(i.zero,i.size,i.bytes))=some (some (.int .i64 0),1,8) by kernel_rfl)
 revert i0 hi hz0 hz1 hz2
 exact hqZ9.out):p:=e (aa h)
theorem A8 {p q:Prop} (h:q) (e:RowKit.Hid q→p:=by
 intro hqZ9
 have hx8:=ah HXc.out HB8.out
 have y0:w8.cell? ⟨w.heap.size,0,none⟩=some (.int .i64 d.kind):=af hx8 rfl
 have y2:w8.cell? ⟨w.heap.size,2,none⟩=some (.slice (some ⟨sb,so,none⟩) 2 rc):=af hx8 rfl
 have ys0:w8.cell? ⟨sb,so,none⟩=some (.string (bs s0)):=((ag HBxw.out HB8.out).cell (p:=⟨sb,so,none⟩) hsb).trans HS0.out
 have ys1:w8.cell? ⟨sb,so+1,none⟩=some (.string (bs s1)):=((ag HBxw.out HB8.out).cell (p:=⟨sb,so+1,none⟩) hsb).trans HS1.out
 revert hx8 y0 y2 ys0 ys1
 exact hqZ9.out):p:=e (aa h)
theorem gl {p q:Prop} (h:q) (e:RowKit.Hid q→p:=by
 intro hqZ9
 have HB2:Hid (Below w.heap.size w w2):=ag HBW.out hb2
 revert HB2
 exact hqZ9.out):p:=e (aa h)
theorem sh {p q:Prop} (h:q) (e:RowKit.Hid q→p:=by
 intro hqZ9
 have hpw:pb<wc.heap.size:=(Array.getElem?_eq_some_iff.1 hBlk).1
 have HFn:=aa hF
 have HKd:=aa hkind
 have hz2:w.heap.size<wc.heap.size:=aF hz1 hB2.size
 have HB2:=aa hB2
 have HRc:=aa ((hB2.block w.heap.size hz1).trans HR.out)
 revert hpw HFn HKd hz2 HB2 HRc
 exact hqZ9.out):p:=e (aa h)
theorem xX {p q:Prop} (h:q) (e:RowKit.Hid q→p:=by
 intro hqZ9
 have hsz': ∀s∈l.drop 2,s.size≤1000000:=fun s hs=>hsz s (List.mem_of_mem_drop hs)
 have hc2': ¬c=2:=hc2 _ _ _ rfl
 have i1:(2:Int)≤n:=by omega
 have g0: ¬((n:Int)<2):=by omega
 have i2:(n:Int)≤c:=by omega
 have i3:(2:Int)≤c:=by omega
 have n1:2≤n:=by omega
 have n2:2≤c:=by omega
 have L0:=wy _ (l.drop 2) W hG ((h.drop 2 (by omega)).more (bN hlt)) hsz'
 have eq:(if(l.drop 2).length<2 then none else gY (l.drop 2))=fK (l.drop 2):=rfl
 revert hsz' hc2' i1 g0 i2 i3 n1 n2 L0 eq
 exact hqZ9.out):p:=e (aa h)
theorem rQ {p q:Prop} (h:q) (e:RowKit.Hid q→p:=by
 intro hqZ9
 have HL:=aa L0
 have HB:=aa hb
 have HT:=aa (h.take_ 2 (by omega))
 have HS:=aa (fun s (hs:s∈l.take 2)=>hsz s (List.mem_of_mem_take hs))
 have HLen:=aa (show(l.take 2).length≤100000 by simp;omega)
 have HG:=aa hG
 revert HL HB HT HS HLen HG
 exact hqZ9.out):p:=e (aa h)
theorem xQ {p q:Prop} (h:q) (e:RowKit.Hid q→p:=by
 intro hqZ9
 have HB4:=aa (ag HBe.out hb4)
 have hm4:=ah HM3.out hb4
 have hx4:=ah HX3.out hb4
 have e0:=af (o:=0) hm4 rfl
 have e1:=af (o:=1) hm4 rfl
 have e2:=af (o:=2) hm4 rfl
 have e3:=af (o:=3) hm4 rfl
 have e4:=af (o:=4) hm4 rfl
 have e5:=af (o:=5) hm4 rfl
 have e6:=af (o:=6) hm4 rfl
 have e7:=af (o:=7) hm4 rfl
 have e8:=af (o:=8) hm4 rfl
 have e9:=af (o:=9) hm4 rfl
 have e10:=af (o:=10) hm4 rfl
 have a6:w4.cell? ⟨w.heap.size+1,6,none⟩=some (.slice A n c):=af hx4 rfl
 have HX4:=aa hx4
 revert HB4 hm4 hx4 e0 e1 e2 e3 e4 e5 e6 e7 e8 e9 e10 a6 HX4
 exact hqZ9.out):p:=e (aa h)
theorem kG {p q:Prop} (h:q) (e:RowKit.Hid q→p:=by
 intro hqZ9
 have p1:w1.cell? ⟨pb,1,none⟩=some (.int .i64 p.e):=af hbp rfl
 have hpw1:=blk_lt hbp
 revert p1 hpw1
 exact hqZ9.out):p:=e (aa h)
theorem yK {p q:Prop} (h:q) (e:RowKit.Hid q→p:=by
 intro hqZ9
 have hbt:=fV (show((w5.alloc _).drew).heap[w5.heap.size]? =some _ from aN w5 _) hb6 (by simp)
 have hbr:=fV (fV HB.out (au (ac (B0 w5) _)) hz5) hb6 (by simp;omega)
 have hzt:=blk_lt hbt
 have hzr:=blk_lt hbr
 have t0:=af (o:=0) hbt rfl
 have t1:=af (o:=1) hbt rfl
 have t2:=af (o:=2) hbt rfl
 have t3:=af (o:=3) hbt rfl
 obtain⟨q0,q1,q2,q3⟩:=iP hbt
 have r0:=af (o:=0) hbr rfl
 have r1:=af (o:=1) hbr rfl
 have r2:=af (o:=2) hbr rfl
 have r3:=af (o:=3) hbr rfl
 obtain⟨p0,p1,p2,p3⟩:=iP hbr
 have hB7:=ag (au (ac hB5 _)) hb6
 revert hbt hbr hzt hzr t0 t1 t2 t3 q0 q1 q2 q3 r0 r1 r2 r3 p0 p1 p2 p3 hB7
 exact hqZ9.out):p:=e (aa h)
theorem Cy {p q:Prop} (h:q) (e:RowKit.Hid q→p:=by
 intro hqZ9
 have HBn:=aa (HBm.out.trans ((hkn.below (bN hzm)).mono hw2))
 have hXm:=HXm.out
 have hzxb:=blk_lt hXm
 have HXn:=aa (hkn.blk hXm hzxb (by omega))
 have HOn:=aa ((HO8.out.gp (rb:=sb) (GP.of_below HB8m.out) hsbB).gp (GP.of_kp hkn) hsbB)
 have hz6m:w6.heap.size≤wm.heap.size:=(ag HX8.out HB8m.out).size
 have HKn:=aa ((KP.of_below (pb:=sb) (ag HX8.out HB8m.out) (ae _) hz6m).trans (hkn.mono hz6m))
 have hz6n:w6.heap.size≤wn.heap.size:=HKn.out.size
 revert HBn hXm hzxb HXn HOn hz6m HKn hz6n
 exact hqZ9.out):p:=e (aa h)
theorem pJ {p q:Prop} (h:q) (e:RowKit.Hid q→p:=by
 intro hqZ9
 have q0:W1.cell? ⟨w.heap.size,0,none⟩=some (.int .i64 d.kind):=af hxW rfl
 have hz1:=blk_lt hxW
 have hz0: ¬w.heap.size=W1.heap.size:=by omega
 revert q0 hz1 hz0
 exact hqZ9.out):p:=e (aa h)
theorem nr {p q:Prop} (h:q) (e:RowKit.Hid q→p:=by
 intro hqZ9
 have hB2:Below W1.heap.size W1 w2:=by first|exact ag (au (B0 W1)) hb2|exact ag (au (ac (B0 W1) _)) hb2
 revert hB2
 exact hqZ9.out):p:=e (aa h)
theorem Cv {p q:Prop} (h:q) (e:RowKit.Hid q→p:=by
 intro hqZ9
 have HMc:=aa (show m.cells v= #[.slice Sa m.sites.length sc,.slice Fa m.feeds.length fc,.slice Ra m.racks.length rc,.slice Ma m.machs.length mc,.slice La m.links.length lc,.slice Ia m.items.length ic,.int .i64 m.dark,.int .i64 m.slots,.int .i64 m.reserve,.int .i64 m.failures,.slice Ua m.rules.length uc] from by rw[aC.cells_def,hs',hf',hr',hm',hl',hi',hu'])
 revert HMc
 exact hqZ9.out):p:=e (aa h)
theorem zu {p q:Prop} (h:q) (e:RowKit.Hid q→p:=by
 intro hqZ9
 have HS:=aa (show m.cells v= #[.slice Sa m.sites.length sc,.slice Fa m.feeds.length fc,.slice Ra m.racks.length rc,.slice Ma m.machs.length mc,.slice La m.links.length lc,.slice Ia m.items.length ic,.int .i64 m.dark,.int .i64 m.slots,.int .i64 m.reserve,.int .i64 m.failures,.slice Ua m.rules.length uc] from by rw[aC.cells_def,hs,hf',hr,hm,hl',hi,hu])
 revert HS
 exact hqZ9.out):p:=e (aa h)
theorem BT {p q:Prop} (h:q) (e:RowKit.Hid q→p:=by
 intro hqZ9
 have HM:=aa (show m.cells v= #[.slice Sa m.sites.length sc,.slice Fa m.feeds.length fc,.slice Ra m.racks.length rc,.slice Ma m.machs.length mc,.slice La m.links.length lc,.slice Ia m.items.length ic,.int .i64 m.dark,.int .i64 m.slots,.int .i64 m.reserve,.int .i64 m.failures,.slice Ua m.rules.length uc] from by rw[aC.cells_def,hs,hf',hr,hm,hl',hi,hu])
 revert HM
 exact hqZ9.out):p:=e (aa h)
theorem BH {p q:Prop} (h:q) (e:RowKit.Hid q→p:=by
 intro hqZ9
 have q0:decide ((0:Int)<(k:Int))=true:=decide_eq_true (by omega)
 have q0':decide (0<k)=true:=decide_eq_true (by omega)
 have q1:IntKind.i64.wrap ((k:Int) - 1)=(k:Int) - 1:=IntWalk.i64_in _ (by omega)
 have q2:((k:Int) - 1).toNat=k - 1:=by omega
 have q3:(0:Int)≤(k:Int) - 1:=by omega
 have q3':(1:Int)≤(k:Int):=by omega
 have q4:(k:Int) - 1<n:=by omega
 revert q0 q0' q1 q2 q3 q3' q4
 exact hqZ9.out):p:=e (aa h)
theorem pp {p q:Prop} (h:q) (e:RowKit.Hid q→p:=by
 intro hqZ9
 have c0:=af (o:=0) hbk rfl
 have c1':=af (o:=1) hbk rfl
 have c2':=af (o:=2) hbk rfl
 have c3':=af (o:=3) hbk rfl
 obtain⟨f0,f1,f2,f3⟩:=iP hbk
 revert c0 c1' c2' c3' f0 f1 f2 f3
 exact hqZ9.out):p:=e (aa h)
theorem j5 {p q:Prop} (h:q) (e:RowKit.Hid q→p:=by
 intro hqZ9
 have h0:=hcell 0 _ rfl
 have h1:=hcell 1 _ rfl
 have h2:=hcell 2 _ rfl
 revert h0 h1 h2
 exact hqZ9.out):p:=e (aa h)
theorem Ce {p q:Prop} (h:q) (e:RowKit.Hid q→p:=by
 intro hqZ9
 have HK5:Hid (KP (pb+1) pb W0 w5):=KP.grown ((HKq.out.trans (HK4.out.mono hz0w)).trans (KP.of_below (ac (B0 w4) (.cells #[.int .i64 d.kind,.string (bs d.name),.slice rA rn rc,.slice nA n2 nc,.int .i64 d.by_,.bool d.always] 87)) (aP hz0w hz4) (by simp))) HOw4.out hgrow (by have:=HZ0.out;omega)
 have hpx:=HP5.out.cells.1
 have ep1:=HP5.out.cells.2.2.1
 revert HK5 hpx ep1
 exact hqZ9.out):p:=e (aa h)
theorem pi {p q:Prop} (h:q) (e:RowKit.Hid q→p:=by
 intro hqZ9
 have HSP:=aa SP
 have HP:=aa (fun W=>xV W)
 have HG:=aa hG
 have HLw:=aa (yn s hs)
 have HK:=aa hk
 revert HSP HP HG HLw HK
 exact hqZ9.out):p:=e (aa h)
theorem pk {p q:Prop} (h:q) (e:RowKit.Hid q→p:=by
 intro hqZ9
 have f0:=fr 0
 have f1:=fr 1
 have f2:=fr 2
 have f3:=fr 3
 have f4:=fr 4
 have f5:=fr 5
 have f6:=fr 6
 have f7:=fr 7
 have f8:=fr 8
 have f9:=fr 9
 revert f0 f1 f2 f3 f4 f5 f6 f7 f8 f9
 exact hqZ9.out):p:=e (aa h)
theorem pF {p q:Prop} (h:q) (e:RowKit.Hid q→p:=by
 intro hqZ9
 have hn1:=ah HN0.out hb1
 obtain⟨e0,e1,e2,e3,e4,e5,e6,e7,e8,e9,e10⟩:=cd hn1
 have hz1:=blk_lt hn1
 have HB1:=aa (ag (ac (B0 w) _) hb1)
 have HN1:=aa hn1
 revert hn1 e0 e1 e2 e3 e4 e5 e6 e7 e8 e9 e10 hz1 HB1 HN1
 exact hqZ9.out):p:=e (aa h)
theorem uj {p q:Prop} (h:q) (e:RowKit.Hid q→p:=by
 intro hqZ9
 have e1:=(HBw.out.cell (p:=⟨b,o+k*3+1,none⟩) hb).trans (hcell 1 _ rfl)
 have e2:=(HBw.out.cell (p:=⟨b,o+k*3+2,none⟩) hb).trans (hcell 2 _ rfl)
 revert e1 e2
 exact hqZ9.out):p:=e (aa h)
theorem xR {p q:Prop} (h:q) (e:RowKit.Hid q→p:=by
 intro hqZ9
 have HB5:=aa (ag HB4.out hb5)
 have hx5:=ah HX4.out hb5
 have a3:w5.cell? ⟨w.heap.size+1,3,none⟩=some (.int .i64 x.load):=af hx5 rfl
 have a4:w5.cell? ⟨w.heap.size+1,4,none⟩=some (.int .i64 x.size):=af hx5 rfl
 have a5:w5.cell? ⟨w.heap.size+1,5,none⟩=some (.int .i64 x.share):=af hx5 rfl
 revert HB5 hx5 a3 a4 a5
 exact hqZ9.out):p:=e (aa h)
theorem tz {p q:Prop} (h:q) (e:RowKit.Hid q→p:=by
 intro hqZ9
 have HFm:=aa (fun W=>zX W)
 have HF:=aa hf
 have HBy:=aa hby
 have HIs:=aa (fun W (hW:Below w.heap.size w W)=>sW d.name W (hG.step hW))
 revert HFm HF HBy HIs
 exact hqZ9.out):p:=e (aa h)
theorem tQ {p q:Prop} (h:q) (e:RowKit.Hid q→p:=by
 intro hqZ9
 have f1:w3.frozen? ⟨rb,6,none⟩=false:=aW (eD (ah (ah HrW.out HB4.out) (ac (B0 _) _)) hgrow (fun j hj e=>hvr (by rw[hj,e]))) 6
 revert f1
 exact hqZ9.out):p:=e (aa h)
theorem zy {p q:Prop} (h:q) (e:RowKit.Hid q→p:=by
 intro hqZ9
 have HO:Hid (dK m=(aD (m.sites.length:Nat) 1 4&&decide (m.feeds.length≤16)&&decide (m.racks.length≤16)&&aD (m.machs.length:Nat) 1 16&&decide (m.links.length≤12)&&dh (gv m) [] m.racks&&dh (gN m) [] m.machs&&dh (gw m) [] m.links)):=rfl
 revert HO
 exact hqZ9.out):p:=e (aa h)
theorem pr {p q:Prop} (h:q) (e:RowKit.Hid q→p:=by
 intro hqZ9
 have hB2:=ag hB1 hb2
 have hbk:=ah (ah (aN w _) hb1) hb2
 have HB:=aa hbk
 have hz2:=blk_lt hbk
 revert hB2 hbk HB hz2
 exact hqZ9.out):p:=e (aa h)
theorem jX {p q:Prop} (h:q) (e:RowKit.Hid q→p:=by
 intro hqZ9
 have r1:w1.heap[pa]? =_:=(hb1.block _ hlt).trans HB.out
 revert r1
 exact hqZ9.out):p:=e (aa h)
theorem tx {p q:Prop} (h:q) (e:RowKit.Hid q→p:=by
 intro hqZ9
 have c0:w2.cell? ⟨w.heap.size,0,none⟩=some (.int .i64 d.kind):=(hB2.cell (p:=⟨w.heap.size,0,none⟩) hz1).trans q0
 obtain⟨hcx,hfx⟩:=lv hb2
 revert c0 hcx hfx
 exact hqZ9.out):p:=e (aa h)
theorem uJ {p q:Prop} (h:q) (e:RowKit.Hid q→p:=by
 intro hqZ9
 have HR:=aa (uH HPr.out hlt (by rw[HF.out]<;>rfl))
 have HSB:=aa (fun W (h:Below wr.heap.size wr W)=>mU (ah hmr h))
 revert HR HSB
 exact hqZ9.out):p:=e (aa h)
theorem Cp {p q:Prop} (h:q) (e:RowKit.Hid q→p:=by
 intro hqZ9
 have HT8:=aa ((hg8.block rt (blk_lt HT6.out) (by simp;omega)).trans HT6.out)
 have HB8:Hid (Below w2.heap.size w2 w8):=aa (HB6.out.trans ⟨hg8.os,hg8.tape,hg8.output,hg8.size,fun i hi=>hg8.block i (by have:=HB6.out.size;omega) (by simp;omega)⟩)
 revert HT8 HB8
 exact hqZ9.out):p:=e (aa h)
theorem ty {p q:Prop} (h:q) (e:RowKit.Hid q→p:=by
 intro hqZ9
 have hz2:w.heap.size<w2.heap.size:=aF hz1 hB2.size
 have hz3: ¬w.heap.size=w2.heap.size:=by omega
 have HBl:=aa hb2.block
 revert hz2 hz3 HBl
 exact hqZ9.out):p:=e (aa h)
theorem yA {p q:Prop} (h:q) (e:RowKit.Hid q→p:=by
 intro hqZ9
 have HB4:=aa (ag (au HB2.out) hb4)
 have hmb:=ah Hma.out (ag (au (B0 wc)) hb4)
 have hxb:=ah Hxa.out (ag (au (B0 wc)) hb4)
 have hfb:=ah Hfa.out (ag (au (B0 wc)) hb4)
 obtain⟨bm0,bm1,bm2,bm3,bm4,bm5,bm6,bm7,bm8,bm9,bm10⟩:=cd hmb
 obtain⟨bx0,bx1,bx2,bx3,bx4,bx5,bx6⟩:=cZ hxb
 have bf0:w4.cell? ⟨fb,0,none⟩=some (.func (.func go) #[] #[]):=af hfb rfl
 have bf1:w4.cell? ⟨fb,1,none⟩=some (.func (.func gn) #[] #[]):=af hfb rfl
 revert HB4 hmb hxb hfb bm0 bm1 bm2 bm3 bm4 bm5 bm6 bm7 bm8 bm9 bm10 bx0 bx1 bx2 bx3 bx4 bx5 bx6 bf0 bf1
 exact hqZ9.out):p:=e (aa h)
theorem pA {p q:Prop} (h:q) (e:RowKit.Hid q→p:=by
 intro hqZ9
 have G:=aa (And.intro g1 (And.intro g2 (And.intro g3 (And.intro g4 (And.intro hK2 hq)))))
 revert G
 exact hqZ9.out):p:=e (aa h)
theorem Be {p q:Prop} (h:q) (e:RowKit.Hid q→p:=by
 intro hqZ9
 have ht5:w5.heap[rt]? =some (.cells #[.slice none 0 0,.slice none 0 0,.slice none 0 0,.slice none 0 0,.slice none 0 0,.slice none 0 0,.int .i64 0,.int .i64 0,.int .i64 0,.int .i64 0,.slice none 0 0] 29 (0,0)):=ah HTr.out HB5.out
 revert ht5
 exact hqZ9.out):p:=e (aa h)
theorem Cb {p q:Prop} (h:q) (e:RowKit.Hid q→p:=by
 intro hqZ9
 have HD12:=aa (And.intro hd1 hd2)
 have HOw4:=aa ((j8 HOw.out HK4.out (ae _) (Nat.lt_succ_self _)).alloc (.cells #[.int .i64 d.kind,.string (bs d.name),.slice rA rn rc,.slice nA n2 nc,.int .i64 d.by_,.bool d.always] 87))
 have hz4:=HK4.out.size
 revert HD12 HOw4 hz4
 exact hqZ9.out):p:=e (aa h)
theorem nD {p q:Prop} (h:q) (e:RowKit.Hid q→p:=by
 intro hqZ9
 have hz:s.size≤9223372036854775807:=by omega
 have hle:=yJ bD s
 revert hz hle
 exact hqZ9.out):p:=e (aa h)
theorem BY {p q:Prop} (h:q) (e:RowKit.Hid q→p:=by
 intro hqZ9
 have HSB:=aa (fun W (h:Below wr.heap.size wr W)=>And.intro (cd (ah hmr h)) (And.intro (kc h e0) (And.intro (kc h e1) (And.intro (kc h e2) (And.intro (kc h e3) (And.intro (kc h e4) (And.intro (kc h e5) (kc h e6))))))))
 revert HSB
 exact hqZ9.out):p:=e (aa h)
theorem zF {p q:Prop} (h:q) (e:RowKit.Hid q→p:=by
 intro hqZ9
 have hb3:=ac hb1a (.cells #[.int .i64 t.kind,.string (bs t.text),.int .i64 t.n,.int .i64 t.pos] 91)
 have ht:=ah (aN w1 (.cells #[.int .i64 t.kind,.string (bs t.text),.int .i64 t.n,.int .i64 t.pos] 91)) hb2
 have hb4:=ag hb3 hb2
 revert hb3 ht hb4
 exact hqZ9.out):p:=e (aa h)
theorem py {p q:Prop} (h:q) (e:RowKit.Hid q→p:=by
 intro hqZ9
 have HP:=aa h
 have HN:=aa (fun W (hW:aJ W pb B M p)=>kE pb B M p W hW)
 revert HP HN
 exact hqZ9.out):p:=e (aa h)
theorem oC {p q:Prop} (h:q) (e:RowKit.Hid q→p:=by
 intro hqZ9
 have i3:IntKind.i64.wrap ((k:Int)+1)=(k:Int)+1:=IntWalk.i64_in _ (by omega)
 revert i3
 exact hqZ9.out):p:=e (aa h)
theorem tM {p q:Prop} (h:q) (e:RowKit.Hid q→p:=by
 intro hqZ9
 have HB4:Hid (Below W1.heap.size W1 w4):=ag (au (B0 W1)) hb4
 have HO4:=aa ho
 have HOW4:=aa (cB HOW.out HB4.out)
 revert HB4 HO4 HOW4
 exact hqZ9.out):p:=e (aa h)
theorem Cd {p q:Prop} (h:q) (e:RowKit.Hid q→p:=by
 intro hqZ9
 have hR5:=((HRo.out.kp HK4.out).kp (KP.of_below (pb:=pb) (ac (B0 w4) (.cells #[.int .i64 d.kind,.string (bs d.name),.slice rA rn rc,.slice nA n2 nc,.int .i64 d.by_,.bool d.always] 87)) (ae _) (by simp)))
 revert hR5
 exact hqZ9.out):p:=e (aa h)
theorem B8 {p q:Prop} (h:q) (e:RowKit.Hid q→p:=by
 intro hqZ9
 have i1:IntKind.i64.wrap ((n:Int) - 1)=(n:Int) - 1:=IntWalk.i64_in _ (by omega)
 have i2:((n:Int) - 1).toNat=n - 1:=by omega
 have i3:(0:Int)≤(n:Int) - 1:=by omega
 have i4:(n:Int) - 1<(n:Int):=by omega
 revert i1 i2 i3 i4
 exact hqZ9.out):p:=e (aa h)
theorem Co {p q:Prop} (h:q) (e:RowKit.Hid q→p:=by
 intro hqZ9
 have HV4:=aa hv4
 have HMc:=aa (fun W (h:Below w4.heap.size w4 W)=>Bc (.slice dA dn dc) ds W (HG.out.below ((HB2.out).trans ((ag HB4.out h).mono hw2)) hG8) (hv4.to fy.ab h (ae _) h.size) hdl)
 revert HV4 HMc
 exact hqZ9.out):p:=e (aa h)
theorem mF {p q:Prop} (h:q) (e:RowKit.Hid q→p:=by
 intro hqZ9
 have hI1:(0:Int)≤k:=by omega
 have hI2:(k:Int)<n:=by omega
 revert hI1 hI2
 exact hqZ9.out):p:=e (aa h)
theorem qu {p q:Prop} (h:q) (e:RowKit.Hid q→p:=by
 intro hqZ9
 have dx3:w6.cell? ⟨w.heap.size,3,none⟩=some (.slice NA nn nc):=af hxd rfl
 revert dx3
 exact hqZ9.out):p:=e (aa h)
theorem CK {p q:Prop} (h:q) (e:RowKit.Hid q→p:=by
 intro hqZ9
 have hyI:=G0 HRd.out (G5 HK.out) (fun x hx=>HLw.out.2 x (List.mem_of_mem_drop hx)) hm3 ht3
 have hyl:=yp HRd.out
 have VC:=pf y _ _ w3 hyI (by have:=HDl.out;omega) (by have:=HDl.out;omega)
 revert hyI hyl VC
 exact hqZ9.out):p:=e (aa h)
theorem xL {p q:Prop} (h:q) (e:RowKit.Hid q→p:=by
 intro hqZ9
 have HS:=aa (show m.cells v= #[.slice Sa m.sites.length sc,.slice Fa m.feeds.length fc,.slice Ra m.racks.length rc,.slice Ma m.machs.length mc,.slice La m.links.length lc,.slice Ia m.items.length ic,.int .i64 m.dark,.int .i64 m.slots,.int .i64 m.reserve,.int .i64 m.failures,.slice Ua m.rules.length uc] from by rw[aC.cells_def,hs,hf,hr,hm,hl,hi,hu])
 revert HS
 exact hqZ9.out):p:=e (aa h)
theorem iF {p q:Prop} (h:q) (e:RowKit.Hid q→p:=by
 intro hqZ9
 have HBw:Hid (Below w.heap.size w wr):=ag HBW.out hB
 revert HBw
 exact hqZ9.out):p:=e (aa h)
theorem nN {p q:Prop} (h:q) (e:RowKit.Hid q→p:=by
 intro hqZ9
 have hzW:=hBW.size
 have x1:W1.cell? ⟨w.heap.size,1,none⟩=some (.string (bs d.name)):=af hxW rfl
 revert hzW x1
 exact hqZ9.out):p:=e (aa h)
theorem tK {p q:Prop} (h:q) (e:RowKit.Hid q→p:=by
 intro hqZ9
 have c1:W1.cell? ⟨rb,6,none⟩=some v:=af hrW hC
 have c2:W1.cell? ⟨pb,0,none⟩=some (.pointer (some ⟨rb,0,none⟩)):=af (ah hp hBW) rfl
 revert c1 c2
 exact hqZ9.out):p:=e (aa h)
theorem rU {p q:Prop} (h:q) (e:RowKit.Hid q→p:=by
 intro hqZ9
 have HB1:=aa (ag (ac (B0 w) _) hb1)
 have HL1:=aa ((cY.new w 45 x (.slice Am nm cm) (.slice As ns cs)).below hb1 (by simp))
 revert HB1 HL1
 exact hqZ9.out):p:=e (aa h)
theorem tL {p q:Prop} (h:q) (e:RowKit.Hid q→p:=by
 intro hqZ9
 have HOW:=aa (cB hown hBW)
 have HUn:Hid (∀W,Below W1.heap.size W1 W→_):=fun W hW=>HUn.out W (ag hBW hW)
 revert HOW HUn
 exact hqZ9.out):p:=e (aa h)
theorem ak {p q:Prop} (h:q) (e:RowKit.Hid q→p:=by
 intro hqZ9
 try simp only[Act.put,sA,sZ,sS]
 exact hqZ9.out):p:=e (aa h)
theorem jd {p q:Prop} (h:q) (e:RowKit.Hid q→p:=by
 intro hqZ9
 refine hK.out _ _ (by refine(fun(hb:Below wr.heap.size wr _)=>⟨kc hb c0,kc hb c2,kc hb cs,HMr.out.later hb,hb⟩) ?_;first|exact au (ac (B0 wr) _)|exact ac (au (B0 wr)) _|exact aR (au (ac (B0 wr) _)) (ae _) _|exact aR (ac (au (B0 wr)) _) (ae _) _|exact aR (aR (au (ac (B0 wr) _)) (ae _) _) (ae _) _|exact au (aR (aR (ac (B0 wr) _) (ae _) _) (ae _) _)|exact au (ac (B0 wr) _)) ?_
 exact hqZ9.out):p:=e (aa h)
theorem je {p q:Prop} (h:q) (e:RowKit.Hid q→p:=by
 intro hqZ9
 refine bP (S:=fun w'=>w'.cell? ⟨xb,0,none⟩=some (.int .i64 d.kind)∧w'.cell? ⟨xb,1,none⟩=some (.string (bs d.name))∧w'.cell? ⟨xb,2,none⟩=some (.slice RA rn rc)∧w'.cell? ⟨xb,3,none⟩=some (.slice NA nn nc)∧w'.cell? ⟨xb,4,none⟩=some (.int .i64 d.by_)∧w'.cell? ⟨xb,5,none⟩=some (.bool d.always)) 6 7 (by exact⟨bx0,bx1,bx2,bx3,bx4,bx5⟩) ?_
 exact hqZ9.out):p:=e (aa h)
theorem kb {p q:Prop} (h:q) (e:RowKit.Hid q→p:=by
 intro hqZ9
 refine bt (fun W=>Below w.heap.size w W∧W.heap[w.heap.size]? =some (.cells #[.slice Sa m.sites.length sc,.slice Fa m.feeds.length fc,.slice Ra m.racks.length rc,.slice Ma m.machs.length mc,.slice La m.links.length lc,.slice Ia m.items.length ic,.int .i64 m.dark,.int .i64 m.slots,.int .i64 m.reserve,.int .i64 m.failures,.slice Ua m.rules.length uc] 29 (0,0))) ⟨ac (B0 w) _,aN w _⟩ ?_
 exact hqZ9.out):p:=e (aa h)
theorem yz {p q:Prop} (h:q) (e:RowKit.Hid q→p:=by
 intro hqZ9
 refine bH (S:=fun w'=>w'.cell? ⟨fb,0,none⟩=some (.func (.func go) #[] #[])∧w'.cell? ⟨fb,1,none⟩=some (.func (.func gn) #[] #[])∧w'.cell? ⟨w.heap.size,0,none⟩=some (.slice Sa m.sites.length sc)∧w'.cell? ⟨w.heap.size,1,none⟩=some (.slice Fa m.feeds.length fc)∧w'.cell? ⟨w.heap.size,2,none⟩=some (.slice Ra m.racks.length rc)∧w'.cell? ⟨w.heap.size,3,none⟩=some (.slice Ma m.machs.length mc)∧w'.cell? ⟨w.heap.size,4,none⟩=some (.slice La m.links.length lc)∧w'.cell? ⟨w.heap.size,5,none⟩=some (.slice Ia m.items.length ic)∧w'.cell? ⟨w.heap.size,6,none⟩=some (.int .i64 m.dark)∧w'.cell? ⟨w.heap.size,7,none⟩=some (.int .i64 m.slots)∧w'.cell? ⟨w.heap.size,8,none⟩=some (.int .i64 m.reserve)∧w'.cell? ⟨w.heap.size,9,none⟩=some (.int .i64 m.failures)∧w'.cell? ⟨w.heap.size,10,none⟩=some (.slice Ua m.rules.length uc)∧w'.cell? ⟨w.heap.size+1,0,none⟩=some (.int .i64 x.kind)∧w'.cell? ⟨w.heap.size+1,1,none⟩=some (.int .i64 x.item)∧w'.cell? ⟨w.heap.size+1,2,none⟩=some (.int .i64 x.other)∧w'.cell? ⟨w.heap.size+1,3,none⟩=some (.int .i64 x.n)∧w'.cell? ⟨w.heap.size+1,4,none⟩=some (.int .i64 x.by_)∧w'.cell? ⟨w.heap.size+1,5,none⟩=some (.bool x.always)∧w'.cell? ⟨w.heap.size+1,6,none⟩=some (.slice A n c)) 17 (by exact⟨af0,af1,am0,am1,am2,am3,am4,am5,am6,am7,am8,am9,am10,ax0,ax1,ax2,ax3,ax4,ax5,ax6⟩) ?_
 exact hqZ9.out):p:=e (aa h)
theorem Az {p q:Prop} (h:q) (e:RowKit.Hid q→p:=by
 intro hqZ9
 refine hK.out _ _ (by exact⟨((ac (B0 _) _).cell (p:=⟨mb,0,none⟩) (aH _ _ (hS.1))).trans (hS.1),((ac (B0 _) _).cell (p:=⟨rb,6,none⟩) (aH _ _ (hS.2.1))).trans (hS.2.1),((ac (B0 _) _).cell (p:=⟨pb,0,none⟩) (aH _ _ (hS.2.2.1))).trans (hS.2.2.1),((ac (B0 _) _).cell (p:=⟨w.heap.size,0,none⟩) (aH _ _ (hS.2.2.2.1))).trans (hS.2.2.2.1),((ac (B0 _) _).cell (p:=⟨w.heap.size,1,none⟩) (aH _ _ (hS.2.2.2.2.1))).trans (hS.2.2.2.2.1),((ac (B0 _) _).cell (p:=⟨w.heap.size,2,none⟩) (aH _ _ (hS.2.2.2.2.2.1))).trans (hS.2.2.2.2.2.1),((ac (B0 _) _).cell (p:=⟨w.heap.size,3,none⟩) (aH _ _ (hS.2.2.2.2.2.2.1))).trans (hS.2.2.2.2.2.2.1),((ac (B0 _) _).cell (p:=⟨w.heap.size,4,none⟩) (aH _ _ (hS.2.2.2.2.2.2.2.1))).trans (hS.2.2.2.2.2.2.2.1),((ac (B0 _) _).cell (p:=⟨w.heap.size,5,none⟩) (aH _ _ (hS.2.2.2.2.2.2.2.2))).trans (hS.2.2.2.2.2.2.2.2)⟩) ?_
 exact hqZ9.out):p:=e (aa h)
theorem dt {p q:Prop} (h:q) (e:RowKit.Hid q→p:=by
 intro hqZ9
 refine hK.out _ _ (by exact⟨kc (hBc) x0,kc (hBc) c2,hBc⟩) ?_
 exact hqZ9.out):p:=e (aa h)
theorem AA {p q:Prop} (h:q) (e:RowKit.Hid q→p:=by
 intro hqZ9
 refine hK.out _ _ (by exact⟨(bC hgrow (aH _ _ (hS.1)) hvm).trans (hS.1),(bC hgrow (aH _ _ (hS.2.1)) hvr).trans (hS.2.1),(bC hgrow (aH _ _ (hS.2.2.1)) hvp).trans (hS.2.2.1),(bC hgrow (aH _ _ (hS.2.2.2.1)) hvx).trans (hS.2.2.2.1),(bC hgrow (aH _ _ (hS.2.2.2.2.1)) hvx).trans (hS.2.2.2.2.1),(bC hgrow (aH _ _ (hS.2.2.2.2.2.1)) hvx).trans (hS.2.2.2.2.2.1),(bC hgrow (aH _ _ (hS.2.2.2.2.2.2.1)) hvx).trans (hS.2.2.2.2.2.2.1),(bC hgrow (aH _ _ (hS.2.2.2.2.2.2.2.1)) hvx).trans (hS.2.2.2.2.2.2.2.1),(bC hgrow (aH _ _ (hS.2.2.2.2.2.2.2.2)) hvx).trans (hS.2.2.2.2.2.2.2.2)⟩) ?_
 exact hqZ9.out):p:=e (aa h)
theorem nV {p q:Prop} (h:q) (e:RowKit.Hid q→p:=by
 intro hqZ9
 refine bP (S:=fun w'=>w'.cell? ⟨rb,0,none⟩=some (.map (some Mb))∧w'.cell? ⟨w.heap.size,2,none⟩=some (.slice (some ⟨sb,so,none⟩) rn rc)∧w'.cell? ⟨sb,so+k,none⟩=some (.string (bs s))∧aZ dI w' Mb (dr t)∧Below wr.heap.size wr w') 16 16 (by exact⟨c0,c2,cs,HMr.out,au (B0 wr)⟩) ?_
 exact hqZ9.out):p:=e (aa h)
theorem jh {p q:Prop} (h:q) (e:RowKit.Hid q→p:=by
 intro hqZ9
 refine hK.out _ _ (by exact⟨kc (HB6.out) bx0,kc (HB6.out) bx1,kc (HB6.out) bx2,kc (HB6.out) bx3,kc (HB6.out) bx4,kc (HB6.out) bx5⟩) ?_
 exact hqZ9.out):p:=e (aa h)
theorem yw {p q:Prop} (h:q) (e:RowKit.Hid q→p:=by
 intro hqZ9
 refine bt (fun W=>Below w.heap.size w W∧W.heap[w.heap.size]? =some (.cells #[.slice Sa m.sites.length sc,.slice Fa m.feeds.length fc,.slice Ra m.racks.length rc,.slice Ma m.machs.length mc,.slice La m.links.length lc,.slice Ia m.items.length ic,.int .i64 m.dark,.int .i64 m.slots,.int .i64 m.reserve,.int .i64 m.failures,.slice Ua m.rules.length uc] 29 (0,0))∧W.heap[w.heap.size+1]? =some (.cells #[.int .i64 x.kind,.int .i64 x.item,.int .i64 x.other,.int .i64 x.n,.int .i64 x.by_,.bool x.always,.slice A n c] 110 (0,0))) ⟨ac (ac (B0 w) _) _,(gE w _ _ _ _).1,(gE w _ _ _ _).2⟩ ?_
 exact hqZ9.out):p:=e (aa h)
theorem tO {p q:Prop} (h:q) (e:RowKit.Hid q→p:=by
 intro hqZ9
 refine step_append_lies _ (by rfl) _ _ _ (by rfl) B 135 i0 _ 7 80 underlying26 hi hz0 hz1 hz2 rfl (by omega) _ _ _ (by rfl) ((HOW4.out).alloc _) ⟨_,0,none⟩ 1 1 (iB u (.slice OA om oc)) (by rfl) (by rfl) (eE rfl) (by simp[iB,Value.oneCell']) (by omega) (by simp[maxLen];omega) (by first|omega|(simp;omega)) (by have:=HB4.out.size;first|omega|(simp;omega)) _ rfl ?_
 exact hqZ9.out):p:=e (aa h)
theorem uq {p q:Prop} (h:q) (e:RowKit.Hid q→p:=by
 intro hqZ9
 refine bP (S:=fun w'=>w'.cell? ⟨w.heap.size,2,none⟩=some (.slice Ra m.racks.length rc)∧w'.cell? ⟨w.heap.size,3,none⟩=some (.slice (some ⟨b,o,none⟩) m.machs.length mc)∧w'.cell? ⟨b,o+k*3+1,none⟩=some (.int .i64 x.rack)∧w'.cell? ⟨b,o+k*3+2,none⟩=some (.int .i64 x.cap)∧Below wr.heap.size wr w') 21 21 (by exact⟨c2,c3,e1,e2,au (B0 wr)⟩) ?_
 exact hqZ9.out):p:=e (aa h)
theorem uk {p q:Prop} (h:q) (e:RowKit.Hid q→p:=by
 intro hqZ9
 refine bP (S:=fun w'=>w'.cell? ⟨w.heap.size,2,none⟩=some (.slice (some ⟨b,o,none⟩) m.racks.length rc)∧w'.cell? ⟨xb,1,none⟩=some (.int .i64 x.site)∧w'.cell? ⟨xb,2,none⟩=some (.int .i64 x.feed)∧w'.cell? ⟨b,o+j*3+1,none⟩=some (.int .i64 y.site)∧w'.cell? ⟨b,o+j*3+2,none⟩=some (.int .i64 y.feed)) 20 20 (by exact⟨d2,dx1,dx2,y1,y2⟩) ?_
 exact hqZ9.out):p:=e (aa h)
theorem up {p q:Prop} (h:q) (e:RowKit.Hid q→p:=by
 intro hqZ9
 refine bP (S:=fun w'=>w'.cell? ⟨w.heap.size,4,none⟩=some (.slice (some ⟨b,o,none⟩) m.links.length lc)∧w'.cell? ⟨xb,0,none⟩=some (.int .i64 x.a)∧w'.cell? ⟨xb,1,none⟩=some (.int .i64 x.b)∧w'.cell? ⟨b,o+j*3,none⟩=some (.int .i64 y.a)∧w'.cell? ⟨b,o+j*3+1,none⟩=some (.int .i64 y.b)) 20 20 (by exact⟨d2,dx1,dx2,y1,y2⟩) ?_
 exact hqZ9.out):p:=e (aa h)
theorem uB {p q:Prop} (h:q) (e:RowKit.Hid q→p:=by
 intro hqZ9
 refine(MG (bs c) _ 12 _ _ _ b t cs _ (HG.out.step (ac (ac HB2.out _) _)) (by go_simp) (by simp<;>omega) (by simp<;>omega) (by simp) (by rw[bq];omega) (by go_simp) (by simp<;>omega) (by simp<;>omega) hb8 ((Below.heap_alloc _ _ _ (by simp<;>omega)).trans ((Below.heap_alloc _ _ _ (by omega)).trans HBk2.out)) (by rw[HCs.out];decide)).mono ?_
 exact hqZ9.out):p:=e (aa h)
theorem uR {p q:Prop} (h:q) (e:RowKit.Hid q→p:=by
 intro hqZ9
 refine bt (fun W=>W.heap[w6.heap.size]? =some (.cells #[.slice none 0 0,.slice none 0 0,.slice none 0 0,.slice none 0 0,.slice none 0 0,.slice none 0 0,.int .i64 0,.int .i64 0,.int .i64 0,.int .i64 0,.slice none 0 0,.slice none 0 0,.int .i64 0,.slice none 0 0] 33 (0,0))∧Below w6.heap.size w6 W) ⟨aN w6 _,ac (B0 w6) _⟩ ?_
 exact hqZ9.out):p:=e (aa h)
theorem uM {p q:Prop} (h:q) (e:RowKit.Hid q→p:=by
 intro hqZ9
 refine bt (fun W=>Below w.heap.size w W∧W.heap[w.heap.size]? =some (.cells #[.slice none 0 0,.slice none 0 0,.slice none 0 0,.slice none 0 0,.slice none 0 0,.slice none 0 0,.int .i64 0,.int .i64 0,.int .i64 0,.int .i64 0,.slice none 0 0,.slice none 0 0,.int .i64 0,.slice none 0 0] 33 (0,0))) ⟨ac (B0 w) _,aN w _⟩ ?_
 exact hqZ9.out):p:=e (aa h)
theorem Cx {p q:Prop} (h:q) (e:RowKit.Hid q→p:=by
 intro hqZ9
 refine bt (fun W=>W.heap[sb]? =some (.cells #[.slice Sa m.sites.length sc,.slice Fa m.feeds.length fc,.slice Ra m.racks.length rc,.slice Ma m.machs.length mc,.slice La m.links.length lc,.slice Ia m.items.length ic,.int .i64 m.dark,.int .i64 m.slots,.int .i64 m.reserve,.int .i64 m.failures,.slice Ua m.rules.length uc,.slice A n c,.int .i64 cl,.slice none 0 0] 33 (0,0))∧KP wm.heap.size sb wm W) ⟨B6 HSm.out _ _ _ _ _ _ _ _ _ _ _,uL _ _ _ _ _ _ _ _ _ _ _ _⟩ ?_
 exact hqZ9.out):p:=e (aa h)
theorem ii {p q:Prop} (h:q) (e:RowKit.Hid q→p:=by
 intro hqZ9
 refine hK.out _ _ (by exact⟨kc (hBb) x0,kc (hBb) c2,hBb⟩) ?_
 exact hqZ9.out):p:=e (aa h)
theorem Cw {p q:Prop} (h:q) (e:RowKit.Hid q→p:=by
 intro hqZ9
 refine bt (fun W=>W.heap[w8.heap.size]? =some (.cells #[.slice Sa m.sites.length sc,.slice Fa m.feeds.length fc,.slice Ra m.racks.length rc,.slice Ma m.machs.length mc,.slice La m.links.length lc,.slice Ia m.items.length ic,.int .i64 m.dark,.int .i64 m.slots,.int .i64 m.reserve,.int .i64 m.failures,.slice Ua m.rules.length uc] 29 (0,0))∧Below w8.heap.size w8 W) ⟨aN w8 _,ac (B0 w8) _⟩ ?_
 exact hqZ9.out):p:=e (aa h)
theorem tJ {p q:Prop} (h:q) (e:RowKit.Hid q→p:=by
 intro hqZ9
 refine bt (fun W=>Below w.heap.size w W∧W.heap[w.heap.size]? =some (.cells #[.int .i64 d.kind,.string (bs d.name),.slice RA rn rc,.slice (some ⟨qb,qo,none⟩) (m+3) nc,.int .i64 d.by_,.bool d.always] 87 (0,0))) ⟨ac (B0 w) _,aN w _⟩ ?_
 exact hqZ9.out):p:=e (aa h)
theorem AP {p q:Prop} (h:q) (e:RowKit.Hid q→p:=by
 intro hqZ9
 refine hK.out _ _ (by refine(fun(hb:Below w3.heap.size w3 _)=>⟨kc hb y0,kc hb y4,kc hb y5,kc hb yn0,hb⟩) ?_;first|exact au (ac (B0 w3) _)|exact ac (au (B0 w3)) _|(repeat' first|with_reducible exact B0 w3|with_reducible refine au ?_ |with_reducible refine aR ?_ (by first|omega|(simp;done)) _|with_reducible refine ac ?_ _)) ?_
 exact hqZ9.out):p:=e (aa h)
theorem si {p q:Prop} (h:q) (e:RowKit.Hid q→p:=by
 intro hqZ9
 refine rP (fun W=>Below wc.heap.size wc W∧bB W wc.heap.size (aK k) aG aG∧W.cell? ⟨pb,4,none⟩=some (.func (.func gr) #[] #[])∧wc.heap.size<W.heap.size) ⟨ac (B0 wc) _,G3 wc k _ HKd.out,by go_simp,by simp⟩ ?_
 exact hqZ9.out):p:=e (aa h)
theorem zN {p q:Prop} (h:q) (e:RowKit.Hid q→p:=by
 intro hqZ9
 refine step_append_lies _ (by rfl) _ _ _ (by rfl) B 9 i0 _ 1 16 underlying22 hi hz0 hz1 hz2 rfl (by omega) _ _ _ (by rfl) ((HOW.out).alloc _) ⟨_,0,none⟩ 1 1 [.string (bs d.name)] (by rfl) (by rfl) (eE rfl) (by simp[Value.oneCell']) (by omega) (by simp[maxLen];omega) (by first|omega|(simp;omega)) (by first|omega|(simp;omega)) _ rfl ?_
 exact hqZ9.out):p:=e (aa h)
theorem te {p q:Prop} (h:q) (e:RowKit.Hid q→p:=by
 intro hqZ9
 refine bt (fun W=>Below w.heap.size w W∧W.heap[w.heap.size]? =some (.cells #[.int .i64 d.kind,.string (bs d.name),.slice RA rn rc,.slice NA nn nc,.int .i64 d.by_,.bool d.always] 87 (0,0))) ⟨ac (B0 w) _,aN w _⟩ ?_
 exact hqZ9.out):p:=e (aa h)
theorem pX {p q:Prop} (h:q) (e:RowKit.Hid q→p:=by
 intro hqZ9
 refine eU rfl (.tmp 42) (.const (.int .i64 13)) (.tmp 53) 186 (.inr rfl) 3 22 (.int .i64) underlying186 underlying3 aO _ _ rfl hFb (13:Int) _ rfl rfl ?_
 exact hqZ9.out):p:=e (aa h)
theorem pY {p q:Prop} (h:q) (e:RowKit.Hid q→p:=by
 intro hqZ9
 refine eU rfl (.tmp 42) (.const (.int .i64 6)) (.tmp 46) 186 (.inr rfl) 3 22 (.int .i64) underlying186 underlying3 aO _ _ rfl hFb (6:Int) _ rfl rfl ?_
 exact hqZ9.out):p:=e (aa h)
theorem pZ {p q:Prop} (h:q) (e:RowKit.Hid q→p:=by
 intro hqZ9
 refine eU rfl (.tmp 42) (.const (.int .i64 5)) (.tmp 44) 186 (.inr rfl) 3 22 (.int .i64) underlying186 underlying3 aO _ _ rfl hFb (5:Int) _ rfl rfl ?_
 exact hqZ9.out):p:=e (aa h)
theorem A9 {p q:Prop} (h:q) (e:RowKit.Hid q→p:=by
 intro hqZ9
 refine bP (S:=fun w'=>w'.cell? ⟨w.heap.size,0,none⟩=some (.int .i64 d.kind)∧w'.cell? ⟨w.heap.size,2,none⟩=some (.slice (some ⟨sb,so,none⟩) 2 rc)∧w'.cell? ⟨sb,so,none⟩=some (.string (bs s0))∧w'.cell? ⟨sb,so+1,none⟩=some (.string (bs s1))) 19 19 (by exact⟨y0,y2,ys0,ys1⟩) ?_
 exact hqZ9.out):p:=e (aa h)
theorem rZ {p q:Prop} (h:q) (e:RowKit.Hid q→p:=by
 intro hqZ9
 refine bodyPost_ret (v:= .tuple #[.agg ((aK 0).cells aG aG),.int .i64 3]) (by simp[results,results13,go_sem,ej,aG,d0,d1,d2,d3,d4,d5,d6,d7,d8,d9];try rfl) rfl ?_
 exact hqZ9.out):p:=e (aa h)
theorem BI {p q:Prop} (h:q) (e:RowKit.Hid q→p:=by
 intro hqZ9
 refine bP (S:=fun w'=>w'.cell? ⟨w.heap.size,3,none⟩=some (.slice Ma m.machs.length mc)∧w'.cell? ⟨ub,uo+k,none⟩=some (.int .i64 x)∧w'.cell? ⟨ub,uo+(k - 1),none⟩=some (.int .i64 y)∧Below wr.heap.size wr w') 25 25 (by exact⟨c3,cs,cp,au (B0 wr)⟩) ?_
 exact hqZ9.out):p:=e (aa h)
theorem qs {p q:Prop} (h:q) (e:RowKit.Hid q→p:=by
 intro hqZ9
 refine(Mf _ _ _ _ _ _ _ _ _ _ _ _ _ ctl cl _ ((HV.out.below HBs.out (ae _)).more HBs.out.size) HCl.out HI.out {} []).mono ?_
 exact hqZ9.out):p:=e (aa h)
theorem p7 {p q:Prop} (h:q) (e:RowKit.Hid q→p:=by
 intro hqZ9
 refine(HSo.out _ wc.heap.size (by simp) (af (aN wc _) rfl) ((HLs.out.below (ac (B0 wc) _) (ae _)).more (by simp))).mono ?_
 exact hqZ9.out):p:=e (aa h)
theorem zO {p q:Prop} (h:q) (e:RowKit.Hid q→p:=by
 intro hqZ9
 refine hK.out _ _ (by exact⟨(bC hgrow (aH _ _ (hS.1)) hvm).trans (hS.1),(bC hgrow (aH _ _ (hS.2.1)) hvr).trans (hS.2.1),(bC hgrow (aH _ _ (hS.2.2)) hvx).trans (hS.2.2)⟩) ?_
 exact hqZ9.out):p:=e (aa h)
theorem fu {p q:Prop} (h:q) (e:RowKit.Hid q→p:=by
 intro hqZ9
 refine(Mh _ _ _).mono ?_
 exact hqZ9.out):p:=e (aa h)
theorem zP {p q:Prop} (h:q) (e:RowKit.Hid q→p:=by
 intro hqZ9
 refine bt (fun W=>Below w.heap.size w W∧W.heap[w.heap.size]? =some (.cells #[.int .i64 d.kind,.string (bs d.name),.slice RA rn rc,.slice (some ⟨qb,qo,none⟩) (nn+1) nc,.int .i64 d.by_,.bool d.always] 87 (0,0))) ⟨ac (B0 w) _,aN w _⟩ ?_
 exact hqZ9.out):p:=e (aa h)
theorem lg {p q:Prop} (h:q) (e:RowKit.Hid q→p:=by
 intro hqZ9
 refine bP (S:=Below wr.heap.size wr) 34 34 (au (B0 wr)) ?_
 exact hqZ9.out):p:=e (aa h)
theorem sq {p q:Prop} (h:q) (e:RowKit.Hid q→p:=by
 intro hqZ9
 refine(HFn.out.read (.slice (some ⟨bl,ol+1,none⟩) (n - 1) (c - 1)) ((ba s).drop 1) W.drew wc.heap.size HGW.out HBl.out h8 HRV.out HDs.out HDl.out).mono ?_
 exact hqZ9.out):p:=e (aa h)
theorem uw {p q:Prop} (h:q) (e:RowKit.Hid q→p:=by
 intro hqZ9
 refine bP (S:=fun w'=>w'.cell? ⟨ub,uo+k,none⟩=some (.string (bs s))∧Below wr.heap.size wr w') 16 16 (by exact⟨cs,au (B0 wr)⟩) ?_
 exact hqZ9.out):p:=e (aa h)
theorem AV {p q:Prop} (h:q) (e:RowKit.Hid q→p:=by
 intro hqZ9
 refine lY rfl (.tmp 54) (.tmp 56) 186 false rfl 3 22 (.int .i64) underlying186 underlying3 aO _ _ rfl (hFc.of_eq (KT _ _)) (d.kind:Int) (.slice none 0 0) rfl (zeroValue22 _) _ (lZ _ _ _) ?_
 exact hqZ9.out):p:=e (aa h)
theorem AW {p q:Prop} (h:q) (e:RowKit.Hid q→p:=by
 intro hqZ9
 refine lY rfl (.tmp 54) (.tmp 56) 186 false rfl 3 22 (.int .i64) underlying186 underlying3 aO _ _ rfl (hFc.of_eq (KU _ _)) (d.kind:Int) (.slice none 0 0) rfl (zeroValue22 _) _ (lZ _ _ _) ?_
 exact hqZ9.out):p:=e (aa h)
theorem AX {p q:Prop} (h:q) (e:RowKit.Hid q→p:=by
 intro hqZ9
 refine lY rfl (.tmp 54) (.tmp 56) 186 false rfl 3 22 (.int .i64) underlying186 underlying3 aO _ _ rfl (hFc.of_eq (KV _ _)) (d.kind:Int) (.slice none 0 0) rfl (zeroValue22 _) _ (lZ _ _ _) ?_
 exact hqZ9.out):p:=e (aa h)
theorem AY {p q:Prop} (h:q) (e:RowKit.Hid q→p:=by
 intro hqZ9
 refine lY rfl (.tmp 54) (.tmp 56) 186 false rfl 3 22 (.int .i64) underlying186 underlying3 aO _ _ rfl (hFc.of_eq (KW _ _)) (d.kind:Int) (.slice none 0 0) rfl (zeroValue22 _) _ (lZ _ _ _) ?_
 exact hqZ9.out):p:=e (aa h)
theorem AZ {p q:Prop} (h:q) (e:RowKit.Hid q→p:=by
 intro hqZ9
 refine lY rfl (.tmp 54) (.tmp 56) 186 false rfl 3 22 (.int .i64) underlying186 underlying3 aO _ _ rfl (hFc.of_eq (KX _ _)) (d.kind:Int) (.slice none 0 0) rfl (zeroValue22 _) _ (lZ _ _ _) ?_
 exact hqZ9.out):p:=e (aa h)
theorem A0 {p q:Prop} (h:q) (e:RowKit.Hid q→p:=by
 intro hqZ9
 refine lY rfl (.tmp 54) (.tmp 56) 186 false rfl 3 22 (.int .i64) underlying186 underlying3 aO _ _ rfl (hFc.of_eq (KY _ _)) (d.kind:Int) (.slice none 0 0) rfl (zeroValue22 _) _ (lZ _ _ _) ?_
 exact hqZ9.out):p:=e (aa h)
theorem zY {p q:Prop} (h:q) (e:RowKit.Hid q→p:=by
 intro hqZ9
 refine bt (fun W=>Below w.heap.size w W∧W.heap[w.heap.size]? =some (.cells #[.int .i64 d.kind,.string (bs d.name),.slice RA rn rc,.slice NA nn nc,.int .i64 d.by_,.bool aw] 87 (0,0))) ⟨ac (B0 w) _,aN w _⟩ ?_
 exact hqZ9.out):p:=e (aa h)
theorem me {p q:Prop} (h:q) (e:RowKit.Hid q→p:=by
 intro hqZ9
 refine hK.out _ _ (by exact⟨kc (hBa) x0,kc (hBa) c2,hBa⟩) ?_
 exact hqZ9.out):p:=e (aa h)
theorem BG {p q:Prop} (h:q) (e:RowKit.Hid q→p:=by
 intro hqZ9
 refine bP (S:=fun w'=>w'.cell? ⟨w.heap.size,3,none⟩=some (.slice Ma m.machs.length mc)∧w'.cell? ⟨ub,uo+k,none⟩=some (.int .i64 x)∧Below wr.heap.size wr w') 25 25 (by exact⟨c3,cs,au (B0 wr)⟩) ?_
 exact hqZ9.out):p:=e (aa h)
theorem ww {p q:Prop} (h:q) (e:RowKit.Hid q→p:=by
 intro hqZ9
 refine(oB (aE l 2) ob 3 43 #[.int .i64 2,.string (aE l 1),.int .i64 0,.int .i64 0] _ (HG.out.step HB5.out) (HSZ.out _ (jp (by rw[HN.out];omega))) (by have:=HG.out.size;omega) HO5.out (by simp)).mono ?_
 exact hqZ9.out):p:=e (aa h)
theorem st {p q:Prop} (h:q) (e:RowKit.Hid q→p:=by
 intro hqZ9
 refine(HFn.out.read (.slice (some ⟨bl,ol,none⟩) 0 0) ((ba s).drop 1) W.drew wc.heap.size HGW.out HBl.out h8 HRV.out HDs.out HDl.out).mono ?_
 exact hqZ9.out):p:=e (aa h)
theorem AJ {p q:Prop} (h:q) (e:RowKit.Hid q→p:=by
 intro hqZ9
 refine bt (fun W=>Below w.heap.size w W∧W.heap[w.heap.size]? =some (.cells #[.int .i64 d.kind,.string (bs d.name),.slice RA rn rc,nv,.int .i64 d.by_,.bool d.always] 87 (0,0))) ⟨ac (B0 w) _,aN w _⟩ ?_
 exact hqZ9.out):p:=e (aa h)
theorem jf {p q:Prop} (h:q) (e:RowKit.Hid q→p:=by
 intro hqZ9
 refine(HNum.out _ (au (B0 w5))).mono ?_
 exact hqZ9.out):p:=e (aa h)
theorem Ay {p q:Prop} (h:q) (e:RowKit.Hid q→p:=by
 intro hqZ9
 refine hK.out _ _ (by exact⟨kc (HB4.out) c0,kc (HB4.out) c1,kc (HB4.out) c2,kc (HB4.out) x0,kc (HB4.out) x1,kc (HB4.out) x2,kc (HB4.out) x3,kc (HB4.out) x4,kc (HB4.out) x5⟩) ?_
 exact hqZ9.out):p:=e (aa h)
theorem nZ {p q:Prop} (h:q) (e:RowKit.Hid q→p:=by
 intro hqZ9
 refine LK (by rfl) (by rfl) (by rfl) (by rfl) HTT.out ?_
 exact hqZ9.out):p:=e (aa h)
theorem yg {p q:Prop} (h:q) (e:RowKit.Hid q→p:=by
 intro hqZ9
 refine(HU.out w1 ⟨word,kind,gu,gf,caps,gr,gt⟩ _ (w1.heap.size+1) w.heap.size HFn.out (GO w1 _ k _ HK.out) (HL1.out.below (ac (ac (B0 w1) _) _) hz1) (by omega)).mono ?_
 exact hqZ9.out):p:=e (aa h)
theorem CM {p q:Prop} (h:q) (e:RowKit.Hid q→p:=by
 intro hqZ9
 refine eU rfl (.tmp 42) (.const (.int .i64 13)) (.tmp 53) 186 (.inr rfl) 3 22 (.int .i64) underlying186 underlying3 aO _ _ rfl hFa (13:Int) _ rfl rfl ?_
 exact hqZ9.out):p:=e (aa h)
theorem CN {p q:Prop} (h:q) (e:RowKit.Hid q→p:=by
 intro hqZ9
 refine eU rfl (.tmp 42) (.const (.int .i64 6)) (.tmp 46) 186 (.inr rfl) 3 22 (.int .i64) underlying186 underlying3 aO _ _ rfl hFa (6:Int) _ rfl rfl ?_
 exact hqZ9.out):p:=e (aa h)
theorem CO {p q:Prop} (h:q) (e:RowKit.Hid q→p:=by
 intro hqZ9
 refine eU rfl (.tmp 42) (.const (.int .i64 5)) (.tmp 44) 186 (.inr rfl) 3 22 (.int .i64) underlying186 underlying3 aO _ _ rfl hFa (5:Int) _ rfl rfl ?_
 exact hqZ9.out):p:=e (aa h)
theorem nK {p q:Prop} (h:q) (e:RowKit.Hid q→p:=by
 intro hqZ9
 refine(HW.out _ im (by first|omega|(simp;omega))).mono ?_
 exact hqZ9.out):p:=e (aa h)
theorem jJ {p q:Prop} (h:q) (e:RowKit.Hid q→p:=by
 intro hqZ9
 refine(HVa.out W1 HBW.out).mono ?_
 exact hqZ9.out):p:=e (aa h)
theorem yS {p q:Prop} (h:q) (e:RowKit.Hid q→p:=by
 intro hqZ9
 refine bodyPost_ret (v:= .tuple #[cz 0 [] 0 0,.int .i64 x]) (by simp[results,results122,go_sem,cz,bs,c0,c1,c2,c3,hz]) rfl ?_
 exact hqZ9.out):p:=e (aa h)
theorem nT {p q:Prop} (h:q) (e:RowKit.Hid q→p:=by
 intro hqZ9
 refine AG ho hg hd hp hn (by decide) hF hrun (B0 w) ?_
 exact hqZ9.out):p:=e (aa h)
theorem uS {p q:Prop} (h:q) (e:RowKit.Hid q→p:=by
 intro hqZ9
 refine(Bc (.slice dA dn dc) ds _ (HG.out.step HB7.out) HV7.out hdl.out).mono ?_
 exact hqZ9.out):p:=e (aa h)
theorem pU {p q:Prop} (h:q) (e:RowKit.Hid q→p:=by
 intro hqZ9
 refine AG ho hg hd hp hn hs.2 hF hrun (ac (B0 w) _) ?_
 exact hqZ9.out):p:=e (aa h)
theorem mw {p:Prop} (h:p:=by
 refine dt fun hS=> ?_
 clear hK
 refine ak ?_
 refine cj 19 9 ?_
 refine eP ?_
 go_wp2_with fail
 go_meet
 exact⟨HL.out _ _ (by first|exact hBc|exact au hBc),by first|exact hBc|exact au hBc⟩):p:=h
theorem AU {p:Prop} (h:p:=by
 iterate 2 refine gP 21 42 ?_
 iterate 2 refine gP 22 41 ?_
 iterate 7 refine gP 23 40 ?_
 iterate 2 refine gP 25 39 ?_
 refine cP 0 fun K hK=> ?_
 refine AN (enc:=cC) rfl 186 rfl ?_
 intro w0 hF0 hB0'
 have hB0:Below wr.heap.size wr w0:=ag (au (B0 wr)) hB0'
 clear hB0'
 refine hK.out _ _ (by exact⟨kc (hB0) x0,kc (hB0) c2,hB0⟩) (fun hS=> ?_)
 clear hK
 refine ak ?_
 refine iU (rs:=[3,6,14]) (by kernel_rfl) (by simp) ?_
 refine bR.cons1 rfl (fun K hK=> ?_) (bR.cons1 rfl (fun K hK=> ?_) (bR.cons1 rfl (fun K hK=> ?_) (bR.nil)))
 ·refine eU rfl (.tmp 42) (.const (.int .i64 5)) (.tmp 44) 186 (.inr rfl) 3 22 (.int .i64) underlying186 underlying3 aO _ _ rfl hF0 (5:Int) _ rfl rfl ?_
  intro wa hFa hTa
  have hBa:=hTa.1 _ _ hB0 (ae _)
  clear hTa hF0
  refine me fun hS=> ?_
  clear hK
  refine ak ?_
  refine iU (rs:=[6,14]) (by kernel_rfl) (by simp) ?_
  refine bR.cons1 rfl (fun K hK=> ?_) (bR.cons1 rfl (fun K hK=> ?_) (bR.nil))
  ·refine CN ?_
   intro wb hFb hTb
   have hBb:=hTb.1 _ _ hBa (ae _)
   clear hTb hFa
   refine ii fun hS=> ?_
   clear hK
   refine ak ?_
   refine cP 14 fun K hK=> ?_
   refine pX ?_
   intro wc hFc hTc
   have hBc:=hTc.1 _ _ hBb (ae _)
   clear hTc hFb
   refine dt fun hS=> ?_
   clear hK
   refine ak ?_
   refine cP 15 fun K hK=> ?_
   go_simp
   refine dt fun hS=> ?_
   clear hK
   refine ak ?_
   refine cP 18 fun K hK=> ?_
   refine AV ?_
   exact mw
  ·refine CM ?_
   intro wb hFb hTb
   have hBb:=hTb.1 _ _ hBa (ae _)
   clear hTb hFa
   refine ii fun hS=> ?_
   clear hK
   refine ak ?_
   refine cP 6 fun K hK=> ?_
   refine pY ?_
   intro wc hFc hTc
   have hBc:=hTc.1 _ _ hBb (ae _)
   clear hTc hFb
   refine dt fun hS=> ?_
   clear hK
   refine ak ?_
   refine cP 15 fun K hK=> ?_
   go_simp
   refine dt fun hS=> ?_
   clear hK
   refine ak ?_
   refine cP 18 fun K hK=> ?_
   refine AW ?_
   exact mw
 ·refine eU rfl (.tmp 42) (.const (.int .i64 6)) (.tmp 46) 186 (.inr rfl) 3 22 (.int .i64) underlying186 underlying3 aO _ _ rfl hF0 (6:Int) _ rfl rfl ?_
  intro wa hFa hTa
  have hBa:=hTa.1 _ _ hB0 (ae _)
  clear hTa hF0
  refine me fun hS=> ?_
  clear hK
  refine ak ?_
  refine iU (rs:=[3,14]) (by kernel_rfl) (by simp) ?_
  refine bR.cons1 rfl (fun K hK=> ?_) (bR.cons1 rfl (fun K hK=> ?_) (bR.nil))
  ·refine CO ?_
   intro wb hFb hTb
   have hBb:=hTb.1 _ _ hBa (ae _)
   clear hTb hFa
   refine ii fun hS=> ?_
   clear hK
   refine ak ?_
   refine cP 14 fun K hK=> ?_
   refine pX ?_
   intro wc hFc hTc
   have hBc:=hTc.1 _ _ hBb (ae _)
   clear hTc hFb
   refine dt fun hS=> ?_
   clear hK
   refine ak ?_
   refine cP 15 fun K hK=> ?_
   go_simp
   refine dt fun hS=> ?_
   clear hK
   refine ak ?_
   refine cP 18 fun K hK=> ?_
   refine AX ?_
   exact mw
  ·refine CM ?_
   intro wb hFb hTb
   have hBb:=hTb.1 _ _ hBa (ae _)
   clear hTb hFa
   refine ii fun hS=> ?_
   clear hK
   refine ak ?_
   refine cP 3 fun K hK=> ?_
   refine pZ ?_
   intro wc hFc hTc
   have hBc:=hTc.1 _ _ hBb (ae _)
   clear hTc hFb
   refine dt fun hS=> ?_
   clear hK
   refine ak ?_
   refine cP 15 fun K hK=> ?_
   go_simp
   refine dt fun hS=> ?_
   clear hK
   refine ak ?_
   refine cP 18 fun K hK=> ?_
   refine AY ?_
   exact mw
 ·refine eU rfl (.tmp 42) (.const (.int .i64 13)) (.tmp 53) 186 (.inr rfl) 3 22 (.int .i64) underlying186 underlying3 aO _ _ rfl hF0 (13:Int) _ rfl rfl ?_
  intro wa hFa hTa
  have hBa:=hTa.1 _ _ hB0 (ae _)
  clear hTa hF0
  refine me fun hS=> ?_
  clear hK
  refine ak ?_
  refine iU (rs:=[3,6]) (by kernel_rfl) (by simp) ?_
  refine bR.cons1 rfl (fun K hK=> ?_) (bR.cons1 rfl (fun K hK=> ?_) (bR.nil))
  ·refine CO ?_
   intro wb hFb hTb
   have hBb:=hTb.1 _ _ hBa (ae _)
   clear hTb hFa
   refine ii fun hS=> ?_
   clear hK
   refine ak ?_
   refine cP 6 fun K hK=> ?_
   refine pY ?_
   intro wc hFc hTc
   have hBc:=hTc.1 _ _ hBb (ae _)
   clear hTc hFb
   refine dt fun hS=> ?_
   clear hK
   refine ak ?_
   refine cP 15 fun K hK=> ?_
   go_simp
   refine dt fun hS=> ?_
   clear hK
   refine ak ?_
   refine cP 18 fun K hK=> ?_
   refine AZ ?_
   exact mw
  ·refine CN ?_
   intro wb hFb hTb
   have hBb:=hTb.1 _ _ hBa (ae _)
   clear hTb hFa
   refine ii fun hS=> ?_
   clear hK
   refine ak ?_
   refine cP 3 fun K hK=> ?_
   refine pZ ?_
   intro wc hFc hTc
   have hBc:=hTc.1 _ _ hBb (ae _)
   clear hTc hFb
   refine dt fun hS=> ?_
   clear hK
   refine ak ?_
   refine cP 15 fun K hK=> ?_
   go_simp
   refine dt fun hS=> ?_
   clear hK
   refine ak ?_
   refine cP 18 fun K hK=> ?_
   refine A0 ?_
   exact mw):p:=h
theorem o8 {p:Prop} (h:p:=by
 go_enter func158,ntmps158
 go_wp2_with first
  |(refine bm rfl (.tmp 7) (.const (.int .i64 0)) (.tmp 8) 254 (.inr rfl) 3 36 (.int .i64) underlying254 underlying3 aO (w.heap.size+1+1) (fun _=>none) rfl (HL0.out _ _) 0 (.func (.func 249) #[] #[ptr (w.heap.size+1)]) rfl rfl ?_
    intro w1 hL1 hT1)
  |(refine bm rfl (.tmp 7) (.const (.int .i64 1)) (.tmp 9) 254 (.inr rfl) 3 36 (.int .i64) underlying254 underlying3 aO (w.heap.size+1+1) _ rfl hL1 1 (.func (.func 250) #[] #[ptr (w.heap.size+1)]) rfl rfl ?_
    intro w2 hL2 hT2)
  |(refine bm rfl (.tmp 7) (.const (.int .i64 2)) (.tmp 10) 254 (.inr rfl) 3 36 (.int .i64) underlying254 underlying3 aO (w.heap.size+1+1) _ rfl hL2 2 (.func (.func 251) #[] #[ptr (w.heap.size+1)]) rfl rfl ?_
    intro w3 hL3 hT3
    refine xP fun HBe HX hm3 hx3 a1=> ?_
    have HM3:=aa hm3;have HX3:=aa hx3
    have HL3:=aa hL3
    clear hL1 hT1 hL2 hT2 hL3 hT3 hm3 hx3)
  |(at_lookup;refine jz rfl (.tmp 12) (.tmp 14) 254 false rfl 3 36 (.int .i64) underlying254 underlying3 aO (w.heap.size+1+1) _ rfl HL3.out x.kind .nilFunc rfl (zeroValue36 _) ?_
    rw[show aS (aS (aS (fun _=>none) 0 (Value.func (.func 249) #[] #[ptr (w.heap.size+1)])) 1 (.func (.func 250) #[] #[ptr (w.heap.size+1)])) 2 (.func (.func 251) #[] #[ptr (w.heap.size+1)]) x.kind=some (.func (.func g) #[] #[.pointer (some ⟨w.heap.size+1,0,none⟩)]) from HF.out]
    simp only[Option.getD_some,Bool.false_eq_true,if_false])
  |(refine(HG.out _ HBe.out HX3.out).mono ?_
    rintro e w4 ⟨rfl,hb4⟩
    refine xQ fun HB4 hm4 hx4 e0 e1 e2 e3 e4 e5 e6 e7 e8 e9 e10 a6 HX4=> ?_
    clear hb4 hm4 hx4)
  |(go_at_call 252;refine(HM.out _ HB4.out).mono ?_
    rintro e w5 ⟨rfl,hb5⟩
    refine xR fun HB5 hx5 a3 a4 a5=> ?_
    clear hb5 hx5)
  |(go_at_call_of 153 (Value.int IntKind.i64 x.load);refine(HW1.out _).mono ?_;rintro e w6 ⟨rfl,rfl⟩)
  |(go_at_call_of 153 (Value.int IntKind.i64 x.size);refine(HW2.out _).mono ?_;rintro e w7 ⟨rfl,rfl⟩)
  |(go_at_call_of 153 (Value.int IntKind.i64 x.share);refine(HW3.out _).mono ?_;rintro e w8 ⟨rfl,rfl⟩)
 go_ret
 exact⟨by simp,HB5.out⟩):p:=h
theorem gL {p:Prop} (h:p:=by
 go_wp2_with first
  |(go_at_call 166
    refine fu ?_
    rintro e w3 ⟨rfl,hw⟩
    obtain rfl:=hw.symm
    first|rw[HE1.out]|rw[HE2.out])
  |(go_at_call 167
    refine(lf _ _ _ _).mono ?_
    rintro e w3 ⟨rfl,hw⟩
    obtain rfl:=hw.symm
    first|rw[HE4.out]|rw[HE5.out]|rw[HE6.out])
 all_goals
  go_ret
  exact⟨aV (by first|exact HR.out.symm|(rw[HR.out];simp_all;done)|(rw[HR.out];by_cases g1:x.other=0<;>by_cases g2:x.by_=0<;>by_cases g3:x.n=0<;>cases al<;>simp_all;done)|(rw[HR.out,Bool.eq_iff_iff];simp_all<;>omega)),HBW.out⟩):p:=h
theorem CB {p:Prop} (h:p:=by
 go_upto_region 12 with (first
  |(go_at_call 15
    refine qs ?_
    rintro e w5 ⟨rfl,hb5⟩
    rw[HCL.out]
    have HB5:=aa (ag HBs.out hb5);have HS5:=aa (ah HSs.out hb5)
    clear hb5)
  |(go_at_call 12
    rw[HTx.out]
    refine(HSp.out _ (HG.out.step HB5.out)).mono ?_
    rintro e w6 ⟨hb6,rfl⟩
    simp only[oe]
    have HB6:=aa (ag HB5.out hb6);have HS6:=aa (ah HS5.out hb6)
    clear hb6))
 refine uR ?_
 intro wx ⟨hxx,hkx⟩
 have hzs:=blk_lt HS6.out
 have HBx:=aa (ag HB6.out hkx);have HX6:=aa hkx;have HSx:=aa (ah HS6.out hkx);have HXx:=aa hxx
 have hzx:=hkx.size
 clear hkx hxx
 go_upto_region 19 with (first
  |(go_at_call 16
    refine(HPp.out _ (HG.out.step HBx.out)).mono ?_
    rintro e w7 ⟨hb7,dv,rfl,hv7⟩
    have HB7:=aa (ag HBx.out hb7);have HS7:=aa (ah HSx.out hb7)
    obtain⟨dA,dn,dc,rfl,_,_,_⟩:=hv7.form
    have HV7:=aa hv7;have HX7:=aa (ag HX6.out hb7);have HXb7:=aa (ah HXx.out hb7)
    clear hv7
    clear hb7)
  |(go_at_call 18
    refine uS ?_
    rw[hm.out]
    rintro e w8 ⟨hb8,v,rfl,hv8,Bm,Mm,hBm8,hO8⟩
    obtain⟨⟨Sa,sc,hs',hs1,hs2⟩,⟨Fa,fc,hf',hf1,hf2⟩,⟨Ra,rc,hr',hr1,hr2⟩,⟨Ma,mc,hm',hm1,hm2⟩,⟨La,lc,hl',hl1,hl2⟩,⟨Ia,ic,hi',hi1,hi2⟩,⟨Ua,uc,hu',hu1,hu2⟩⟩:=hv8.cells
    refine Cv fun HMc=> ?_
    rw[HMc.out]
    have HO8:=aa hO8
    have hsbB:sb<Bm:=by have:=blk_lt HS7.out;omega
    clear hv8 hO8 hBm8 hs' hf' hr' hm' hl' hi' hu' hs1 hs2 hf1 hf2 hr1 hr2 hm1 hm2 hl1 hl2 hi1 hi2 hu1 hu2
    have HB8:=aa (ag HB7.out hb8);have HX8:=aa (ag HX7.out hb8);have HXb8:=aa (ah HXb7.out hb8);have HS8:=aa (ah HS7.out hb8)
    clear hb8))
 refine Cw ?_
 intro wm ⟨hmm,hkm⟩
 have hzb:=blk_lt HS8.out
 have HBm:=aa (ag HB8.out hkm);have hSm:=ah HS8.out hkm
 have hXm0:=ah HXb8.out hkm
 have HXm:=aa hXm0
 clear hXm0
 have HB8m:=aa hkm
 obtain⟨b0,b1,b2,b3,b4,b5,b6,b7,b8,b9,b10⟩:=cd hmm
 obtain⟨⟨q0,q1,q2,q3,q4,q5,q6,q7,q8,q9,q10,q11,q12,q13⟩,z0,z1,z2,z3,z4,z5,z6,z7,z8,z9,z10,z11,z12,z13⟩:=jk hSm
 have HSm:=aa hSm
 have hzm:=blk_lt hSm
 clear hkm hmm hSm
 go_upto_region 20 with (fail)
 refine Cx ?_
 intro wn ⟨hSn,hkn⟩
 refine Cy fun HBn hXm hzxb HXn HOn hz6m HKn hz6n=> ?_
 clear q0 q1 q2 q3 q4 q5 q6 q7 q8 q9 q10 q11 q12 q13 z0 z1 z2 z3 z4 z5 z6 z7 z8 z9 z10 z11 z12 z13 b0 b1 b2 b3 b4 b5 b6 b7 b8 b9 b10
 obtain⟨t0,t1,t2,t3,t4,t5,t6,t7,t8,t9,t10,t11,t12,t13⟩:=dw hSn
 refine Cz fun HSn HMs HVs=> ?_
 rw[HMs.out,HVv.out] at HVs
 clear hSn hkn hXm
 go_wp2_with(first
  |(go_at_call 19
    refine(HVs.out _ (by first|exact B0 _|exact au (B0 _))).mono ?_
    rintro e w10 ⟨rfl,hb10⟩
    have HB10:=aa (ag HBn.out hb10);have hs10:=ah HSn.out hb10;have hx10:=ah HXn.out hb10
    have HN10:=aa hb10
    obtain⟨u0,u1,u2,u3,u4,u5,u6,u7,u8,u9,u10,u11,u12,u13⟩:=dw hs10
    obtain⟨g0,g1,g2,g3,g4,g5,g6,g7,g8,g9,g10,g11,g12,g13⟩:=dw hx10
    clear hb10 hs10 hx10)
  |(go_at_call 9
    refine(HAw.out _ (HG.out.g.step HB10.out)).mono ?_
    rintro e w9 ⟨rfl,hb9⟩))
 go_ret
 exact⟨rfl,ag HB10.out hb9⟩):p:=h
theorem CP {p:Prop} (h:p:=by
 exact⟨by repeat' first|with_reducible exact hB|with_reducible refine aR ?_ (by dsimp only;omega) _|with_reducible refine ac ?_ _,rfl⟩):p:=h
theorem yR {p:Prop} (h:p:=by
 refine cA 11 fun K hK=> ?_
 go_simp
 refine(po _).mono ?_
 rintro e w3 ⟨g3,c3,rfl,hC3,hb3⟩
 try go_simp
 refine hK _ _ ?_
 clear hK K
 refine ak ?_
 refine cA 12 fun K hK=> ?_
 go_simp
 refine(sD _).mono ?_
 rintro e w4 ⟨g4,c4,rfl,hC4,hb4⟩
 try go_simp
 refine hK _ _ ?_
 clear hK K
 refine ak ?_
 refine cA 13 fun K hK=> ?_
 go_simp
 refine hK _ _ ?_
 clear hK K
 refine ak ?_
 have hS:=yM w4 _ _ _ _ (hC3.later hb4) hC4
 refine cA 14 fun K hK=> ?_
 go_simp
 refine(sE _ _ _ hS).mono ?_
 rintro e w5 ⟨g5,c5,rfl,hC5,hb5⟩
 try go_simp
 refine hK _ _ ?_
 clear hK K
 refine ak ?_
 refine cA 15 fun K hK=> ?_
 go_simp
 refine(HQ.out w5 _ (hC5.congr yI)).mono ?_
 rintro e w6 ⟨rfl,hb6⟩
 try go_simp
 refine hK _ _ ?_
 clear hK K
 refine ak ?_
 iterate 2 refine gA 18 11 ?_
 refine eA ?_
 have hB6:=ag (ag (ac (ag (ag (au hB2) hb3) hb4) _) hb5) hb6
 have hbk:=ah (fV HB.out (ag (ac (ag (ag (au (B0 w2)) hb3) hb4) _) hb5) hz2) hb6
 refine pp fun c0 c1' c2' c3' f0 f1 f2 f3=> ?_
 have hz6:=blk_lt hbk
 have HB6:=aa hbk
 clear hbk hb3 hb4 hb5 hb6 hS hC3 hC4 hC5 hB2 HB HR HQ
 go_wp2_with fail
 refine bt (fun W=>W.heap[w6.heap.size]? =some (.cells #[.int .i64 3,.string (s.extract 0 n),.int .i64 0,.int .i64 0] 91 (0,0))∧W.heap[w.heap.size]? =some (.cells #[.int .i64 0,.string ⟨#[]⟩,.int .i64 0,.int .i64 0] 91 (0,0))∧
  (∀j,j<n→W.cell? ⟨w6.heap.size+1,j,none⟩=some (.int .u8 (t.getD j 0).toNat))∧Below w.heap.size w W) ?_ ?_
 ·refine⟨?_,?_,fun j hj=> ?_,?_⟩
  ·rw[Lib.bytesWorld_at_old _ _ _ _ (by simp)];exact aN w6 _
  ·rw[Lib.bytesWorld_at_old _ _ _ _ (by simp;omega)];exact fV HB6.out (ac (B0 w6) _) hz6
  ·have:=Lib.bytesWorld_cell (w6.alloc (.cells #[.int .i64 3,.string (s.extract 0 n),.int .i64 0,.int .i64 0] 91)) 5 (s.extract 0 n) j (by rw[ByteArray.size_extract];omega)
   rw[HX.out,bL] at this
   rw[HX.out]
   simpa using this
  ·exact Im (ac hB6 _)
 intro W0 hW0
 have HW:=aa hW0
 have hne: ¬w6.heap.size=w.heap.size:=by omega
 have hne2: ¬w.heap.size=w6.heap.size:=by omega
 have hne3: ¬w6.heap.size+1=w6.heap.size:=by omega
 clear hW0 c0 c1' c2' c3' f0 f1 f2 f3 kc hB6 HB6
 go_loopw [38] (fun i wr=> ∃k a:Nat,k≤n∧i= .int .i64 k∧il 0 t=il a (t.drop k)∧a≤1048576∧wr.heap[w6.heap.size]? =some (.cells #[.int .i64 3,.string (s.extract 0 n),.int .i64 a,.int .i64 0] 91 (0,0))∧
  wr.heap[w.heap.size]? =some (.cells #[.int .i64 0,.string ⟨#[]⟩,.int .i64 0,.int .i64 0] 91 (0,0))∧(∀j,j<n→wr.cell? ⟨w6.heap.size+1,j,none⟩=some (.int .u8 (t.getD j 0).toNat))∧Below w.heap.size w wr) (fun i _=>n - (intOf i).toNat)
 case atStart=>exact⟨0,0,aY _,rfl,rfl,by omega,HW.out.1,HW.out.2.1,HW.out.2.2.1,HW.out.2.2.2⟩
 case round=>
  obtain⟨k,a,hk,rfl,hv,ha,hbt,hbr,hcl,hB⟩:=hrel
  have hzt:=blk_lt hbt
  have hzr:=blk_lt hbr
  have t0:=af (o:=0) hbt rfl
  have t1:=af (o:=1) hbt rfl
  have t2:=af (o:=2) hbt rfl
  have t3:=af (o:=3) hbt rfl
  have q2:=aW hbt 2
  have r0:=af (o:=0) hbr rfl
  have r1:=af (o:=1) hbr rfl
  have r2:=af (o:=2) hbr rfl
  have r3:=af (o:=3) hbr rfl
  obtain⟨p0,p1,p2,p3⟩:=iP hbr
  have HBt:=aa hbt;have HBr:=aa hbr;have HCl:=aa hcl;have HV:=aa hv
  clear hbt hbr hcl hv
  by_cases hlt:k<n
  ·refine mF fun hI1 hI2=> ?_
   have hck:=HCl.out k hlt
   have hdg:=HD.out k hlt
   have hst:il a (t.drop k)=il a ((t.getD k 0)::t.drop (k+1)):=by
    rw[List.drop_eq_getElem_cons (by rw[HL.out];exact hlt),List.getD_eq_getElem?_getD,List.getElem?_eq_getElem (by rw[HL.out];exact hlt)]
    rfl
   rw[yN] at hst
   have HSt:=aa (HV.out.trans hst)
   obtain⟨x,hx⟩: ∃x,(t.getD k 0).toNat=x:=⟨_,rfl⟩
   rw[hx] at hck hdg HSt
   obtain⟨y,hy⟩: ∃y,10*a+(x - 48)=y:=⟨_,rfl⟩
   rw[hy] at HSt
   have hx1:(48:Int)≤x:=by omega
   have hx2:(x:Int)≤57:=by omega
   have ha1:(0:Int)≤a:=by omega
   have ha2:(a:Int)≤1048576:=by omega
   have hyi:(10:Int)*a+((x:Int) - 48)=y:=by omega
   have HY:=aa hyi
   clear hst hdg hx hyi
   by_cases hbig:1048576<y
   ·have hgi:(1048576:Int)<(10:Int)*a+((x:Int) - 48):=by have:=HY.out;omega
    have HBg:=aa hbig
    clear hbig hy HY
    go_wp2_with fail
    refine bodyPost_ret (v:= .tuple #[cz 0 [] 0 0,.int .i64 2]) (by simp[results,results209,go_sem,cz,bs,r0,r1,r2,r3,hne,hne2,hzt,hzr]) rfl ?_
    rw[show kD t= .error 2 by unfold kD;rw[HSt.out,if_pos HBg.out]]
    exact CP
   ·have hgi: ¬(1048576:Int)<(10:Int)*a+((x:Int) - 48):=by have:=HY.out;omega
    have HBg:=aa hbig
    clear hbig hy
    go_wp2_with fail
    have hs:=HSt.out
    rw[if_neg HBg.out] at hs
    refine⟨⟨k+1,y,by omega,by go_num,hs,by have:=HBg.out;omega,?_,gz HBr.out hne2,fun j hj=>(wt hne3).trans (HCl.out j hj),aR hB (by dsimp only;omega) _⟩,by simp[intOf];omega⟩
    have:=ay HBt.out 2 (.int .i64 y)
    rw[←HY.out] at this
    simpa[←HY.out] using this
  ·go_wp2_with fail
   obtain rfl:k=n:=by omega
   refine bodyPost_ret (v:= .tuple #[cz 3 t a 0,.int .i64 0]) (by simp[results,results209,go_sem,cz,HX.out,t0,t1,t2,t3,r0,r1,r2,r3,hne,hne2,hzt,hzr]) rfl ?_
   have hv:=HV.out
   rw[List.drop_of_length_le (by rw[HL.out];omega)] at hv
   rw[show kD t= .ok (3,t,a) by unfold kD;rw[hv];rfl]
   exact CP):p:=h
theorem CQ {p:Prop} (h:p:=by
 exact⟨w2.heap.size,⟨word,kind,gu,gf,caps,gr,gt⟩,rfl,hB2.size,rT HXi.out HJi.out (fl.alloc HX.out _),ac hB2 _,heap_alloc_new w2 _⟩):p:=h
theorem se {p:Prop} (h:p:=by
 rename_i J K' hJ hK'
 have HJ:=aa hJ
 have HK':=aa hK'
 clear hJ hK'
 go_region_held3 (fun w'=>w'.cell? ⟨bl,ol,none⟩=some (.string (aE (ba s) 0))) (go_simp)
  (first
    |(go_at_call 34
      refine(HP.out _).mono ?_
      rintro e w2 ⟨M,b,rfl,hL,hX,hfr,hM,hb2⟩
      have hB2:Below w1.heap.size w1 w2:=by first|exact ag (au (B0 w1)) hb2|exact ag (au (ac (B0 w1) _)) hb2
      obtain⟨j,⟨word,kind,gu,gf,caps,gr,gt⟩,hx,hj,hone,hin⟩:=GY b HK.out
      have hk1:(Instr.lookup 76 (.map (some M)) (.string (aE (ba s) 0)) true).run prog w2= .ok (.tuple #[.agg #[.string (bs word),.int .i64 kind,.func (.func gu) #[] #[],.func (.func gf) #[] caps,.func (.func gr) #[] #[],.func (.func gt) #[] #[]],.bool true]) w2:=mN underlying76 underlying9 hL true gB (rV b) hone hin
      have hk2: ∀o,(Instr.lookup 76 (.map (some M)) (.string (aE (ba s) 0)) true).run prog (w2.alloc o)= .ok (.tuple #[.agg #[.string (bs word),.int .i64 kind,.func (.func gu) #[] #[],.func (.func gf) #[] caps,.func (.func gr) #[] #[],.func (.func gt) #[] #[]],.bool true]) (w2.alloc o):=fun o=>mN underlying76 underlying9 (hL.later (ac (B0 w2) o)) true gB (rV b) hone hin
      have HXi:=aa hx
      have HJi:=aa hj
      have HFr:=aa (show ∀i,i<10→¬b i=w1.heap.size from fun i hi=>by have:=hfr i hi;simp at this;omega)
      have HBl:=aa hb2.block
      clear hone hin hx hj
      have hc2: ∀b o,b<w1.heap.size→w2.cell? ⟨b,o,none⟩=w1.cell? ⟨b,o,none⟩:=fun b o h=>hB2.cell (p:=⟨b,o,none⟩) h
      obtain⟨hcx,hfx⟩:=lv hb2
      try(have hzx:w1.heap.size<w2.heap.size:=by(have hq:=hb2.size;simp at hq;omega))
      have hbl2:bl<w2.heap.size:=aF hbl hB2.size
      have hbn2: ¬bl=w2.heap.size:=by omega
      have hz2:w.heap.size<w2.heap.size:=aF hz1 hB2.size
      have HL:=aa hL
      have HX:=aa hX
      clear hL hX hfr hM hb2))
 all_goals
  dsimp only[Exit.then]
  refine HK'.out _ _ (Met.intro (HJ.out _ _ ?_))
  (repeat apply Exists.intro)
  refine⟨⟨rfl,?_⟩,rfl⟩
 ·exact CQ
 ·exact CQ
 ·refine⟨w1.heap.size,⟨word,kind,gu,gf,caps,gr,gt⟩,rfl,ae _,rT HXi.out HJi.out ?_,?_,?_⟩
  ·repeat' first|with_reducible exact HX.out|with_reducible refine fl.set ?_ HFr.out _ _
  ·repeat' first|with_reducible exact hB2|with_reducible refine aR ?_ (ae _) _
  ·have h0:=(HBl.out w1.heap.size (by simp)).trans (heap_alloc_new w1 _)
   exact(cU (cU (cU (cU (cU (cU h0 _ _) _ _) _ _) _ _) _ _) _ _).trans rfl):p:=h
theorem uC {p:Prop} (h:p:=by
 go_wp2_with(first
  |(go_at_call 51;refine(HCat.out _ HBW.out).mono ?_;rintro e w2 ⟨rfl,hb2⟩;have hs2:=ah HsW.out hb2;have g0:w2.cell? ⟨w.heap.size,0,none⟩=some (.slice Sa m.sites.length sc):=af hs2 rfl;have g1:w2.cell? ⟨w.heap.size,1,none⟩=some (.slice Fa m.feeds.length fc):=af hs2 rfl;have g2:w2.cell? ⟨w.heap.size,2,none⟩=some (.slice Ra m.racks.length rc):=af hs2 rfl;have g3:w2.cell? ⟨w.heap.size,3,none⟩=some (.slice Ma m.machs.length mc):=af hs2 rfl;have g4:w2.cell? ⟨w.heap.size,4,none⟩=some (.slice La m.links.length lc):=af hs2 rfl;have g5:w2.cell? ⟨w.heap.size,5,none⟩=some (.slice Ia m.items.length ic):=af hs2 rfl;have g6:w2.cell? ⟨w.heap.size,6,none⟩=some (.int .i64 m.dark):=af hs2 rfl;have g7:w2.cell? ⟨w.heap.size,7,none⟩=some (.int .i64 m.slots):=af hs2 rfl;have g8:w2.cell? ⟨w.heap.size,8,none⟩=some (.int .i64 m.reserve):=af hs2 rfl;have g9:w2.cell? ⟨w.heap.size,9,none⟩=some (.int .i64 m.failures):=af hs2 rfl;have g10:w2.cell? ⟨w.heap.size,10,none⟩=some (.slice Ua m.rules.length uc):=af hs2 rfl;have g11:w2.cell? ⟨w.heap.size,11,none⟩=some (.slice A n c):=af hs2 rfl;have g12:w2.cell? ⟨w.heap.size,12,none⟩=some (.int .i64 cl):=af hs2 rfl;have g13:w2.cell? ⟨w.heap.size,13,none⟩=some (.slice A2 n2 c2):=af hs2 rfl;have HB2:=aa (ag HBW.out hb2);have Hs2:=aa hs2;clear hb2 hs2)
  |(go_at_call 61;refine(HOut.out (by trivial) _ HB2.out).mono ?_;rintro e w3 ⟨rfl,hb3⟩;have hs3:=ah Hs2.out hb3;have k12:w3.cell? ⟨w.heap.size,12,none⟩=some (.int .i64 cl):=af hs3 rfl;have k13:w3.cell? ⟨w.heap.size,13,none⟩=some (.slice A2 n2 c2):=af hs3 rfl;have HB3:=aa (ag HB2.out hb3);clear hb3 hs3))
 go_ret
 exact⟨by rw[HR.out];rfl,HB3.out⟩):p:=h
theorem ji {p:Prop} (h:p:=by
 rintro e w7 ⟨⟨xv,rfl⟩,hA7,hK7⟩
 have HA7:=aa hA7
 have HK7:Hid (KP B rb w3 w7):=(HKc.out.trans (KP.of_below HB6.out (by have:=HAt.out.2.1;omega) HB6.out.size)).trans hK7
 have HX7:=aa hK7
 clear hA7 hK7
 try go_simp
 refine hK.out _ _ ?_
 clear hK
 refine ak ?_
 refine eP ?_
 go_wp2_with fail
 refine⟨⟨k+1,cb t m d,by omega,by go_num,by rw[HDk2.out,HD8.out],HSo.out,HA7.out,HK7.out⟩,by simp[intOf];omega⟩):p:=h
theorem Ad {p:Prop} (h:p:=by
 cases NM with
 |true=>
  cases ni with
  |false=>
   go_wp2_with first
    |(go_at_call 155
      refine(HIs.out _ HBb.out).mono ?_
      rintro e w5 ⟨rfl,hb5⟩
      refine uT fun hxc cx1 cx2 cx3 HBc Hxc hfc1=> ?_
      clear hb5 hxc bx1 bx2 bx3 bx5 bf1 bf6)
   all_goals go_ret
   all_goals exact⟨iC (by(try simp[]);(try omega)),HBc.out⟩
  |true=>
   cases ra with
   |false=>
    go_wp2_with first
     |(go_at_call 155
       refine(HIs.out _ HBb.out).mono ?_
       rintro e w5 ⟨rfl,hb5⟩
       refine uT fun hxc cx1 cx2 cx3 HBc Hxc hfc1=> ?_
       clear hb5 hxc bx1 bx2 bx3 bx5 bf1 bf6)
     |(go_at_call 222
       refine(HRf.out _ HBc.out).mono ?_
       rintro e w6 ⟨rfl,hb6⟩
       have hxd:=ah Hxc.out hb6
       refine qu fun dx3=> ?_
       have HBd:=aa (ag HBc.out hb6)
       clear hb6 hxd cx2 cx3)
    all_goals go_ret
    all_goals exact⟨iC (by(try simp[]);(try omega)),HBd.out⟩
   |true=>
    go_wp2_with first
     |(go_at_call 155
       refine(HIs.out _ HBb.out).mono ?_
       rintro e w5 ⟨rfl,hb5⟩
       refine uT fun hxc cx1 cx2 cx3 HBc Hxc hfc1=> ?_
       clear hb5 hxc bx1 bx2 bx3 bx5 bf1 bf6)
     |(go_at_call 222
       refine(HRf.out _ HBc.out).mono ?_
       rintro e w6 ⟨rfl,hb6⟩
       have hxd:=ah Hxc.out hb6
       refine qu fun dx3=> ?_
       have HBd:=aa (ag HBc.out hb6)
       clear hb6 hxd cx2 cx3)
     |(go_at_call 89
       refine(HNf.out _ HBd.out).mono ?_
       rintro e w7 ⟨rfl,hb7⟩
       have HBe:=aa (ag HBd.out hb7)
       clear hb7)
    all_goals go_ret
    all_goals exact⟨iC (by(try simp[]);(try omega)),HBe.out⟩
 |false=>
  cases ne with
  |false=>
   have kn:=HNe.out
   go_wp2_with fail
   all_goals go_ret
   all_goals exact⟨iC (by(try simp[]);(try omega)),HBb.out⟩
  |true=>
   have kn:=HNe.out
   cases ra with
   |false=>
    go_wp2_with first
     |(go_at_call 222
       refine(HRf.out _ HBb.out).mono ?_
       rintro e w6 ⟨rfl,hb6⟩
       have hxd:=ah Hxb.out hb6
       refine qu fun dx3=> ?_
       have HBd:=aa (ag HBb.out hb6)
       clear hb6 hxd bx2 bx3)
    all_goals go_ret
    all_goals exact⟨iC (by(try simp[]);(try omega)),HBd.out⟩
   |true=>
    go_wp2_with first
     |(go_at_call 222
       refine(HRf.out _ HBb.out).mono ?_
       rintro e w6 ⟨rfl,hb6⟩
       have hxd:=ah Hxb.out hb6
       refine qu fun dx3=> ?_
       have HBd:=aa (ag HBb.out hb6)
       clear hb6 hxd bx2 bx3)
     |(go_at_call 89
       refine(HNf.out _ HBd.out).mono ?_
       rintro e w7 ⟨rfl,hb7⟩
       have HBe:=aa (ag HBd.out hb7)
       clear hb7)
    all_goals go_ret
    all_goals exact⟨iC (by(try simp[]);(try omega)),HBe.out⟩):p:=h
theorem oW {p:Prop} (h:p:=by
 go_wp2_with fail
 refine⟨⟨k+1,by omega,by go_num,fun j hj=> ?_,hB'⟩,by simp[intOf];omega⟩
 by_cases e:j=k
 ·subst e;exact HP.out
 ·exact HA.out j (by omega)):p:=h
theorem oU {p:Prop} (h:p:=by
 have HC:=aa hcall
 clear hcell hr hcl hcall
 go_wp2_with fail
 refine HC.out.mono ?_
 rintro e w' ⟨rfl,hb'⟩
 have hB':=ag hB hb'
 cases hp:P k with
 |true=>
  have HP:=aa hp
  clear hp
  go_wp2_with fail
  go_ret
  exact⟨by rw[xz hlt HP.out HA.out];rfl,hB'⟩
 |false=>
  have HP:=aa hp
  clear hp
  exact oW):p:=h
theorem vN {p:Prop} (h:p:=by
 rw[Dm l k (by rw[HLn.out];exact hlt),←List.singleton_append,←List.append_assoc]
 refine vE _ _ ?_
 rw[oz,HV.out,h];rfl):p:=h
theorem vI {p:Prop} (h:p:=by
 have hz:(aE l k).size≤1000000:=HSZ.out _ (jp (by rw[HLn.out];exact hlt))
 have i1:(0:Int)≤(k:Int):=by omega
 have i2:(k:Int)<(n:Int):=by omega
 have hlo:fI offs k<(fw cs (offs.take k) vs).size:=by rw[mJ];exact HI.out k (by rw[HLo.out];exact hlt)
 have hbr:b<wr.heap.size:=aF hbw' HGr.out.size
 have hbur:bu<wr.heap.size:=aF hbw HGr.out.size
 have stop:bg (aE l k)=none→bi l=none:=fun h=>by
  exact vN
 have STOP:=aa stop
 clear stop
 cases hp:Lib.atoiAll (aE l k).data.toList with
 |ok v=>
  have hv64:aj v:=by
   have h64:Lib.parseIntB 64 (aE l k).data.toList= .ok v:=by rw[Lib.parseIntB_64];exact hp
   have:=Lib.parseIntB_bounds h64
   exact⟨by omega,by omega⟩
  have hat:=fun W=>CW (aE l k) (by omega) v hp W
  have HAt:=aa hat
  have HP:=aa hp
  clear hat hp
  by_cases he:bs (Lib.itoa v)=aE l k
  ·have hcmp:((bs (Lib.itoa v)).toList==(aE l k).toList)=true:=by rw[he];simp
   have HE:=aa he
   clear he
   go_wp2_with(first
    |(go_at_call 189;refine(HAt.out _).mono ?_;rintro e w1 ⟨rfl,hb1⟩;have hg1:=gx HGr.out hb1)
    |(go_at_call 59;refine(qE _ hv64 _ (HG.out.grown hg1 hb8)).mono ?_;rintro e w2 ⟨rfl,hb2⟩;have hg2:=gx hg1 hb2;have hbk2:w2.heap[b]? =some (.cells (fw cs (offs.take k) vs) t (0,0)):=((hb2.block b (aF hbr hb1.size)).trans (hb1.block b hbr)).trans HBk.out;have h22:w2.cell? ⟨bu,k,none⟩=some (.pointer (some ⟨b,fI offs k,none⟩)):=((hb2.cell (aF hbur hb1.size)).trans (hb1.cell hbur)).trans h2;have hcl2:=dp hbk2 hlo;have hfz2:=ei hbk2 (fI offs k)))
   have hstep:bi (l.take (k+1))=some (vs++[v]):=by
    rw[qL l k (by rw[HLn.out];exact hlt),oz,HV.out]
    simp[bg,HP.out,HE.out]
   exact⟨⟨k+1,vs++[v],by omega,by go_num,hstep,gy hg2 _ _,by
    rw[Dl offs k (by rw[HLo.out];exact hlt),vD _ _ _ _ _ (by rw[jP HV.out,List.length_take,List.length_take,HLn.out,HLo.out])]
    exact cU hbk2 _ _⟩,by simp[intOf];omega⟩
  ·have hcmp:((bs (Lib.itoa v)).toList==(aE l k).toList)=false:=by
    rw[beq_eq_false_iff_ne];intro h;exact he (by rw[←dZ (aE l k),←cD,←h,cD,bL])
   have HE:=aa he
   clear he
   go_wp2_with(first
    |(go_at_call 189;refine(HAt.out _).mono ?_;rintro e w1 ⟨rfl,hb1⟩;have hg1:=gx HGr.out hb1)
    |(go_at_call 59;refine(qE _ hv64 _ (HG.out.grown hg1 hb8)).mono ?_;rintro e w2 ⟨rfl,hb2⟩;have hg2:=gx hg1 hb2;have hbk2:w2.heap[b]? =some (.cells (fw cs (offs.take k) vs) t (0,0)):=((hb2.block b (aF hbr hb1.size)).trans (hb1.block b hbr)).trans HBk.out;have h22:w2.cell? ⟨bu,k,none⟩=some (.pointer (some ⟨b,fI offs k,none⟩)):=((hb2.cell (aF hbur hb1.size)).trans (hb1.cell hbur)).trans h2;have hcl2:=dp hbk2 hlo;have hfz2:=ei hbk2 (fI offs k)))
   go_ret
   refine⟨hg2,?_⟩
   rw[STOP.out (by simp[bg,HP.out,HE.out])]
   exact⟨rfl,_,hbk2,mJ _ _ _⟩
 |_=>
  have hat:=fun W=>CX (aE l k) (by omega) (by intro v h;rw[hp] at h;cases h) W
  have HAt:=aa hat
  have HP:=aa hp
  clear hat hp
  go_wp2_with(first
   |(go_at_call 189;refine(HAt.out _ (HG.out.grown HGr.out hb8)).mono ?_;rintro e w1 ⟨v1,t1,p1,rfl,hb1⟩;have hg1:=gx HGr.out hb1))
  go_ret
  refine⟨hg1,?_⟩
  rw[STOP.out (by simp[bg,HP.out])]
  exact⟨rfl,_,(hb1.block b hbr).trans HBk.out,mJ _ _ _⟩):p:=h
theorem sL {p:Prop} (h:p:=by
 go_simp
 refine hK _ _ ?_
 clear hK K
 refine ak ?_
 refine cA 10 fun K hK=> ?_
 refine step_append_lies _ (by rfl) _ _ _ (by rfl) B 9 i0 _ 1 16 underlying22 hi hz0 hz1 hz2 rfl (by omega) _ _ _ (by rfl) (hown.alloc _) ⟨_,0,none⟩ 1 1 [.string (bs t.text)] (by rfl) (by rfl) (eE rfl) (by simp[Value.oneCell']) (by omega) (by simp[maxLen];omega) (by simp;omega) (by simp;omega) _ rfl ?_
 intro gg cap w3 hown3 hgrow hat hlt
 refine hK _ _ ?_
 clear hK K
 refine ak ?_
 have hb3:=eD (ah G.out.1 (ac (B0 w2) _)) hgrow (fun k hk e=>hne (by rw[hk,e]))
 have f3:=aW hb3 4
 have c3:w3.cell? ⟨pb,4,none⟩=some r2:=af hb3 rfl
 iterate 3 refine gA 15 2 ?_
 refine cA 14 fun K hK=> ?_
 go_simp
 refine hK _ _ ?_
 clear hK K
 refine ak ?_
 refine eA ?_
 go_end0
 obtain⟨g1,g2,g3,g4,hK2,hq⟩:=G.out
 have k0:KP B pb w2 w3:=((KP.refl B pb w2).alloc g6 _).grown (cB g3 (ac (B0 w2) _)) hgrow g6
 have k1:KP B pb w2 (w3.setCell ⟨pb,4,none⟩ (.slice (some ⟨gg,0,none⟩) (q.d.refs.length+1) cap)):=k0.set (.inl rfl) _
 have ho:=zj (cB g3 (ac (B0 w2) _)) (cB g4 (ac (B0 w2) _)) (by decide) hgrow
 have hn:w3.ownsRow B 9 1 (.slice (some ⟨gg,0,none⟩) (q.d.refs.length+1) cap) (q.d.refs++[t.text]).length ((q.d.refs++[t.text]).map fun s=>Value.string (bs s)):=by
  rw[List.map_append,List.length_append]
  exact hown3
 have hq':p'={q with d:={q.d with refs:=q.d.refs++[t.text]}}:=HQ.out
 have hok:=HOK.out
 subst hq'
 refine⟨rfl,⟨tv2,_,n2,ay hb3 4 _,g2.to dU.ab (k1.below (by omega)) (ae _) (ae _),dM hn (fun j hj=>by have:=(World.ownsRow.lt hn j hj).1;omega) _ _,dM ho (fun j hj=>by have:=(World.ownsRow.lt ho j hj).1;omega) _ _,g5,aP g6 k1.size,hok.1⟩,hok.2,((KP.refl B pb w).drew.trans (hK2.mono hsz.2)).trans k1⟩):p:=h
theorem sM {p:Prop} (h:p:=by
 go_simp
 refine hK _ _ ?_
 clear hK K
 refine ak ?_
 refine cA 10 fun K hK=> ?_
 refine step_append_lies _ (by rfl) _ _ _ (by rfl) B 3 i0 _ 1 8 underlying30 hi hz0 hz1 hz2 rfl (by omega) _ _ _ (by rfl) (hown.alloc _) ⟨_,0,none⟩ 1 1 [.int .i64 t.n] (by rfl) (by rfl) (eE rfl) (by simp[Value.oneCell']) (by omega) (by simp[maxLen];omega) (by simp;omega) (by simp;omega) _ rfl ?_
 intro gg cap w3 hown3 hgrow hat hlt
 refine hK _ _ ?_
 clear hK K
 refine ak ?_
 have hb3:=eD (ah G.out.1 (ac (B0 w2) _)) hgrow (fun k hk e=>hne (by rw[hk,e]))
 have f3:=aW hb3 5
 have c3:w3.cell? ⟨pb,5,none⟩=some n2:=af hb3 rfl
 iterate 3 refine gA 15 2 ?_
 refine cA 14 fun K hK=> ?_
 go_simp
 refine hK _ _ ?_
 clear hK K
 refine ak ?_
 refine eA ?_
 go_end0
 obtain⟨g1,g2,g3,g4,hK2,hq⟩:=G.out
 have k0:KP B pb w2 w3:=((KP.refl B pb w2).alloc g6 _).grown (cB g4 (ac (B0 w2) _)) hgrow g6
 have k1:KP B pb w2 (w3.setCell ⟨pb,5,none⟩ (.slice (some ⟨gg,0,none⟩) (q.d.nums.length+1) cap)):=k0.set (.inl rfl) _
 have ho:=zj (cB g4 (ac (B0 w2) _)) (cB g3 (ac (B0 w2) _)) (by decide) hgrow
 have hn:w3.ownsRow B 3 1 (.slice (some ⟨gg,0,none⟩) (q.d.nums.length+1) cap) (q.d.nums++[t.n]).length ((q.d.nums++[t.n]).map fun(k:Nat)=>Value.int .i64 k):=by
  rw[List.map_append,List.length_append]
  exact hown3
 have hq':p'={q with d:={q.d with nums:=q.d.nums++[t.n]}}:=HQ.out
 have hok:=HOK.out
 subst hq'
 refine⟨rfl,⟨tv2,r2,_,ay hb3 5 _,g2.to dU.ab (k1.below (by omega)) (ae _) (ae _),dM ho (fun j hj=>by have:=(World.ownsRow.lt ho j hj).1;omega) _ _,dM hn (fun j hj=>by have:=(World.ownsRow.lt hn j hj).1;omega) _ _,g5,aP g6 k1.size,hok.1⟩,hok.2,((KP.refl B pb w).drew.trans (hK2.mono hsz.2)).trans k1⟩):p:=h
theorem yt {p:Prop} (h:p:=by
 rw[HRd.out]
 rintro e w3 ⟨hg3,rfl,hy3⟩
 refine uU fun hB3 hR3 HB3 HR3=> ?_
 clear hB3 hR3
 obtain⟨m,t,hbk3,hm3,ht3,hfm,hft⟩:=hy3 y rfl
 obtain⟨l0,l1,l2,l3,l4,l5,l6,l7,l8,l9⟩:=hbk3.lies
 obtain⟨Am,nm,cm,rfl,hnm,_,_⟩:=hm3.form
 obtain⟨At,nt,ct,rfl,hnt,_,_⟩:=ht3.form
 refine CK fun hyI hyl VC=> ?_
 rw[HVy.out] at VC
 have HVC:=aa VC
 have HYI:=aa hyI
 have HFm:=aa hfm
 have HFt:=aa hft
 have hlw3:wc.heap.size<w3.heap.size:=aF hlW hg3.size
 have hzw3:w.heap.size<w3.heap.size:=by omega
 clear hy3 hbk3 hm3 ht3 hnm hnt hyI hyl VC hfm hft hg3
 go_simp
 refine hK _ _ ?_
 clear hK K
 refine ak ?_
 iterate 2 refine gA 11 24 ?_
 refine cA 7 fun K hK=> ?_
 go_simp
 refine hK _ _ ?_
 clear hK K
 refine ak ?_
 refine cA 8 fun K hK=> ?_
 go_simp
 refine HVC.out.mono ?_
 rintro e w4 ⟨rfl,hb4⟩
 refine CJ fun hc4 hf4 HB4 HR4 HYI4 m0 m1 m2 m3 m4 m5 m6 m7 m8 m9=> ?_
 clear hb4 hc4 hf4 l0 l1 l2 l3 l4 l5 l6 l7 l8 l9
 go_simp
 refine hK _ _ ?_
 clear hK K
 refine ak ?_
 iterate 2 refine gA 11 24 ?_
 refine eA ?_
 have hRz:=HR4.out
 rw[ej] at hRz
 obtain⟨⟨d0,d1,d2,d3,d4,d5,d6,d7,d8,d9⟩,fr⟩:=ph hRz
 refine pk fun f0 f1 f2 f3 f4 f5 f6 f7 f8 f9=> ?_
 clear hRz fr
 go_wp2_with fail
 refine bodyPost_ret (v:= .tuple #[.agg (y.cells (.slice Am nm cm) (.slice At nt ct)),.int .i64 0]) (by simp[results,results13,go_sem,ap.cells_def,aG,d0,d1,d2,d3,d4,d5,d6,d7,d8,d9]) rfl ?_
 refine⟨?_,?_⟩
 ·have hb:=HB4.out
  repeat' first|with_reducible exact hb|with_reducible refine aR ?_ (ae _) _
 ·rw[rX HK.out,HRd.out]
  simp only[Option.bind_some,HVy.out,if_true]
  refine⟨_,_,rfl,?_,fun a n c e=>by have:W.heap.size≤a.block:=HFm.out a n c e;omega,fun a n c e=>by have:W.heap.size≤a.block:=HFt.out a n c e;omega⟩
  have hyi:=HYI4.out
  have hfm: ∀a n c,Value.slice Am nm cm= .slice (some a) n c→¬a.block=w.heap.size:=fun a n c e=>by have:W.heap.size≤a.block:=HFm.out a n c e;omega
  have hft: ∀a n c,Value.slice At nt ct= .slice (some a) n c→¬a.block=w.heap.size:=fun a n c e=>by have:W.heap.size≤a.block:=HFt.out a n c e;omega
  repeat' first|with_reducible exact hyi|with_reducible refine In.set ?_ hfm hft _ _):p:=h
theorem nL {p:Prop} (h:p:=by
 go_enter func51,ntmps51
 go_wp2_with first
  |(go_at_call 152;refine(HSV.out _ (ac (B0 w) _)).mono ?_
    rintro e w1 ⟨rfl,hb1⟩
    refine pF fun hn1 e0 e1 e2 e3 e4 e5 e6 e7 e8 e9 e10 hz1 HB1 HN1=> ?_
    clear hb1 hn1)
  |(go_at_call_of 153 (Value.int IntKind.i64 m.dark);refine(HW1.out _).mono ?_;rintro e w2 ⟨rfl,rfl⟩)
  |(go_at_call_of 153 (Value.int IntKind.i64 m.slots);refine(HW2.out _).mono ?_;rintro e w2 ⟨rfl,rfl⟩)
  |(go_at_call_of 153 (Value.int IntKind.i64 m.reserve);refine(HW3.out _).mono ?_;rintro e w2 ⟨rfl,rfl⟩)
  |(go_at_call_of 153 (Value.int IntKind.i64 m.failures);refine(HW4.out _).mono ?_;rintro e w2 ⟨rfl,rfl⟩)
 go_ret
 exact⟨by rw[HO.out];simp;try omega,HB1.out⟩):p:=h
theorem yr {p:Prop} (h:p:=by
 rw[HRd.out]
 rintro e w3 ⟨hg3,rfl,hy3⟩
 refine uU fun hB3 hR3 HB3 HR3=> ?_
 clear hB3 hR3
 obtain⟨m,t,hbk3,hm3,ht3,hfm,hft⟩:=hy3 y rfl
 obtain⟨l0,l1,l2,l3,l4,l5,l6,l7,l8,l9⟩:=hbk3.lies
 obtain⟨Am,nm,cm,rfl,hnm,_,_⟩:=hm3.form
 obtain⟨At,nt,ct,rfl,hnt,_,_⟩:=ht3.form
 refine CK fun hyI hyl VC=> ?_
 rw[HVy.out] at VC
 have HVC:=aa VC
 have HYI:=aa hyI
 have HFm:=aa hfm
 have HFt:=aa hft
 have hlw3:wc.heap.size<w3.heap.size:=aF hlW hg3.size
 have hzw3:w.heap.size<w3.heap.size:=by omega
 clear hy3 hbk3 hm3 ht3 hnm hnt hyI hyl VC hfm hft hg3
 go_simp
 refine hK _ _ ?_
 clear hK K
 refine ak ?_
 iterate 2 refine gA 11 24 ?_
 refine cA 7 fun K hK=> ?_
 go_simp
 refine hK _ _ ?_
 clear hK K
 refine ak ?_
 refine cA 8 fun K hK=> ?_
 go_simp
 refine HVC.out.mono ?_
 rintro e w4 ⟨rfl,hb4⟩
 refine CJ fun hc4 hf4 HB4 HR4 HYI4 m0 m1 m2 m3 m4 m5 m6 m7 m8 m9=> ?_
 clear hb4 hc4 hf4 l0 l1 l2 l3 l4 l5 l6 l7 l8 l9
 go_simp
 refine hK _ _ ?_
 clear hK K
 refine ak ?_
 iterate 2 refine gA 11 24 ?_
 refine eA ?_
 have hRz:=HR4.out
 rw[ej] at hRz
 obtain⟨⟨d0,d1,d2,d3,d4,d5,d6,d7,d8,d9⟩,fr⟩:=ph hRz
 refine pk fun f0 f1 f2 f3 f4 f5 f6 f7 f8 f9=> ?_
 clear hRz fr
 go_wp2_with fail
 refine rZ ?_
 refine⟨?_,?_⟩
 ·have hb:=HB4.out
  repeat' first|with_reducible exact hb|with_reducible refine aR ?_ (ae _) _
 ·rw[rX HK.out,HRd.out]
  simp[HVy.out]):p:=h
theorem qq {p:Prop} (h:p:=by
 go_wp2_with first
  |(go_at_call 166
    refine fu ?_
    rintro e w3 ⟨rfl,hw⟩
    obtain rfl:=hw.symm
    first|rw[HE1.out]|rw[HE2.out])
  |(go_at_call 167
    refine(lf _ _ _ _).mono ?_
    rintro e w3 ⟨rfl,hw⟩
    obtain rfl:=hw.symm
    first|rw[HE4.out]|rw[HE5.out]|rw[HE6.out])
  |(go_at_call 261
    refine(HMa.out _ HBW.out).mono ?_
    rintro e w2 ⟨rfl,hb2⟩
    rw[HE3.out]
    have hx2:=ah HxW.out hb2
    obtain⟨y0,y1,y2,y3,y4,y5,y6⟩:=cZ hx2
    refine gl fun HB2=> ?_
    clear hb2 hx2)
 all_goals
  go_ret
  exact⟨aV (by first|exact HR.out.symm|(rw[HR.out];simp_all;done)|(rw[HR.out];by_cases g1:x.other=0<;>by_cases g2:x.by_=0<;>by_cases g3:x.n=0<;>cases al<;>simp_all;done)|(rw[HR.out,Bool.eq_iff_iff];simp_all<;>omega)),by first|exact HB2.out|exact HBW.out⟩):p:=h
theorem Af {p:Prop} (h:p:=by
 refine bH (S:=fun w'=>w'.cell? ⟨rb,0,none⟩=some (.map (some Mb))∧w'.cell? ⟨xb,0,none⟩=some (.int .i64 d.kind)∧w'.cell? ⟨xb,1,none⟩=some (.string (bs d.name))∧aZ cC w' w.heap.size (jD (l.take (k+1)))) 15 (by exact⟨hr7,e0,e1,HC7.out⟩) fun hS=> ?_
 iterate 11 refine gH 15 72 ?_
 refine cH 11 fun K hK=> ?_
 go_simp
 refine(HSe.out _).mono ?_
 rintro e w8 ⟨rfl,hb8⟩
 have HB8:Hid (Below w7.heap.size w7 w8):=ag (au (B0 w7)) hb8
 clear hb8
 try go_simp
 clear hS
 refine hK.out _ _ (by exact⟨kc HB8.out hr7,kc HB8.out e0,kc HB8.out e1,HC7.out.later HB8.out⟩) (fun hS=> ?_)
 clear hK
 refine ak ?_
 refine yv (i:=12) (v:= .int .i64 ((cn:Int)+1)) (some 84) rfl rfl (by kernel_rfl) (by kernel_rfl) (by kernel_rfl) (fun _ _ _ h=>h) (Or.inl ⟨by rfl,?_⟩) hS ?_
 ·intro wq hSw
  try dsimp only at hSw
  have h:=fL (P:=prog) underlying175 underlying3 aO hSw.2.2.2 (sc:Int) false (zeroValue3 _)
  rw[HCg2.out] at h
  have hk1:(Instr.lookup 175 (.map (some w.heap.size)) (.int .i64 sc) false).run prog wq= .ok (.int .i64 ((cn:Int)+1)) wq:=h
  clear h
  go_simp
  try with_reducible rfl
 refine ak ?_
 refine eC 13 85 ?_
 refine cH 14 fun K hK=> ?_
 obtain⟨ob,hrun,hM9⟩:=oZ (P:=prog) underlying99 underlying9 j7 (HM7.out.later HB8.out) d.name (.agg #[.int .i64 d.kind,.int .i64 ((cn:Int)+1)])
 have hrun':(Instr.mapUpdate 99 (.map (some Mb)) (.string (bs d.name)) (.agg #[.int .i64 d.kind,.int .i64 ((cn:Int)+1)])).run prog w8=_:=hrun
 have hT9:=lz w8 Mb ob
 generalize ChangeMaps.setBlock w8 Mb ob=w9 at hrun hrun' hM9 hT9
 go_simp
 refine hK.out _ _ (by exact⟨(hT9.cell hne).trans hS.1,(hT9.cell hnxM).trans hS.2.1,(hT9.cell hnxM).trans hS.2.2.1,hS.2.2.2.blk (hT9.2.2 _ (by omega))⟩) (fun hS=> ?_)
 clear hK
 refine ak ?_
 refine eH ?_
 go_wp2_with fail
 have hlt0:dR t d.name=none:=by
  have:=HUs.out
  cases hq:dR t d.name with
  |none=>rfl
  |some q=>rw[hq] at this;cases this
 refine⟨⟨k+1,t++[(d.name,d.kind,cn+1)],by omega,by go_num,?_,hM9.of_eq (fun y=>(JL (d.kind,cn+1) hlt0 y).symm),hS.2.2.2,((HO7.out.later HB8.out).blk (hT9.2.2 _ (by omega))),(HK7.out.trans (KP.of_below HB8.out HK7.out.size HB8.out.size)).trans (KP.turn hT9)⟩,by simp[intOf];omega⟩
 rw[HEo.out HVd.out (by rw[HBd.out];rfl),if_neg (of_decide_eq_false HNm.out)]):p:=h
theorem tt {p:Prop} (h:p:=by
 have h:=fL (P:=prog) underlying233 underlying3 aO hM (d.kind:Int) true (zeroValue231 _)
 rw[hF] at h
 exact h):p:=h
theorem tu {p:Prop} (h:p:=by
 have h:=fL (P:=prog) underlying233 underlying3 aO (hM.later (ac (B0 w2) o)) (d.kind:Int) true (zeroValue231 _)
 rw[hF] at h
 exact h):p:=h
theorem pL {p:Prop} (h:p:=by
 exact⟨w2.heap.size,rfl,hB2.size,ac hB2 _,cap,heap_alloc_new w2 _⟩):p:=h
theorem Ab {p:Prop} (h:p:=by
 refine⟨W1.heap.size,rfl,ae _,?_,cap,?_⟩
 ·repeat' first|with_reducible exact hB2|with_reducible refine aR ?_ (ae _) _
 ·have h0:=(HBl.out W1.heap.size (by simp)).trans (heap_alloc_new W1 _)
  exact(ay (ay (ay (ay (ay (ay (ay (ay h0 _ _) _ _) _ _) _ _) _ _) _ _) _ _) _ _).trans rfl):p:=h
theorem zZ {p:Prop} (h:p:=by
 rename_i J K' hJ hK'
 have HJ:=aa hJ
 have HK':=aa hK'
 clear hJ hK'
 go_region_held3 (fun w'=>w'.cell? ⟨w.heap.size,0,none⟩=some (.int .i64 d.kind)) (go_simp)
  (first
    |(go_at_call 220
      refine(HFm.out _).mono ?_
      rintro e w2 ⟨M1,pb,rfl,hM,_,_,hb2⟩
      obtain⟨cap,hF⟩:=HF.out pb
      refine nr fun hB2=> ?_
      have hk1:(Instr.lookup 233 (.map (some M1)) (.int .i64 d.kind) true).run prog w2= .ok (.tuple #[.agg #[.string wd,.bool NM,.int .i64 L,.int .i64 M,.int .i64 N,.func (.func fb) #[] #[],.bool AL,.func (.func ft) #[] cap],.bool true]) w2:=by
       exact tt
      have hk2: ∀o,(Instr.lookup 233 (.map (some M1)) (.int .i64 d.kind) true).run prog (w2.alloc o)= .ok (.tuple #[.agg #[.string wd,.bool NM,.int .i64 L,.int .i64 M,.int .i64 N,.func (.func fb) #[] #[],.bool AL,.func (.func ft) #[] cap],.bool true]) (w2.alloc o):=fun o=>by
       exact tu
      refine tx fun c0 hcx hfx=> ?_
      try(have hzx:W1.heap.size<w2.heap.size:=by(have hq:=hb2.size;simp at hq;omega))
      refine ty fun hz2 hz3 HBl=> ?_
      clear hM hb2))
 all_goals
  dsimp only[Exit.then]
  refine HK'.out _ _ (Met.intro (HJ.out _ _ ?_))
  (repeat apply Exists.intro)
  refine⟨⟨rfl,?_⟩,rfl⟩
 ·exact pL
 ·exact pL
 ·exact Ab):p:=h
theorem zb {p:Prop} (h:p:=by
 refine(nF pb B M p _ 3 ((HP.out.later HB1.out).later (ac (B0 w1) _)) (by omega)).mono ?_
 rintro e w2 ⟨rfl,hP2,hK2,hD2⟩
 have hzr:=blk_lt HBR.out
 have hbr:=hK2.blk (fV HBR.out (ac (B0 w1) _) hzr) (by simp;omega) (by omega)
 obtain⟨r0,r1,r2,r3⟩:=qS hbr
 obtain⟨q0,q1,q2,q3⟩:=iP hbr
 have hz2:=blk_lt hbr
 have HP2:=aa hP2;have HK2:=aa hK2;have HD2:=aa hD2
 clear hP2 hK2 hD2
 have HBr:=aa hbr
 clear hbr
 go_wp2_with fail
 refine bodyPost_ret (v:=jA ⟨0,[],0,0⟩) (by simp[results,results128,go_sem,jA,bs,r0,r1,r2,r3,hz2]) rfl ?_
 rw[HT.out]
 refine⟨rfl,HP2.out.set4 HBr.out (by decide) hpw,?_⟩
 have hk0:KP w.heap.size pb w w2:=((KP.of_below HB1.out (ae _) HB1.out.size).alloc (ae _) _).trans (HK2.out.mono (by simp;omega))
 refine⟨(((hk0.set (.inr (ae _)) _).set (.inr (ae _)) _).set (.inr (ae _)) _).set (.inr (ae _)) _,?_⟩
 exact(((((dq.of_below HB1.out hpw).trans (dq.of_below (ac (B0 w1) _) hpw1)).trans HD2.out).set (.inl (by omega)) _).set (.inl (by omega)) _).set (.inl (by omega)) _ |>.set (.inl (by omega)) _):p:=h
theorem sX {p:Prop} (h:p:=by
 go_enter func152,ntmps152
 go_wp2_with(first
  |(go_at_call_of 232 (Value.int IntKind.i64 (m.sites.length:Nat));refine(HE1.out _).mono ?_;rintro e w1 ⟨rfl,rfl⟩)
  |(go_at_call 232;refine(HE2.out _).mono ?_;rintro e w1 ⟨rfl,rfl⟩)
  |(go_at_call 233;refine(HR.out _ (ac (B0 w) _) HN.out).mono ?_;rintro e w1 ⟨rfl,hb1⟩;have HB1:=aa (ag (ac (B0 w) _) hb1);have HN1:=aa (ah HN.out hb1);have e3:w1.cell? ⟨w.heap.size,3,none⟩=some (.slice Ma m.machs.length mc):=af HN1.out rfl;have e4:w1.cell? ⟨w.heap.size,4,none⟩=some (.slice La m.links.length lc):=af HN1.out rfl;clear hb1)
  |(go_at_call 237;refine(HM.out _ HB1.out HN1.out).mono ?_;rintro e w2 ⟨rfl,hb2⟩;have HB2:=aa (ag HB1.out hb2);have HN2:=aa (ah HN1.out hb2);have e4:w2.cell? ⟨w.heap.size,4,none⟩=some (.slice La m.links.length lc):=af HN2.out rfl;clear hb2)
  |(go_at_call 240;refine(HL.out _ HB2.out HN2.out).mono ?_;rintro e w3 ⟨rfl,hb3⟩;have HB3:=aa (ag HB2.out hb3);clear hb3))
 go_ret
 exact⟨by rw[HO.out];simp[G1.out,G2.out,G4.out],HB3.out⟩):p:=h
theorem za {p:Prop} (h:p:=by
 simp only[ptr]
 go_enter func128,ntmps128
 go_wp2_with first
  |(go_at_call 40;refine(HN.out _ (HP.out.later (ac (B0 w) _))).mono ?_
    rintro e w1 ⟨rfl,hb1⟩
    have hbp:=ah (ah H1.out (ac (B0 w) _)) hb1
    have p0:w1.cell? ⟨pb,0,none⟩=some (.slice (some ⟨tb,tf,none⟩) tn tc):=af hbp rfl
    refine kG fun p1 hpw1=> ?_
    have HBR:=aa (ah (aN w _) hb1)
    have HB1:=aa (ag (ac (B0 w) _) hb1)
    have f0:=aW hbp 0
    have hbr:=HBR.out
    obtain⟨r0,r1,r2,r3⟩:=qS hbr
    obtain⟨q0,q1,q2,q3⟩:=iP hbr
    have hz1:=blk_lt hbr
    have hz2: ¬w.heap.size=w1.heap.size:=by omega
    clear hbp hb1 hbr)
  |(go_at_call 218;refine(oY _ l t.text _ _ ((HL.out.below HB1.out (ae _)).below (ac (B0 w1) _) (by have:=HB1.out.size;omega))).mono ?_;rintro e w2 ⟨rfl,rfl⟩)
 refine bodyPost_ret (v:=jA t) (by simp[results,results128,go_sem,jA,r0,r1,r2,r3,hz1,hz0,hz2]) rfl ?_
 rw[HY.out,HH.out]
 have hP1:aJ w1 pb B M p:=HP.out.later HB1.out
 have hS1:aQ 4 dU w1 pb (.slice (some ⟨tb,tf+4,none⟩) (tn - 1) (tc - 1)) p.ts.tail:=by
  have h:=H2.out.below dU.ab HB1.out (by omega)
  rw[HTS.out] at h⊢
  exact h.drop1
 have hP2:=hP1.setTs hS1 (H7.out.tail (by rw[HTS.out,hts2];simp))
 refine⟨rfl,(hP2.set4 (gz HBR.out hz0) (by decide) hpw).later (ac (B0 _) _),?_⟩
 have hk0:KP w.heap.size pb w w1:=KP.of_below HB1.out (ae _) HB1.out.size
 refine⟨(((((hk0.set (.inl rfl) _).set (.inr (ae _)) _).set (.inr (ae _)) _).set (.inr (ae _)) _).set (.inr (ae _)) _).alloc (ae _) _,?_⟩
 exact(((((((dq.of_below HB1.out hpw).set (.inr (by omega)) _).set (.inl (by omega)) _).set (.inl (by omega)) _).set (.inl (by omega)) _).set (.inl (by omega)) _)).trans (dq.of_below (ac (B0 _) _) (by simp[World.setCell];omega))):p:=h
theorem fO {p:Prop} (h:p:=by
 exact tD d rv nv w hG _ _ _ _ _ _ _ _ _ (enters_of func296 (by kernel_rfl) rfl) hr hn (fun pb=>⟨_,hfk pb⟩) (fun W _=>JT d.by_ W)):p:=h
theorem sO {p:Prop} (h:p:=by
 try clear he
 try clear hk
 try clear ht
 simp only[ptr]
 go_enter func216,ntmps216
 go_wp2_with first
  |(go_at_call 40;refine(HN.out _ HP.out).mono ?_
    rintro e w1 ⟨rfl,hb1⟩
    have hbp:=ah H1.out hb1
    refine kG fun p1 hpw1=> ?_
    have HB1:=aa hb1
    clear hbp hb1)
  |(go_at_call 128;refine(HT.out _ ((HP.out.later HB1.out).later (ac (B0 w1) _))).mono ?_
    unfold fE
    rintro e w2 ⟨rfl,hP2,hK2,hD2⟩
    obtain⟨hp2,hf2,c1,c2,c3,c6,c7⟩:=hP2.cells
    have f7:=hf2 7
    have HP2:=aa hP2;have HK2:=aa hK2
    clear hP2 hK2 hD2 hf2)
 go_end0
 rw[HC.out]
 exact⟨rfl,((HP.out.later HB1.out).later (ac (B0 w1) _)).more (Nat.le_succ M),fun _=>HOK.out,(KP.of_below HB1.out hsz.2 HB1.out.size).alloc hsz.2 _⟩):p:=h
theorem wD {p:Prop} (h:p:=by
 have hg1:=gy (iR hb1 (World.grownBy.refl w1 (some pa))) 9 (.slice (some ⟨bu,0,none⟩) nu cu)
 have r2:=cU r1 9 (.slice (some ⟨bu,0,none⟩) nu cu)
 have hu2:=aq.set (o:=9) (u:= .slice (some ⟨bu,0,none⟩) nu cu) hu (show ¬bu=pa by omega)
 have hbb:Below pa W (w1.setCell ⟨pa,9,none⟩ (.slice (some ⟨bu,0,none⟩) nu cu)):=(hb1.mono (bN hlt)).setCell (ae _) _
 generalize hw2:w1.setCell ⟨pa,9,none⟩ (.slice (some ⟨bu,0,none⟩) nu cu)=w2 at hg1 r2 hu2 hbb⊢
 have hlt2:pa<w2.heap.size:=aF hlt hg1.size
 have hne: ¬pa=w2.heap.size:=by omega
 have hne2: ¬w2.heap.size=pa:=by omega
 have hG2:aT w2:=HG.out.grown hg1 h8
 clear hw2 hu hb1
 go_region_with (go_at_call 77;refine(kj _ [aE l 0] [1] 1 w2.heap.size _ pa 45 _ _ (hG2.step (au (ac (B0 w2) _))) pa rfl (Sl.below HT.out (my (hbb.alloc (bN hlt2) _))) (ae _) (by simp;omega) (by simpa using HZ.out) (by simp) (fun j hj=>by
  match j,hj with
  |0,_=>go_simp;try rfl) hne2 (by simp) h8 (((au (ac (B0 w2) _)).block _ hlt2).trans r2) (fun j hj=>by
  match j,hj with
  |0,_=>show _<10;decide)).mono ?_;rintro e w3 hp;have he:=hp.ret;subst he)
 all_goals (go_wp2_with fail)
 all_goals
  go_ret
  have hg3:=iR (au (ac (B0 w2) _)) hp.1
  have hp2:=hp.2
  refine⟨qW hg1 hg3,?_,fun y hy=> ?_⟩
  ·show Ending.returned (.bool (bW [aE l 0] 1).isSome)=_
   rw[wC,Option.isSome_map,Option.isSome_map]
  ·obtain⟨a,ha,rfl⟩:=Option.map_eq_some_iff.1 hy
   have e1:bW [aE l 0] [1].length=some [a]:=by show bW [aE l 0] 1=_;rw[wC,ha];rfl
   rw[e1] at hp2
   exact⟨aG,_,hp2.2.trans rfl,aq.nil_ _ _,aq.grown' hu2 hg3 (show ¬bu=pa by omega),da.nil _,da.mk_ hfr⟩):p:=h
theorem xY {p:Prop} (h:p:=by
 refine xZ fun hlt2 hg1 r2 hbb=> ?_
 generalize hw2:((((((w1.setCell ⟨pa,4,none⟩ (.int .i64 p0)).setCell ⟨pa,5,none⟩ (.string p1)).setCell ⟨pa,6,none⟩ (.int .i64 p2)).setCell ⟨pa,7,none⟩ (.int .i64 p3))).alloc (.cells #[.int .i64 p0,.string p1,.int .i64 p2,.int .i64 p3] 43))=w2 at hg1 r2 hbb⊢
 have hl2:pa<w2.heap.size:=aF hlt hg1.size
 clear hw2 hlt2 d4 f4 d5 f5 d6 f6 d7 f7 hne hne2 hlt1 hb1 R1
 have R2:=aa r2
 clear r2
 have hne: ¬pa=w2.heap.size:=by omega
 have hne2: ¬w2.heap.size=pa:=by omega
 refine bA 14 ?_
 iterate 2 refine gA 14 20 ?_
 iterate 10 refine kA 14 20 ?_
 refine dG 12 32 ?_
 refine dG 13 4 ?_
 refine eA ?_
 go_wp2_with fail
 go_ret
 exact⟨wz hg1,rfl,fun y hy=>by cases hy⟩):p:=h
theorem sJ {p:Prop} (h:p:=by
 try clear he
 try clear hk
 simp only[ptr]
 go_enter func288,ntmps288
 go_wp2_with first
  |(go_at_call 40;refine(HN.out _ HP.out).mono ?_
    rintro e w1 ⟨rfl,hb1⟩
    have hbp:=ah H1.out hb1
    refine kG fun p1 hpw1=> ?_
    have HB1:=aa hb1
    clear hbp hb1)
  |(go_at_call 128;refine(HT.out _ ((HP.out.later HB1.out).later (ac (B0 w1) _))).mono ?_
    unfold fE
    rintro e w2 ⟨rfl,hP2,hK2,hD2⟩
    have HP2:=aa hP2;have HK2:=aa hK2;have HD2:=aa hD2
    clear hP2 hK2 hD2)
 go_ret
 rw[HC.out]
 exact⟨rfl,(HP.out.later HB1.out).later (ac (B0 w1) _),(KP.of_below HB1.out (ae _) HB1.out.size).alloc (ae _) _,(dq.of_below HB1.out hpw).trans (dq.of_below (ac (B0 w1) _) hpw1)⟩):p:=h
theorem od {p:Prop} (h:p:=by
 go_wp2_with first
  |(go_at_call 166
    refine fu ?_
    rintro e w3 ⟨rfl,hw⟩
    obtain rfl:=hw.symm
    first|rw[HE1.out]|rw[HE2.out])
 all_goals
  go_ret
  exact⟨aV (by first|exact HR.out.symm|(rw[HR.out];simp_all;done)|(rw[HR.out];by_cases g1:x.other=0<;>by_cases g2:x.by_=0<;>by_cases g3:x.n=0<;>cases al<;>simp_all;done)|(rw[HR.out,Bool.eq_iff_iff];simp_all<;>omega)),HBW.out⟩):p:=h
theorem tR {p:Prop} (h:p:=by
 go_simp
 refine hK.out _ _ ?_
 clear hK
 refine ak ?_
 refine eP ?_
 go_wp2_with fail
 go_end0
 have hz4:=HB4.out.size
 refine⟨⟨_,rfl⟩,.slice OA om oc,ev.mk' (ah (ah HrW.out HB4.out) (ac (B0 _) _)) (ag HBW.out (ag HB4.out (ac (B0 _) _))) hgrow hvr hown3 hat (by first|omega|(simp;omega)) (hat.elim (fun h e=>hvr (by rw[h,e])) (fun h e=>by simp at h;omega)),?_⟩
 have hL:=HLT.out
 have ho4:=HO4.out
 have hlo:=World.ownsRow.lt ho4
 have hz0':W1.drew.heap.size=W1.heap.size:=rfl
 rw[hz0'] at hlo ho4
 refine dM (pQ (World.ownsRow.kept (cB ho4 (ac (B0 w4) _)) hgrow ?_) hzW) (fun j hj e=>by have:=hlo j hj;omega) _ _
 cases hq:Value.ownBlock (.slice OA om oc) with
 |none=>exact .inl rfl
 |some j=>exact .inr (fun e=>by have:=hlo j hq;have:=hL j e.symm;omega)):p:=h
theorem yO {p:Prop} (h:p:=by
 refine cA 11 fun K hK=> ?_
 go_simp
 refine(po _).mono ?_
 rintro e w3 ⟨g3,c3,rfl,hC3,hb3⟩
 try go_simp
 refine hK _ _ ?_
 clear hK K
 refine ak ?_
 refine cA 12 fun K hK=> ?_
 go_simp
 refine(sD _).mono ?_
 rintro e w4 ⟨g4,c4,rfl,hC4,hb4⟩
 try go_simp
 refine hK _ _ ?_
 clear hK K
 refine ak ?_
 refine cA 13 fun K hK=> ?_
 go_simp
 refine hK _ _ ?_
 clear hK K
 refine ak ?_
 have hS:=yM w4 _ _ _ _ (hC3.later hb4) hC4
 refine cA 14 fun K hK=> ?_
 go_simp
 refine(sE _ _ _ hS).mono ?_
 rintro e w5 ⟨g5,c5,rfl,hC5,hb5⟩
 try go_simp
 refine hK _ _ ?_
 clear hK K
 refine ak ?_
 refine cA 15 fun K hK=> ?_
 go_simp
 refine(HQ.out w5 _ (hC5.congr yI)).mono ?_
 rintro e w6 ⟨rfl,hb6⟩
 try go_simp
 refine hK _ _ ?_
 clear hK K
 refine ak ?_
 iterate 2 refine gA 18 11 ?_
 refine eA ?_
 have hB6:=ag (ag (ac (ag (ag (au hB2) hb3) hb4) _) hb5) hb6
 have hbk:=ah (fV HB.out (ag (ac (ag (ag (au (B0 w2)) hb3) hb4) _) hb5) hz2) hb6
 refine pp fun c0 c1' c2' c3' f0 f1 f2 f3=> ?_
 have hz6:=blk_lt hbk
 have HB6:=aa hbk
 clear hbk hb3 hb4 hb5 hb6 hS hC3 hC4 hC5 hB2 HB HR HQ
 go_wp2_with fail
 refine bodyPost_ret (v:= .tuple #[cz 0 [] 0 0,.int .i64 3]) (by simp[results,results209,go_sem,cz,bs,c0,c1',c2',c3',hz6]) rfl ?_
 exact⟨rfl,by repeat' first|with_reducible exact hB6|with_reducible refine aR ?_ (by dsimp only;omega) _|with_reducible refine ac ?_ _⟩):p:=h
theorem qe {p:Prop} (h:p:=by
 go_wp2_with first
  |(go_at_call 261
    refine(HMa.out _ HBW.out).mono ?_
    rintro e w2 ⟨rfl,hb2⟩
    rw[HE1.out]
    have hx2:=ah HxW.out hb2
    obtain⟨y0,y1,y2,y3,y4,y5,y6⟩:=cZ hx2
    refine gl fun HB2=> ?_
    clear hb2 hx2)
  |(go_at_call 167
    refine(lf _ _ _ _).mono ?_
    rintro e w3 ⟨rfl,hw⟩
    obtain rfl:=hw.symm
    first|rw[HE2.out]|rw[HE3.out]|rw[HE4.out]|skip)
 go_ret
 exact⟨aV (by rw[HO.out];simp),HB2.out⟩):p:=h
theorem nO {p:Prop} (h:p:=by
 go_simp
 refine hK.out _ _ ?_
 clear hK
 refine ak ?_
 refine eP ?_
 go_wp2_with fail
 go_end0
 exact⟨⟨_,rfl⟩,ev.mk' (ah HrW.out (ac (au (B0 W1)) _)) (ag (au HBW.out) (ac (B0 _) _)) hgrow hvr hown3 hat (by first|omega|(simp;omega)) (hat.elim (fun h e=>hvr (by rw[h,e])) (fun h e=>by simp at h;omega))⟩):p:=h
theorem mf {p:Prop} (h:p:=by
 refine dt fun hS=> ?_
 clear hK
 refine ak ?_
 refine cj 19 9 ?_
 refine eP ?_
 go_wp2_with fail
 go_meet
 exact⟨HL.out _ (by first|exact hBc|exact au hBc),by first|exact hBc|exact au hBc⟩):p:=h
theorem uy {p:Prop} (h:p:=by
 try rw[HN.out] at HR
 go_wp2_with first
  |(go_at_call 261
    refine(HMa.out _ HBW.out).mono ?_
    rintro e w2 ⟨rfl,hb2⟩
    rw[HE1.out]
    have hx2:=ah HxW.out hb2
    obtain⟨y0,y1,y2,y3,y4,y5,y6⟩:=cZ hx2
    refine gl fun HB2=> ?_
    clear hb2 hx2)
  |(go_at_call 167
    refine(lf _ _ _ _).mono ?_
    rintro e w3 ⟨rfl,hw⟩
    obtain rfl:=hw.symm
    first|rw[HE2.out]|rw[HE3.out]|rw[HE4.out]|skip)
 all_goals
  go_ret
  exact⟨aV (by first|exact HR.out.symm|(rw[HR.out];simp_all;done)|(rw[HR.out,Bool.eq_iff_iff];simp_all<;>omega)),HB2.out⟩):p:=h
theorem kY {p:Prop} (h:p:=by
 have HR:=aa (show r=false by
  rw[HO.out,Bool.eq_false_iff]
  intro h
  simp only[Bool.and_eq_true,decide_eq_true_eq,aD] at h
  omega)
 go_wp2_with fail
 go_ret
 exact⟨by rw[HR.out];rfl,HBW.out⟩):p:=h
theorem yq {p:Prop} (h:p:=by
 rw[HRd.out]
 rintro e w3 ⟨hg3,rfl,hy3⟩
 refine uU fun hB3 hR3 HB3 HR3=> ?_
 clear hB3 hR3
 clear hg3 hy3
 go_simp
 refine hK _ _ ?_
 clear hK K
 refine ak ?_
 iterate 2 refine gA 11 24 ?_
 iterate 3 refine kA 11 24 ?_
 refine dG 10 34 ?_
 refine eA ?_
 have hRz:=HR3.out
 rw[ej] at hRz
 obtain⟨⟨d0,d1,d2,d3,d4,d5,d6,d7,d8,d9⟩,fr⟩:=ph hRz
 refine pk fun f0 f1 f2 f3 f4 f5 f6 f7 f8 f9=> ?_
 clear hRz fr
 go_wp2_with fail
 refine rZ ?_
 refine⟨?_,?_⟩
 ·have hb:=HB3.out
  repeat' first|with_reducible exact hb|with_reducible refine aR ?_ (ae _) _
 ·rw[rX HK.out,HRd.out]
  rfl):p:=h
theorem oX {p:Prop} (h:p:=by
 go_wp2_with(first
  |(go_at_call 339;refine(HI1.out _ (ac (ac (B0 w) _) _)).mono ?_;rintro e w1 ⟨rfl,hb1⟩;have HB1:=aa (ag (ac (ac (B0 w) _) _) hb1);obtain⟨hc1,hf1⟩:=ck hb1;have hz1:w.heap.size+1<w1.heap.size:=dJ hb1 (by simp);clear hb1)
  |(go_at_call 153;refine(HW.out _).mono ?_;rintro e w2 ⟨rfl,rfl⟩)
  |fail)
 go_ret
 exact⟨by simp,HB1.out⟩):p:=h
theorem zz {p:Prop} (h:p:=by
 go_enter func152,ntmps152
 go_wp2_with(first
  |(go_at_call_of 232 (Value.int IntKind.i64 (m.sites.length:Nat));refine(HE1.out _).mono ?_;rintro e w1 ⟨rfl,rfl⟩)
  |(go_at_call 232;refine(HE2.out _).mono ?_;rintro e w1 ⟨rfl,rfl⟩)
  |(go_at_call 233;refine(HR.out _ (ac (B0 w) _) HN.out).mono ?_;rintro e w1 ⟨rfl,hb1⟩;have HB1:=aa (ag (ac (B0 w) _) hb1);have HN1:=aa (ah HN.out hb1);have e3:w1.cell? ⟨w.heap.size,3,none⟩=some (.slice Ma m.machs.length mc):=af HN1.out rfl;have e4:w1.cell? ⟨w.heap.size,4,none⟩=some (.slice La m.links.length lc):=af HN1.out rfl;clear hb1)
  |(go_at_call 237;refine(HM.out _ HB1.out HN1.out).mono ?_;rintro e w2 ⟨rfl,hb2⟩;have HB2:=aa (ag HB1.out hb2);have HN2:=aa (ah HN1.out hb2);have e4:w2.cell? ⟨w.heap.size,4,none⟩=some (.slice La m.links.length lc):=af HN2.out rfl;clear hb2)
  |(go_at_call 240;refine(HL.out _ HB2.out HN2.out).mono ?_;rintro e w3 ⟨rfl,hb3⟩;have HB3:=aa (ag HB2.out hb3);clear hb3))
 go_ret
 exact⟨by rw[HO.out];simp;(try have hq:=trivial);(try omega),ac (B0 w) _⟩):p:=h
theorem kr {p:Prop} (h:p:=by
 exact⟨rfl,by repeat' first|with_reducible exact B0 w|with_reducible refine aR ?_ (by dsimp only;omega) _|with_reducible refine aR ?_ (Nat.le_succ _) _|with_reducible refine ac ?_ _⟩):p:=h
theorem pW {p:Prop} (h:p:=by
 intro wq hSw
 try dsimp only at hSw
 have h:=fL (P:=prog) underlying99 underlying9 j7 hSw.2.2.2.1 s true (zeroValue178 _)
 rw[HLk.out] at h
 have hk1:(Instr.lookup 99 (.map (some Mb)) (.string (bs s)) true).run prog wq= .ok (.tuple #[.agg #[.int .i64 (xa:Nat),.int .i64 (xn:Nat)],.bool true]) wq:=h
 clear h
 go_simp
 try with_reducible rfl):p:=h
theorem kS {p:Prop} (h:p:=by
 have h:=fL (P:=prog) underlying176 underlying3 aO HO4.out (d.kind:Int) false (zeroValue4 _)
 rw[HOg.out] at h
 exact h):p:=h
theorem Ae {p:Prop} (h:p:=by
 go_wp2_with first
  |(go_at_call 133
    refine(HVa.out _ HBc.out).mono ?_
    rintro e w4 ⟨rfl,hb4⟩
    refine kR fun b0 b1 hr4 HB4 HM4 HC4 HO4 HK4=> ?_
    have hlk:(Instr.lookup 176 (.map (some (w.heap.size+1))) (.int .i64 d.kind) false).run prog w4= .ok (.bool true) w4:=by
     exact kS
    clear hb4 cx0 cx1 cx2 cx3 cx4 cx5 hrc)
 go_ret2
 refine⟨HK4.out,?_⟩
 rw[HE5.out HVd.out (by rw[HBd.out];rfl)]
 exact rfl):p:=h
theorem uI {p:Prop} (h:p:=by
 clear hnn
 go_wp2_with
  (go_at_call 52
   refine jJ ?_
   rintro e w2 ⟨rfl,hb2⟩
   have hm2:=ah HmW.out hb2
   obtain⟨b0,b1,b2,b3,b4,b5,b6,b7,b8,b9,b10,b11,b12,b13⟩:=dw hm2
   have HB2':=aa hb2
   refine gl fun HB2=> ?_
   clear hb2 hm2)
 go_meet
 exact⟨by first|rfl|simp[hc1,hc2]|(simp only[Value.bool.injEq,Bool.or_eq_false_iff,decide_eq_false_iff_not];omega),HB2'.out⟩):p:=h
theorem Bd {p:Prop} (h:p:=by
 go_upto_region 4 with (first
  |(go_at_call 46
    refine HCo.out.mono ?_
    rintro e w2 ⟨hK2,rfl⟩))
 have ht2:w2.heap[rt]? =some (.cells #[.slice none 0 0,.slice none 0 0,.slice none 0 0,.slice none 0 0,.slice none 0 0,.slice none 0 0,.int .i64 0,.int .i64 0,.int .i64 0,.int .i64 0,.slice none 0 0] 29 (0,0)):=hK2.blk HTW.out (blk_lt HTW.out) hrtM
 obtain⟨q0,q1,q2,q3,q4,q5,q6,q7,q8,q9,q10⟩:=cd ht2
 obtain⟨z0,z1,z2,z3,z4,z5,z6,z7,z8,z9,z10⟩:=mV ht2
 have HTT:=aa ht2
 go_wp2_with fail
 refine nZ fun W7 hKP=> ?_
 have h2:=hK2.size
 have hrt:=HRT.out
 have hMb:=HMb.out
 have hzR:=HZR.out
 have hzw:=HZW.out
 have hrb:=HRb.out
 exact kX.err HE.out rfl ((HBW.out.trans ((hK2.below (by omega)).mono (by omega))).trans ((hKP.below (by omega)).mono (by omega)))):p:=h
theorem qn {p:Prop} (h:p:=by
 have HR:=aa (show r=false by rw[HO.out,HPm.out,gD (by rw[HN.out];exact hlt) hF];rfl)
 clear hF
 go_wp2_with fail
 go_quiet (fail)
 go_wp2_with fail
 go_ret
 exact⟨by rw[HR.out];rfl,jl HBw.out _⟩):p:=h
theorem BF {p:Prop} (h:p:=by
 have HR:=aa (BD HPr.out hlt (by first|exact HF.out|(rw[HF.out];rfl)))
 go_upto_region 4 with (fail)
 refine BG fun hS=> ?_
 iterate 7 refine gP 25 12 ?_
 refine cP 7 fun K hK=> ?_
 go_simp
 refine fu ?_
 rintro e w4 ⟨rfl,rfl⟩
 rw[HE1.out]
 try go_simp
 refine hK.out _ _ (hS) (fun hS=> ?_)
 clear hK
 refine ak ?_
 iterate 2 refine gP 25 12 ?_
 iterate 14 refine kP 25 12 ?_
 refine cj 24 36 ?_
 refine eP ?_
 go_wp2_with fail
 go_ret
 exact⟨by rw[HR.out];rfl,ag HBw.out hS.2.2⟩):p:=h
theorem zt {p:Prop} (h:p:=by
 clear HB
 go_enter func42,ntmps42
 go_wp2_with first
             |(go_at_call 40;refine HN.out.mono ?_
               rintro e w1 ⟨rfl,hb1⟩
               have hs1:=hb1.size)
             |(go_at_call 124;refine(HR.out _ (by simp;omega)).mono ?_
               rintro e w2 ⟨v,rfl,hv,hb2⟩
               have hb3:=ac hb1 (.cells #[.int .i64 t.kind,.string (bs t.text),.int .i64 t.n,.int .i64 t.pos] 91)
               have ht:=ah (aN w1 (.cells #[.int .i64 t.kind,.string (bs t.text),.int .i64 t.n,.int .i64 t.pos] 91)) hb2
               have hb4:=ag hb3 hb2)
             |(go_at_call 123;refine(HC.out _ _ _ (blk_lt ht) (af ht rfl) (af ht rfl) hv.sl).mono ?_;rintro e w3 ⟨rfl,hb5⟩)
 go_ret
 rw[HK.out]
 exact⟨rfl,ag hb4 hb5⟩):p:=h
theorem uG {p:Prop} (h:p:=by
 go_wp2_with first
  |(go_at_call 166
    refine fu ?_
    rintro e w3 ⟨rfl,hw⟩
    obtain rfl:=hw.symm
    rw[HEx.out])
  |(go_at_call 167
    refine(lf _ _ _ _).mono ?_
    rintro e w3 ⟨rfl,hw⟩
    obtain rfl:=hw.symm
    first|rw[HW1.out]|rw[HW2.out]|rw[HW3.out])
 go_ret
 exact⟨aV (by rw[HO.out];simp),HBw.out⟩):p:=h
theorem uF {p:Prop} (h:p:=by
 refine eP ?_
 go_wp2_with fail
 exact⟨⟨k+1,by omega,by go_num,fun q hq=>by
  rcases Nat.lt_or_ge q k with h|h
  ·exact HOk.out q h
  ·have:q=k:=by omega
   subst this;exact HFk.out,ag HB.out hS⟩,by simp[intOf];omega⟩):p:=h
theorem Cu {p:Prop} (h:p:=by
 clear hs h1 hb
 go_enter func4,ntmps4
 go_wp2_with(first
 |(go_at_call 10
   refine(HLi.out w).mono ?_
   rintro e w1 ⟨v1,rfl,ho1,hb1⟩
   rw[HTd.out,HL.out] at ho1
   obtain⟨lA,ln,lc,rfl,hln⟩:=mu ho1
   have HL1:=aa (uP ho1)
   have HN1:=aa hln
   have HB1:=aa hb1
   clear ho1 hb1 hln)
 |(go_at_call 11
   refine(Bn _ L w1 HL1.out HLl.out).mono ?_
   rintro e w2 ⟨rfl,hb2⟩
   rw[HCi.out]
   have HB2:=aa (ag HB1.out hb2)
   have HL2:=aa ((HL1.out.below hb2 (ae _)).more hb2.size)
   clear hb2)
 |(go_at_call 9
   refine(HAw.out _ (HG.out.g.step HB2.out)).mono ?_
   rintro e w9 ⟨rfl,hb9⟩))
 go_ret
 exact⟨rfl,ag HB2.out hb9⟩):p:=h
theorem nU {p:Prop} (h:p:=by
 try simp only[iW,LF]
 by_cases h1:k=5
 ·subst h1;simp
 ·by_cases h2:k=6
  ·subst h2;simp
  ·by_cases h3:k=13
   ·subst h3;simp
   ·simp[h1,h2,h3]):p:=h
theorem Ai {p:Prop} (h:p:=by
 by_cases hlt:k<len
 ·obtain⟨fn,tmps,assign,body,hy,hR⟩:=hY _ (f k) wr hJs (by rw[J5];exact hlt)
  have hcx':=hcx hlt
  gi_wp2
  refine hR.mono ?_
  rintro e W3 (⟨rfl,hJ3,hk3⟩|⟨rfl,hJx3⟩)
  ·gi_wp2
   go_roundw
   case rel=>exact⟨k+1,by omega,by simp,by rw[Ah];exact hJ3,hnx.trans hk3⟩
   case measure=>simp[intOf];omega
  ·gi_wp2
   refine bodyPost_ret (results_none rfl _ _ _) rfl ?_
   exact⟨⟨_,rfl⟩,.inr ⟨_,⟨k+1,by omega,(Ah _ _).symm⟩,hJx3⟩⟩
 ·obtain rfl:k=len:=by omega
  gi_wp2
  go_end0
  exact⟨⟨_,rfl⟩,.inl ⟨_,rfl,hJs⟩⟩):p:=h
theorem qc {p:Prop} (h:p:=by
 go_wp2_with first
  |(go_at_call 256
    refine(p9 _ _).mono ?_
    rintro e w4 ⟨rfl,hw⟩
    obtain rfl:=hw.symm
    rw[HE4.out])
 go_ret
 exact⟨by rw[HR.out];rfl,ag HBw.out HB2.out⟩):p:=h
theorem mr {p:Prop} (h:p:=by
 refine eP ?_
 go_wp2_with fail
 go_ret
 exact⟨aV (by rw[HO.out,HR.out];simp),ag HBw.out hS⟩):p:=h
theorem xK {p:Prop} (h:p:=by
 go_enter func343,ntmps343
 go_wp2_with(first
  |(go_at_call 339;refine(HI1.out _ (ac (ac (B0 w) _) _)).mono ?_;rintro e w1 ⟨rfl,hb1⟩;have HB1:=aa (ag (ac (ac (B0 w) _) _) hb1);obtain⟨hc1,hf1⟩:=ck hb1;have hz1:w.heap.size+1<w1.heap.size:=dJ hb1 (by simp);clear hb1)
  |(go_at_call 153;refine(HW.out _).mono ?_;rintro e w2 ⟨rfl,rfl⟩)
  |(go_at_call 176;refine(HC.out _ _ _ (aq.lits _ [2,3,4] (by simp[aj]) (by simp) _)).mono ?_;rintro e w3 ⟨rfl,rfl⟩)
  |fail)
 go_ret
 exact⟨by simp,HB1.out⟩):p:=h
theorem BA {p:Prop} (h:p:=by
 have HR:=aa (show ∀j,j<k+1→F j=true from fun q hq=>by
  rcases Nat.lt_or_ge q k with h|h
  ·exact HOk.out q h
  ·have:q=k:=by omega
   subst this;rw[HFk.out];rfl)
 go_wp2_with(first
  |(go_at_call 266;refine(HLk.out _).mono ?_;rintro e w1 ⟨rfl,hw⟩;obtain rfl:=hw.symm)
  |(go_at_call 268;refine(HDk.out _).mono ?_;rintro e w1 ⟨rfl,hw⟩;obtain rfl:=hw.symm))
 exact⟨⟨k+1,by omega,by go_num,HR.out,by trivial⟩,by simp[intOf];omega⟩):p:=h
theorem oH {p:Prop} (h:p:=by
 simp only[List.setIfInBounds_toArray,List.set_cons_succ,List.set_cons_zero]
 rfl):p:=h
theorem wg {p:Prop} (h:p:=by
 go_wp2_with fail
 go_region
 all_goals
  go_end0
  refine⟨⟨_,rfl⟩,?_,?_⟩
  ·repeat' first|with_reducible refine mS ?_ _ _|with_reducible refine mR ?_ |with_reducible exact mQ _ _
  ·have h:=HP.out
   clear HP
   unfold bB at h⊢
   rw[ej] at h
   try rw[mT]
   refine(cU (cU (cU (h) _ _) _ _) _ _).trans ?_
   exact oH):p:=h
theorem Cr {p:Prop} (h:p:=by
 obtain⟨⟨q0,q1,q2,q3,q4,q5,q6,q7,q8,q9,q10,q11,q12,q13⟩,z0,z1,z2,z3,z4,z5,z6,z7,z8,z9,z10,z11,z12,z13⟩:=jk HT10.out
 go_wp2_with fail
 refine jK (by rfl) (by rfl) (by rfl) (by rfl) HT10.out (fun W7 hk=> ?_)
 rw[show(K:Int)+j+2=((K+2+j:Nat):Int) by omega]
 exact gm.err (by rw[HRp.out,HE.out]) rfl (ke ((HB2.out).trans (HB10.out.mono hw2)) ((hk.below (bN (blk_lt HT10.out))).mono hrw))):p:=h
theorem BZ {p:Prop} (h:p:=by
 have HR:=aa (show aD cl 0 8=false by simp[aD];omega)
 go_wp2_with
  (go_at_call 52
   refine jJ ?_
   rintro e w2 ⟨rfl,hb2⟩
   have hm2:=ah HmW.out hb2
   obtain⟨b0,b1,b2,b3,b4,b5,b6,b7,b8,b9,b10,b11,b12,b13⟩:=dw hm2
   have HB2':=aa hb2
   refine gl fun HB2=> ?_
   clear hb2 hm2)
 go_ret
 exact⟨aV (by rw[HO.out,HR.out];simp),HB2.out⟩):p:=h
theorem we {p:Prop} (h:p:=by
 go_wp2_with fail
 go_region
 all_goals
  go_end0
  refine⟨⟨_,rfl⟩,?_,?_⟩
  ·repeat' first|with_reducible refine mS ?_ _ _|with_reducible refine mR ?_ |with_reducible exact mQ _ _
  ·have h:=HP.out
   clear HP
   unfold bB at h⊢
   rw[ej] at h
   try rw[mT]
   refine(cU (cU (h) _ _) _ _).trans ?_
   exact oH):p:=h
theorem pu {p:Prop} (h:p:=by
 exact⟨by repeat' first|with_reducible exact hB3|with_reducible refine aR ?_ (by dsimp only;omega) _|with_reducible refine ac ?_ _,rfl⟩):p:=h
theorem n8 {p:Prop} (h:p:=by
 refine eP ?_
 go_wp2_with fail
 exact⟨⟨k+1,by omega,by go_num,ag HB.out hS⟩,by simp[intOf];omega⟩):p:=h
theorem vK {p:Prop} (h:p:=by
 cases hs:bg s with
 |some u=>
  have e1:bi [s]=some [u]:=by simp[bi,hs]
  rw[e1] at hp
  exact⟨hp.1,hg,_,hp.2,by simp[fw],fun u' h=>by injection h with h;subst h;rfl⟩
 |none=>
  have e1:bi [s]=none:=by simp[bi,hs]
  rw[e1] at hp
  obtain⟨he,cs',h1,h2⟩:=hp
  exact⟨he,hg,cs',h1,h2,fun u' h=>by cases h⟩):p:=h
theorem vy {p:Prop} (h:p:=by
 injection he with e1 e2 e3
 subst e1
 have hl:l.length=n:=by simpa using e2.symm
 obtain⟨b,o,hA,hb,hc⟩:=h3 (fun e=>by have:l=[]:=by simpa using e
                                     subst this;simp at hl;omega)
 exact⟨b,o,hA,hb,fun j hj=>hc j _ (by rw[List.getElem?_map];simp[bd,aE,List.getElem?_eq_getElem (show j<l.length by omega)])⟩):p:=h
theorem Aq {p:Prop} (h:p:=by
 go_ret
 have h1:=Go.Lib.ownsRow_putRow (q:=q) (ys:=ss) HO.out HL.out (ae _)
 rw[List.take_of_length_le (by rw[HL.out];exact ae _)] at h1
 exact⟨_,rfl,cB h1 (Ao _ _),(Go.Lib.below_putRow HB.out hg1).trans ((Ao _ _).mono (by have:=HB.out.size;simp[Go.Sort.putRow,Go.Sort.mapBlock,Go.Sort.ahead];omega))⟩):p:=h
theorem ud {p:Prop} (h:p:=by
 rintro e w' ⟨h1,o,h2,h3⟩
 exact⟨h1,dz.addI hrb hB hO hrows hX h2 (by rw[g3];exact Ll (pQ h3 hB) (by rw[(lX _).length_eq,List.length_map])) g2 g1⟩):p:=h
theorem qa {p:Prop} (h:p:=by
 refine eP ?_
 go_wp2_with fail
 exact⟨⟨j+1,by omega,by go_num,HNx.out,au HBx.out⟩,by simp[intOf];omega⟩):p:=h
theorem ul {p:Prop} (h:p:=by
 have HR:=aa (show res=true from by rw[HPr.out];exact iV fun j hj=>HOk.out j (by omega))
 go_wp2_with fail
 go_ret
 exact⟨by rw[HR.out];rfl,HBw.out⟩):p:=h
theorem tB {p:Prop} (h:p:=by
 rw[List.not_all_eq_any_not,List.any_map]
 congr 1
 funext x
 have:decide ((x:Int)≤1048576)=decide (x≤1048576):=by rw[decide_eq_decide];omega
 simp[this]):p:=h
theorem Al {p:Prop} (h:p:=by
 rintro D ys W hD rfl ⟨⟨v,hv,hrow,_⟩,hB⟩ hK
 have hc:=hv.cell
 gi_wp2
 refine⟨by simp,.inl ⟨_,_,rfl,run_takeDeferred hK,?_⟩⟩
 exact⟨_,results_tmp rfl _ _ _,v,rfl,ownsRow_putObj hrow _ hK rfl,hB.trans (belowK_b (w:=w) (ae _) W D _ _ (by simp at hD;omega) hK rfl rfl)⟩):p:=h
theorem oA {p:Prop} (h:p:=by
 rcases Nat.lt_or_ge b w.heap.size with h|h
 ·exact h
 ·rw[Array.getElem?_eq_none h] at hblk;cases hblk):p:=h
theorem nW {p:Prop} (h:p:=by
 go_wp2_with fail
 go_ret
 exact⟨by rw[HE.out];rfl,ag HBxw.out (au HB8.out)⟩):p:=h
theorem vJ {p:Prop} (h:p:=by
 go_wp2_with fail
 go_ret
 have hkn:k=n:=by omega
 have hl:bi l=some vs:=by have:=HV.out;rwa [List.take_of_length_le (by rw[HLn.out];omega)] at this
 refine⟨HGr.out,?_⟩
 rw[hl]
 refine⟨rfl,?_⟩
 have:=HBk.out
 rwa [List.take_of_length_le (by rw[HLo.out];omega)] at this):p:=h
theorem Bt {p:Prop} (h:p:=by
 have HR:=aa (jI HPr.out hlt (by rw[HF.out];rfl))
 go_wp2_with first
  |(go_at_call 166
    refine fu ?_
    rintro e w4 ⟨rfl,hw⟩
    obtain rfl:=hw.symm
    first|rw[HE1.out]|rw[HE2.out])
 go_ret
 exact⟨by rw[HR.out];rfl,ag HBw.out HB2.out⟩):p:=h
theorem BS {p:Prop} (h:p:=by
 go_wp2_with fail
 go_quiet (fail)
 go_wp2_with fail
 exact⟨⟨k+1,by omega,by go_num,fun q hq=>by
  rcases Nat.lt_or_ge q k with h|h
  ·exact HOk.out q h
  ·have:q=k:=by omega
   subst this;exact HFk.out,jl HB.out _⟩,by simp[intOf];omega⟩):p:=h
theorem kz {p:Prop} (h:p:=by
 go_wp2_with fail
 go_ret
 exact⟨⟨_,rfl⟩,rfl⟩):p:=h
theorem vw {p:Prop} (h:p:=by
 subst hw
 refine⟨_,he,⟨_,_,by rw[List.length_map,hlen],by simp[hlen],by simp[maxLen];omega,fun _=>⟨w.heap.size,0,rfl,by simp,fun j u hj=> ?_⟩⟩,hlen,(Below.refl _ _).alloc (ae _) _⟩
 rw[World.cell?_alloc_new]
 simpa using hj):p:=h
theorem Bw {p:Prop} (h:p:=by
 go_wp2_with fail
 exact⟨⟨k+1,by omega,by go_num,fun q hq=>by
  rcases Nat.lt_or_ge q k with h|h
  ·exact HOk.out q h
  ·have:q=k:=by omega
   subst this;exact HFk.out,ag HB.out (ag HB2.out HBx.out)⟩,by simp[intOf];omega⟩):p:=h
theorem rG {p:Prop} (h:p:=by
 have hB':=ag HQ.out (ag (au (ac (B0 wr) _)) hb')
 go_wp2_with fail
 go_ret
 exact⟨by rw[gD hlt HP.out];try rfl,hB'⟩):p:=h
theorem jV {p:Prop} (h:p:=by
 go_wp2_with fail
 go_ret
 exact⟨rfl,rfl⟩):p:=h
theorem vU {p:Prop} (h:p:=by
 constructor
 ·rintro ⟨k,h1,h2⟩;exact⟨k,by omega,h2⟩
 ·rintro ⟨k,h1,h2,h3⟩
  refine⟨k,?_,h2,h3⟩
  rcases Nat.lt_or_ge pos k with h|h
  ·omega
  ·have:k=pos:=by omega
   subst this;rw[ho] at h3;cases h3):p:=h
theorem pG {p:Prop} (h:p:=by
 rw[e]
 go_enter func134,ntmps134
 go_wp2_with fail
 go_ret
 exact⟨rfl,B0 w⟩):p:=h
theorem pI {p:Prop} (h:p:=by
 go_wp2_with fail
 go_ret
 refine⟨iC ?_,B0 w⟩
 rw[Bool.eq_iff_iff];simp;try omega):p:=h
theorem vS {p:Prop} (h:p:=by
 split
 ·split
  ·simp;omega
  ·simp
 ·split
  ·split
   ·rename_i hc
    simp at hc⊢;omega
   ·simp
  ·split
   ·split
    ·rename_i hc
     simp at hc⊢;omega
    ·simp
   ·simp):p:=h
theorem Aj {p:Prop} (h:p:=by
 rintro e W' ⟨he,⟨ys,rfl,hj⟩|⟨bh,⟨k,hk,rfl⟩,hj⟩⟩
 ·exact⟨he,.inl ⟨_,J6 zs _,hj⟩⟩
 ·exact⟨he,.inr ⟨_,by rw[J7 zs _ hk];exact List.take_prefix _ _,hj⟩⟩):p:=h
theorem Bp {p:Prop} (h:p:=by
 clear h0 htk hx hcell
 go_wp2_with(go_at_call 38;refine(uW _ hIx _).mono ?_;rintro e w1 ⟨rfl,hb1⟩)
 exact⟨⟨k+1,by omega,by go_num,by rw[HS.out],ag HBk.out hb1⟩,by simp[intOf];omega⟩):p:=h
theorem Bv {p:Prop} (h:p:=by
 rw[List.any_eq_false]
 intro y hy
 obtain⟨q,hq⟩:=List.mem_iff_getElem?.1 hy
 rw[List.getElem?_take] at hq
 split at hq
 ·rename_i hqk
  rw[HNj.out q y (by omega) hq]
  exact Bool.false_ne_true
 ·cases hq):p:=h
theorem oF {p:Prop} (h:p:=by
 exact⟨fun h=>absurd h (by decide),fun⟨k,h1,h2,_⟩=>by omega⟩):p:=h
theorem xx {p:Prop} (h:p:=by
 have h1:=hall e he hb
 have h0:=(mem_ready.1 hr).1
 rw[heq] at h1
 rcases Nat.lt_or_ge i listed.size with h'|h'
 ·simp[h'] at h0 h1;rw[h0] at h1;cases h1
 ·simp[Array.getElem?_eq_none h'] at h1):p:=h
theorem yQ {p:Prop} (h:p:=by
 have:=Lib.run_convert_string_bytes (P:=prog) W 9 114 5 (s.extract 0 n) underlying9 underlying114 underlying5
 rw[this]
 rw[ByteArray.size_extract,Nat.min_eq_left hle,Nat.sub_zero]):p:=h
theorem xw {p:Prop} (h:p:=by
 refine⟨fun h=>(by rw[h] at hr;cases hr),fun j hj=> ?_⟩
 by_cases hji:j=i
 ·subst hji;exact hy.wpOp hi hS ⟨fun _=>hS,H⟩
 ·have:=ready_mono hj hji
  rw[H.1] at this
  cases this):p:=h
theorem Cq {p:Prop} (h:p:=by
 go_wp2_with fail
 exact⟨⟨j+1,acc,rows,av,by omega,by go_num,HGo.out.trans (by rw[HDr.out];exact NC HX.out),hacc,HKp.out,HSr.out,HRo.out,HOw.out⟩,by simp[intOf];omega⟩):p:=h
theorem qp {p:Prop} (h:p:=by
 simp only[cE,h];rw[Bool.eq_iff_iff];simp[and_assoc];try grind):p:=h
theorem oa {p:Prop} (h:p:=by
 go_wp2_with fail
 go_meet
 exact⟨by rw[HZ.out],rfl⟩):p:=h
theorem yP {p:Prop} (h:p:=by
 have hk':k<t.length:=by rw[HL.out];exact hk
 have:=HD0.out _ (List.getElem_mem hk')
 rw[List.getD_eq_getElem?_getD,List.getElem?_eq_getElem hk']
 unfold bD at this
 simpa using this):p:=h
theorem tC {p:Prop} (h:p:=by
 go_wp2_with fail
 all_goals go_ret
 all_goals exact⟨iC (by(try simp[]);(try omega)),HBa.out⟩):p:=h
theorem Ag {p:Prop} (h:p:=by
 refine⟨⟨k+1,t,by omega,by go_num,?_,HM7.out,HC7.out,HO7.out,HK7.out⟩,by simp[intOf];omega⟩
 rw[HEo.out HVd.out (by rw[HBd.out];rfl),if_pos (of_decide_eq_true HNm.out)]):p:=h
theorem vB {p:Prop} (h:p:=by
 refine⟨⟨_,l.length,by simp,by simp,by simp only[maxLen];omega,fun _=>⟨W.heap.size,0,rfl,by simp,fun j u hj=> ?_⟩⟩,hl⟩
 rw[World.cell?_alloc_new]
 simpa using hj):p:=h
theorem qM {p:Prop} (h:p:=by
 rcases hop with hop|hop<;>
 ·simp[execOp,hop,hm,hx,hv,hrun,Result.andThen]
  exact h4):p:=h
theorem ik {p:Prop} (h:p:=by
 go_ret
 exact⟨rfl,hb1⟩):p:=h
theorem rH {p:Prop} (h:p:=by
 go_wp2_with fail
 go_ret
 exact⟨by rw[iV (fun j hj=>HA.out j (by omega))];rfl,hB⟩):p:=h
theorem pq {p:Prop} (h:p:=by
 have:=ny (s.extract n s.size) F fG W hzn h
 rwa [hq] at this):p:=h
theorem uV {p:Prop} (h:p:=by
 rcases h.2 with ⟨hv',_⟩|⟨g',cap',_,hv',_,_,h1,h2,_⟩
 ·rw[hv] at hv';cases hv'
 ·rw[hv] at hv';injection hv' with _ _ h3;subst h3;exact⟨h1,h2⟩):p:=h
theorem xI {p:Prop} (h:p:=by
 obtain⟨b,o,cs,hA,hb,_,hR,hc⟩:=h.sk.at_ hx
 unfold R1 at hR
 subst hR
 have:=hc 0 _ rfl
 rw[Nat.mul_one,Nat.add_zero] at this
 exact⟨b,o,hA,hb,this⟩):p:=h
theorem qR {p:Prop} (h:p:=by
 go_ret
 exact⟨_,rfl,jt hu (by simp;omega),ag (ac (ac (B0 w) _) _) hb1⟩):p:=h
theorem wh {p:Prop} (h:p:=by
 unfold Oper.wp
 simp[execOp,ho,resolve,invoke,builtin,hs,hx,hrun,Result.andThen]
 exact h v w (by rw[List.append_nil];exact hown) (World.grownBy.refl w _)):p:=h
theorem yy {p:Prop} (h:p:=by
 have h:=fL (P:=prog) underlying261 underlying3 aO (hM.later (ac (B0 w2) o)) x.kind true (zeroValue259 _)
 rw[HF.out] at h
 exact h):p:=h
theorem yT {p:Prop} (h:p:=by
 rw[HT2.out]
 exact⟨by repeat' first|with_reducible exact hB6|with_reducible refine aR ?_ (by dsimp only;omega) _|with_reducible refine ac ?_ _,rfl⟩):p:=h
theorem nE {p:Prop} (h:p:=by
 have:=ny s F bD W hz h
 rwa [hn] at this):p:=h
theorem wW {p:Prop} (h:p:=by
 simp only[List.mem_cons,List.not_mem_nil,or_false] at hw
 rcases hw with rfl|rfl|rfl
 ·exact lit _ (by decide)
 ·exact hkey
 ·exact mW _):p:=h
theorem ru {p:Prop} (h:p:=by
 rw[Array.getD_eq_getD_getElem?,Array.getElem?_setIfInBounds]
 simp
 split<;>simp):p:=h
theorem qN {p:Prop} (h:p:=by
 unfold Oper.wp
 simp[execOp,hop,hm,hx,hrun,Result.andThen]
 exact hK' _ _ hK):p:=h
theorem yL {p:Prop} (h:p:=by
 exact⟨by repeat' first|with_reducible exact hB7|with_reducible refine aR ?_ (by dsimp only;omega) _|with_reducible refine ac ?_ _,rfl⟩):p:=h
theorem xy {p:Prop} (h:p:=by
 rw[Bool.and_eq_true,Bool.and_eq_true] at hk
 obtain⟨h1,h2,h3,hd⟩:=lC hk.1 hi
 exact lJ _ hi hd hk.2.1 h1 h2 h3 hk.2.2 hQ hy hS h):p:=h
theorem uD {p:Prop} (h:p:=by
 simp only[cE,mq,h];rw[Bool.eq_iff_iff];simp[and_assoc];try grind):p:=h
theorem vH {p:Prop} (h:p:=by
 rw[World.cell?_of_block (HGr.out.block bu hbw (by intro e;injection e with e;exact HBU.out e))]
 exact HU.out k (by rw[HLo.out];exact hlt)):p:=h
theorem yx {p:Prop} (h:p:=by
 have h:=fL (P:=prog) underlying261 underlying3 aO hM x.kind true (zeroValue259 _)
 rw[HF.out] at h
 exact h):p:=h
theorem vM {p:Prop} (h:p:=by
 rcases Nat.lt_or_ge w.heap.size wr.heap.size with h|h
 ·exact h
 ·have:=HBk.out;rw[Array.getElem?_eq_none h] at this;cases this):p:=h
theorem xu {p:Prop} (h:p:=by
 have:=List.all_eq_true.1 h j (List.mem_range.2 hj)
 have hd:decide (j<N)=false:=decide_eq_false (by omega)
 simpa[hd] using this):p:=h
theorem wX {p:Prop} (h:p:=by
 refine⟨?_,lw hv,aj.zero,by simp[aE],by show aj _;exact⟨by simp,by simp⟩⟩
 simp[e0',e1,h3,hv',dZ]):p:=h
theorem oV {p:Prop} (h:p:=by
 go_wp2_with fail
 go_ret
 exact⟨by rw[xA (fun j hj=>HA.out j (by omega))];rfl,hB⟩):p:=h
theorem rE {p:Prop} (h:p:=by
 go_wp2_with fail
 go_loopw [8] (fun i wr=> ∃k:Nat,k≤n∧i= .int .i64 k∧(∀j,j<k→P j=false)∧Below w.heap.size w wr) (fun i _=>n - (intOf i).toNat)
 case atStart=>exact⟨0,aY _,rfl,by omega,B0 w⟩
 case round=>
  obtain⟨k,hk,rfl,hall,hB⟩:=hrel
  have HA:=aa hall
  clear hall
  by_cases hlt:k<n
  ·refine mF fun hI1 hI2=> ?_
   obtain⟨x,hx⟩: ∃x,xs[k]? =some x:=⟨_,List.getElem?_eq_getElem (by rw[HL.out];exact hlt)⟩
   obtain⟨b,o,cs,rfl,hbb,hcl,hr,hcell⟩:=(H.out.to hR hB (ae _) hB.size).at_ hx
   have hcall:=HG.out k x cs wr hx hB hr hcl
   obtain⟨u0,u1,u2,rfl⟩:=E7 hcl
   refine j5 fun h0 h1 h2=> ?_
   simp only[Nat.add_zero] at h0
   exact oU
  ·exact oV):p:=h
theorem rB {p:Prop} (h:p:=by
 go_wp2_with fail
 go_loopw [8] (fun i wr=> ∃k:Nat,k≤n∧i= .int .i64 k∧(∀j,j<k→P j=false)∧Below w.heap.size w wr) (fun i _=>n - (intOf i).toNat)
 case atStart=>exact⟨0,aY _,rfl,by omega,B0 w⟩
 case round=>
  obtain⟨k,hk,rfl,hall,hB⟩:=hrel
  have HA:=aa hall
  clear hall
  by_cases hlt:k<n
  ·refine mF fun hI1 hI2=> ?_
   obtain⟨x,hx⟩: ∃x,xs[k]? =some x:=⟨_,List.getElem?_eq_getElem (by rw[HL.out];exact hlt)⟩
   obtain⟨b,o,cs,rfl,hbb,hcl,hr,hcell⟩:=(H.out.to hR hB (ae _) hB.size).at_ hx
   have hcall:=HG.out k x cs wr hx hB hr hcl
   obtain⟨u0,rfl⟩:=E8 hcl
   have h0:=hcell 0 _ rfl
   simp only[Nat.mul_one,Nat.add_zero] at h0
   exact oU
  ·exact oV):p:=h
theorem xC {p:Prop} (h:p:=by
 go_wp2_with fail
 go_loopw [8] (fun i wr=> ∃k:Nat,k≤n∧i= .int .i64 k∧(∀j,j<k→P j=false)∧Below w.heap.size w wr) (fun i _=>n - (intOf i).toNat)
 case atStart=>exact⟨0,aY _,rfl,by omega,B0 w⟩
 case round=>
  obtain⟨k,hk,rfl,hall,hB⟩:=hrel
  have HA:=aa hall
  clear hall
  by_cases hlt:k<n
  ·refine mF fun hI1 hI2=> ?_
   obtain⟨x,hx⟩: ∃x,xs[k]? =some x:=⟨_,List.getElem?_eq_getElem (by rw[HL.out];exact hlt)⟩
   obtain⟨b,o,cs,rfl,hbb,hcl,hr,hcell⟩:=(H.out.to hR hB (ae _) hB.size).at_ hx
   have hcall:=HG.out k x cs wr hx hB hr hcl
   obtain⟨u0,u1,u2,u3,u4,u5,u6,rfl⟩:=E9 hcl
   refine j5 fun h0 h1 h2=> ?_
   have h3:=hcell 3 _ rfl
   have h4:=hcell 4 _ rfl
   have h5:=hcell 5 _ rfl
   have h6:=hcell 6 _ rfl
   simp only[Nat.add_zero] at h0
   exact oU
  ·exact oV):p:=h
theorem zc {p:Prop} (h:p:=by
 simp only[ptr]
 go_enter func128,ntmps128
 go_wp2_with(go_at_call 40;refine(HN.out _ (HP.out.later (ac (B0 w) _))).mono ?_
             rintro e w1 ⟨rfl,hb1⟩
             have hbp:=ah (ah H1.out (ac (B0 w) _)) hb1
             refine kG fun p1 hpw1=> ?_
             have HBR:=aa (ah (aN w _) hb1)
             have HB1:=aa (ag (ac (B0 w) _) hb1)
             clear hbp hb1)
 exact zb):p:=h
theorem vY {p:Prop} (h:p:=by
 go_wp2_with fail
 all_goals
  go_end0
  refine⟨⟨_,rfl⟩,?_,?_⟩
  ·repeat' first|with_reducible refine mS ?_ _ _|with_reducible refine mR ?_ |with_reducible exact mQ _ _
  ·have h:=HP.out
   clear HP
   unfold bB at h⊢
   rw[ej] at h
   try rw[mT]
   refine(cU (h) _ _).trans ?_
   exact oH):p:=h
theorem B3 {p:Prop} (h:p:=by
 refine cj 29 78 ?_
 refine cj 30 79 ?_
 refine cj 31 80 ?_
 refine cP 28 fun K hK=> ?_
 go_simp
 refine(HDo.out _ (ag HBw.out hS)).mono ?_
 rintro e w4 ⟨rfl,hb4⟩
 try go_simp
 refine hK.out _ _ (ag hS hb4) fun hS=> ?_
 clear hK
 refine ak ?_
 iterate 2 refine gP 34 49 ?_
 exact mr):p:=h
theorem B4 {p:Prop} (h:p:=by
 refine cj 29 78 ?_
 refine cj 30 79 ?_
 refine cj 31 80 ?_
 refine cP 28 fun K hK=> ?_
 go_simp
 refine(HDo.out _ (ag HBw.out hS)).mono ?_
 rintro e w4 ⟨rfl,hb4⟩
 try go_simp
 refine hK.out _ _ (ag hS hb4) fun hS=> ?_
 clear hK
 refine ak ?_
 iterate 2 refine gP 34 49 ?_
 exact uF):p:=h
theorem BR {p:Prop} (h:p:=by
 have hF:F k=false:=by
  rw[HF.out];unfold dY
  rw[HSt.out,q4];simp
 have q5:(z.site==m.dark)=true:=by rw[q4];simp
 clear q1 q2 q4 k0
 exact qn):p:=h
theorem BU {p:Prop} (h:p:=by
 have HR:=aa (show r=false by rw[HSc.out];have:aD cl 0 8=false:=by simp[aD];omega
                              rw[this];rfl)
 exact uC):p:=h
end Go.Proofs.YthnkonlbfogkgaaGreatDoor
