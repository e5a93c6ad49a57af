/- A part of the proof. -/
import Derived.Test.YthnkonlbfogkgaaGreatDoorQbf
set_option linter.unusedVariables false
set_option linter.unusedSimpArgs false
set_option maxRecDepth 100000
set_option maxHeartbeats 32000000
namespace Go.Proofs.YthnkonlbfogkgaaGreatDoor
section
open Go Go.RowKit Go.MapKept Go.ChangeMaps Tryz
structure dy where
 word:List UInt8
 kind:Int
 gu:Nat
 gf:Nat
 caps:Array Value
 gr:Nat
 gt:Nat
def dy.val (x:dy):Value:=iX (bs x.word) x.kind (az x.gu #[]) (az x.gf x.caps) (az x.gr #[]) (az x.gt #[])
def dy.kv (x:dy):Value×Value:=(.string (bs x.word),x.val)
def items (b:Nat→Nat):List dy:=[
 ⟨bp 0,0,190,191,#[ptr (b 0)],192,193⟩,
 ⟨bp 1,1,190,191,#[ptr (b 1)],192,193⟩,
 ⟨bp 2,2,190,191,#[ptr (b 2)],192,193⟩,
 ⟨bp 3,3,190,191,#[ptr (b 3)],192,193⟩,
 ⟨bp 6,6,190,191,#[ptr (b 4)],192,193⟩,
 ⟨bp 13,13,190,191,#[ptr (b 5)],192,193⟩,
 ⟨bp 4,4,194,195,#[],196,197⟩,
 ⟨bp 16,16,194,195,#[],196,197⟩,
 ⟨bp 8,8,190,191,#[ptr (b 6)],192,193⟩,
 ⟨bp 9,9,190,191,#[ptr (b 7)],192,193⟩,
 ⟨bp 11,11,190,191,#[ptr (b 8)],192,193⟩,
 ⟨bp 17,17,190,191,#[ptr (b 9)],192,193⟩,
 ⟨bp 5,5,86,87,#[],90,91⟩,
 ⟨bp 7,7,92,93,#[],94,95⟩,
 ⟨bp 10,10,96,97,#[],100,102⟩,
 ⟨bp 12,12,104,105,#[],106,108⟩,
 ⟨bp 14,14,110,111,#[],112,113⟩,
 ⟨bp 15,15,114,115,#[],116,117⟩]
def iz:List Nat:=[0,1,2,3,6,13,4,16,8,9,11,17,5,7,10,12,14,15]
theorem xT (b:Nat→Nat):(items b).map (·.word)=iz.map bp:=rfl
theorem Ga:(iz.map bp).Nodup:=by decide
def nk (w:World) (r j:Nat) (x:dy):Prop:=
 w.cell? ⟨r,j*6,none⟩=some (.string (bs x.word))∧w.cell? ⟨r,j*6+1,none⟩=some (.int .i64 x.kind)∧w.cell? ⟨r,j*6+2,none⟩=some (az x.gu #[])∧w.cell? ⟨r,j*6+3,none⟩=some (az x.gf x.caps)∧w.cell? ⟨r,j*6+4,none⟩=some (az x.gr #[])∧w.cell? ⟨r,j*6+5,none⟩=some (az x.gt #[])
def Gb:Nat→Nat
 |0=>83
 |1=>83
 |2=>83
 |3=>80
 |4=>80
 |5=>80
 |6=>79
 |7=>79
 |8=>81
 |9=>85
 |_=>0
def fl (w:World) (b:Nat→Nat):Prop:= ∀i,i<10→b i<w.heap.size∧w.cell? ⟨b i,0,none⟩=some (az (Gb i) #[])
def Gc (w:World) (e:Ending) (w':World):Prop:=
 ∃M b,e= .returned (.map (some M))∧bG w' M ((items b).map dy.kv)∧fl w' b∧(∀i,i<10→w.heap.size<b i)∧w.heap.size≤M∧Below w.heap.size w w'
theorem rP {P:Program} {c:Code} {Q:Exit→Act→World→Prop} {a:Act} {W:World} (F:World→Prop) (hF:F W) (h: ∀W0,F W0→Code.wp P c Q a W0):Code.wp P c Q a W:=h W hF
structure xU (w:World) (b:Nat→Nat) (r:Nat) (W:World):Prop where
 below:Below w.heap.size w W
 map:bG W w.heap.size []
 rows: ∀(j:Nat) x,(items b)[j]? =some x→nk W r j x
 boxes:fl W b
 ne: ¬r=w.heap.size
 lt:r<W.heap.size
 fresh: ∀i,i<10→w.heap.size<b i
theorem pe (b:Nat→Nat):(items b).length=18:=rfl
theorem Gd {b:Nat→Nat} {k:Nat} {x:dy} (hx:(items b)[k]? =some x): ∀p∈((items b).take k).map dy.kv,IsKey .string p.1∧p.1≠ .string (bs x.word):=by
 intro p hp
 obtain⟨y,hy,rfl⟩:=List.mem_map.1 hp
 refine⟨trivial,fun e=> ?_⟩
 have e':bs y.word=bs x.word:=by injection e
 have e2:y.word=x.word:=by rw[←bL y.word,e',bL]
 obtain⟨j,hj⟩:=List.mem_iff_getElem?.1 hy
 rw[List.getElem?_take] at hj
 split at hj
 ·rename_i hjk
  have h1:((items b).map (·.word))[j]? =some x.word:=by rw[List.getElem?_map,hj,←e2];rfl
  have h2:((items b).map (·.word))[k]? =some x.word:=by rw[List.getElem?_map,hx];rfl
  rw[xT] at h1 h2
  have:=(List.getElem?_inj (List.getElem?_eq_some_iff.1 h1).1 Ga).1 (h1.trans h2.symm)
  omega
 ·cases hj
theorem nk.keep {w w':World} {r j:Nat} {x:dy} (h:nk w r j x) (hk: ∀o,w'.cell? ⟨r,o,none⟩=w.cell? ⟨r,o,none⟩):nk w' r j x:=by
 unfold nk at h⊢
 simp only[hk]
 exact h
def ks (M:Nat) (W0 w:World):Prop:=W0.heap.size≤w.heap.size∧∀b o,b≠M→b<W0.heap.size→w.cell? ⟨b,o,none⟩=W0.cell? ⟨b,o,none⟩
theorem ks.refl (M:Nat) (W:World):ks M W W:=⟨ae _,fun _ _ _ _=>rfl⟩
theorem ks.put {M:Nat} {W0 w w':World} {o:Obj} (h:ks M W0 w) (hT:cM (w.alloc o) w' M):ks M W0 w':=
 ⟨by rw[hT.2.1];exact aP h.1 (by simp),fun b o' hb hlt=>(hT.cell hb).trans ((World.cell?_alloc_lt w _ _ (aF hlt h.1)).trans (h.2 b o' hb hlt))⟩
theorem xV (w:World):
 Calls prog 34 #[] w (Gc w):=by
 have S:=fun word k g w=>F9 word k g w
 have S0:=fun word k w=>F8 word k w
 simp only[iX,az,ptr] at S S0
 have HS:=aa S;have HS0:=aa S0
 clear S S0
 refine fU fun hmm=> ?_
 go_enter func34,ntmps34
 go_wp2_with fail
 refine(HS.out {data:= #[100,101,108,105,118,101,114]} 0 83 _).mono ?_
 rintro e w0 ⟨rfl,hb0,hx0,hl0⟩
 have hB0:=ag (ac (B0 w) _) hb0
 go_wp2_with fail
 refine(HS.out {data:= #[100,114,111,112]} 1 83 _).mono ?_
 rintro e w1 ⟨rfl,hb1,hx1,hl1⟩
 have hB1:=ag hB0 hb1
 go_wp2_with fail
 refine(HS.out {data:= #[100,111,117,98,108,101]} 2 83 _).mono ?_
 rintro e w2 ⟨rfl,hb2,hx2,hl2⟩
 have hB2:=ag hB1 hb2
 go_wp2_with fail
 refine(HS.out {data:= #[116,105,99,107]} 3 80 _).mono ?_
 rintro e w3 ⟨rfl,hb3,hx3,hl3⟩
 have hB3:=ag hB2 hb3
 go_wp2_with fail
 refine(HS.out {data:= #[114,101,115,116,97,114,116]} 6 80 _).mono ?_
 rintro e w4 ⟨rfl,hb4,hx4,hl4⟩
 have hB4:=ag hB3 hb4
 go_wp2_with fail
 refine(HS.out {data:= #[99,111,109,112,97,99,116]} 13 80 _).mono ?_
 rintro e w5 ⟨rfl,hb5,hx5,hl5⟩
 have hB5:=ag hB4 hb5
 go_wp2_with fail
 refine(HS0.out {data:= #[115,108,111,116]} 4 _).mono ?_
 rintro e w6 ⟨rfl,hb6⟩
 have hB6:=ag hB5 hb6
 go_wp2_with fail
 refine(HS0.out {data:= #[100,97,114,107]} 16 _).mono ?_
 rintro e w7 ⟨rfl,hb7⟩
 have hB7:=ag hB6 hb7
 go_wp2_with fail
 refine(HS.out {data:= #[105,115,111,108,97,116,101]} 8 79 _).mono ?_
 rintro e w8 ⟨rfl,hb8,hx8,hl8⟩
 have hB8:=ag hB7 hb8
 go_wp2_with fail
 refine(HS.out {data:= #[106,111,105,110]} 9 79 _).mono ?_
 rintro e w9 ⟨rfl,hb9,hx9,hl9⟩
 have hB9:=ag hB8 hb9
 go_wp2_with fail
 refine(HS.out {data:= #[114,101,116,114,121]} 11 81 _).mono ?_
 rintro e w10 ⟨rfl,hb10,hx10,hl10⟩
 have hB10:=ag hB9 hb10
 go_wp2_with fail
 refine(HS.out {data:= #[99,97,108,109]} 17 85 _).mono ?_
 rintro e w11 ⟨rfl,hb11,hx11,hl11⟩
 have hB11:=ag hB10 hb11
 go_wp2_with fail
 rw[show(w.alloc (Obj.map #[] 0)).heap.size=w.heap.size+1 by simp] at hx0 hl0
 have hz0:w.heap.size<w0.heap.size:=by omega
 have hz1:w.heap.size<w1.heap.size:=aF hz0 hb1.size
 have hz2:w.heap.size<w2.heap.size:=aF hz1 hb2.size
 have hz3:w.heap.size<w3.heap.size:=aF hz2 hb3.size
 have hz4:w.heap.size<w4.heap.size:=aF hz3 hb4.size
 have hz5:w.heap.size<w5.heap.size:=aF hz4 hb5.size
 have hz6:w.heap.size<w6.heap.size:=aF hz5 hb6.size
 have hz7:w.heap.size<w7.heap.size:=aF hz6 hb7.size
 have hz8:w.heap.size<w8.heap.size:=aF hz7 hb8.size
 have hz9:w.heap.size<w9.heap.size:=aF hz8 hb9.size
 have hz10:w.heap.size<w10.heap.size:=aF hz9 hb10.size
 have hz11:w.heap.size<w11.heap.size:=aF hz10 hb11.size
 have hT10:=hb11
 have hT9:=ag hb10 hT10
 have hT8:=ag hb9 hT9
 have hT7:=ag hb8 hT8
 have hT6:=ag hb7 hT7
 have hT5:=ag hb6 hT6
 have hT4:=ag hb5 hT5
 have hT3:=ag hb4 hT4
 have hT2:=ag hb3 hT3
 have hT1:=ag hb2 hT2
 have hT0:=ag hb1 hT1
 refine rP (xU w (fun i=>match i with|0=>w.heap.size+1|1=>w0.heap.size|2=>w1.heap.size|3=>w2.heap.size|4=>w3.heap.size|5=>w4.heap.size|6=>w7.heap.size|7=>w8.heap.size|8=>w9.heap.size|9=>w10.heap.size|_=>w.heap.size+1) w11.heap.size) ?_ ?_
 ·refine⟨ac hB11 _,?_,?_,?_,by omega,by simp,?_⟩
  ·exact((bG.made w).later (ag hb0 hT0)).later (ac (B0 w11) _)
  ·intro j x hj
   match j,hj with
   |0,hj=>injection hj with hj;subst hj;refine⟨?_,?_,?_,?_,?_,?_⟩<;>(rw[World.cell?_alloc_new];rfl)
   |1,hj=>injection hj with hj;subst hj;refine⟨?_,?_,?_,?_,?_,?_⟩<;>(rw[World.cell?_alloc_new];rfl)
   |2,hj=>injection hj with hj;subst hj;refine⟨?_,?_,?_,?_,?_,?_⟩<;>(rw[World.cell?_alloc_new];rfl)
   |3,hj=>injection hj with hj;subst hj;refine⟨?_,?_,?_,?_,?_,?_⟩<;>(rw[World.cell?_alloc_new];rfl)
   |4,hj=>injection hj with hj;subst hj;refine⟨?_,?_,?_,?_,?_,?_⟩<;>(rw[World.cell?_alloc_new];rfl)
   |5,hj=>injection hj with hj;subst hj;refine⟨?_,?_,?_,?_,?_,?_⟩<;>(rw[World.cell?_alloc_new];rfl)
   |6,hj=>injection hj with hj;subst hj;refine⟨?_,?_,?_,?_,?_,?_⟩<;>(rw[World.cell?_alloc_new];rfl)
   |7,hj=>injection hj with hj;subst hj;refine⟨?_,?_,?_,?_,?_,?_⟩<;>(rw[World.cell?_alloc_new];rfl)
   |8,hj=>injection hj with hj;subst hj;refine⟨?_,?_,?_,?_,?_,?_⟩<;>(rw[World.cell?_alloc_new];rfl)
   |9,hj=>injection hj with hj;subst hj;refine⟨?_,?_,?_,?_,?_,?_⟩<;>(rw[World.cell?_alloc_new];rfl)
   |10,hj=>injection hj with hj;subst hj;refine⟨?_,?_,?_,?_,?_,?_⟩<;>(rw[World.cell?_alloc_new];rfl)
   |11,hj=>injection hj with hj;subst hj;refine⟨?_,?_,?_,?_,?_,?_⟩<;>(rw[World.cell?_alloc_new];rfl)
   |12,hj=>injection hj with hj;subst hj;refine⟨?_,?_,?_,?_,?_,?_⟩<;>(rw[World.cell?_alloc_new];rfl)
   |13,hj=>injection hj with hj;subst hj;refine⟨?_,?_,?_,?_,?_,?_⟩<;>(rw[World.cell?_alloc_new];rfl)
   |14,hj=>injection hj with hj;subst hj;refine⟨?_,?_,?_,?_,?_,?_⟩<;>(rw[World.cell?_alloc_new];rfl)
   |15,hj=>injection hj with hj;subst hj;refine⟨?_,?_,?_,?_,?_,?_⟩<;>(rw[World.cell?_alloc_new];rfl)
   |16,hj=>injection hj with hj;subst hj;refine⟨?_,?_,?_,?_,?_,?_⟩<;>(rw[World.cell?_alloc_new];rfl)
   |17,hj=>injection hj with hj;subst hj;refine⟨?_,?_,?_,?_,?_,?_⟩<;>(rw[World.cell?_alloc_new];rfl)
   |j+18,hj=>simp[items] at hj
  ·intro i hi
   match i,hi with
   |0,_=>exact⟨aF (aF hl0 hT0.size) (by simp),(World.cell?_alloc_lt w11 _ _ (aF hl0 hT0.size)).trans ((hT0.cell hl0).trans hx0)⟩
   |1,_=>exact⟨aF (aF hl1 hT1.size) (by simp),(World.cell?_alloc_lt w11 _ _ (aF hl1 hT1.size)).trans ((hT1.cell hl1).trans hx1)⟩
   |2,_=>exact⟨aF (aF hl2 hT2.size) (by simp),(World.cell?_alloc_lt w11 _ _ (aF hl2 hT2.size)).trans ((hT2.cell hl2).trans hx2)⟩
   |3,_=>exact⟨aF (aF hl3 hT3.size) (by simp),(World.cell?_alloc_lt w11 _ _ (aF hl3 hT3.size)).trans ((hT3.cell hl3).trans hx3)⟩
   |4,_=>exact⟨aF (aF hl4 hT4.size) (by simp),(World.cell?_alloc_lt w11 _ _ (aF hl4 hT4.size)).trans ((hT4.cell hl4).trans hx4)⟩
   |5,_=>exact⟨aF (aF hl5 hT5.size) (by simp),(World.cell?_alloc_lt w11 _ _ (aF hl5 hT5.size)).trans ((hT5.cell hl5).trans hx5)⟩
   |6,_=>exact⟨aF (aF hl8 hT8.size) (by simp),(World.cell?_alloc_lt w11 _ _ (aF hl8 hT8.size)).trans ((hT8.cell hl8).trans hx8)⟩
   |7,_=>exact⟨aF (aF hl9 hT9.size) (by simp),(World.cell?_alloc_lt w11 _ _ (aF hl9 hT9.size)).trans ((hT9.cell hl9).trans hx9)⟩
   |8,_=>exact⟨aF (aF hl10 hT10.size) (by simp),(World.cell?_alloc_lt w11 _ _ (aF hl10 hT10.size)).trans ((hT10.cell hl10).trans hx10)⟩
   |9,_=>exact⟨aF hl11 (by simp),(World.cell?_alloc_lt w11 _ _ hl11).trans hx11⟩
  ·intro i hi
   match i,hi with
   |0,_=>exact(Nat.lt_succ_self _)
   |1,_=>exact hz0
   |2,_=>exact hz1
   |3,_=>exact hz2
   |4,_=>exact hz3
   |5,_=>exact hz4
   |6,_=>exact hz7
   |7,_=>exact hz8
   |8,_=>exact hz9
   |9,_=>exact hz10
 intro W0 hW0
 clear hmm
 clear hx0 hl0 hx1 hl1 hx2 hl2 hx3 hl3 hx4 hl4 hx5 hl5 hx8 hl8 hx9 hl9 hx10 hl10 hx11 hl11 hb0 hB0 hb1 hB1 hb2 hB2 hb3 hB3 hb4 hB4 hb5 hB5 hb6 hB6 hb7 hB7 hb8 hB8 hb9 hB9 hb10 hB10 hb11 hB11 hT0 hT1 hT2 hT3 hT4 hT5 hT6 hT7 hT8 hT9 hT10 hz0 hz1 hz2 hz3 hz4 hz5 hz6 hz7 hz8 hz9 hz10 hz11
 suffices h: ∀(b:Nat→Nat) (r:Nat) (_:xU w b r W0) (v1 v5 v6 v7 v8 v9 v10 v11 v12 v13 v14 v15 v16 v17 v18 v19 v20 v21 v22 v23 v24 v25:Value),Code.wp _ _ _ (Act.mk (List.toArray ((.map none)::v1::(.map (some w.heap.size))::undef::undef::v5::v6::v7::v8::v9::v10::v11::v12::v13::v14::v15::v16::v17::v18::v19::v20::v21::v22::v23::v24::v25::(.slice (some ⟨r,0,none⟩) 18 18)::(.int .i64 18)::(.int .i64 0)::undef::undef::undef::undef::undef::undef::undef::undef::undef::[])) []) W0 from h _ _ hW0 _ _ _ _ _ _ _ _ _ _ _ _ _ _ _ _ _ _ _ _ _ _
 clear hW0
 intro b r hW v1 v5 v6 v7 v8 v9 v10 v11 v12 v13 v14 v15 v16 v17 v18 v19 v20 v21 v22 v23 v24 v25
 have H:=aa hW
 clear hW HS HS0
 go_loopw [28] (fun i wr=> ∃k:Nat,k≤18∧i= .int .i64 k∧bG wr w.heap.size (((items b).take k).map dy.kv)∧Below w.heap.size w wr∧ks w.heap.size W0 wr) (fun i _=>18 - (intOf i).toNat)
 case atStart=>exact⟨0,aY _,rfl,H.out.map,H.out.below,ks.refl _ _⟩
 case round=>
  obtain⟨k,hk,rfl,hmap,hb,hkept⟩:=hrel
  have HM:=aa hmap;have HK:=aa hkept
  clear hmap hkept
  by_cases hlt:k<18
  ·obtain⟨x,hx⟩: ∃x,(items b)[k]? =some x:=⟨_,List.getElem?_eq_getElem (by rw[pe];exact hlt)⟩
   have HX:=aa hx
   have hrow:=(H.out.rows k x hx).keep fun o=>HK.out.2 r o H.out.ne H.out.lt
   have hnew:=aa (Gd hx)
   obtain⟨c0,c1,c2,c3,c4,c5⟩:=hrow
   unfold az at c2 c3 c4 c5
   have i1:(0:Int)≤(k:Int):=by omega
   have i2:(k:Int)<18:=by omega
   refine oC fun i3=> ?_
   clear hx
   go_wp2_with(first
    |(refine gS _ rfl (.tmp 32) (.tmp 34) (.tmp 35) 76 (.inl rfl) 9 74 _ underlying76 underlying9 w.heap.size _ rfl (HM.out.later (ac (B0 _) _)) (.string (bs x.word)) x.val rfl rfl gB hnew.out ?_
      intro w' hL hT))
   refine⟨⟨k+1,by omega,by go_num,?_,hT.1 w.heap.size w (ac hb _) (ae _),HK.out.put hT⟩,by simp[intOf];omega⟩
   rw[List.take_add_one,HX.out,List.map_append]
   exact hL
  ·go_wp2_with fail
   go_ret
   obtain rfl:k=18:=by omega
   refine⟨w.heap.size,b,rfl,?_,?_,H.out.fresh,ae _,hb⟩
   ·have h:=HM.out
    rwa [List.take_of_length_le (by rw[pe];exact ae _)] at h
   ·intro i hi
    obtain⟨h1,h2⟩:=H.out.boxes i hi
    exact⟨aF h1 HK.out.1,(HK.out.2 _ _ (Nat.ne_of_gt (H.out.fresh i hi)) h1).trans h2⟩
theorem Ge {W w:World} {b:Nat} (h:W.grownBy w (some b)) (q:Nat):W.grownBy (w.drewN q) (some b):=⟨h.os,h.tape,h.output,h.size,h.block⟩
section
variable {P:Program} {ops:Array Oper} {Q:Exit→Act→World→Prop} {md:Region.Mode}
end
theorem Gf (k:Int) (v:Value) (l:List ByteArray) (W:World) (pa:Nat) (h:aL W pa v l) (h3:l.length≠3):
 Calls prog 106 #[ptr pa,v] W (dC W pa (fW k l)):=by
 have hr:fW k l=none:=by unfold fW;rw[if_neg h3]
 rw[hr]
 obtain⟨A,n,c,rfl,hl,hc,hm⟩:=h.form
 have g3:((n:Int)==3)=false:=by simp;omega
 have g4:decide ((n:Int)=3)=false:=by simp;omega
 clear h hr
 simp only[ptr]
 go_enter func106,ntmps106
 go_wp2_with fail
 go_quiet (fail)
 all_goals go_wp2_with fail
 all_goals
  go_ret
  exact⟨Ge (World.grownBy.refl _ _) _,rfl,fun y hy=>by cases hy⟩
theorem Gg (k:Int) (v:Value) (l:List ByteArray) (W:World) (pa:Nat) (hG:aT W) (hb:bB W pa (aK k) aG aG) (h8:8≤pa) (h:aL W pa v l) (hsz: ∀s∈l,s.size≤1000000) (h3:l.length=3) (hq:bW (l.take 2) 2=none):
 Calls prog 106 #[ptr pa,v] W (dC W pa (fW k l)):=by
 have hlt:=hb.lt
 have hr:fW k l=none:=by unfold fW;rw[if_pos h3,hq];rfl
 rw[hr]
 obtain⟨A,n,c,rfl,hl,hc,hm⟩:=h.form
 obtain rfl:n=3:=by omega
 obtain⟨bl,ol,rfl,hbl,hcell⟩:=h.at_ 0 (by omega)
 have hcell2:=hcell 2 (by omega)
 have HB:=aa hb;have HC2:=aa hcell2
 refine xW fun HT HS HZ HQ HLen hG0 hbw0 hne hne2 i2 n2=> ?_
 clear hG hb h hsz hcell hcell2 hq hr
 simp only[ptr]
 go_enter func106,ntmps106
 go_wp2_with fail
 refine bA 26 ?_
 iterate 12 refine gA 26 5 ?_
 refine cA 12 fun K hK=> ?_
 go_simp
 refine hK _ _ ?_
 clear hK K
 refine ak ?_
 refine cA 13 fun K hK=> ?_
 go_simp
 refine(kj _ (l.take 2) [1,2] 2 W.heap.size _ pa 45 _ _ hG0 pa rfl (Sl.below HT.out hbw0) (ae _) (by simp;omega) HS.out HLen.out (fun j hj=>by
  match j,hj with
  |0,_=>go_simp;try rfl
  |1,_=>go_simp;try rfl) hne2 (by simp) h8 (((au (ac (B0 W) _)).block _ hlt).trans HB.out) (fun j hj=>by
  match j,hj with
  |0,_=>show _<10;decide
  |1,_=>show _<10;decide)).mono ?_
 rintro e w1 hp
 have he:=hp.ret
 rw[show bW (l.take 2) [1,2].length=_ from HQ.out] at he
 subst he
 have hp2:=hp.2
 rw[show bW (l.take 2) [1,2].length=_ from HQ.out] at hp2
 go_simp
 refine hK _ _ ?_
 clear hK K
 refine ak ?_
 iterate 2 refine gA 26 5 ?_
 iterate 8 refine kA 26 5 ?_
 refine dG 24 29 ?_
 refine dG 25 4 ?_
 refine eA ?_
 go_wp2_with fail
 go_ret
 exact⟨iR (au (ac (B0 W) _)) hp.1,rfl,fun y hy=>by cases hy⟩
theorem Gh (k:Int) (v:Value) (l:List ByteArray) (W:World) (pa:Nat) (hG:aT W) (hb:bB W pa (aK k) aG aG) (h8:8≤pa) (h:aL W pa v l) (hsz: ∀s∈l,s.size≤1000000) (h3:l.length=3) (vs:List Int) (hq:bW (l.take 2) 2=some vs):
 Calls prog 106 #[ptr pa,v] W (dC W pa (fW k l)):=by
 have hlt:=hb.lt
 have hr:fW k l=(bg (aE l 2)).map fun u=>{aK k with a:=bd vs 0,b:=bd vs 1,val:=u}:=by unfold fW;rw[if_pos h3,hq];rfl
 rw[hr]
 obtain⟨A,n,c,rfl,hl,hc,hm⟩:=h.form
 obtain rfl:n=3:=by omega
 obtain⟨bl,ol,rfl,hbl,hcell⟩:=h.at_ 0 (by omega)
 have hcell2:=hcell 2 (by omega)
 have HB:=aa hb;have HC2:=aa hcell2
 refine xW fun HT HS HZ HQ HLen hG0 hbw0 hne hne2 i2 n2=> ?_
 clear hG hb h hsz hcell hcell2 hq hr
 simp only[ptr]
 go_enter func106,ntmps106
 go_wp2_with fail
 refine bA 26 ?_
 iterate 12 refine gA 26 5 ?_
 refine cA 12 fun K hK=> ?_
 go_simp
 refine hK _ _ ?_
 clear hK K
 refine ak ?_
 refine cA 13 fun K hK=> ?_
 go_simp
 refine(kj _ (l.take 2) [1,2] 2 W.heap.size _ pa 45 _ _ hG0 pa rfl (Sl.below HT.out hbw0) (ae _) (by simp;omega) HS.out HLen.out (fun j hj=>by
  match j,hj with
  |0,_=>go_simp;try rfl
  |1,_=>go_simp;try rfl) hne2 (by simp) h8 (((au (ac (B0 W) _)).block _ hlt).trans HB.out) (fun j hj=>by
  match j,hj with
  |0,_=>show _<10;decide
  |1,_=>show _<10;decide)).mono ?_
 rintro e w1 hp
 have he:=hp.ret
 rw[show bW (l.take 2) [1,2].length=_ from HQ.out] at he
 subst he
 have hp2:=hp.2
 rw[show bW (l.take 2) [1,2].length=_ from HQ.out] at hp2
 have hbk1:=hp2.2
 have e2:w1.cell? ⟨bl,ol+2,none⟩=some (.string (aE l 2)):=(World.grownBy.cell_far hp.1 ⟨bl,ol+2,none⟩ (by simp;omega) (fun e=>absurd (show bl=pa by injection e) (by omega))).trans ((hbw0.cell (p:=⟨bl,ol+2,none⟩) hbl).trans HC2.out)
 go_simp
 refine hK _ _ ?_
 clear hK K
 refine ak ?_
 iterate 4 refine gA 26 5 ?_
 iterate 4 refine gA 27 5 ?_
 refine cA 18 fun K hK=> ?_
 go_simp
 refine hK _ _ ?_
 clear hK K
 refine ak ?_
 refine cA 23 fun K hK=> ?_
 go_simp
 refine(oB (aE l 2) pa 6 45 _ w1 (hG0.grown hp.1 h8) HZ.out h8 hbk1 (by rw[mJ];show 6<10;decide)).mono ?_
 rintro e w2 ⟨hg2,u,hb2,rfl,hu2⟩
 go_simp
 refine hK _ _ ?_
 clear hK K
 refine ak ?_
 refine dG 24 29 ?_
 refine dG 25 4 ?_
 refine eA ?_
 go_wp2_with fail
 go_ret
 have hg3:=iR (au (ac (B0 W) _)) hp.1
 refine⟨qW hg3 hg2,?_,fun y hy=> ?_⟩
 ·show Ending.returned (.bool (bg (aE l 2)).isSome)=_
  rw[Option.isSome_map]
 ·obtain⟨a,ha,rfl⟩:=Option.map_eq_some_iff.1 hy
  have:=hu2 _ ha
  subst this
  have hvl:=kl HQ.out
  match vs,hvl with
  |[p,q],_=>exact⟨aG,aG,hb2.trans rfl,aq.nil_ _ _,aq.nil_ _ _,da.nil _,da.nil _⟩
theorem Gi (k:Int) (v:Value) (l:List ByteArray) (W:World) (pa:Nat) (hG:aT W) (hb:bB W pa (aK k) aG aG) (h8:8≤pa) (h:aL W pa v l) (hsz: ∀s∈l,s.size≤1000000):
 Calls prog 106 #[ptr pa,v] W (dC W pa (fW k l)):=by
 by_cases h3:l.length=3
 ·cases hq:bW (l.take 2) 2 with
  |none=>exact Gg k v l W pa hG hb h8 h hsz h3 hq
  |some vs=>exact Gh k v l W pa hG hb h8 h hsz h3 vs hq
 ·exact Gf k v l W pa h h3
theorem Gj {W w:World} {b:Nat} (h:W.grownBy w (some b)) (o:Obj):W.grownBy (w.alloc o) (some b):=
 ⟨h.os,h.tape,h.output,aP h.size (by simp),fun i hi hne=>(Below.heap_alloc w o i (aF hi h.size)).trans (h.block i hi hne)⟩
theorem Gk (k:Int) (v:Value) (l:List ByteArray) (W:World) (pa:Nat) (h:aL W pa v l) (h2:l.length<2):
 Calls prog 100 #[ptr pa,v] W (dC W pa (fg k l)):=by
 have hr:fg k l=none:=by unfold fg;rw[if_pos h2]
 rw[hr]
 obtain⟨A,n,c,rfl,hl,hc,hm⟩:=h.form
 have g3:((n:Int)<2):=by omega
 clear h hr
 simp only[ptr]
 go_enter func100,ntmps100
 go_wp2_with fail
 go_ret
 exact⟨World.grownBy.refl _ _,rfl,fun y hy=>by cases hy⟩
theorem Gl (k:Int) (v:Value) (l:List ByteArray) (W:World) (pa:Nat) (hG:aT W) (hb:bB W pa (aK k) aG aG) (h8:8≤pa) (h:aL W pa v l) (hsz: ∀s∈l,s.size≤1000000) (hn:l.length≤100000) (h2:2≤l.length) (hq:fK (l.drop 2)=none) (hc2: ∀A n c,v= .slice A n c→¬c=2):
 Calls prog 100 #[ptr pa,v] W (dC W pa (fg k l)):=by
 have hlt:=hb.lt
 have hr:fg k l=none:=by unfold fg;rw[if_neg (by omega),hq];rfl
 rw[hr]
 obtain⟨A,n,c,rfl,hl,hc,hm⟩:=h.form
 obtain⟨bl,ol,rfl,hbl,hcell⟩:=h.at_ 0 (by omega)
 refine xX fun hsz' hc2' i1 g0 i2 i3 n1 n2 L0 eq=> ?_
 rw[eq,hq] at L0
 unfold fJ at L0
 refine rQ fun HL HB HT HS HLen HG=> ?_
 clear hG hb h hsz hn L0 hcell hc2 hsz' hq hr eq hl
 simp only[ptr]
 go_enter func100,ntmps100
 go_wp2_with(first
  |(go_at_call 101
    refine(HL.out).mono ?_
    rintro e w1 ⟨hb1,r,rfl,hrr⟩
    obtain⟨p0,p1,p2,p3⟩:=r
    unfold dH
    have HR:=aa hrr
    clear hrr
    refine jX fun r1=> ?_
    rw[ej] at r1
    refine rR fun d4 f4 d5 f5 d6 f6 d7 f7 hlt1 hne hne2 R1=> ?_
    clear r1))
 exact xY
theorem Gm (k:Int) (v:Value) (l:List ByteArray) (W:World) (pa:Nat) (hG:aT W) (hb:bB W pa (aK k) aG aG) (h8:8≤pa) (h:aL W pa v l) (hsz: ∀s∈l,s.size≤1000000) (hn:l.length≤100000) (h2:2≤l.length) (hq:fK (l.drop 2)=none) (hc2: ∀A n c,v= .slice A n c→c=2):
 Calls prog 100 #[ptr pa,v] W (dC W pa (fg k l)):=by
 have hlt:=hb.lt
 have hr:fg k l=none:=by unfold fg;rw[if_neg (by omega),hq];rfl
 rw[hr]
 obtain⟨A,n,c,rfl,hl,hc,hm⟩:=h.form
 obtain⟨bl,ol,rfl,hbl,hcell⟩:=h.at_ 0 (by omega)
 have hsz': ∀s∈l.drop 2,s.size≤1000000:=fun s hs=>hsz s (List.mem_of_mem_drop hs)
 obtain rfl:c=2:=hc2 _ _ _ rfl
 obtain rfl:n=2:=by omega
 have hd:l.drop 2=[]:=by rw[List.drop_eq_nil_iff];omega
 have L0:=fun A=>wy (.slice A 0 0) (l.drop 2) W hG (by rw[hd];exact aL.none_ (by simp)) hsz'
 have eq:(if(l.drop 2).length<2 then none else gY (l.drop 2))=fK (l.drop 2):=rfl
 rw[eq,hq] at L0
 unfold fJ at L0
 refine rQ fun HL HB HT HS HLen HG=> ?_
 clear hG hb h hsz hn L0 hcell hc2 hsz' hq hr eq hl
 simp only[ptr]
 go_enter func100,ntmps100
 go_wp2_with(first
  |(go_at_call 101
    refine(HL.out _).mono ?_
    rintro e w1 ⟨hb1,r,rfl,hrr⟩
    obtain⟨p0,p1,p2,p3⟩:=r
    unfold dH
    have HR:=aa hrr
    clear hrr
    refine jX fun r1=> ?_
    rw[ej] at r1
    refine rR fun d4 f4 d5 f5 d6 f6 d7 f7 hlt1 hne hne2 R1=> ?_
    clear r1))
 exact xY
theorem Gn (k:Int) (v:Value) (l:List ByteArray) (W:World) (pa:Nat) (hG:aT W) (hb:bB W pa (aK k) aG aG) (h8:8≤pa) (h:aL W pa v l) (hsz: ∀s∈l,s.size≤1000000) (hn:l.length≤100000) (h2:2≤l.length) (q:Int×ByteArray×Int×Int) (hq:fK (l.drop 2)=some q) (hc2: ∀A n c,v= .slice A n c→¬c=2):
 Calls prog 100 #[ptr pa,v] W (dC W pa (fg k l)):=by
 have hlt:=hb.lt
 have hr:fg k l=(bW (l.take 2) 2).map fun vs=>{aK k with a:=bd vs 0,b:=bd vs 1,ok:=q.1,key:=q.2.1,val:=q.2.2.1,old:=q.2.2.2}:=by unfold fg;rw[if_neg (by omega),hq];rfl
 rw[hr]
 obtain⟨A,n,c,rfl,hl,hc,hm⟩:=h.form
 obtain⟨bl,ol,rfl,hbl,hcell⟩:=h.at_ 0 (by omega)
 refine xX fun hsz' hc2' i1 g0 i2 i3 n1 n2 L0 eq=> ?_
 rw[eq,hq] at L0
 unfold fJ at L0
 refine rQ fun HL HB HT HS HLen HG=> ?_
 clear hG hb h hsz hn L0 hcell hc2 hsz' hq hr eq hl
 simp only[ptr]
 go_enter func100,ntmps100
 go_wp2_with(first
  |(go_at_call 101
    refine(HL.out).mono ?_
    rintro e w1 ⟨hb1,r,rfl,hrr⟩
    obtain⟨p0,p1,p2,p3⟩:=r
    unfold dH
    have HR:=aa hrr
    clear hrr
    refine jX fun r1=> ?_
    rw[ej] at r1
    refine rR fun d4 f4 d5 f5 d6 f6 d7 f7 hlt1 hne hne2 R1=> ?_
    clear r1))
 refine xZ fun hlt2 hg1 r2 hbb=> ?_
 generalize hw2:((((((w1.setCell ⟨pa,4,none⟩ (.int .i64 p0)).setCell ⟨pa,5,none⟩ (.string p1)).setCell ⟨pa,6,none⟩ (.int .i64 p2)).setCell ⟨pa,7,none⟩ (.int .i64 p3))).alloc (.cells #[.int .i64 p0,.string p1,.int .i64 p2,.int .i64 p3] 43))=w2 at hg1 r2 hbb⊢
 have hl2:pa<w2.heap.size:=aF hlt hg1.size
 clear hw2 hlt2 d4 f4 d5 f5 d6 f6 d7 f7 hne hne2 hlt1 hb1 R1
 have R2:=aa r2
 clear r2
 have hne: ¬pa=w2.heap.size:=by omega
 have hne2: ¬w2.heap.size=pa:=by omega
 have hG2:aT (w2.alloc (.cells #[.pointer (some ⟨pa,1,none⟩),.pointer (some ⟨pa,2,none⟩)] 145)).drew:=(HG.out.grown hg1 h8).step (au (ac (B0 w2) _))
 have hbw2:Below pa W (w2.alloc (.cells #[.pointer (some ⟨pa,1,none⟩),.pointer (some ⟨pa,2,none⟩)] 145)).drew:=my (hbb.alloc (bN hl2) _)
 refine bA 14 ?_
 iterate 10 refine gA 14 20 ?_
 refine cA 10 fun K hK=> ?_
 go_simp
 refine hK _ _ ?_
 clear hK K
 refine ak ?_
 refine cA 11 fun K hK=> ?_
 go_simp
 refine(kj _ (l.take 2) [1,2] 2 w2.heap.size _ pa 45 _ _ hG2 pa rfl (Sl.below HT.out hbw2) (ae _) (by simp;omega) HS.out HLen.out (fun j hj=>by
  match j,hj with
  |0,_=>go_simp;try rfl
  |1,_=>go_simp;try rfl) hne2 (by simp) h8 (((au (ac (B0 w2) _)).block _ hl2).trans R2.out) (fun j hj=>by
  match j,hj with
  |0,_=>show _<10;decide
  |1,_=>show _<10;decide)).mono ?_
 rintro e w3 hp
 have he:=hp.ret
 subst he
 go_simp
 refine hK _ _ ?_
 clear hK K
 refine ak ?_
 refine dG 12 32 ?_
 refine dG 13 4 ?_
 refine eA ?_
 go_wp2_with fail
 go_ret
 have hg3:=iR (au (ac (B0 w2) _)) hp.1
 have hp2:=hp.2
 refine⟨qW hg1 hg3,?_,fun y hy=> ?_⟩
 ·show Ending.returned (.bool (bW (l.take 2) 2).isSome)=_
  rw[Option.isSome_map]
 ·obtain⟨vs,hv,rfl⟩:=Option.map_eq_some_iff.1 hy
  have e1:bW (l.take 2) [1,2].length=some vs:=hv
  rw[e1] at hp2
  have hvl:=kl hv
  have:=HR.out q rfl
  subst this
  match vs,hvl with
  |[p,r],_=>exact⟨aG,aG,hp2.2.trans rfl,aq.nil_ _ _,aq.nil_ _ _,da.nil _,da.nil _⟩
theorem Gp (k:Int) (v:Value) (l:List ByteArray) (W:World) (pa:Nat) (hG:aT W) (hb:bB W pa (aK k) aG aG) (h8:8≤pa) (h:aL W pa v l) (hsz: ∀s∈l,s.size≤1000000) (hn:l.length≤100000):
 Calls prog 100 #[ptr pa,v] W (dC W pa (fg k l)):=by
 by_cases h2:l.length<2
 ·exact Gk k v l W pa h h2
 obtain⟨A,n,c,rfl,hl,hc,hm⟩:=h.form
 by_cases hc2:c=2
 ·have hq:fK (l.drop 2)=none:=by
   have:l.drop 2=[]:=by rw[List.drop_eq_nil_iff];omega
   rw[this];rfl
  exact Gm k _ l W pa hG hb h8 h hsz hn (by omega) hq (fun A' n' c' e=>by injection e with _ _ e;omega)
 ·cases hq:fK (l.drop 2) with
  |none=>exact Gl k _ l W pa hG hb h8 h hsz hn (by omega) hq (fun A' n' c' e=>by injection e with _ _ e;omega)
  |some q=>exact Gn k _ l W pa hG hb h8 h hsz hn (by omega) q hq (fun A' n' c' e=>by injection e with _ _ e;omega)
structure db (w:World) (k:Nat) (x:dy):Prop where
 kind:x.kind=k
 word:x.word=bp k
 lt:k<18
 eu:bc x.gu
 ef:bc x.gf
 er:bc x.gr
 et:bc x.gt
 caps:x.caps= #[]∨∃b,x.caps= #[ptr b]
 used: ∀(y:ap) (m s:Value) (W:World) (px pa:Nat),(∃A n c,m= .slice A n c)→(∃A n c,s= .slice A n c)→bB W px (aK k) aG aG→cY W pa y m s→px≠pa→
  Calls prog x.gu #[ptr px,ptr pa] W (iL W px (dT {y with kind:=k}) (if k=15 then m else aG) (if k=5 then s else aG))
 fits: ∀(y:ap) (m s:Value) (W:World),Below w.heap.size w W→aj y.a→aq W W.heap.size m y.ms→aq W W.heap.size s y.ss→y.ms.length≤1000000→y.ss.length≤1000000→
  am x.gf (#[.agg (y.cells m s)]++x.caps) W (.bool (mP k y))
 read: ∀(v:Value) (l:List ByteArray) (W:World) (pa:Nat),aT W→bB W pa (aK k) aG aG→8≤pa→aL W pa v l→(∀s∈l,s.size≤1000000)→l.length≤100000→
  Calls prog x.gr #[ptr pa,v] W (dC W pa (cr k l))
 text: ∀(y:ap) (m s:Value) (W:World),aT W→y.In W W.heap.size m s→y.ms.length≤100000→y.ss.length≤100000→(k=10→0≤y.ok∧y.ok≤3)→
  Calls prog x.gt #[.agg (y.cells m s)] W (iN W ((bF {y with kind:=k}).map bs))
theorem ya (l:List Int):(l.map Lib.itoa).map bs=l.map eZ:=by rw[List.map_map];rfl
theorem Gq (y:ap):(eQ y).map bs=gV y:=by
 unfold eQ gV
 have e:=dZ y.key
 repeat' split
 all_goals simp[e]
theorem Gr (w:World) (b:Nat) (hb:w.cell? ⟨b,0,none⟩=some (az 83 #[])) (hlt:b<w.heap.size):
 db w 0 ⟨bp 0,0,190,191,#[ptr b],192,193⟩ where
 kind:=rfl
 word:=rfl
 lt:=by omega
 eu:=enters_of func190 (by kernel_rfl) rfl
 ef:=enters_of func191 (by kernel_rfl) rfl
 er:=enters_of func192 (by kernel_rfl) rfl
 et:=enters_of func193 (by kernel_rfl) rfl
 caps:= .inr ⟨b,rfl⟩
 used:=fun y m s W px pa hm hs hp ha hne=>(iM 0 y m s W px pa hm hs hp ha hne)
 fits:=fun y m s W hB ha _ _ _ _=>iK y m s W 83 b _ (enters_of func83 (by kernel_rfl) rfl) (fun W=>oy y.a W) ((hB.cell (p:=⟨b,0,none⟩) hlt).trans hb) (aF hlt hB.size)
 read:=fun v l W pa hG hb h8 h hsz hn=>iS 0 v l W pa hG hb h8 h hsz hn
 text:=fun y m s W hG hy _ _ _=>iO y m s W hG hy.a
theorem Gs (w:World) (b:Nat) (hb:w.cell? ⟨b,0,none⟩=some (az 83 #[])) (hlt:b<w.heap.size):
 db w 1 ⟨bp 1,1,190,191,#[ptr b],192,193⟩ where
 kind:=rfl
 word:=rfl
 lt:=by omega
 eu:=enters_of func190 (by kernel_rfl) rfl
 ef:=enters_of func191 (by kernel_rfl) rfl
 er:=enters_of func192 (by kernel_rfl) rfl
 et:=enters_of func193 (by kernel_rfl) rfl
 caps:= .inr ⟨b,rfl⟩
 used:=fun y m s W px pa hm hs hp ha hne=>(iM 1 y m s W px pa hm hs hp ha hne)
 fits:=fun y m s W hB ha _ _ _ _=>iK y m s W 83 b _ (enters_of func83 (by kernel_rfl) rfl) (fun W=>oy y.a W) ((hB.cell (p:=⟨b,0,none⟩) hlt).trans hb) (aF hlt hB.size)
 read:=fun v l W pa hG hb h8 h hsz hn=>iS 1 v l W pa hG hb h8 h hsz hn
 text:=fun y m s W hG hy _ _ _=>iO y m s W hG hy.a
theorem Gt (w:World) (b:Nat) (hb:w.cell? ⟨b,0,none⟩=some (az 83 #[])) (hlt:b<w.heap.size):
 db w 2 ⟨bp 2,2,190,191,#[ptr b],192,193⟩ where
 kind:=rfl
 word:=rfl
 lt:=by omega
 eu:=enters_of func190 (by kernel_rfl) rfl
 ef:=enters_of func191 (by kernel_rfl) rfl
 er:=enters_of func192 (by kernel_rfl) rfl
 et:=enters_of func193 (by kernel_rfl) rfl
 caps:= .inr ⟨b,rfl⟩
 used:=fun y m s W px pa hm hs hp ha hne=>(iM 2 y m s W px pa hm hs hp ha hne)
 fits:=fun y m s W hB ha _ _ _ _=>iK y m s W 83 b _ (enters_of func83 (by kernel_rfl) rfl) (fun W=>oy y.a W) ((hB.cell (p:=⟨b,0,none⟩) hlt).trans hb) (aF hlt hB.size)
 read:=fun v l W pa hG hb h8 h hsz hn=>iS 2 v l W pa hG hb h8 h hsz hn
 text:=fun y m s W hG hy _ _ _=>iO y m s W hG hy.a
theorem Gu (w:World) (b:Nat) (hb:w.cell? ⟨b,0,none⟩=some (az 80 #[])) (hlt:b<w.heap.size):
 db w 3 ⟨bp 3,3,190,191,#[ptr b],192,193⟩ where
 kind:=rfl
 word:=rfl
 lt:=by omega
 eu:=enters_of func190 (by kernel_rfl) rfl
 ef:=enters_of func191 (by kernel_rfl) rfl
 er:=enters_of func192 (by kernel_rfl) rfl
 et:=enters_of func193 (by kernel_rfl) rfl
 caps:= .inr ⟨b,rfl⟩
 used:=fun y m s W px pa hm hs hp ha hne=>(iM 3 y m s W px pa hm hs hp ha hne)
 fits:=fun y m s W hB ha _ _ _ _=>iK y m s W 80 b _ (enters_of func80 (by kernel_rfl) rfl) (fun W=>io y.a W) ((hB.cell (p:=⟨b,0,none⟩) hlt).trans hb) (aF hlt hB.size)
 read:=fun v l W pa hG hb h8 h hsz hn=>iS 3 v l W pa hG hb h8 h hsz hn
 text:=fun y m s W hG hy _ _ _=>iO y m s W hG hy.a
theorem Gv (w:World) (b:Nat) (hb:w.cell? ⟨b,0,none⟩=some (az 80 #[])) (hlt:b<w.heap.size):
 db w 6 ⟨bp 6,6,190,191,#[ptr b],192,193⟩ where
 kind:=rfl
 word:=rfl
 lt:=by omega
 eu:=enters_of func190 (by kernel_rfl) rfl
 ef:=enters_of func191 (by kernel_rfl) rfl
 er:=enters_of func192 (by kernel_rfl) rfl
 et:=enters_of func193 (by kernel_rfl) rfl
 caps:= .inr ⟨b,rfl⟩
 used:=fun y m s W px pa hm hs hp ha hne=>(iM 6 y m s W px pa hm hs hp ha hne)
 fits:=fun y m s W hB ha _ _ _ _=>iK y m s W 80 b _ (enters_of func80 (by kernel_rfl) rfl) (fun W=>io y.a W) ((hB.cell (p:=⟨b,0,none⟩) hlt).trans hb) (aF hlt hB.size)
 read:=fun v l W pa hG hb h8 h hsz hn=>iS 6 v l W pa hG hb h8 h hsz hn
 text:=fun y m s W hG hy _ _ _=>iO y m s W hG hy.a
theorem Gw (w:World) (b:Nat) (hb:w.cell? ⟨b,0,none⟩=some (az 80 #[])) (hlt:b<w.heap.size):
 db w 13 ⟨bp 13,13,190,191,#[ptr b],192,193⟩ where
 kind:=rfl
 word:=rfl
 lt:=by omega
 eu:=enters_of func190 (by kernel_rfl) rfl
 ef:=enters_of func191 (by kernel_rfl) rfl
 er:=enters_of func192 (by kernel_rfl) rfl
 et:=enters_of func193 (by kernel_rfl) rfl
 caps:= .inr ⟨b,rfl⟩
 used:=fun y m s W px pa hm hs hp ha hne=>(iM 13 y m s W px pa hm hs hp ha hne)
 fits:=fun y m s W hB ha _ _ _ _=>iK y m s W 80 b _ (enters_of func80 (by kernel_rfl) rfl) (fun W=>io y.a W) ((hB.cell (p:=⟨b,0,none⟩) hlt).trans hb) (aF hlt hB.size)
 read:=fun v l W pa hG hb h8 h hsz hn=>iS 13 v l W pa hG hb h8 h hsz hn
 text:=fun y m s W hG hy _ _ _=>iO y m s W hG hy.a
theorem Gx (w:World) (b:Nat) (hb:w.cell? ⟨b,0,none⟩=some (az 79 #[])) (hlt:b<w.heap.size):
 db w 8 ⟨bp 8,8,190,191,#[ptr b],192,193⟩ where
 kind:=rfl
 word:=rfl
 lt:=by omega
 eu:=enters_of func190 (by kernel_rfl) rfl
 ef:=enters_of func191 (by kernel_rfl) rfl
 er:=enters_of func192 (by kernel_rfl) rfl
 et:=enters_of func193 (by kernel_rfl) rfl
 caps:= .inr ⟨b,rfl⟩
 used:=fun y m s W px pa hm hs hp ha hne=>(iM 8 y m s W px pa hm hs hp ha hne)
 fits:=fun y m s W hB ha _ _ _ _=>iK y m s W 79 b _ (enters_of func79 (by kernel_rfl) rfl) (fun W=>vC y.a ha W) ((hB.cell (p:=⟨b,0,none⟩) hlt).trans hb) (aF hlt hB.size)
 read:=fun v l W pa hG hb h8 h hsz hn=>iS 8 v l W pa hG hb h8 h hsz hn
 text:=fun y m s W hG hy _ _ _=>iO y m s W hG hy.a
theorem Gy (w:World) (b:Nat) (hb:w.cell? ⟨b,0,none⟩=some (az 79 #[])) (hlt:b<w.heap.size):
 db w 9 ⟨bp 9,9,190,191,#[ptr b],192,193⟩ where
 kind:=rfl
 word:=rfl
 lt:=by omega
 eu:=enters_of func190 (by kernel_rfl) rfl
 ef:=enters_of func191 (by kernel_rfl) rfl
 er:=enters_of func192 (by kernel_rfl) rfl
 et:=enters_of func193 (by kernel_rfl) rfl
 caps:= .inr ⟨b,rfl⟩
 used:=fun y m s W px pa hm hs hp ha hne=>(iM 9 y m s W px pa hm hs hp ha hne)
 fits:=fun y m s W hB ha _ _ _ _=>iK y m s W 79 b _ (enters_of func79 (by kernel_rfl) rfl) (fun W=>vC y.a ha W) ((hB.cell (p:=⟨b,0,none⟩) hlt).trans hb) (aF hlt hB.size)
 read:=fun v l W pa hG hb h8 h hsz hn=>iS 9 v l W pa hG hb h8 h hsz hn
 text:=fun y m s W hG hy _ _ _=>iO y m s W hG hy.a
theorem Gz (w:World) (b:Nat) (hb:w.cell? ⟨b,0,none⟩=some (az 81 #[])) (hlt:b<w.heap.size):
 db w 11 ⟨bp 11,11,190,191,#[ptr b],192,193⟩ where
 kind:=rfl
 word:=rfl
 lt:=by omega
 eu:=enters_of func190 (by kernel_rfl) rfl
 ef:=enters_of func191 (by kernel_rfl) rfl
 er:=enters_of func192 (by kernel_rfl) rfl
 et:=enters_of func193 (by kernel_rfl) rfl
 caps:= .inr ⟨b,rfl⟩
 used:=fun y m s W px pa hm hs hp ha hne=>(iM 11 y m s W px pa hm hs hp ha hne)
 fits:=fun y m s W hB ha _ _ _ _=>iK y m s W 81 b _ (enters_of func81 (by kernel_rfl) rfl) (fun W=>mH y.a W) ((hB.cell (p:=⟨b,0,none⟩) hlt).trans hb) (aF hlt hB.size)
 read:=fun v l W pa hG hb h8 h hsz hn=>iS 11 v l W pa hG hb h8 h hsz hn
 text:=fun y m s W hG hy _ _ _=>iO y m s W hG hy.a
theorem GA (w:World) (b:Nat) (hb:w.cell? ⟨b,0,none⟩=some (az 85 #[])) (hlt:b<w.heap.size):
 db w 17 ⟨bp 17,17,190,191,#[ptr b],192,193⟩ where
 kind:=rfl
 word:=rfl
 lt:=by omega
 eu:=enters_of func190 (by kernel_rfl) rfl
 ef:=enters_of func191 (by kernel_rfl) rfl
 er:=enters_of func192 (by kernel_rfl) rfl
 et:=enters_of func193 (by kernel_rfl) rfl
 caps:= .inr ⟨b,rfl⟩
 used:=fun y m s W px pa hm hs hp ha hne=>(iM 17 y m s W px pa hm hs hp ha hne)
 fits:=fun y m s W hB ha _ _ _ _=>iK y m s W 85 b _ (enters_of func85 (by kernel_rfl) rfl) (fun W=>Dh y.a W) ((hB.cell (p:=⟨b,0,none⟩) hlt).trans hb) (aF hlt hB.size)
 read:=fun v l W pa hG hb h8 h hsz hn=>iS 17 v l W pa hG hb h8 h hsz hn
 text:=fun y m s W hG hy _ _ _=>iO y m s W hG hy.a
theorem GB (w:World):db w 4 ⟨bp 4,4,194,195,#[],196,197⟩ where
 kind:=rfl
 word:=rfl
 lt:=by omega
 eu:=enters_of func194 (by kernel_rfl) rfl
 ef:=enters_of func195 (by kernel_rfl) rfl
 er:=enters_of func196 (by kernel_rfl) rfl
 et:=enters_of func197 (by kernel_rfl) rfl
 caps:= .inl rfl
 used:=fun y m s W px pa hm hs hp ha hne=>(vZ 4 y m s W px pa hm hs hp ha hne)
 fits:=fun y m s W hB ha hms hss hlm hls=>(vX y m s W)
 read:=fun v l W pa hG hb h8 h hsz hn=>wA 4 v l W pa hb h
 text:=fun y m s W hG hy hlm hls hop=>(wj y m s W)
theorem GC (w:World):db w 16 ⟨bp 16,16,194,195,#[],196,197⟩ where
 kind:=rfl
 word:=rfl
 lt:=by omega
 eu:=enters_of func194 (by kernel_rfl) rfl
 ef:=enters_of func195 (by kernel_rfl) rfl
 er:=enters_of func196 (by kernel_rfl) rfl
 et:=enters_of func197 (by kernel_rfl) rfl
 caps:= .inl rfl
 used:=fun y m s W px pa hm hs hp ha hne=>(vZ 16 y m s W px pa hm hs hp ha hne)
 fits:=fun y m s W hB ha hms hss hlm hls=>(vX y m s W)
 read:=fun v l W pa hG hb h8 h hsz hn=>wA 16 v l W pa hb h
 text:=fun y m s W hG hy hlm hls hop=>(wj y m s W)
theorem GD (w:World):db w 5 ⟨bp 5,5,86,87,#[],90,91⟩ where
 kind:=rfl
 word:=rfl
 lt:=by omega
 eu:=enters_of func86 (by kernel_rfl) rfl
 ef:=enters_of func87 (by kernel_rfl) rfl
 er:=enters_of func90 (by kernel_rfl) rfl
 et:=enters_of func91 (by kernel_rfl) rfl
 caps:= .inl rfl
 used:=fun y m s W px pa hm hs hp ha hne=>(DL 5 y m s W px pa hm hs hp ha hne)
 fits:=fun y m s W hB ha hms hss hlm hls=>(DK y m s W hss hls)
 read:=fun v l W pa hG hb h8 h hsz hn=>Ei 5 v l W pa hG hb h8 h hsz hn
 text:=fun y m s W hG hy hlm hls hop=>by
  have:=DV y m s W hG hy.a hy.ss hls
  rw[←ya] at this
  exact this
theorem GF (w:World):db w 7 ⟨bp 7,7,92,93,#[],94,95⟩ where
 kind:=rfl
 word:=rfl
 lt:=by omega
 eu:=enters_of func92 (by kernel_rfl) rfl
 ef:=enters_of func93 (by kernel_rfl) rfl
 er:=enters_of func94 (by kernel_rfl) rfl
 et:=enters_of func95 (by kernel_rfl) rfl
 caps:= .inl rfl
 used:=fun y m s W px pa hm hs hp ha hne=>(DM 7 y m s W px pa hm hs hp ha hne)
 fits:=fun y m s W hB ha hms hss hlm hls=>(DG y m s W)
 read:=fun v l W pa hG hb h8 h hsz hn=>Eb 7 v l W pa hG hb h8 h hsz hn
 text:=fun y m s W hG hy hlm hls hop=>(DS y m s W hG hy.a hy.b)
theorem GG (w:World):db w 10 ⟨bp 10,10,96,97,#[],100,102⟩ where
 kind:=rfl
 word:=rfl
 lt:=by omega
 eu:=enters_of func96 (by kernel_rfl) rfl
 ef:=enters_of func97 (by kernel_rfl) rfl
 er:=enters_of func100 (by kernel_rfl) rfl
 et:=enters_of func102 (by kernel_rfl) rfl
 caps:= .inl rfl
 used:=fun y m s W px pa hm hs hp ha hne=>(DN 10 y m s W px pa hm hs hp ha hne)
 fits:=fun y m s W hB ha hms hss hlm hls=>(DJ y m s W)
 read:=fun v l W pa hG hb h8 h hsz hn=>Gp 10 v l W pa hG hb h8 h hsz hn
 text:=fun y m s W hG hy hlm hls hop=>by
  have:=DX y m s W hG hy.a hy.b hy.val hy.old (hop rfl).1 (hop rfl).2
  rw[←Gq] at this
  exact this
theorem GH (w:World):db w 12 ⟨bp 12,12,104,105,#[],106,108⟩ where
 kind:=rfl
 word:=rfl
 lt:=by omega
 eu:=enters_of func104 (by kernel_rfl) rfl
 ef:=enters_of func105 (by kernel_rfl) rfl
 er:=enters_of func106 (by kernel_rfl) rfl
 et:=enters_of func108 (by kernel_rfl) rfl
 caps:= .inl rfl
 used:=fun y m s W px pa hm hs hp ha hne=>(DO 12 y m s W px pa hm hs hp ha hne)
 fits:=fun y m s W hB ha hms hss hlm hls=>(DH y m s W)
 read:=fun v l W pa hG hb h8 h hsz hn=>Gi 12 v l W pa hG hb h8 h hsz
 text:=fun y m s W hG hy hlm hls hop=>(DW y m s W hG hy.a hy.b hy.val)
theorem GI (w:World):db w 14 ⟨bp 14,14,110,111,#[],112,113⟩ where
 kind:=rfl
 word:=rfl
 lt:=by omega
 eu:=enters_of func110 (by kernel_rfl) rfl
 ef:=enters_of func111 (by kernel_rfl) rfl
 er:=enters_of func112 (by kernel_rfl) rfl
 et:=enters_of func113 (by kernel_rfl) rfl
 caps:= .inl rfl
 used:=fun y m s W px pa hm hs hp ha hne=>(DP 14 y m s W px pa hm hs hp ha hne)
 fits:=fun y m s W hB ha hms hss hlm hls=>(DI y m s W)
 read:=fun v l W pa hG hb h8 h hsz hn=>Ec 14 v l W pa hG hb h8 h hsz hn
 text:=fun y m s W hG hy hlm hls hop=>(DT y m s W hG hy.a hy.b hy.c)
theorem GJ (w:World):db w 15 ⟨bp 15,15,114,115,#[],116,117⟩ where
 kind:=rfl
 word:=rfl
 lt:=by omega
 eu:=enters_of func114 (by kernel_rfl) rfl
 ef:=enters_of func115 (by kernel_rfl) rfl
 er:=enters_of func116 (by kernel_rfl) rfl
 et:=enters_of func117 (by kernel_rfl) rfl
 caps:= .inl rfl
 used:=fun y m s W px pa hm hs hp ha hne=>(DQ 15 y m s W px pa hm hs hp ha hne)
 fits:=fun y m s W hB ha hms hss hlm hls=>(F7 y m s W hms hlm)
 read:=fun v l W pa hG hb h8 h hsz hn=>Ed 15 v l W pa hG hb h8 h hsz hn
 text:=fun y m s W hG hy hlm hls hop=>by
  have:=DU y m s W hG hy.ms hlm
  rw[←ya] at this
  exact this
theorem db.later {w w':World} {k:Nat} {x:dy} (h:db w k x) (hb:Below w.heap.size w w'):db w' k x:=
 ⟨h.kind,h.word,h.lt,h.eu,h.ef,h.er,h.et,h.caps,h.used,fun y m s W hB=>h.fits y m s W (ag hb hB),h.read,h.text⟩
theorem yc (w:World) (b:Nat→Nat) (hB:fl w b) (j:Nat) (x:dy) (hj:(items b)[j]? =some x): ∃k,iz[j]? =some k∧db w k x:=by
 match j,hj with
 |0,hj=>injection hj with hj;subst hj;exact⟨0,rfl,Gr w _ (hB 0 (by omega)).2 (hB 0 (by omega)).1⟩
 |1,hj=>injection hj with hj;subst hj;exact⟨1,rfl,Gs w _ (hB 1 (by omega)).2 (hB 1 (by omega)).1⟩
 |2,hj=>injection hj with hj;subst hj;exact⟨2,rfl,Gt w _ (hB 2 (by omega)).2 (hB 2 (by omega)).1⟩
 |3,hj=>injection hj with hj;subst hj;exact⟨3,rfl,Gu w _ (hB 3 (by omega)).2 (hB 3 (by omega)).1⟩
 |4,hj=>injection hj with hj;subst hj;exact⟨6,rfl,Gv w _ (hB 4 (by omega)).2 (hB 4 (by omega)).1⟩
 |5,hj=>injection hj with hj;subst hj;exact⟨13,rfl,Gw w _ (hB 5 (by omega)).2 (hB 5 (by omega)).1⟩
 |6,hj=>injection hj with hj;subst hj;exact⟨4,rfl,GB w⟩
 |7,hj=>injection hj with hj;subst hj;exact⟨16,rfl,GC w⟩
 |8,hj=>injection hj with hj;subst hj;exact⟨8,rfl,Gx w _ (hB 6 (by omega)).2 (hB 6 (by omega)).1⟩
 |9,hj=>injection hj with hj;subst hj;exact⟨9,rfl,Gy w _ (hB 7 (by omega)).2 (hB 7 (by omega)).1⟩
 |10,hj=>injection hj with hj;subst hj;exact⟨11,rfl,Gz w _ (hB 8 (by omega)).2 (hB 8 (by omega)).1⟩
 |11,hj=>injection hj with hj;subst hj;exact⟨17,rfl,GA w _ (hB 9 (by omega)).2 (hB 9 (by omega)).1⟩
 |12,hj=>injection hj with hj;subst hj;exact⟨5,rfl,GD w⟩
 |13,hj=>injection hj with hj;subst hj;exact⟨7,rfl,GF w⟩
 |14,hj=>injection hj with hj;subst hj;exact⟨10,rfl,GG w⟩
 |15,hj=>injection hj with hj;subst hj;exact⟨12,rfl,GH w⟩
 |16,hj=>injection hj with hj;subst hj;exact⟨14,rfl,GI w⟩
 |17,hj=>injection hj with hj;subst hj;exact⟨15,rfl,GJ w⟩
 |j+18,hj=>simp[items] at hj
theorem yd: ∀k,k<18→k∈iz:=by decide
def rS:Value:= .agg #[.string ⟨#[]⟩,.int .i64 0,.nilFunc,.nilFunc,.nilFunc,.nilFunc]
def GK (w:World) (k:Int) (e:Ending) (w':World):Prop:=
 Below w.heap.size w w'∧((∃(n:Nat) (x:dy),k=n∧db w' n x∧e= .returned (.tuple #[x.val,.bool true]))∨
  ((k<0∨17<k)∧e= .returned (.tuple #[rS,.bool false])))
theorem fl.later {w w':World} {b:Nat→Nat} (h:fl w b) (hb:Below w.heap.size w w'):fl w' b:=fun i hi=>
 ⟨aF (h i hi).1 hb.size,(hb.cell (p:=⟨b i,0,none⟩) (h i hi).1).trans (h i hi).2⟩
theorem GL {k:Int} {seen:Array Nat} {b:Nat→Nat} (hall: ∀i,i<(items b).length→i∈seen) (hS: ∀i,i∈seen→∀kk:Nat,iz[i]? =some kk→¬k=kk):k<0∨17<k:=by
 apply Classical.byContradiction
 intro h
 obtain⟨n,rfl⟩: ∃n:Nat,k=n:=⟨k.toNat,by omega⟩
 obtain⟨j,hj⟩:=List.mem_iff_getElem?.1 (yd n (by omega))
 have hl:j<18:=(List.getElem?_eq_some_iff.1 hj).1
 exact hS j (hall j (by rw[pe];exact hl)) n hj rfl
theorem np {w:World} {r:Nat} {a b c d e f:Value} {t:TypeId} (h:w.heap[r]? =some (.cells #[a,b,c,d,e,f] t (0,0))):
 (w.cell? ⟨r,0,none⟩=some a∧w.cell? ⟨r,1,none⟩=some b∧w.cell? ⟨r,2,none⟩=some c∧w.cell? ⟨r,3,none⟩=some d∧w.cell? ⟨r,4,none⟩=some e∧w.cell? ⟨r,5,none⟩=some f)∧
 ∀o,w.frozen? ⟨r,o,none⟩=false:=
 ⟨⟨dp h (by show _<6;decide),dp h (by show _<6;decide),dp h (by show _<6;decide),dp h (by show _<6;decide),dp h (by show _<6;decide),dp h (by show _<6;decide)⟩,fun o=>ei h o⟩
theorem fl.set {w:World} {b:Nat→Nat} {r:Nat} (h:fl w b) (hn: ∀i,i<10→¬b i=r) (o:Nat) (v:Value):fl (w.setCell ⟨r,o,none⟩ v) b:=fun i hi=>
 ⟨by simpa[World.setCell] using(h i hi).1,(qX (hn i hi)).trans (h i hi).2⟩
theorem fl.alloc {w:World} {b:Nat→Nat} (h:fl w b) (o:Obj):fl (w.alloc o) b:=h.later (ac (B0 w) o)
theorem rT {w:World} {b:Nat→Nat} {i k:Nat} {x:dy} (hx:(items b)[i]? =some x) (hk:iz[i]? =some k) (hB:fl w b):db w k x:=by
 obtain⟨k',h1,h2⟩:=yc w b hB i x hx
 rw[hk] at h1
 injection h1 with h1
 subst h1
 exact h2
theorem ye (k:Int) (w:World):Calls prog 72 #[.int .i64 k] w (GK w k):=by
 have HP:=aa (fun W=>xV W)
 go_enter func72,ntmps72
 go_wp2_with(first
  |(go_at_call 34
    refine(HP.out _).mono ?_
    rintro e w1 ⟨M,b,rfl,hL,hX,hfr,hM,hb1⟩
    have HB1:=aa (ag (ac (B0 w) _) hb1)
    have HL:=aa hL;have HX:=aa hX
    have hz1:w.heap.size<w1.heap.size:=dJ hb1 (by simp)
    obtain⟨hc1,hf1⟩:=ck hb1
    clear hL hX)
  |(refine Dw _ rfl (.tmp 6) 76 rfl 9 74 underlying76 M _ rfl HL.out ?_
    intro w2 hI hb2 hs2))
 have HR:=aa (show w1.heap[w.heap.size]? =some (.cells #[.string ⟨#[]⟩,.int .i64 0,.nilFunc,.nilFunc,.nilFunc,.nilFunc] 74 (0,0)) from(hb1.block w.heap.size (by simp)).trans (heap_alloc_new w _))
 have hMl:=HL.out.lt
 have hMne: ¬w.heap.size=M:=by have:w.heap.size+1≤M:=by simpa using hM
                               omega
 have HI:=aa hI
 have HFr:=aa (show ∀i,i<10→¬b i=w.heap.size from fun i hi=>by have:=hfr i hi;simp at this;omega)
 clear hc1 hf1 hb1 hfr hM hI HP
 go_frame
 go_loopw [8] (fun _ wr=> ∃seen:Array Nat,gU wr M w1.heap.size ((items b).map dy.kv) seen∧Below w1.heap.size w1 wr∧∀i,i∈seen→∀kk:Nat,iz[i]? =some kk→¬k=kk) (fun _ wr=>wr.rangeLeft M w1.heap.size)
 case atStart=>exact⟨#[],HI.out,hb2,by simp⟩
 case round=>
  obtain⟨seen,hI,hB,hS⟩:=hrel
  have HI:=aa hI;have HS:=aa hS
  have hR:=(hB.block w.heap.size hz1).trans HR.out
  clear hI hS
  have HRr:=aa hR
  clear hR
  go_wp2_with(first
   |(at_next;refine Dx _ rfl (.tmp 7) rfl M w1.heap.size _ seen rfl HI.out ?_ ?_))
  ·intro hall
   have HO:=aa (GL hall HS.out)
   clear hall
   obtain⟨⟨d0,d1,d2,d3,d4,d5⟩,fr⟩:=np HRr.out
   have f0:=fr 0
   have f1:=fr 1
   have f2:=fr 2
   have f3:=fr 3
   have f4:=fr 4
   have f5:=fr 5
   clear fr
   go_wp2_with fail
   refine bodyPost_ret (v:= .tuple #[rS,.bool false]) (by simp[results,results72,go_sem,rS,d0,d1,d2,d3,d4,d5]) rfl ?_
   refine⟨?_,.inr ⟨HO.out,rfl⟩⟩
   have hb:=(HB1.out).trans (hB.mono HB1.out.size)
   repeat' first|with_reducible exact hb|with_reducible refine aR ?_ (ae _) _
  ·intro i key v w' x hx hkv hns hI' hlt hT hen
   obtain⟨rfl,rfl⟩:=Prod.mk.inj hkv
   have hB':=hT.1 w1.heap.size w1 hB (ae _)
   obtain⟨kk,hkk,hF⟩:=yc w' b (HX.out.later hB') i x hx
   have hkind:x.kind=kk:=hF.kind
   have HF:=aa hF;have HI':=aa hI';have Hlt:=aa hlt;have HT:=aa hT
   have hz:w.heap.size<w'.heap.size:=aF hz1 hB'.size
   have hn1: ¬w.heap.size=w'.heap.size:=by omega
   have hn2: ¬w'.heap.size=w.heap.size:=by omega
   have hRw:=(HT.out.2.2 w.heap.size (by omega)).trans HRr.out
   obtain⟨⟨d0,d1,d2,d3,d4,d5⟩,fr⟩:=np hRw
   have f0:=fr 0
   have f1:=fr 1
   have f2:=fr 2
   have f3:=fr 3
   have f4:=fr 4
   have f5:=fr 5
   have HRw:=aa hRw
   simp only[dy.val,iX,az] at hen⊢
   by_cases he:k=kk
   ·have e1:(x.kind==k)=true:=by simp[hkind,he]
    have HE:=aa he
    have HK:=aa hkk
    have HXx:=aa hx
    clear he hkind hkv hx hkk hns hI' hlt hT fr hF hRw
    go_wp2_with fail
    refine bodyPost_ret (v:= .tuple #[x.val,.bool true]) (by simp[results,results72,go_sem,dy.val,iX,az,d0,d1,d2,d3,d4,d5,hz,hn1,hn2]) rfl ?_
    have hb:=(HB1.out).trans (hB'.mono HB1.out.size)
    refine⟨?_,.inl ⟨kk,x,HE.out,rT HXx.out HK.out ?_,rfl⟩⟩
    ·repeat' first|with_reducible exact hb|with_reducible refine aR ?_ (ae _) _|with_reducible refine ac ?_ _
    ·have hbx:=HX.out.later hB'
     repeat' first|with_reducible exact hbx|with_reducible refine fl.set ?_ HFr.out _ _|with_reducible refine fl.alloc ?_ _
   ·have e1:(x.kind==k)=false:=by simp[hkind];omega
    have HN:=aa he
    have HK:=aa hkk
    clear he hkind hkv hx hkk hns hI' hlt hT fr hF hRw d0 d1 d2 d3 d4 d5 f0 f1 f2 f3 f4 f5
    go_wp2_with fail
    have hIa:=HI'.out.below (ac (B0 w') (.cells #[.string (bs x.word),.int .i64 x.kind,.func (.func x.gu) #[] #[],.func (.func x.gf) #[] x.caps,.func (.func x.gr) #[] #[],.func (.func x.gt) #[] #[]] 74)) HI'.out.lt.1 HI'.out.lt.2
    refine⟨⟨seen.push i,hIa,ac hB' _,fun j hj=> ?_⟩,?_⟩
    ·rcases Array.mem_push.1 hj with h|h
     ·exact HS.out j h
     ·subst h
      intro kk' hkk'
      rw[HK.out] at hkk'
      injection hkk' with hkk'
      subst hkk'
      exact HN.out
    ·rw[hIa.left,←HI'.out.left]
     exact Hlt.out
theorem yf (k:Int) (h0:0≤k) (h17:k≤17) (w:World):Calls prog 72 #[.int .i64 k] w fun e w'=> ∃(x:dy),db w' k.toNat x∧e= .returned (.tuple #[.agg #[.string (bs x.word),.int .i64 x.kind,.func (.func x.gu) #[] #[],.func (.func x.gf) #[] x.caps,.func (.func x.gr) #[] #[],.func (.func x.gt) #[] #[]],.bool true])∧Below w.heap.size w w':=
 (ye k w).mono fun e w' ⟨hb,h⟩=>by
   rcases h with ⟨n,x,rfl,hF,he⟩|⟨h,_⟩
   ·exact⟨x,hF,he,hb⟩
   ·omega
theorem GM (k:Int) (h: ¬(0≤k∧k≤17)) (w:World):am 72 #[.int .i64 k] w (.tuple #[.agg #[.string ⟨#[]⟩,.int .i64 0,.nilFunc,.nilFunc,.nilFunc,.nilFunc],.bool false]):=
 (ye k w).mono fun e w' ⟨hb,h'⟩=>by
   rcases h' with ⟨n,x,rfl,hF,he⟩|⟨_,he⟩
   ·have:=hF.lt;omega
   ·exact⟨he,hb⟩
theorem GN (x:ap) (m s:Value) (w:World) (h: ¬(0≤x.kind∧x.kind≤17)):
 am 35 #[.agg (x.cells m s)] w (.bool false):=by
 have HF:=aa (fun W=>GM x.kind h W)
 clear h
 rw[ap.cells_def]
 go_enter func35,ntmps35
 go_wp2_with(go_at_call 72;refine(HF.out _).mono ?_;rintro e w1 ⟨rfl,hb1⟩)
 go_ret
 exact⟨rfl,ac (ag (ac (B0 w) _) hb1) _⟩
theorem cY.turns {w w':World} {b c:Nat} {x:ap} {m s:Value} (h:cY w b x m s) (hT:cM w w' c) (hne:b≠c):cY w' b x m s:=h.keep fun _=>hT.cell hne
theorem GO (w1:World) (o1:Obj) (k:Nat) (kx:Int) (hk:kx=k):bB ((w1.alloc o1).alloc (.cells #[.int .i64 kx,.int .i64 0,.int .i64 0,.int .i64 0,.int .i64 0,.string ⟨#[]⟩,.int .i64 0,.int .i64 0,.slice none 0 0,.slice none 0 0] 45)) (w1.heap.size+1) (aK k) aG aG:=by
 have BB:=heap_alloc_new (w1.alloc o1) (.cells #[.int .i64 kx,.int .i64 0,.int .i64 0,.int .i64 0,.int .i64 0,.string ⟨#[]⟩,.int .i64 0,.int .i64 0,.slice none 0 0,.slice none 0 0] 45)
 rw[show(w1.alloc o1).heap.size=w1.heap.size+1 by simp] at BB
 unfold bB
 rw[ej,←hk]
 exact BB
theorem GQ (x:ap) (m s:Value) (w:World) (hx:x.In w w.heap.size m s) (hms:x.ms.length≤1000000) (hss:x.ss.length≤1000000) (h0:0≤x.kind) (h17:x.kind≤17):
 am 35 #[.agg (x.cells m s)] w (.bool (eY x (dT x)&&mP x.kind x)):=by
 obtain⟨k,hk⟩: ∃k:Nat,x.kind=k:=⟨x.kind.toNat,by omega⟩
 have ek:x.kind.toNat=k:=by omega
 have HF:=fun W=>yf x.kind h0 h17 W
 rw[ek] at HF
 have HFi:=aa HF
 have HX:=aa hx
 have HK:=aa hk
 clear hk ek h0 h17 HF
 obtain⟨Am,nm,cm,rfl,_,_,_⟩:=hx.ms.form
 obtain⟨As,ns,cs,rfl,_,_,_⟩:=hx.ss.form
 obtain⟨m',hm'⟩: ∃m',m'=if k=15 then Value.slice Am nm cm else aG:=⟨_,rfl⟩
 obtain⟨s',hs'⟩: ∃s',s'=if k=5 then Value.slice As ns cs else aG:=⟨_,rfl⟩
 obtain⟨y,hy⟩: ∃y,y=dT x:=⟨_,rfl⟩
 have hyI:y.In w w.heap.size m' s':=by
  have h:=C8 hx
  rw[←hy] at h
  have e1:(if x.kind=15 then Value.slice Am nm cm else .slice none 0 0)=m':=by
   rw[hm',HK.out]
   by_cases e:k=15
   ·rw[if_pos e,if_pos (by omega)]
   ·rw[if_neg e,if_neg (by omega)];rfl
  have e2:(if x.kind=5 then Value.slice As ns cs else .slice none 0 0)=s':=by
   rw[hs',HK.out]
   by_cases e:k=5
   ·rw[if_pos e,if_pos (by omega)]
   ·rw[if_neg e,if_neg (by omega)];rfl
  rwa [e1,e2] at h
 have HU:Hid (∀(w1:World) (it:dy) (W:World) (px pa:Nat),db w1 k it→bB W px (aK k) aG aG→cY W pa x (.slice Am nm cm) (.slice As ns cs)→px≠pa→Calls prog it.gu #[ptr px,ptr pa] W (iL W px y m' s')):=fun w1 it W px pa hF h1 h2 h3=>by
  have h:=hF.used x (.slice Am nm cm) (.slice As ns cs) W px pa ⟨_,_,_,rfl⟩ ⟨_,_,_,rfl⟩ h1 h2 h3
  have e:({x with kind:=(k:Int)}:ap)=x:=by rw[←HK.out]
  rw[e,←hy,←hm',←hs'] at h
  exact h
 have HY:=aa hyI
 have HE:=aa hy
 clear hx hm' hs' hyI hy
 rw[ap.cells_def]
 cases hs:eY x (dT x) with
 |false=>
  have HS:=aa (show eY x y=false by rw[HE.out];exact hs)
  clear hs
  go_enter func35,ntmps35
  go_wp2_with(first
   |(go_at_call 72
     refine(HFi.out _).mono ?_
     rintro e w1 ⟨⟨word,kind,gu,gf,caps,gr,gt⟩,hF,rfl,hb1⟩
     have HFn:=aa hF
     have eu:=hF.eu
     have ef:=hF.ef
     unfold bc at eu ef
     simp only at eu ef
     have hz1:w.heap.size<w1.heap.size:=dJ hb1 (by simp)
     refine rU fun HB1 HL1=> ?_
     obtain⟨hc1,hf1⟩:=ck hb1
     clear hF hb1))
  refine yg ?_
  rintro e w2 ⟨⟨v,rfl⟩,hT,hBk⟩
  refine yh fun hsz2 l0 l1 l2 l3 l4 l5 l6 l7 l8 l9 q0 q1 q2 q3 q4 q5 q6 q7 q8 q9 p3 hB2 HBA HB2 hz2 hp2 hq2 SC=> ?_
  rw[HS.out] at SC
  have HSC:=aa SC
  clear SC hT hBk hc1 hf1 hsz2 hB2 hz1
  go_wp2_with(go_at_call 118;refine HSC.out.mono ?_;rintro e w3 ⟨rfl,hb3⟩;obtain⟨hc3,hf3⟩:=ck hb3;have HB3:=aa (ag HBA.out hb3);have HB3':=aa (ag HB2.out hb3);clear hb3)
  go_ret
  exact⟨rfl,HB3.out⟩
 |true=>
  have HS:=aa (show eY x y=true by rw[HE.out];exact hs)
  clear hs
  go_enter func35,ntmps35
  go_wp2_with(first
   |(go_at_call 72
     refine(HFi.out _).mono ?_
     rintro e w1 ⟨⟨word,kind,gu,gf,caps,gr,gt⟩,hF,rfl,hb1⟩
     have HFn:=aa hF
     have eu:=hF.eu
     have ef:=hF.ef
     unfold bc at eu ef
     simp only at eu ef
     have hz1:w.heap.size<w1.heap.size:=dJ hb1 (by simp)
     refine rU fun HB1 HL1=> ?_
     obtain⟨hc1,hf1⟩:=ck hb1
     clear hF hb1))
  refine yg ?_
  rintro e w2 ⟨⟨v,rfl⟩,hT,hBk⟩
  refine yh fun hsz2 l0 l1 l2 l3 l4 l5 l6 l7 l8 l9 q0 q1 q2 q3 q4 q5 q6 q7 q8 q9 p3 hB2 HBA HB2 hz2 hp2 hq2 SC=> ?_
  rw[HS.out] at SC
  have HSC:=aa SC
  clear SC hT hBk hc1 hf1 hsz2 hB2 hz1
  go_wp2_with(go_at_call 118;refine HSC.out.mono ?_;rintro e w3 ⟨rfl,hb3⟩;obtain⟨hc3,hf3⟩:=ck hb3;have HB3:=aa (ag HBA.out hb3);have HB3':=aa (ag HB2.out hb3);clear hb3)
  have hXw3:=(HX.out.below HB3.out (ae _)).more HB3.out.size
  refine(HFn.out.fits x (.slice Am nm cm) (.slice As ns cs) w3 HB3'.out hXw3.a hXw3.ms hXw3.ss hms hss).mono ?_
  rintro e w4 ⟨rfl,hb4⟩
  clear hXw3
  go_wp2_with fail
  go_ret
  exact⟨aV (by rw[HK.out];simp),ag HB3.out hb4⟩
theorem pf (x:ap) (m s:Value) (w:World) (hx:x.In w w.heap.size m s) (hms:x.ms.length≤1000000) (hss:x.ss.length≤1000000):
 am 35 #[.agg (x.cells m s)] w (.bool (cL x)):=by
 rw[←Et]
 by_cases h:0≤x.kind∧x.kind≤17
 ·refine(GQ x m s w hx hms hss h.1 h.2).mono fun e w' ⟨he,hb⟩=>⟨?_,hb⟩
  rw[he]
  exact aV (by simp[oN,h.1,h.2])
 ·refine(GN x m s w h).mono fun e w' ⟨he,hb⟩=>⟨?_,hb⟩
  rw[he]
  refine aV ?_
  have:(decide (0≤x.kind)&&decide (x.kind≤17))=false:=by
   rw[Bool.eq_false_iff]
   intro e
   simp only[Bool.and_eq_true,decide_eq_true_eq] at e
   exact h e
  simp[oN,this]
end
end Go.Proofs.YthnkonlbfogkgaaGreatDoor
