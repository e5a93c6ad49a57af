/-
  The program's ParseAct. (Printed by gen_parse.py.)
-/
import Derived.Test.YtdgciagmcjdhhaaGreatDoorActP
import Derived.Deep.DeepCutAuto
set_option linter.unusedVariables false
set_option linter.unusedSimpArgs false
namespace Go.Proofs.YtdgciagmcjdhhaaGreatDoor
open Go Go.RowKit Go.MapKept Go.ChangeMaps

/-- What 'ParseAct' hands back. -/
def ParsePost (w : World) (l : List ByteArray) (e : Ending) (w' : World) : Prop :=
  Below w.heap.size w w' ∧ match parseActD l with
    | some y => ∃ m s, e = .returned (.tuple #[.agg (y.cells m s), .int .i64 0]) ∧ y.In w' w'.heap.size m s
    | none => e = .returned (.tuple #[.agg ((actZ 0).cells nilS nilS), .int .i64 3])
def patMap (b : Nat → Nat) : List (Value × Value) := (items b).map Item.kv
theorem patMap_keys (b : Nat → Nat) : ∀ p ∈ patMap b, IsKey .string p.1 := by
  intro p hp
  obtain ⟨x, _, rfl⟩ := List.mem_map.1 hp
  exact strKey
theorem item_kind (b : Nat → Nat) {j : Nat} {x : Item} (hj : (items b)[j]? = some x) : ∃ k, itemKinds[j]? = some k ∧ x.word = wordL k := by
  have h1 : ((items b).map (·.word))[j]? = some x.word := by rw [List.getElem?_map, hj]; rfl
  rw [items_words, List.getElem?_map] at h1
  obtain ⟨k, hk, e⟩ := Option.map_eq_some_iff.1 h1
  exact ⟨k, hk, e.symm⟩
theorem kinds_lt : ∀ k ∈ itemKinds, k < 18 := by decide
theorem patMap_miss (b : Nat → Nat) {s : ByteArray} (h : kindOf s = none) : ∀ p ∈ patMap b, IsKey .string p.1 ∧ p.1 ≠ .string s := by
  intro p hp
  refine ⟨patMap_keys b p hp, fun e => ?_⟩
  obtain ⟨x, hx, rfl⟩ := List.mem_map.1 hp
  obtain ⟨j, hj⟩ := List.mem_iff_getElem?.1 hx
  obtain ⟨k, hk, hw⟩ := item_kind b hj
  have e' : bs x.word = s := by injection e
  rw [hw] at e'
  have := kindOf_word k (kinds_lt k (List.mem_of_getElem? hk))
  rw [e', h] at this
  cases this
theorem patMap_hit (b : Nat → Nat) {s : ByteArray} {k : Nat} (h : kindOf s = some k) :
    ∃ (j : Nat) (x : Item), (items b)[j]? = some x ∧ itemKinds[j]? = some k ∧ (∀ p ∈ patMap b, p.1 = .string s → p.2 = x.val) ∧ ∃ p ∈ patMap b, p.1 = .string s := by
  obtain ⟨h18, hs⟩ := kindOf_some h
  obtain ⟨j, hj⟩ := List.mem_iff_getElem?.1 (kinds_all k h18)
  have hl : j < 18 := (List.getElem?_eq_some_iff.1 hj).1
  obtain ⟨x, hx⟩ : ∃ x, (items b)[j]? = some x := ⟨_, List.getElem?_eq_getElem (by rw [items_len]; exact hl)⟩
  obtain ⟨k', hk', hw⟩ := item_kind b hx
  rw [hj] at hk'
  injection hk' with hk'
  subst hk'
  refine ⟨j, x, hx, hj, fun p hp e => ?_, ⟨x.kv, List.mem_map.2 ⟨x, List.mem_of_getElem? hx, rfl⟩, by show Value.string (bs x.word) = _; rw [hw, hs]⟩⟩
  obtain ⟨y, hy, rfl⟩ := List.mem_map.1 hp
  obtain ⟨i, hi⟩ := List.mem_iff_getElem?.1 hy
  obtain ⟨k2, hk2, hw2⟩ := item_kind b hi
  have e' : bs y.word = s := by injection e
  rw [hw2] at e'
  have := kindOf_word k2 (kinds_lt k2 (List.mem_of_getElem? hk2))
  rw [e', h] at this
  injection this with this
  subst this
  have hij : j = i := (List.getElem?_inj (List.getElem?_eq_some_iff.1 hj).1 (by decide : itemKinds.Nodup)).1 (hj.trans hk2.symm)
  subst hij
  rw [hx] at hi
  injection hi with hi
  subst hi
  rfl
theorem zeroPat_run (w : World) : (zeroValue 39).run Tryz.prog w = .ok (.agg #[.string ⟨#[]⟩, .int .i64 0, .nilFunc, .nilFunc, .nilFunc, .nilFunc]) w := by kernel_rfl
theorem split_words (s : ByteArray) (hs : s.size ≤ 100000) : (splitS s).length ≤ 100001 ∧ ∀ x ∈ splitS s, x.size ≤ 100000 := by
  refine ⟨?_, fun x hx => ?_⟩
  · unfold splitS
    have h1 := Lib.splitB_length_le (bs [32]) 0 (Lib.countB s (bs [32])) s
    have h2 := Lib.countB_le (bs [32]) (by decide) s.size s (Nat.le_refl _)
    omega
  · obtain ⟨w, r, h1, h2⟩ := join_splitS s
    rw [h1] at hx
    have h3 : s.size = (Lib.join ((w :: r).map (·.data.toList)) [32]).length := by rw [← bs_size, h2]
    rw [List.map_cons, Lib.join_length] at h3
    have h4 : x.data.toList.length ≤ Lib.lens (w.data.toList :: r.map (·.data.toList)) := by
      have : ∀ l : List (List UInt8), ∀ y ∈ l, y.length ≤ Lib.lens l := by
        intro l
        induction l with
        | nil => intro y hy; cases hy
        | cons a t ih =>
          intro y hy
          have e : Lib.lens (a :: t) = a.length + Lib.lens t := by simp [Lib.lens]
          rcases List.mem_cons.1 hy with rfl | hy
          · omega
          · have := ih y hy; omega
      exact this _ _ (by
        rcases List.mem_cons.1 hx with rfl | hx
        · simp
        · exact List.mem_cons_of_mem _ (List.mem_map.2 ⟨x, hx, rfl⟩))
    have h5 : x.data.toList.length = x.size := by rw [Array.length_toList]; rfl
    omega
theorem blk10 {w : World} {r : Nat} {a0 a1 a2 a3 a4 a5 a6 a7 a8 a9 : Value} {t : TypeId} (h : w.heap[r]? = some (.cells #[a0, a1, a2, a3, a4, a5, a6, a7, a8, a9] t (0, 0))) :
    (w.cell? ⟨r, 0, none⟩ = some a0 ∧ w.cell? ⟨r, 1, none⟩ = some a1 ∧ w.cell? ⟨r, 2, none⟩ = some a2 ∧ w.cell? ⟨r, 3, none⟩ = some a3 ∧ w.cell? ⟨r, 4, none⟩ = some a4 ∧ w.cell? ⟨r, 5, none⟩ = some a5 ∧ w.cell? ⟨r, 6, none⟩ = some a6 ∧ w.cell? ⟨r, 7, none⟩ = some a7 ∧ w.cell? ⟨r, 8, none⟩ = some a8 ∧ w.cell? ⟨r, 9, none⟩ = some a9) ∧
    ∀ o, w.frozen? ⟨r, o, none⟩ = false := by
  refine ⟨⟨?_, ?_, ?_, ?_, ?_, ?_, ?_, ?_, ?_, ?_⟩, fun o => blk_frozen h o⟩ <;> exact blk_cell h (by show _ < 10; decide)
theorem parse_none {s : ByteArray} (h : kindOf (nths (splitS s) 0) = none) : parseActD (splitS s) = none := by
  obtain ⟨w, r, h1, _⟩ := join_splitS s
  rw [h1] at h ⊢
  have h' : kindOf w = none := h
  simp [parseActD, h']
theorem parse_hit {s : ByteArray} {k : Nat} (h : kindOf (nths (splitS s) 0) = some k) : parseActD (splitS s) = (readK k ((splitS s).drop 1)).bind fun y => if validB y then some y else none := by
  obtain ⟨w, r, h1, _⟩ := join_splitS s
  rw [h1] at h ⊢
  have h' : kindOf w = some k := h
  simp [parseActD, h']
theorem read_lens {k : Nat} {l : List ByteArray} {y : ActD} (h : readK k l = some y) : y.ms.length ≤ l.length ∧ y.ss.length ≤ l.length := by
  have ns : ∀ (k : Int) (j : Nat), readNs k j l = some y → y.ms.length ≤ l.length ∧ y.ss.length ≤ l.length := fun k j h => by
    obtain ⟨vs, _, rfl⟩ := Option.map_eq_some_iff.1 h
    simp [actZ]
  unfold readK at h
  split at h
  · unfold readPl at h
    split at h
    · injection h with h; subst h; simp [actZ]
    · cases h
  split at h
  · unfold readCrash at h
    split at h
    · cases h
    · obtain ⟨vs, hv, h⟩ := Option.bind_eq_some_iff.1 h
      obtain ⟨a, ha, rfl⟩ := Option.map_eq_some_iff.1 h
      have := parseAll_len hv
      rw [List.length_drop] at this
      exact ⟨by simp [actZ], by show vs.length ≤ _; omega⟩
  split at h
  · exact ns _ _ h
  split at h
  · unfold readReq at h
    split at h
    · cases h
    · obtain ⟨q, hq, h⟩ := Option.bind_eq_some_iff.1 h
      obtain ⟨vs, hv, rfl⟩ := Option.map_eq_some_iff.1 h
      simp [actZ]
  split at h
  · unfold readCall at h
    split at h
    · obtain ⟨vs, hv, h⟩ := Option.bind_eq_some_iff.1 h
      obtain ⟨u, hu, rfl⟩ := Option.map_eq_some_iff.1 h
      simp [actZ]
    · cases h
  split at h
  · exact ns _ _ h
  split at h
  · obtain ⟨vs, hv, rfl⟩ := Option.map_eq_some_iff.1 h
    have := parseAll_len hv
    exact ⟨by show vs.length ≤ _; omega, by simp [actZ]⟩
  · exact ns _ _ h
theorem read_in {k : Nat} {l : List ByteArray} {y : ActD} (h : readK k l = some y) (hk : k < 18) (hsz : ∀ x ∈ l, x.size ≤ 100000) {w : World} {B : Nat} {m s : Value} (hm : SlI w B m y.ms) (hs : SlI w B s y.ss) : y.In w B m s := by
  obtain ⟨h1, _, hN, hok, hkey⟩ := read_back h
  refine ⟨?_, hN.a, hN.b, hN.c, hok, ?_, hN.val, hN.old, hm, hs⟩
  · rw [h1]; exact ⟨by omega, by omega⟩
  · rcases hkey with hkey | hkey
    · rw [hkey]; exact Nat.zero_le _
    · have := hsz _ hkey; omega
theorem one_new (wc : World) (k : Nat) (kx : Int) (hk : kx = k) : Blk (wc.alloc (.cells #[.int .i64 kx, .int .i64 0, .int .i64 0, .int .i64 0, .int .i64 0, .string ⟨#[]⟩, .int .i64 0, .int .i64 0, .slice none 0 0, .slice none 0 0] 26)) wc.heap.size (actZ k) nilS nilS := by
  unfold Blk
  rw [cells_z, ← hk]
  exact heap_alloc_new wc _
theorem Sl.set {w : World} {B r : Nat} {v : Value} {xs : List Value} (h : Sl w B v xs) (hf : ∀ a n c, v = .slice (some a) n c → ¬a.block = r) (o : Nat) (u : Value) : Sl (w.setCell ⟨r, o, none⟩ u) B v xs := by
  obtain ⟨A, c, rfl, h1, h2, h3⟩ := h
  refine ⟨A, c, rfl, h1, h2, fun hn => ?_⟩
  obtain ⟨b, o', rfl, hb, hc⟩ := h3 hn
  exact ⟨b, o', rfl, hb, fun j u' hu => (cell_of_set (hf _ _ _ rfl)).trans (hc j u' hu)⟩
theorem In.set {y : ActD} {w : World} {r : Nat} {m s : Value} (h : y.In w w.heap.size m s) (hm : ∀ a n c, m = .slice (some a) n c → ¬a.block = r) (hs : ∀ a n c, s = .slice (some a) n c → ¬a.block = r) (o : Nat) (u : Value) : y.In (w.setCell ⟨r, o, none⟩ u) (w.setCell ⟨r, o, none⟩ u).heap.size m s := by
  have e : (w.setCell ⟨r, o, none⟩ u).heap.size = w.heap.size := by simp [World.setCell]
  rw [e]
  exact ⟨h.kind, h.a, h.b, h.c, h.ok, h.key, h.val, h.old, ⟨Sl.set h.ms.1 hm o u, h.ms.2⟩, ⟨Sl.set h.ss.1 hs o u, h.ss.2⟩⟩
theorem hit_kind {s : ByteArray} {k : Nat} (h : kindOf s = some k) : k < 18 := (kindOf_some h).1
/-- What stands behind the lookup of a word that is known. -/
def HitAt (w1 : World) (k : Nat) (p : Value) (wx : World) : Prop :=
  ∃ (pb : Nat) (x : Item), p = ptr pb ∧ w1.heap.size ≤ pb ∧ FnsOk wx k x ∧ Below w1.heap.size w1 wx ∧ wx.heap[pb]? = some (.cells #[.string (bs x.word), .int .i64 x.kind, fnV x.gu #[], fnV x.gf x.caps, fnV x.gr #[], fnV x.gt #[]] 39 (0, 0))
set_option maxRecDepth 100000 in
set_option maxHeartbeats 16000000 in
theorem parse_miss (s : ByteArray) (w : World) (hG : Glob w) (hs : s.size ≤ 100000) (hk : kindOf (nths (splitS s) 0) = none) :
    Calls Tryz.prog 10 #[.string s] w (ParsePost w (splitS s)) := by
  have SP := fun W (h : Glob W) => Split_c s W h (by omega)
  simp only [show Lib.splitB (bs [32]) 0 (Lib.countB s (bs [32])) s = splitS s from rfl] at SP
  have HSP := Lib.hid SP
  have HP := Lib.hid (fun W => patterns_c W)
  have HG := Lib.hid hG
  have HLw := Lib.hid (split_words s hs)
  have HK := Lib.hid hk
  clear hk
  clear SP hG
  go_enter Tryz.func10, Tryz.ntmps10
  go_upto_region 2 with (go_at_call 21; refine (HSP.out _ (HG.out.step (bal (B0 w) _))).mono ?_; rintro e w1 ⟨v, rfl, hv, hlen, hb1⟩)
  obtain ⟨A, n, c, rfl, hn, hnc, hcm⟩ := hv.form
  have n1 : 1 ≤ n := by omega
  obtain ⟨bl, ol, rfl, hbl, hcell⟩ := hv.at_ 0 n1
  have hw0 := hcell 0 n1
  rw [Nat.add_zero] at hw0
  have i0 : (0 : Int) < (n : Int) := by omega
  have n0 : 0 < n := by omega
  have i1 : (1 : Int) ≤ (n : Int) := by omega
  have i2 : (n : Int) ≤ (c : Int) := by omega
  have i3 : (1 : Int) ≤ (c : Int) := by omega
  have n2 : 1 ≤ c := by omega
  have HV := Lib.hid hv
  have HN := Lib.hid hn
  have HR := Lib.hid (show w1.heap[w.heap.size]? = some (.cells ((actZ 0).cells nilS nilS) 26 (0, 0)) from (hb1.block w.heap.size (by simp)).trans (heap_alloc_new w _))
  have hz1 : w.heap.size < w1.heap.size := blt hb1 (by simp)
  have HB1 := Lib.hid (bth (bal (B0 w) _) hb1)
  clear hv hn hcell hb1 hlen
  go_cut [5, 6] (fun _ q wx => q = .bool false ∧ Below w1.heap.size w1 wx)
  case first =>
    rename_i J K' hJ hK'
    have HJ := Lib.hid hJ
    have HK' := Lib.hid hK'
    clear hJ hK'
    go_region_held3 (fun w' => w'.cell? ⟨bl, ol, none⟩ = some (.string (nths (splitS s) 0))) (go_simp)
      (first
        | (go_at_call 22
           refine (HP.out _).mono ?_
           rintro e w2 ⟨M, b, rfl, hL, hX, hfr, hM, hb2⟩
           have hB2 : Below w1.heap.size w1 w2 := by first | exact bth (bdr (B0 w1)) hb2 | exact bth (bdr (bal (B0 w1) _)) hb2
           have hk1 : (Instr.lookup 52 (.map (some M)) (.string (nths (splitS s) 0)) true).run Tryz.prog w2 = .ok (.tuple #[.agg #[.string ⟨#[]⟩, .int .i64 0, .nilFunc, .nilFunc, .nilFunc, .nilFunc], .bool false]) w2 := run_look_miss Tryz.underlying52 Tryz.underlying9 hL true strKey (patMap_miss b HK.out) (zeroPat_run _)
           have hk2 : ∀ o, (Instr.lookup 52 (.map (some M)) (.string (nths (splitS s) 0)) true).run Tryz.prog (w2.alloc o) = .ok (.tuple #[.agg #[.string ⟨#[]⟩, .int .i64 0, .nilFunc, .nilFunc, .nilFunc, .nilFunc], .bool false]) (w2.alloc o) := fun o => run_look_miss Tryz.underlying52 Tryz.underlying9 (hL.later (bal (B0 w2) o)) true strKey (patMap_miss b HK.out) (zeroPat_run _)
           have hc2 : ∀ b o, b < w1.heap.size → w2.cell? ⟨b, o, none⟩ = w1.cell? ⟨b, o, none⟩ := fun b o h => hB2.cell (p := ⟨b, o, none⟩) h
           obtain ⟨hcx, hfx⟩ := bcellD hb2
           try (have hzx : w1.heap.size < w2.heap.size := by (have hq := hb2.size; simp at hq; omega))
           have hbl2 : bl < w2.heap.size := Nat.lt_of_lt_of_le hbl hB2.size
           have hbn2 : ¬bl = w2.heap.size := by omega
           have hz2 : w.heap.size < w2.heap.size := Nat.lt_of_lt_of_le hz1 hB2.size
           have HL := Lib.hid hL
           have HX := Lib.hid hX
           clear hL hX hfr hM hb2))
    all_goals (dsimp only [Exit.then]; refine HK'.out _ _ (Met.intro (HJ.out _ _ ?_)); (repeat apply Exists.intro); refine ⟨⟨rfl, ?_⟩, rfl⟩; first | with_reducible exact bal hB2 _ | (repeat' first | with_reducible exact hB2 | with_reducible refine bst ?_ (Nat.le_refl _) _))
  case rest =>
    obtain ⟨rfl, hB2⟩ := hcut
    have hR := (hB2.block w.heap.size hz1).trans HR.out
    rw [cells_z] at hR
    obtain ⟨⟨d0, d1, d2, d3, d4, d5, d6, d7, d8, d9⟩, fr⟩ := blk10 hR
    have f0 := fr 0
    have f1 := fr 1
    have f2 := fr 2
    have f3 := fr 3
    have f4 := fr 4
    have f5 := fr 5
    have f6 := fr 6
    have f7 := fr 7
    have f8 := fr 8
    have f9 := fr 9
    clear hR fr
    go_wp2_with fail
    refine bodyPost_ret (v := .tuple #[.agg ((actZ 0).cells nilS nilS), .int .i64 3]) (by simp [results, Tryz.results10, go_sem, cells_z, nilS, d0, d1, d2, d3, d4, d5, d6, d7, d8, d9]; try rfl) rfl ?_
    refine ⟨?_, ?_⟩
    · have hb := HB1.out.trans (hB2.mono HB1.out.size)
      repeat' first | with_reducible exact hb | with_reducible refine bst ?_ (Nat.le_refl _) _
    · rw [parse_none HK.out]
set_option maxRecDepth 100000 in
set_option maxHeartbeats 16000000 in
theorem parse_bad (s : ByteArray) (w : World) (hG : Glob w) (hs : s.size ≤ 100000) (k : Nat) (hk : kindOf (nths (splitS s) 0) = some k) (hr : readK k ((splitS s).drop 1) = none) :
    Calls Tryz.prog 10 #[.string s] w (ParsePost w (splitS s)) := by
  have SP := fun W (h : Glob W) => Split_c s W h (by omega)
  simp only [show Lib.splitB (bs [32]) 0 (Lib.countB s (bs [32])) s = splitS s from rfl] at SP
  have HSP := Lib.hid SP
  have HP := Lib.hid (fun W => patterns_c W)
  have HG := Lib.hid hG
  have HLw := Lib.hid (split_words s hs)
  have HK := Lib.hid hk
  have HRd := Lib.hid hr
  clear hr
  clear hk
  clear SP hG
  go_enter Tryz.func10, Tryz.ntmps10
  go_upto_region 2 with (go_at_call 21; refine (HSP.out _ (HG.out.step (bal (B0 w) _))).mono ?_; rintro e w1 ⟨v, rfl, hv, hlen, hb1⟩)
  obtain ⟨A, n, c, rfl, hn, hnc, hcm⟩ := hv.form
  have n1 : 1 ≤ n := by omega
  obtain ⟨bl, ol, rfl, hbl, hcell⟩ := hv.at_ 0 n1
  have hw0 := hcell 0 n1
  rw [Nat.add_zero] at hw0
  have i0 : (0 : Int) < (n : Int) := by omega
  have n0 : 0 < n := by omega
  have i1 : (1 : Int) ≤ (n : Int) := by omega
  have i2 : (n : Int) ≤ (c : Int) := by omega
  have i3 : (1 : Int) ≤ (c : Int) := by omega
  have n2 : 1 ≤ c := by omega
  have HV := Lib.hid hv
  have HN := Lib.hid hn
  have HR := Lib.hid (show w1.heap[w.heap.size]? = some (.cells ((actZ 0).cells nilS nilS) 26 (0, 0)) from (hb1.block w.heap.size (by simp)).trans (heap_alloc_new w _))
  have hz1 : w.heap.size < w1.heap.size := blt hb1 (by simp)
  have HB1 := Lib.hid (bth (bal (B0 w) _) hb1)
  clear hv hn hcell hb1 hlen
  go_cut [5, 6] (fun p q wx => q = .bool true ∧ HitAt w1 k p wx)
  case first =>
    rename_i J K' hJ hK'
    have HJ := Lib.hid hJ
    have HK' := Lib.hid hK'
    clear hJ hK'
    go_region_held3 (fun w' => w'.cell? ⟨bl, ol, none⟩ = some (.string (nths (splitS s) 0))) (go_simp)
      (first
        | (go_at_call 22
           refine (HP.out _).mono ?_
           rintro e w2 ⟨M, b, rfl, hL, hX, hfr, hM, hb2⟩
           have hB2 : Below w1.heap.size w1 w2 := by first | exact bth (bdr (B0 w1)) hb2 | exact bth (bdr (bal (B0 w1) _)) hb2
           obtain ⟨j, ⟨word, kind, gu, gf, caps, gr, gt⟩, hx, hj, hone, hin⟩ := patMap_hit b HK.out
           have hk1 : (Instr.lookup 52 (.map (some M)) (.string (nths (splitS s) 0)) true).run Tryz.prog w2 = .ok (.tuple #[.agg #[.string (bs word), .int .i64 kind, .func (.func gu) #[] #[], .func (.func gf) #[] caps, .func (.func gr) #[] #[], .func (.func gt) #[] #[]], .bool true]) w2 := run_look_hit Tryz.underlying52 Tryz.underlying9 hL true strKey (patMap_keys b) hone hin
           have hk2 : ∀ o, (Instr.lookup 52 (.map (some M)) (.string (nths (splitS s) 0)) true).run Tryz.prog (w2.alloc o) = .ok (.tuple #[.agg #[.string (bs word), .int .i64 kind, .func (.func gu) #[] #[], .func (.func gf) #[] caps, .func (.func gr) #[] #[], .func (.func gt) #[] #[]], .bool true]) (w2.alloc o) := fun o => run_look_hit Tryz.underlying52 Tryz.underlying9 (hL.later (bal (B0 w2) o)) true strKey (patMap_keys b) hone hin
           have HXi := Lib.hid hx
           have HJi := Lib.hid hj
           have HFr := Lib.hid (show ∀ i, i < 10 → ¬b i = w1.heap.size from fun i hi => by have := hfr i hi; simp at this; omega)
           have HBl := Lib.hid hb2.block
           clear hone hin hx hj
           have hc2 : ∀ b o, b < w1.heap.size → w2.cell? ⟨b, o, none⟩ = w1.cell? ⟨b, o, none⟩ := fun b o h => hB2.cell (p := ⟨b, o, none⟩) h
           obtain ⟨hcx, hfx⟩ := bcellD hb2
           try (have hzx : w1.heap.size < w2.heap.size := by (have hq := hb2.size; simp at hq; omega))
           have hbl2 : bl < w2.heap.size := Nat.lt_of_lt_of_le hbl hB2.size
           have hbn2 : ¬bl = w2.heap.size := by omega
           have hz2 : w.heap.size < w2.heap.size := Nat.lt_of_lt_of_le hz1 hB2.size
           have HL := Lib.hid hL
           have HX := Lib.hid hX
           clear hL hX hfr hM hb2))
    all_goals
      dsimp only [Exit.then]
      refine HK'.out _ _ (Met.intro (HJ.out _ _ ?_))
      (repeat apply Exists.intro)
      refine ⟨⟨rfl, ?_⟩, rfl⟩
    · exact ⟨w2.heap.size, ⟨word, kind, gu, gf, caps, gr, gt⟩, rfl, hB2.size, fns_same HXi.out HJi.out (BoxAt.alloc HX.out _), bal hB2 _, heap_alloc_new w2 _⟩
    · exact ⟨w2.heap.size, ⟨word, kind, gu, gf, caps, gr, gt⟩, rfl, hB2.size, fns_same HXi.out HJi.out (BoxAt.alloc HX.out _), bal hB2 _, heap_alloc_new w2 _⟩
    · refine ⟨w1.heap.size, ⟨word, kind, gu, gf, caps, gr, gt⟩, rfl, Nat.le_refl _, fns_same HXi.out HJi.out ?_, ?_, ?_⟩
      · repeat' first | with_reducible exact HX.out | with_reducible refine BoxAt.set ?_ HFr.out _ _
      · repeat' first | with_reducible exact hB2 | with_reducible refine bst ?_ (Nat.le_refl _) _
      · have h0 := (HBl.out w1.heap.size (by simp)).trans (heap_alloc_new w1 _)
        exact (set_blk (set_blk (set_blk (set_blk (set_blk (set_blk h0 _ _) _ _) _ _) _ _) _ _) _ _).trans rfl
  case rest =>
    obtain ⟨rfl, pb, ⟨word, kind, gu, gf, caps, gr, gt⟩, rfl, hpb, hF, hB2, hBlk⟩ := hcut
    have HBk := Lib.hid hBlk
    obtain ⟨⟨p0, p1, p2, p3, p4, p5⟩, _⟩ := blk6 hBlk
    have hkind : kind = k := hF.kind
    have er := hF.er
    unfold Enters at er
    simp only at er
    have hpw : pb < wc.heap.size := (Array.getElem?_eq_some_iff.1 hBlk).1
    have HFn := Lib.hid hF
    have HKd := Lib.hid hkind
    have hz2 : w.heap.size < wc.heap.size := Nat.lt_of_lt_of_le hz1 hB2.size
    have HB2 := Lib.hid hB2
    have HRc := Lib.hid ((hB2.block w.heap.size hz1).trans HR.out)
    simp only [fnV] at p4
    clear hF hB2 hBlk hkind p0 p2 p3 p5
    simp only [ptr]
    go_wp2_with fail
    refine abs_world (fun W => Below wc.heap.size wc W ∧ Blk W wc.heap.size (actZ k) nilS nilS ∧ W.cell? ⟨pb, 4, none⟩ = some (.func (.func gr) #[] #[]) ∧ wc.heap.size < W.heap.size) ⟨bal (B0 wc) _, one_new wc k _ HKd.out, by go_simp, by simp⟩ ?_
    intro W ⟨hBW, hblk, q4, hlW⟩
    have HBW := Lib.hid hBW
    have HBl := Lib.hid hblk
    have HGW : Hid (Glob W.drew) := HG.out.step (bdr (bth (bth HB1.out HB2.out) hBW))
    have h8 : 8 ≤ wc.heap.size := Nat.le_trans HG.out.size (Nat.le_trans HB1.out.size HB2.out.size)
    have hzW : w.heap.size < W.heap.size := by omega
    have HWall := Lib.hid (bdr (bth (bth HB1.out HB2.out) hBW))
    have HRW := Lib.hid ((hBW.block w.heap.size hz2).trans HRc.out)
    clear hBW hblk p1 p4
    have hds : ∀ s' ∈ (splitS s).drop 1, s'.size ≤ 1000000 := fun s' h => by have := HLw.out.2 s' (List.mem_of_mem_drop h); omega
    have hdl : ((splitS s).drop 1).length ≤ 100000 := by have := HLw.out.1; rw [List.length_drop]; omega
    have HDs := Lib.hid hds
    have HDl := Lib.hid hdl
    clear hds hdl
    by_cases hc1 : ¬c = 1
    · have hR1 : SlS W.drew wc.heap.size (.slice (some ⟨bl, ol + 1, none⟩) (n - 1) (c - 1)) ((splitS s).drop 1) :=
        SlS.below (((HV.out.drop 1 (by omega)).below HB2.out (Nat.le_refl _)).more HB2.out.size) (bdr HBW.out) (Nat.le_refl _)
      have HRV := Lib.hid hR1
      clear hR1
      refine wp_region_any (by kernel_rfl) ?_
      change wpAny _ _ _ _ 11 _ _ (World.drew _)
      refine take_at (i := 0) (v := ?_) (some 24) rfl rfl (by kernel_rfl) (by kernel_rfl) (by kernel_rfl) (fun _ _ _ h => h) (Or.inl ⟨by rfl, ?_⟩) ?_
      rotate_left
      · intro w
        go_simp
        try with_reducible rfl
      try simp only [Act.put, List.setIfInBounds_toArray, List.set_cons_zero, List.set_cons_succ]
      refine take_at (i := 2) (v := ?_) (some 26) rfl rfl (by kernel_rfl) (by kernel_rfl) (by kernel_rfl) (fun _ _ _ h => h) (Or.inl ⟨by rfl, ?_⟩) ?_
      rotate_left
      · intro w
        go_simp
        try with_reducible rfl
      try simp only [Act.put, List.setIfInBounds_toArray, List.set_cons_zero, List.set_cons_succ]
      refine take_at (i := 3) (v := ?_) (some 27) rfl rfl (by kernel_rfl) (by kernel_rfl) (by kernel_rfl) (fun _ _ _ h => h) (Or.inl ⟨by rfl, ?_⟩) ?_
      rotate_left
      · intro w
        go_simp
        try with_reducible rfl
      try simp only [Act.put, List.setIfInBounds_toArray, List.set_cons_zero, List.set_cons_succ]
      refine wpAny_ready (rs := [1]) (by kernel_rfl) (by simp) ?_
      refine AllReady.cons rfl (fun K hK => ?_) AllReady.nil
      go_simp
      refine hK _ _ ?_
      clear hK K
      try simp only [Act.put, List.setIfInBounds_toArray, List.set_cons_zero, List.set_cons_succ]
      refine wpAny_ready (rs := [4]) (by kernel_rfl) (by simp) ?_
      refine AllReady.cons rfl (fun K hK => ?_) AllReady.nil
      go_simp
      refine (HFn.out.read (.slice (some ⟨bl, ol + 1, none⟩) (n - 1) (c - 1)) ((splitS s).drop 1) W.drew wc.heap.size HGW.out HBl.out h8 HRV.out HDs.out HDl.out).mono ?_
      rw [HRd.out]
      rintro e w3 ⟨hg3, rfl, hy3⟩
      have hB3 : Below w.heap.size w w3 := HWall.out.grown hg3 HWall.out.size (fun k' e => by injection e with e; omega)
      have hR3 := (hg3.block w.heap.size (show w.heap.size < W.heap.size from hzW) (fun e => by injection e with e; omega)).trans HRW.out
      have HB3 := Lib.hid hB3
      have HR3 := Lib.hid hR3
      clear hB3 hR3
      clear hg3 hy3
      go_simp
      refine hK _ _ ?_
      clear hK K
      try simp only [Act.put, List.setIfInBounds_toArray, List.set_cons_zero, List.set_cons_succ]
      refine take_at (i := 5) (v := ?_) (some 29) rfl rfl (by kernel_rfl) (by kernel_rfl) (by kernel_rfl) (fun _ _ _ h => h) (Or.inl ⟨by rfl, ?_⟩) ?_
      rotate_left
      · intro w
        go_simp
        try with_reducible rfl
      try simp only [Act.put, List.setIfInBounds_toArray, List.set_cons_zero, List.set_cons_succ]
      refine take_at (i := 6) (v := ?_) (some 30) rfl rfl (by kernel_rfl) (by kernel_rfl) (by kernel_rfl) (fun _ _ _ h => h) (Or.inl ⟨by rfl, ?_⟩) ?_
      rotate_left
      · intro w
        go_simp
        try with_reducible rfl
      try simp only [Act.put, List.setIfInBounds_toArray, List.set_cons_zero, List.set_cons_succ]
      refine take_at (i := 7) (v := undef) (some 31) rfl rfl (by kernel_rfl) (by kernel_rfl) (by kernel_rfl) (fun _ _ _ h => h) (Or.inr ⟨by rfl, rfl⟩) ?_
      try simp only [Act.put, List.setIfInBounds_toArray, List.set_cons_zero, List.set_cons_succ]
      refine take_at (i := 8) (v := undef) (some 32) rfl rfl (by kernel_rfl) (by kernel_rfl) (by kernel_rfl) (fun _ _ _ h => h) (Or.inr ⟨by rfl, rfl⟩) ?_
      try simp only [Act.put, List.setIfInBounds_toArray, List.set_cons_zero, List.set_cons_succ]
      refine take_at (i := 9) (v := undef) (some 33) rfl rfl (by kernel_rfl) (by kernel_rfl) (by kernel_rfl) (fun _ _ _ h => h) (Or.inr ⟨by rfl, rfl⟩) ?_
      try simp only [Act.put, List.setIfInBounds_toArray, List.set_cons_zero, List.set_cons_succ]
      refine take_at (i := 10) (v := ?_) (some 34) rfl rfl (by kernel_rfl) (by kernel_rfl) (by kernel_rfl) (fun _ _ _ h => h) (Or.inl ⟨by rfl, ?_⟩) ?_
      rotate_left
      · intro w
        go_simp
        try with_reducible rfl
      try simp only [Act.put, List.setIfInBounds_toArray, List.set_cons_zero, List.set_cons_succ]
      refine wpAny_done (by kernel_rfl) ?_ _
      have hRz := HR3.out
      rw [cells_z] at hRz
      obtain ⟨⟨d0, d1, d2, d3, d4, d5, d6, d7, d8, d9⟩, fr⟩ := blk10 hRz
      have f0 := fr 0
      have f1 := fr 1
      have f2 := fr 2
      have f3 := fr 3
      have f4 := fr 4
      have f5 := fr 5
      have f6 := fr 6
      have f7 := fr 7
      have f8 := fr 8
      have f9 := fr 9
      clear hRz fr
      go_wp2_with fail
      refine bodyPost_ret (v := .tuple #[.agg ((actZ 0).cells nilS nilS), .int .i64 3]) (by simp [results, Tryz.results10, go_sem, cells_z, nilS, d0, d1, d2, d3, d4, d5, d6, d7, d8, d9]; try rfl) rfl ?_
      refine ⟨?_, ?_⟩
      · have hb := HB3.out
        repeat' first | with_reducible exact hb | with_reducible refine bst ?_ (Nat.le_refl _) _
      · rw [parse_hit HK.out, HRd.out]
        rfl
    · obtain rfl : c = 1 := Classical.not_not.1 hc1
      obtain rfl : n = 1 := by omega
      have hd : (splitS s).drop 1 = [] := by rw [List.drop_eq_nil_iff, HN.out]; omega
      have hR1 : SlS W.drew wc.heap.size (.slice (some ⟨bl, ol, none⟩) 0 0) ((splitS s).drop 1) := by rw [hd]; exact SlS.none_ (by simp)
      have HRV := Lib.hid hR1
      clear hR1 hc1 hd
      refine wp_region_any (by kernel_rfl) ?_
      change wpAny _ _ _ _ 11 _ _ (World.drew _)
      refine take_at (i := 0) (v := ?_) (some 24) rfl rfl (by kernel_rfl) (by kernel_rfl) (by kernel_rfl) (fun _ _ _ h => h) (Or.inl ⟨by rfl, ?_⟩) ?_
      rotate_left
      · intro w
        go_simp
        try with_reducible rfl
      try simp only [Act.put, List.setIfInBounds_toArray, List.set_cons_zero, List.set_cons_succ]
      refine take_at (i := 2) (v := ?_) (some 26) rfl rfl (by kernel_rfl) (by kernel_rfl) (by kernel_rfl) (fun _ _ _ h => h) (Or.inl ⟨by rfl, ?_⟩) ?_
      rotate_left
      · intro w
        go_simp
        try with_reducible rfl
      try simp only [Act.put, List.setIfInBounds_toArray, List.set_cons_zero, List.set_cons_succ]
      refine take_at (i := 3) (v := ?_) (some 27) rfl rfl (by kernel_rfl) (by kernel_rfl) (by kernel_rfl) (fun _ _ _ h => h) (Or.inl ⟨by rfl, ?_⟩) ?_
      rotate_left
      · intro w
        go_simp
        try with_reducible rfl
      try simp only [Act.put, List.setIfInBounds_toArray, List.set_cons_zero, List.set_cons_succ]
      refine wpAny_ready (rs := [1]) (by kernel_rfl) (by simp) ?_
      refine AllReady.cons rfl (fun K hK => ?_) AllReady.nil
      go_simp
      refine hK _ _ ?_
      clear hK K
      try simp only [Act.put, List.setIfInBounds_toArray, List.set_cons_zero, List.set_cons_succ]
      refine wpAny_ready (rs := [4]) (by kernel_rfl) (by simp) ?_
      refine AllReady.cons rfl (fun K hK => ?_) AllReady.nil
      go_simp
      refine (HFn.out.read (.slice (some ⟨bl, ol, none⟩) 0 0) ((splitS s).drop 1) W.drew wc.heap.size HGW.out HBl.out h8 HRV.out HDs.out HDl.out).mono ?_
      rw [HRd.out]
      rintro e w3 ⟨hg3, rfl, hy3⟩
      have hB3 : Below w.heap.size w w3 := HWall.out.grown hg3 HWall.out.size (fun k' e => by injection e with e; omega)
      have hR3 := (hg3.block w.heap.size (show w.heap.size < W.heap.size from hzW) (fun e => by injection e with e; omega)).trans HRW.out
      have HB3 := Lib.hid hB3
      have HR3 := Lib.hid hR3
      clear hB3 hR3
      clear hg3 hy3
      go_simp
      refine hK _ _ ?_
      clear hK K
      try simp only [Act.put, List.setIfInBounds_toArray, List.set_cons_zero, List.set_cons_succ]
      refine take_at (i := 5) (v := ?_) (some 29) rfl rfl (by kernel_rfl) (by kernel_rfl) (by kernel_rfl) (fun _ _ _ h => h) (Or.inl ⟨by rfl, ?_⟩) ?_
      rotate_left
      · intro w
        go_simp
        try with_reducible rfl
      try simp only [Act.put, List.setIfInBounds_toArray, List.set_cons_zero, List.set_cons_succ]
      refine take_at (i := 6) (v := ?_) (some 30) rfl rfl (by kernel_rfl) (by kernel_rfl) (by kernel_rfl) (fun _ _ _ h => h) (Or.inl ⟨by rfl, ?_⟩) ?_
      rotate_left
      · intro w
        go_simp
        try with_reducible rfl
      try simp only [Act.put, List.setIfInBounds_toArray, List.set_cons_zero, List.set_cons_succ]
      refine take_at (i := 7) (v := undef) (some 31) rfl rfl (by kernel_rfl) (by kernel_rfl) (by kernel_rfl) (fun _ _ _ h => h) (Or.inr ⟨by rfl, rfl⟩) ?_
      try simp only [Act.put, List.setIfInBounds_toArray, List.set_cons_zero, List.set_cons_succ]
      refine take_at (i := 8) (v := undef) (some 32) rfl rfl (by kernel_rfl) (by kernel_rfl) (by kernel_rfl) (fun _ _ _ h => h) (Or.inr ⟨by rfl, rfl⟩) ?_
      try simp only [Act.put, List.setIfInBounds_toArray, List.set_cons_zero, List.set_cons_succ]
      refine take_at (i := 9) (v := undef) (some 33) rfl rfl (by kernel_rfl) (by kernel_rfl) (by kernel_rfl) (fun _ _ _ h => h) (Or.inr ⟨by rfl, rfl⟩) ?_
      try simp only [Act.put, List.setIfInBounds_toArray, List.set_cons_zero, List.set_cons_succ]
      refine take_at (i := 10) (v := ?_) (some 34) rfl rfl (by kernel_rfl) (by kernel_rfl) (by kernel_rfl) (fun _ _ _ h => h) (Or.inl ⟨by rfl, ?_⟩) ?_
      rotate_left
      · intro w
        go_simp
        try with_reducible rfl
      try simp only [Act.put, List.setIfInBounds_toArray, List.set_cons_zero, List.set_cons_succ]
      refine wpAny_done (by kernel_rfl) ?_ _
      have hRz := HR3.out
      rw [cells_z] at hRz
      obtain ⟨⟨d0, d1, d2, d3, d4, d5, d6, d7, d8, d9⟩, fr⟩ := blk10 hRz
      have f0 := fr 0
      have f1 := fr 1
      have f2 := fr 2
      have f3 := fr 3
      have f4 := fr 4
      have f5 := fr 5
      have f6 := fr 6
      have f7 := fr 7
      have f8 := fr 8
      have f9 := fr 9
      clear hRz fr
      go_wp2_with fail
      refine bodyPost_ret (v := .tuple #[.agg ((actZ 0).cells nilS nilS), .int .i64 3]) (by simp [results, Tryz.results10, go_sem, cells_z, nilS, d0, d1, d2, d3, d4, d5, d6, d7, d8, d9]; try rfl) rfl ?_
      refine ⟨?_, ?_⟩
      · have hb := HB3.out
        repeat' first | with_reducible exact hb | with_reducible refine bst ?_ (Nat.le_refl _) _
      · rw [parse_hit HK.out, HRd.out]
        rfl
set_option maxRecDepth 100000 in
set_option maxHeartbeats 16000000 in
theorem parse_inv (s : ByteArray) (w : World) (hG : Glob w) (hs : s.size ≤ 100000) (k : Nat) (hk : kindOf (nths (splitS s) 0) = some k) (y : ActD) (hr : readK k ((splitS s).drop 1) = some y) (hv : validB y = false) :
    Calls Tryz.prog 10 #[.string s] w (ParsePost w (splitS s)) := by
  have SP := fun W (h : Glob W) => Split_c s W h (by omega)
  simp only [show Lib.splitB (bs [32]) 0 (Lib.countB s (bs [32])) s = splitS s from rfl] at SP
  have HSP := Lib.hid SP
  have HP := Lib.hid (fun W => patterns_c W)
  have HG := Lib.hid hG
  have HLw := Lib.hid (split_words s hs)
  have HK := Lib.hid hk
  have HRd := Lib.hid hr
  have HVy := Lib.hid hv
  clear hr hv
  clear hk
  clear SP hG
  go_enter Tryz.func10, Tryz.ntmps10
  go_upto_region 2 with (go_at_call 21; refine (HSP.out _ (HG.out.step (bal (B0 w) _))).mono ?_; rintro e w1 ⟨v, rfl, hv, hlen, hb1⟩)
  obtain ⟨A, n, c, rfl, hn, hnc, hcm⟩ := hv.form
  have n1 : 1 ≤ n := by omega
  obtain ⟨bl, ol, rfl, hbl, hcell⟩ := hv.at_ 0 n1
  have hw0 := hcell 0 n1
  rw [Nat.add_zero] at hw0
  have i0 : (0 : Int) < (n : Int) := by omega
  have n0 : 0 < n := by omega
  have i1 : (1 : Int) ≤ (n : Int) := by omega
  have i2 : (n : Int) ≤ (c : Int) := by omega
  have i3 : (1 : Int) ≤ (c : Int) := by omega
  have n2 : 1 ≤ c := by omega
  have HV := Lib.hid hv
  have HN := Lib.hid hn
  have HR := Lib.hid (show w1.heap[w.heap.size]? = some (.cells ((actZ 0).cells nilS nilS) 26 (0, 0)) from (hb1.block w.heap.size (by simp)).trans (heap_alloc_new w _))
  have hz1 : w.heap.size < w1.heap.size := blt hb1 (by simp)
  have HB1 := Lib.hid (bth (bal (B0 w) _) hb1)
  clear hv hn hcell hb1 hlen
  go_cut [5, 6] (fun p q wx => q = .bool true ∧ HitAt w1 k p wx)
  case first =>
    rename_i J K' hJ hK'
    have HJ := Lib.hid hJ
    have HK' := Lib.hid hK'
    clear hJ hK'
    go_region_held3 (fun w' => w'.cell? ⟨bl, ol, none⟩ = some (.string (nths (splitS s) 0))) (go_simp)
      (first
        | (go_at_call 22
           refine (HP.out _).mono ?_
           rintro e w2 ⟨M, b, rfl, hL, hX, hfr, hM, hb2⟩
           have hB2 : Below w1.heap.size w1 w2 := by first | exact bth (bdr (B0 w1)) hb2 | exact bth (bdr (bal (B0 w1) _)) hb2
           obtain ⟨j, ⟨word, kind, gu, gf, caps, gr, gt⟩, hx, hj, hone, hin⟩ := patMap_hit b HK.out
           have hk1 : (Instr.lookup 52 (.map (some M)) (.string (nths (splitS s) 0)) true).run Tryz.prog w2 = .ok (.tuple #[.agg #[.string (bs word), .int .i64 kind, .func (.func gu) #[] #[], .func (.func gf) #[] caps, .func (.func gr) #[] #[], .func (.func gt) #[] #[]], .bool true]) w2 := run_look_hit Tryz.underlying52 Tryz.underlying9 hL true strKey (patMap_keys b) hone hin
           have hk2 : ∀ o, (Instr.lookup 52 (.map (some M)) (.string (nths (splitS s) 0)) true).run Tryz.prog (w2.alloc o) = .ok (.tuple #[.agg #[.string (bs word), .int .i64 kind, .func (.func gu) #[] #[], .func (.func gf) #[] caps, .func (.func gr) #[] #[], .func (.func gt) #[] #[]], .bool true]) (w2.alloc o) := fun o => run_look_hit Tryz.underlying52 Tryz.underlying9 (hL.later (bal (B0 w2) o)) true strKey (patMap_keys b) hone hin
           have HXi := Lib.hid hx
           have HJi := Lib.hid hj
           have HFr := Lib.hid (show ∀ i, i < 10 → ¬b i = w1.heap.size from fun i hi => by have := hfr i hi; simp at this; omega)
           have HBl := Lib.hid hb2.block
           clear hone hin hx hj
           have hc2 : ∀ b o, b < w1.heap.size → w2.cell? ⟨b, o, none⟩ = w1.cell? ⟨b, o, none⟩ := fun b o h => hB2.cell (p := ⟨b, o, none⟩) h
           obtain ⟨hcx, hfx⟩ := bcellD hb2
           try (have hzx : w1.heap.size < w2.heap.size := by (have hq := hb2.size; simp at hq; omega))
           have hbl2 : bl < w2.heap.size := Nat.lt_of_lt_of_le hbl hB2.size
           have hbn2 : ¬bl = w2.heap.size := by omega
           have hz2 : w.heap.size < w2.heap.size := Nat.lt_of_lt_of_le hz1 hB2.size
           have HL := Lib.hid hL
           have HX := Lib.hid hX
           clear hL hX hfr hM hb2))
    all_goals
      dsimp only [Exit.then]
      refine HK'.out _ _ (Met.intro (HJ.out _ _ ?_))
      (repeat apply Exists.intro)
      refine ⟨⟨rfl, ?_⟩, rfl⟩
    · exact ⟨w2.heap.size, ⟨word, kind, gu, gf, caps, gr, gt⟩, rfl, hB2.size, fns_same HXi.out HJi.out (BoxAt.alloc HX.out _), bal hB2 _, heap_alloc_new w2 _⟩
    · exact ⟨w2.heap.size, ⟨word, kind, gu, gf, caps, gr, gt⟩, rfl, hB2.size, fns_same HXi.out HJi.out (BoxAt.alloc HX.out _), bal hB2 _, heap_alloc_new w2 _⟩
    · refine ⟨w1.heap.size, ⟨word, kind, gu, gf, caps, gr, gt⟩, rfl, Nat.le_refl _, fns_same HXi.out HJi.out ?_, ?_, ?_⟩
      · repeat' first | with_reducible exact HX.out | with_reducible refine BoxAt.set ?_ HFr.out _ _
      · repeat' first | with_reducible exact hB2 | with_reducible refine bst ?_ (Nat.le_refl _) _
      · have h0 := (HBl.out w1.heap.size (by simp)).trans (heap_alloc_new w1 _)
        exact (set_blk (set_blk (set_blk (set_blk (set_blk (set_blk h0 _ _) _ _) _ _) _ _) _ _) _ _).trans rfl
  case rest =>
    obtain ⟨rfl, pb, ⟨word, kind, gu, gf, caps, gr, gt⟩, rfl, hpb, hF, hB2, hBlk⟩ := hcut
    have HBk := Lib.hid hBlk
    obtain ⟨⟨p0, p1, p2, p3, p4, p5⟩, _⟩ := blk6 hBlk
    have hkind : kind = k := hF.kind
    have er := hF.er
    unfold Enters at er
    simp only at er
    have hpw : pb < wc.heap.size := (Array.getElem?_eq_some_iff.1 hBlk).1
    have HFn := Lib.hid hF
    have HKd := Lib.hid hkind
    have hz2 : w.heap.size < wc.heap.size := Nat.lt_of_lt_of_le hz1 hB2.size
    have HB2 := Lib.hid hB2
    have HRc := Lib.hid ((hB2.block w.heap.size hz1).trans HR.out)
    simp only [fnV] at p4
    clear hF hB2 hBlk hkind p0 p2 p3 p5
    simp only [ptr]
    go_wp2_with fail
    refine abs_world (fun W => Below wc.heap.size wc W ∧ Blk W wc.heap.size (actZ k) nilS nilS ∧ W.cell? ⟨pb, 4, none⟩ = some (.func (.func gr) #[] #[]) ∧ wc.heap.size < W.heap.size) ⟨bal (B0 wc) _, one_new wc k _ HKd.out, by go_simp, by simp⟩ ?_
    intro W ⟨hBW, hblk, q4, hlW⟩
    have HBW := Lib.hid hBW
    have HBl := Lib.hid hblk
    have HGW : Hid (Glob W.drew) := HG.out.step (bdr (bth (bth HB1.out HB2.out) hBW))
    have h8 : 8 ≤ wc.heap.size := Nat.le_trans HG.out.size (Nat.le_trans HB1.out.size HB2.out.size)
    have hzW : w.heap.size < W.heap.size := by omega
    have HWall := Lib.hid (bdr (bth (bth HB1.out HB2.out) hBW))
    have HRW := Lib.hid ((hBW.block w.heap.size hz2).trans HRc.out)
    clear hBW hblk p1 p4
    have hds : ∀ s' ∈ (splitS s).drop 1, s'.size ≤ 1000000 := fun s' h => by have := HLw.out.2 s' (List.mem_of_mem_drop h); omega
    have hdl : ((splitS s).drop 1).length ≤ 100000 := by have := HLw.out.1; rw [List.length_drop]; omega
    have HDs := Lib.hid hds
    have HDl := Lib.hid hdl
    clear hds hdl
    by_cases hc1 : ¬c = 1
    · have hR1 : SlS W.drew wc.heap.size (.slice (some ⟨bl, ol + 1, none⟩) (n - 1) (c - 1)) ((splitS s).drop 1) :=
        SlS.below (((HV.out.drop 1 (by omega)).below HB2.out (Nat.le_refl _)).more HB2.out.size) (bdr HBW.out) (Nat.le_refl _)
      have HRV := Lib.hid hR1
      clear hR1
      refine wp_region_any (by kernel_rfl) ?_
      change wpAny _ _ _ _ 11 _ _ (World.drew _)
      refine take_at (i := 0) (v := ?_) (some 24) rfl rfl (by kernel_rfl) (by kernel_rfl) (by kernel_rfl) (fun _ _ _ h => h) (Or.inl ⟨by rfl, ?_⟩) ?_
      rotate_left
      · intro w
        go_simp
        try with_reducible rfl
      try simp only [Act.put, List.setIfInBounds_toArray, List.set_cons_zero, List.set_cons_succ]
      refine take_at (i := 2) (v := ?_) (some 26) rfl rfl (by kernel_rfl) (by kernel_rfl) (by kernel_rfl) (fun _ _ _ h => h) (Or.inl ⟨by rfl, ?_⟩) ?_
      rotate_left
      · intro w
        go_simp
        try with_reducible rfl
      try simp only [Act.put, List.setIfInBounds_toArray, List.set_cons_zero, List.set_cons_succ]
      refine take_at (i := 3) (v := ?_) (some 27) rfl rfl (by kernel_rfl) (by kernel_rfl) (by kernel_rfl) (fun _ _ _ h => h) (Or.inl ⟨by rfl, ?_⟩) ?_
      rotate_left
      · intro w
        go_simp
        try with_reducible rfl
      try simp only [Act.put, List.setIfInBounds_toArray, List.set_cons_zero, List.set_cons_succ]
      refine wpAny_ready (rs := [1]) (by kernel_rfl) (by simp) ?_
      refine AllReady.cons rfl (fun K hK => ?_) AllReady.nil
      go_simp
      refine hK _ _ ?_
      clear hK K
      try simp only [Act.put, List.setIfInBounds_toArray, List.set_cons_zero, List.set_cons_succ]
      refine wpAny_ready (rs := [4]) (by kernel_rfl) (by simp) ?_
      refine AllReady.cons rfl (fun K hK => ?_) AllReady.nil
      go_simp
      refine (HFn.out.read (.slice (some ⟨bl, ol + 1, none⟩) (n - 1) (c - 1)) ((splitS s).drop 1) W.drew wc.heap.size HGW.out HBl.out h8 HRV.out HDs.out HDl.out).mono ?_
      rw [HRd.out]
      rintro e w3 ⟨hg3, rfl, hy3⟩
      have hB3 : Below w.heap.size w w3 := HWall.out.grown hg3 HWall.out.size (fun k' e => by injection e with e; omega)
      have hR3 := (hg3.block w.heap.size (show w.heap.size < W.heap.size from hzW) (fun e => by injection e with e; omega)).trans HRW.out
      have HB3 := Lib.hid hB3
      have HR3 := Lib.hid hR3
      clear hB3 hR3
      obtain ⟨m, t, hbk3, hm3, ht3, hfm, hft⟩ := hy3 y rfl
      obtain ⟨l0, l1, l2, l3, l4, l5, l6, l7, l8, l9⟩ := hbk3.lies
      obtain ⟨Am, nm, cm, rfl, hnm, _, _⟩ := hm3.form
      obtain ⟨At, nt, ct, rfl, hnt, _, _⟩ := ht3.form
      have hyI := read_in HRd.out (hit_kind HK.out) (fun x hx => HLw.out.2 x (List.mem_of_mem_drop hx)) hm3 ht3
      have hyl := read_lens HRd.out
      have VC := validAct_c y _ _ w3 hyI (by have := HDl.out; omega) (by have := HDl.out; omega)
      rw [HVy.out] at VC
      have HVC := Lib.hid VC
      have HYI := Lib.hid hyI
      have HFm := Lib.hid hfm
      have HFt := Lib.hid hft
      have hlw3 : wc.heap.size < w3.heap.size := Nat.lt_of_lt_of_le hlW hg3.size
      have hzw3 : w.heap.size < w3.heap.size := by omega
      clear hy3 hbk3 hm3 ht3 hnm hnt hyI hyl VC hfm hft hg3
      go_simp
      refine hK _ _ ?_
      clear hK K
      try simp only [Act.put, List.setIfInBounds_toArray, List.set_cons_zero, List.set_cons_succ]
      refine take_at (i := 5) (v := ?_) (some 29) rfl rfl (by kernel_rfl) (by kernel_rfl) (by kernel_rfl) (fun _ _ _ h => h) (Or.inl ⟨by rfl, ?_⟩) ?_
      rotate_left
      · intro w
        go_simp
        try with_reducible rfl
      try simp only [Act.put, List.setIfInBounds_toArray, List.set_cons_zero, List.set_cons_succ]
      refine take_at (i := 6) (v := ?_) (some 30) rfl rfl (by kernel_rfl) (by kernel_rfl) (by kernel_rfl) (fun _ _ _ h => h) (Or.inl ⟨by rfl, ?_⟩) ?_
      rotate_left
      · intro w
        go_simp
        try with_reducible rfl
      try simp only [Act.put, List.setIfInBounds_toArray, List.set_cons_zero, List.set_cons_succ]
      refine wpAny_ready (rs := [7]) (by kernel_rfl) (by simp) ?_
      refine AllReady.cons rfl (fun K hK => ?_) AllReady.nil
      go_simp
      refine hK _ _ ?_
      clear hK K
      try simp only [Act.put, List.setIfInBounds_toArray, List.set_cons_zero, List.set_cons_succ]
      refine wpAny_ready (rs := [8]) (by kernel_rfl) (by simp) ?_
      refine AllReady.cons rfl (fun K hK => ?_) AllReady.nil
      go_simp
      refine HVC.out.mono ?_
      rintro e w4 ⟨rfl, hb4⟩
      obtain ⟨hc4, hf4⟩ := bcell hb4
      have HB4 := Lib.hid (bth HB3.out hb4)
      have HR4 := Lib.hid ((hb4.block w.heap.size hzw3).trans HR3.out)
      have HYI4 := Lib.hid ((HYI.out.below hb4 (Nat.le_refl _)).more hb4.size)
      have m0 := (hc4 wc.heap.size 0 hlw3).trans l0
      have m1 := (hc4 wc.heap.size 1 hlw3).trans l1
      have m2 := (hc4 wc.heap.size 2 hlw3).trans l2
      have m3 := (hc4 wc.heap.size 3 hlw3).trans l3
      have m4 := (hc4 wc.heap.size 4 hlw3).trans l4
      have m5 := (hc4 wc.heap.size 5 hlw3).trans l5
      have m6 := (hc4 wc.heap.size 6 hlw3).trans l6
      have m7 := (hc4 wc.heap.size 7 hlw3).trans l7
      have m8 := (hc4 wc.heap.size 8 hlw3).trans l8
      have m9 := (hc4 wc.heap.size 9 hlw3).trans l9
      clear hb4 hc4 hf4 l0 l1 l2 l3 l4 l5 l6 l7 l8 l9
      go_simp
      refine hK _ _ ?_
      clear hK K
      try simp only [Act.put, List.setIfInBounds_toArray, List.set_cons_zero, List.set_cons_succ]
      refine take_at (i := 9) (v := ?_) (some 33) rfl rfl (by kernel_rfl) (by kernel_rfl) (by kernel_rfl) (fun _ _ _ h => h) (Or.inl ⟨by rfl, ?_⟩) ?_
      rotate_left
      · intro w
        go_simp
        try with_reducible rfl
      try simp only [Act.put, List.setIfInBounds_toArray, List.set_cons_zero, List.set_cons_succ]
      refine take_at (i := 10) (v := ?_) (some 34) rfl rfl (by kernel_rfl) (by kernel_rfl) (by kernel_rfl) (fun _ _ _ h => h) (Or.inl ⟨by rfl, ?_⟩) ?_
      rotate_left
      · intro w
        go_simp
        try with_reducible rfl
      try simp only [Act.put, List.setIfInBounds_toArray, List.set_cons_zero, List.set_cons_succ]
      refine wpAny_done (by kernel_rfl) ?_ _
      have hRz := HR4.out
      rw [cells_z] at hRz
      obtain ⟨⟨d0, d1, d2, d3, d4, d5, d6, d7, d8, d9⟩, fr⟩ := blk10 hRz
      have f0 := fr 0
      have f1 := fr 1
      have f2 := fr 2
      have f3 := fr 3
      have f4 := fr 4
      have f5 := fr 5
      have f6 := fr 6
      have f7 := fr 7
      have f8 := fr 8
      have f9 := fr 9
      clear hRz fr
      go_wp2_with fail
      refine bodyPost_ret (v := .tuple #[.agg ((actZ 0).cells nilS nilS), .int .i64 3]) (by simp [results, Tryz.results10, go_sem, cells_z, nilS, d0, d1, d2, d3, d4, d5, d6, d7, d8, d9]; try rfl) rfl ?_
      refine ⟨?_, ?_⟩
      · have hb := HB4.out
        repeat' first | with_reducible exact hb | with_reducible refine bst ?_ (Nat.le_refl _) _
      · rw [parse_hit HK.out, HRd.out]
        simp [HVy.out]
    · obtain rfl : c = 1 := Classical.not_not.1 hc1
      obtain rfl : n = 1 := by omega
      have hd : (splitS s).drop 1 = [] := by rw [List.drop_eq_nil_iff, HN.out]; omega
      have hR1 : SlS W.drew wc.heap.size (.slice (some ⟨bl, ol, none⟩) 0 0) ((splitS s).drop 1) := by rw [hd]; exact SlS.none_ (by simp)
      have HRV := Lib.hid hR1
      clear hR1 hc1 hd
      refine wp_region_any (by kernel_rfl) ?_
      change wpAny _ _ _ _ 11 _ _ (World.drew _)
      refine take_at (i := 0) (v := ?_) (some 24) rfl rfl (by kernel_rfl) (by kernel_rfl) (by kernel_rfl) (fun _ _ _ h => h) (Or.inl ⟨by rfl, ?_⟩) ?_
      rotate_left
      · intro w
        go_simp
        try with_reducible rfl
      try simp only [Act.put, List.setIfInBounds_toArray, List.set_cons_zero, List.set_cons_succ]
      refine take_at (i := 2) (v := ?_) (some 26) rfl rfl (by kernel_rfl) (by kernel_rfl) (by kernel_rfl) (fun _ _ _ h => h) (Or.inl ⟨by rfl, ?_⟩) ?_
      rotate_left
      · intro w
        go_simp
        try with_reducible rfl
      try simp only [Act.put, List.setIfInBounds_toArray, List.set_cons_zero, List.set_cons_succ]
      refine take_at (i := 3) (v := ?_) (some 27) rfl rfl (by kernel_rfl) (by kernel_rfl) (by kernel_rfl) (fun _ _ _ h => h) (Or.inl ⟨by rfl, ?_⟩) ?_
      rotate_left
      · intro w
        go_simp
        try with_reducible rfl
      try simp only [Act.put, List.setIfInBounds_toArray, List.set_cons_zero, List.set_cons_succ]
      refine wpAny_ready (rs := [1]) (by kernel_rfl) (by simp) ?_
      refine AllReady.cons rfl (fun K hK => ?_) AllReady.nil
      go_simp
      refine hK _ _ ?_
      clear hK K
      try simp only [Act.put, List.setIfInBounds_toArray, List.set_cons_zero, List.set_cons_succ]
      refine wpAny_ready (rs := [4]) (by kernel_rfl) (by simp) ?_
      refine AllReady.cons rfl (fun K hK => ?_) AllReady.nil
      go_simp
      refine (HFn.out.read (.slice (some ⟨bl, ol, none⟩) 0 0) ((splitS s).drop 1) W.drew wc.heap.size HGW.out HBl.out h8 HRV.out HDs.out HDl.out).mono ?_
      rw [HRd.out]
      rintro e w3 ⟨hg3, rfl, hy3⟩
      have hB3 : Below w.heap.size w w3 := HWall.out.grown hg3 HWall.out.size (fun k' e => by injection e with e; omega)
      have hR3 := (hg3.block w.heap.size (show w.heap.size < W.heap.size from hzW) (fun e => by injection e with e; omega)).trans HRW.out
      have HB3 := Lib.hid hB3
      have HR3 := Lib.hid hR3
      clear hB3 hR3
      obtain ⟨m, t, hbk3, hm3, ht3, hfm, hft⟩ := hy3 y rfl
      obtain ⟨l0, l1, l2, l3, l4, l5, l6, l7, l8, l9⟩ := hbk3.lies
      obtain ⟨Am, nm, cm, rfl, hnm, _, _⟩ := hm3.form
      obtain ⟨At, nt, ct, rfl, hnt, _, _⟩ := ht3.form
      have hyI := read_in HRd.out (hit_kind HK.out) (fun x hx => HLw.out.2 x (List.mem_of_mem_drop hx)) hm3 ht3
      have hyl := read_lens HRd.out
      have VC := validAct_c y _ _ w3 hyI (by have := HDl.out; omega) (by have := HDl.out; omega)
      rw [HVy.out] at VC
      have HVC := Lib.hid VC
      have HYI := Lib.hid hyI
      have HFm := Lib.hid hfm
      have HFt := Lib.hid hft
      have hlw3 : wc.heap.size < w3.heap.size := Nat.lt_of_lt_of_le hlW hg3.size
      have hzw3 : w.heap.size < w3.heap.size := by omega
      clear hy3 hbk3 hm3 ht3 hnm hnt hyI hyl VC hfm hft hg3
      go_simp
      refine hK _ _ ?_
      clear hK K
      try simp only [Act.put, List.setIfInBounds_toArray, List.set_cons_zero, List.set_cons_succ]
      refine take_at (i := 5) (v := ?_) (some 29) rfl rfl (by kernel_rfl) (by kernel_rfl) (by kernel_rfl) (fun _ _ _ h => h) (Or.inl ⟨by rfl, ?_⟩) ?_
      rotate_left
      · intro w
        go_simp
        try with_reducible rfl
      try simp only [Act.put, List.setIfInBounds_toArray, List.set_cons_zero, List.set_cons_succ]
      refine take_at (i := 6) (v := ?_) (some 30) rfl rfl (by kernel_rfl) (by kernel_rfl) (by kernel_rfl) (fun _ _ _ h => h) (Or.inl ⟨by rfl, ?_⟩) ?_
      rotate_left
      · intro w
        go_simp
        try with_reducible rfl
      try simp only [Act.put, List.setIfInBounds_toArray, List.set_cons_zero, List.set_cons_succ]
      refine wpAny_ready (rs := [7]) (by kernel_rfl) (by simp) ?_
      refine AllReady.cons rfl (fun K hK => ?_) AllReady.nil
      go_simp
      refine hK _ _ ?_
      clear hK K
      try simp only [Act.put, List.setIfInBounds_toArray, List.set_cons_zero, List.set_cons_succ]
      refine wpAny_ready (rs := [8]) (by kernel_rfl) (by simp) ?_
      refine AllReady.cons rfl (fun K hK => ?_) AllReady.nil
      go_simp
      refine HVC.out.mono ?_
      rintro e w4 ⟨rfl, hb4⟩
      obtain ⟨hc4, hf4⟩ := bcell hb4
      have HB4 := Lib.hid (bth HB3.out hb4)
      have HR4 := Lib.hid ((hb4.block w.heap.size hzw3).trans HR3.out)
      have HYI4 := Lib.hid ((HYI.out.below hb4 (Nat.le_refl _)).more hb4.size)
      have m0 := (hc4 wc.heap.size 0 hlw3).trans l0
      have m1 := (hc4 wc.heap.size 1 hlw3).trans l1
      have m2 := (hc4 wc.heap.size 2 hlw3).trans l2
      have m3 := (hc4 wc.heap.size 3 hlw3).trans l3
      have m4 := (hc4 wc.heap.size 4 hlw3).trans l4
      have m5 := (hc4 wc.heap.size 5 hlw3).trans l5
      have m6 := (hc4 wc.heap.size 6 hlw3).trans l6
      have m7 := (hc4 wc.heap.size 7 hlw3).trans l7
      have m8 := (hc4 wc.heap.size 8 hlw3).trans l8
      have m9 := (hc4 wc.heap.size 9 hlw3).trans l9
      clear hb4 hc4 hf4 l0 l1 l2 l3 l4 l5 l6 l7 l8 l9
      go_simp
      refine hK _ _ ?_
      clear hK K
      try simp only [Act.put, List.setIfInBounds_toArray, List.set_cons_zero, List.set_cons_succ]
      refine take_at (i := 9) (v := ?_) (some 33) rfl rfl (by kernel_rfl) (by kernel_rfl) (by kernel_rfl) (fun _ _ _ h => h) (Or.inl ⟨by rfl, ?_⟩) ?_
      rotate_left
      · intro w
        go_simp
        try with_reducible rfl
      try simp only [Act.put, List.setIfInBounds_toArray, List.set_cons_zero, List.set_cons_succ]
      refine take_at (i := 10) (v := ?_) (some 34) rfl rfl (by kernel_rfl) (by kernel_rfl) (by kernel_rfl) (fun _ _ _ h => h) (Or.inl ⟨by rfl, ?_⟩) ?_
      rotate_left
      · intro w
        go_simp
        try with_reducible rfl
      try simp only [Act.put, List.setIfInBounds_toArray, List.set_cons_zero, List.set_cons_succ]
      refine wpAny_done (by kernel_rfl) ?_ _
      have hRz := HR4.out
      rw [cells_z] at hRz
      obtain ⟨⟨d0, d1, d2, d3, d4, d5, d6, d7, d8, d9⟩, fr⟩ := blk10 hRz
      have f0 := fr 0
      have f1 := fr 1
      have f2 := fr 2
      have f3 := fr 3
      have f4 := fr 4
      have f5 := fr 5
      have f6 := fr 6
      have f7 := fr 7
      have f8 := fr 8
      have f9 := fr 9
      clear hRz fr
      go_wp2_with fail
      refine bodyPost_ret (v := .tuple #[.agg ((actZ 0).cells nilS nilS), .int .i64 3]) (by simp [results, Tryz.results10, go_sem, cells_z, nilS, d0, d1, d2, d3, d4, d5, d6, d7, d8, d9]; try rfl) rfl ?_
      refine ⟨?_, ?_⟩
      · have hb := HB4.out
        repeat' first | with_reducible exact hb | with_reducible refine bst ?_ (Nat.le_refl _) _
      · rw [parse_hit HK.out, HRd.out]
        simp [HVy.out]
set_option maxRecDepth 100000 in
set_option maxHeartbeats 16000000 in
theorem parse_ok (s : ByteArray) (w : World) (hG : Glob w) (hs : s.size ≤ 100000) (k : Nat) (hk : kindOf (nths (splitS s) 0) = some k) (y : ActD) (hr : readK k ((splitS s).drop 1) = some y) (hv : validB y = true) :
    Calls Tryz.prog 10 #[.string s] w (ParsePost w (splitS s)) := by
  have SP := fun W (h : Glob W) => Split_c s W h (by omega)
  simp only [show Lib.splitB (bs [32]) 0 (Lib.countB s (bs [32])) s = splitS s from rfl] at SP
  have HSP := Lib.hid SP
  have HP := Lib.hid (fun W => patterns_c W)
  have HG := Lib.hid hG
  have HLw := Lib.hid (split_words s hs)
  have HK := Lib.hid hk
  have HRd := Lib.hid hr
  have HVy := Lib.hid hv
  clear hr hv
  clear hk
  clear SP hG
  go_enter Tryz.func10, Tryz.ntmps10
  go_upto_region 2 with (go_at_call 21; refine (HSP.out _ (HG.out.step (bal (B0 w) _))).mono ?_; rintro e w1 ⟨v, rfl, hv, hlen, hb1⟩)
  obtain ⟨A, n, c, rfl, hn, hnc, hcm⟩ := hv.form
  have n1 : 1 ≤ n := by omega
  obtain ⟨bl, ol, rfl, hbl, hcell⟩ := hv.at_ 0 n1
  have hw0 := hcell 0 n1
  rw [Nat.add_zero] at hw0
  have i0 : (0 : Int) < (n : Int) := by omega
  have n0 : 0 < n := by omega
  have i1 : (1 : Int) ≤ (n : Int) := by omega
  have i2 : (n : Int) ≤ (c : Int) := by omega
  have i3 : (1 : Int) ≤ (c : Int) := by omega
  have n2 : 1 ≤ c := by omega
  have HV := Lib.hid hv
  have HN := Lib.hid hn
  have HR := Lib.hid (show w1.heap[w.heap.size]? = some (.cells ((actZ 0).cells nilS nilS) 26 (0, 0)) from (hb1.block w.heap.size (by simp)).trans (heap_alloc_new w _))
  have hz1 : w.heap.size < w1.heap.size := blt hb1 (by simp)
  have HB1 := Lib.hid (bth (bal (B0 w) _) hb1)
  clear hv hn hcell hb1 hlen
  go_cut [5, 6] (fun p q wx => q = .bool true ∧ HitAt w1 k p wx)
  case first =>
    rename_i J K' hJ hK'
    have HJ := Lib.hid hJ
    have HK' := Lib.hid hK'
    clear hJ hK'
    go_region_held3 (fun w' => w'.cell? ⟨bl, ol, none⟩ = some (.string (nths (splitS s) 0))) (go_simp)
      (first
        | (go_at_call 22
           refine (HP.out _).mono ?_
           rintro e w2 ⟨M, b, rfl, hL, hX, hfr, hM, hb2⟩
           have hB2 : Below w1.heap.size w1 w2 := by first | exact bth (bdr (B0 w1)) hb2 | exact bth (bdr (bal (B0 w1) _)) hb2
           obtain ⟨j, ⟨word, kind, gu, gf, caps, gr, gt⟩, hx, hj, hone, hin⟩ := patMap_hit b HK.out
           have hk1 : (Instr.lookup 52 (.map (some M)) (.string (nths (splitS s) 0)) true).run Tryz.prog w2 = .ok (.tuple #[.agg #[.string (bs word), .int .i64 kind, .func (.func gu) #[] #[], .func (.func gf) #[] caps, .func (.func gr) #[] #[], .func (.func gt) #[] #[]], .bool true]) w2 := run_look_hit Tryz.underlying52 Tryz.underlying9 hL true strKey (patMap_keys b) hone hin
           have hk2 : ∀ o, (Instr.lookup 52 (.map (some M)) (.string (nths (splitS s) 0)) true).run Tryz.prog (w2.alloc o) = .ok (.tuple #[.agg #[.string (bs word), .int .i64 kind, .func (.func gu) #[] #[], .func (.func gf) #[] caps, .func (.func gr) #[] #[], .func (.func gt) #[] #[]], .bool true]) (w2.alloc o) := fun o => run_look_hit Tryz.underlying52 Tryz.underlying9 (hL.later (bal (B0 w2) o)) true strKey (patMap_keys b) hone hin
           have HXi := Lib.hid hx
           have HJi := Lib.hid hj
           have HFr := Lib.hid (show ∀ i, i < 10 → ¬b i = w1.heap.size from fun i hi => by have := hfr i hi; simp at this; omega)
           have HBl := Lib.hid hb2.block
           clear hone hin hx hj
           have hc2 : ∀ b o, b < w1.heap.size → w2.cell? ⟨b, o, none⟩ = w1.cell? ⟨b, o, none⟩ := fun b o h => hB2.cell (p := ⟨b, o, none⟩) h
           obtain ⟨hcx, hfx⟩ := bcellD hb2
           try (have hzx : w1.heap.size < w2.heap.size := by (have hq := hb2.size; simp at hq; omega))
           have hbl2 : bl < w2.heap.size := Nat.lt_of_lt_of_le hbl hB2.size
           have hbn2 : ¬bl = w2.heap.size := by omega
           have hz2 : w.heap.size < w2.heap.size := Nat.lt_of_lt_of_le hz1 hB2.size
           have HL := Lib.hid hL
           have HX := Lib.hid hX
           clear hL hX hfr hM hb2))
    all_goals
      dsimp only [Exit.then]
      refine HK'.out _ _ (Met.intro (HJ.out _ _ ?_))
      (repeat apply Exists.intro)
      refine ⟨⟨rfl, ?_⟩, rfl⟩
    · exact ⟨w2.heap.size, ⟨word, kind, gu, gf, caps, gr, gt⟩, rfl, hB2.size, fns_same HXi.out HJi.out (BoxAt.alloc HX.out _), bal hB2 _, heap_alloc_new w2 _⟩
    · exact ⟨w2.heap.size, ⟨word, kind, gu, gf, caps, gr, gt⟩, rfl, hB2.size, fns_same HXi.out HJi.out (BoxAt.alloc HX.out _), bal hB2 _, heap_alloc_new w2 _⟩
    · refine ⟨w1.heap.size, ⟨word, kind, gu, gf, caps, gr, gt⟩, rfl, Nat.le_refl _, fns_same HXi.out HJi.out ?_, ?_, ?_⟩
      · repeat' first | with_reducible exact HX.out | with_reducible refine BoxAt.set ?_ HFr.out _ _
      · repeat' first | with_reducible exact hB2 | with_reducible refine bst ?_ (Nat.le_refl _) _
      · have h0 := (HBl.out w1.heap.size (by simp)).trans (heap_alloc_new w1 _)
        exact (set_blk (set_blk (set_blk (set_blk (set_blk (set_blk h0 _ _) _ _) _ _) _ _) _ _) _ _).trans rfl
  case rest =>
    obtain ⟨rfl, pb, ⟨word, kind, gu, gf, caps, gr, gt⟩, rfl, hpb, hF, hB2, hBlk⟩ := hcut
    have HBk := Lib.hid hBlk
    obtain ⟨⟨p0, p1, p2, p3, p4, p5⟩, _⟩ := blk6 hBlk
    have hkind : kind = k := hF.kind
    have er := hF.er
    unfold Enters at er
    simp only at er
    have hpw : pb < wc.heap.size := (Array.getElem?_eq_some_iff.1 hBlk).1
    have HFn := Lib.hid hF
    have HKd := Lib.hid hkind
    have hz2 : w.heap.size < wc.heap.size := Nat.lt_of_lt_of_le hz1 hB2.size
    have HB2 := Lib.hid hB2
    have HRc := Lib.hid ((hB2.block w.heap.size hz1).trans HR.out)
    simp only [fnV] at p4
    clear hF hB2 hBlk hkind p0 p2 p3 p5
    simp only [ptr]
    go_wp2_with fail
    refine abs_world (fun W => Below wc.heap.size wc W ∧ Blk W wc.heap.size (actZ k) nilS nilS ∧ W.cell? ⟨pb, 4, none⟩ = some (.func (.func gr) #[] #[]) ∧ wc.heap.size < W.heap.size) ⟨bal (B0 wc) _, one_new wc k _ HKd.out, by go_simp, by simp⟩ ?_
    intro W ⟨hBW, hblk, q4, hlW⟩
    have HBW := Lib.hid hBW
    have HBl := Lib.hid hblk
    have HGW : Hid (Glob W.drew) := HG.out.step (bdr (bth (bth HB1.out HB2.out) hBW))
    have h8 : 8 ≤ wc.heap.size := Nat.le_trans HG.out.size (Nat.le_trans HB1.out.size HB2.out.size)
    have hzW : w.heap.size < W.heap.size := by omega
    have HWall := Lib.hid (bdr (bth (bth HB1.out HB2.out) hBW))
    have HRW := Lib.hid ((hBW.block w.heap.size hz2).trans HRc.out)
    clear hBW hblk p1 p4
    have hds : ∀ s' ∈ (splitS s).drop 1, s'.size ≤ 1000000 := fun s' h => by have := HLw.out.2 s' (List.mem_of_mem_drop h); omega
    have hdl : ((splitS s).drop 1).length ≤ 100000 := by have := HLw.out.1; rw [List.length_drop]; omega
    have HDs := Lib.hid hds
    have HDl := Lib.hid hdl
    clear hds hdl
    by_cases hc1 : ¬c = 1
    · have hR1 : SlS W.drew wc.heap.size (.slice (some ⟨bl, ol + 1, none⟩) (n - 1) (c - 1)) ((splitS s).drop 1) :=
        SlS.below (((HV.out.drop 1 (by omega)).below HB2.out (Nat.le_refl _)).more HB2.out.size) (bdr HBW.out) (Nat.le_refl _)
      have HRV := Lib.hid hR1
      clear hR1
      refine wp_region_any (by kernel_rfl) ?_
      change wpAny _ _ _ _ 11 _ _ (World.drew _)
      refine take_at (i := 0) (v := ?_) (some 24) rfl rfl (by kernel_rfl) (by kernel_rfl) (by kernel_rfl) (fun _ _ _ h => h) (Or.inl ⟨by rfl, ?_⟩) ?_
      rotate_left
      · intro w
        go_simp
        try with_reducible rfl
      try simp only [Act.put, List.setIfInBounds_toArray, List.set_cons_zero, List.set_cons_succ]
      refine take_at (i := 2) (v := ?_) (some 26) rfl rfl (by kernel_rfl) (by kernel_rfl) (by kernel_rfl) (fun _ _ _ h => h) (Or.inl ⟨by rfl, ?_⟩) ?_
      rotate_left
      · intro w
        go_simp
        try with_reducible rfl
      try simp only [Act.put, List.setIfInBounds_toArray, List.set_cons_zero, List.set_cons_succ]
      refine take_at (i := 3) (v := ?_) (some 27) rfl rfl (by kernel_rfl) (by kernel_rfl) (by kernel_rfl) (fun _ _ _ h => h) (Or.inl ⟨by rfl, ?_⟩) ?_
      rotate_left
      · intro w
        go_simp
        try with_reducible rfl
      try simp only [Act.put, List.setIfInBounds_toArray, List.set_cons_zero, List.set_cons_succ]
      refine wpAny_ready (rs := [1]) (by kernel_rfl) (by simp) ?_
      refine AllReady.cons rfl (fun K hK => ?_) AllReady.nil
      go_simp
      refine hK _ _ ?_
      clear hK K
      try simp only [Act.put, List.setIfInBounds_toArray, List.set_cons_zero, List.set_cons_succ]
      refine wpAny_ready (rs := [4]) (by kernel_rfl) (by simp) ?_
      refine AllReady.cons rfl (fun K hK => ?_) AllReady.nil
      go_simp
      refine (HFn.out.read (.slice (some ⟨bl, ol + 1, none⟩) (n - 1) (c - 1)) ((splitS s).drop 1) W.drew wc.heap.size HGW.out HBl.out h8 HRV.out HDs.out HDl.out).mono ?_
      rw [HRd.out]
      rintro e w3 ⟨hg3, rfl, hy3⟩
      have hB3 : Below w.heap.size w w3 := HWall.out.grown hg3 HWall.out.size (fun k' e => by injection e with e; omega)
      have hR3 := (hg3.block w.heap.size (show w.heap.size < W.heap.size from hzW) (fun e => by injection e with e; omega)).trans HRW.out
      have HB3 := Lib.hid hB3
      have HR3 := Lib.hid hR3
      clear hB3 hR3
      obtain ⟨m, t, hbk3, hm3, ht3, hfm, hft⟩ := hy3 y rfl
      obtain ⟨l0, l1, l2, l3, l4, l5, l6, l7, l8, l9⟩ := hbk3.lies
      obtain ⟨Am, nm, cm, rfl, hnm, _, _⟩ := hm3.form
      obtain ⟨At, nt, ct, rfl, hnt, _, _⟩ := ht3.form
      have hyI := read_in HRd.out (hit_kind HK.out) (fun x hx => HLw.out.2 x (List.mem_of_mem_drop hx)) hm3 ht3
      have hyl := read_lens HRd.out
      have VC := validAct_c y _ _ w3 hyI (by have := HDl.out; omega) (by have := HDl.out; omega)
      rw [HVy.out] at VC
      have HVC := Lib.hid VC
      have HYI := Lib.hid hyI
      have HFm := Lib.hid hfm
      have HFt := Lib.hid hft
      have hlw3 : wc.heap.size < w3.heap.size := Nat.lt_of_lt_of_le hlW hg3.size
      have hzw3 : w.heap.size < w3.heap.size := by omega
      clear hy3 hbk3 hm3 ht3 hnm hnt hyI hyl VC hfm hft hg3
      go_simp
      refine hK _ _ ?_
      clear hK K
      try simp only [Act.put, List.setIfInBounds_toArray, List.set_cons_zero, List.set_cons_succ]
      refine take_at (i := 5) (v := ?_) (some 29) rfl rfl (by kernel_rfl) (by kernel_rfl) (by kernel_rfl) (fun _ _ _ h => h) (Or.inl ⟨by rfl, ?_⟩) ?_
      rotate_left
      · intro w
        go_simp
        try with_reducible rfl
      try simp only [Act.put, List.setIfInBounds_toArray, List.set_cons_zero, List.set_cons_succ]
      refine take_at (i := 6) (v := ?_) (some 30) rfl rfl (by kernel_rfl) (by kernel_rfl) (by kernel_rfl) (fun _ _ _ h => h) (Or.inl ⟨by rfl, ?_⟩) ?_
      rotate_left
      · intro w
        go_simp
        try with_reducible rfl
      try simp only [Act.put, List.setIfInBounds_toArray, List.set_cons_zero, List.set_cons_succ]
      refine wpAny_ready (rs := [7]) (by kernel_rfl) (by simp) ?_
      refine AllReady.cons rfl (fun K hK => ?_) AllReady.nil
      go_simp
      refine hK _ _ ?_
      clear hK K
      try simp only [Act.put, List.setIfInBounds_toArray, List.set_cons_zero, List.set_cons_succ]
      refine wpAny_ready (rs := [8]) (by kernel_rfl) (by simp) ?_
      refine AllReady.cons rfl (fun K hK => ?_) AllReady.nil
      go_simp
      refine HVC.out.mono ?_
      rintro e w4 ⟨rfl, hb4⟩
      obtain ⟨hc4, hf4⟩ := bcell hb4
      have HB4 := Lib.hid (bth HB3.out hb4)
      have HR4 := Lib.hid ((hb4.block w.heap.size hzw3).trans HR3.out)
      have HYI4 := Lib.hid ((HYI.out.below hb4 (Nat.le_refl _)).more hb4.size)
      have m0 := (hc4 wc.heap.size 0 hlw3).trans l0
      have m1 := (hc4 wc.heap.size 1 hlw3).trans l1
      have m2 := (hc4 wc.heap.size 2 hlw3).trans l2
      have m3 := (hc4 wc.heap.size 3 hlw3).trans l3
      have m4 := (hc4 wc.heap.size 4 hlw3).trans l4
      have m5 := (hc4 wc.heap.size 5 hlw3).trans l5
      have m6 := (hc4 wc.heap.size 6 hlw3).trans l6
      have m7 := (hc4 wc.heap.size 7 hlw3).trans l7
      have m8 := (hc4 wc.heap.size 8 hlw3).trans l8
      have m9 := (hc4 wc.heap.size 9 hlw3).trans l9
      clear hb4 hc4 hf4 l0 l1 l2 l3 l4 l5 l6 l7 l8 l9
      go_simp
      refine hK _ _ ?_
      clear hK K
      try simp only [Act.put, List.setIfInBounds_toArray, List.set_cons_zero, List.set_cons_succ]
      refine take_at (i := 9) (v := ?_) (some 33) rfl rfl (by kernel_rfl) (by kernel_rfl) (by kernel_rfl) (fun _ _ _ h => h) (Or.inl ⟨by rfl, ?_⟩) ?_
      rotate_left
      · intro w
        go_simp
        try with_reducible rfl
      try simp only [Act.put, List.setIfInBounds_toArray, List.set_cons_zero, List.set_cons_succ]
      refine take_at (i := 10) (v := ?_) (some 34) rfl rfl (by kernel_rfl) (by kernel_rfl) (by kernel_rfl) (fun _ _ _ h => h) (Or.inl ⟨by rfl, ?_⟩) ?_
      rotate_left
      · intro w
        go_simp
        try with_reducible rfl
      try simp only [Act.put, List.setIfInBounds_toArray, List.set_cons_zero, List.set_cons_succ]
      refine wpAny_done (by kernel_rfl) ?_ _
      have hRz := HR4.out
      rw [cells_z] at hRz
      obtain ⟨⟨d0, d1, d2, d3, d4, d5, d6, d7, d8, d9⟩, fr⟩ := blk10 hRz
      have f0 := fr 0
      have f1 := fr 1
      have f2 := fr 2
      have f3 := fr 3
      have f4 := fr 4
      have f5 := fr 5
      have f6 := fr 6
      have f7 := fr 7
      have f8 := fr 8
      have f9 := fr 9
      clear hRz fr
      go_wp2_with fail
      refine bodyPost_ret (v := .tuple #[.agg (y.cells (.slice Am nm cm) (.slice At nt ct)), .int .i64 0]) (by simp [results, Tryz.results10, go_sem, ActD.cells_def, nilS, d0, d1, d2, d3, d4, d5, d6, d7, d8, d9]) rfl ?_
      refine ⟨?_, ?_⟩
      · have hb := HB4.out
        repeat' first | with_reducible exact hb | with_reducible refine bst ?_ (Nat.le_refl _) _
      · rw [parse_hit HK.out, HRd.out]
        simp only [Option.bind_some, HVy.out, if_true]
        refine ⟨_, _, rfl, ?_⟩
        have hyi := HYI4.out
        have hfm : ∀ a n c, Value.slice Am nm cm = .slice (some a) n c → ¬a.block = w.heap.size := fun a n c e => by have : W.heap.size ≤ a.block := HFm.out a n c e; omega
        have hft : ∀ a n c, Value.slice At nt ct = .slice (some a) n c → ¬a.block = w.heap.size := fun a n c e => by have : W.heap.size ≤ a.block := HFt.out a n c e; omega
        repeat' first | with_reducible exact hyi | with_reducible refine In.set ?_ hfm hft _ _
    · obtain rfl : c = 1 := Classical.not_not.1 hc1
      obtain rfl : n = 1 := by omega
      have hd : (splitS s).drop 1 = [] := by rw [List.drop_eq_nil_iff, HN.out]; omega
      have hR1 : SlS W.drew wc.heap.size (.slice (some ⟨bl, ol, none⟩) 0 0) ((splitS s).drop 1) := by rw [hd]; exact SlS.none_ (by simp)
      have HRV := Lib.hid hR1
      clear hR1 hc1 hd
      refine wp_region_any (by kernel_rfl) ?_
      change wpAny _ _ _ _ 11 _ _ (World.drew _)
      refine take_at (i := 0) (v := ?_) (some 24) rfl rfl (by kernel_rfl) (by kernel_rfl) (by kernel_rfl) (fun _ _ _ h => h) (Or.inl ⟨by rfl, ?_⟩) ?_
      rotate_left
      · intro w
        go_simp
        try with_reducible rfl
      try simp only [Act.put, List.setIfInBounds_toArray, List.set_cons_zero, List.set_cons_succ]
      refine take_at (i := 2) (v := ?_) (some 26) rfl rfl (by kernel_rfl) (by kernel_rfl) (by kernel_rfl) (fun _ _ _ h => h) (Or.inl ⟨by rfl, ?_⟩) ?_
      rotate_left
      · intro w
        go_simp
        try with_reducible rfl
      try simp only [Act.put, List.setIfInBounds_toArray, List.set_cons_zero, List.set_cons_succ]
      refine take_at (i := 3) (v := ?_) (some 27) rfl rfl (by kernel_rfl) (by kernel_rfl) (by kernel_rfl) (fun _ _ _ h => h) (Or.inl ⟨by rfl, ?_⟩) ?_
      rotate_left
      · intro w
        go_simp
        try with_reducible rfl
      try simp only [Act.put, List.setIfInBounds_toArray, List.set_cons_zero, List.set_cons_succ]
      refine wpAny_ready (rs := [1]) (by kernel_rfl) (by simp) ?_
      refine AllReady.cons rfl (fun K hK => ?_) AllReady.nil
      go_simp
      refine hK _ _ ?_
      clear hK K
      try simp only [Act.put, List.setIfInBounds_toArray, List.set_cons_zero, List.set_cons_succ]
      refine wpAny_ready (rs := [4]) (by kernel_rfl) (by simp) ?_
      refine AllReady.cons rfl (fun K hK => ?_) AllReady.nil
      go_simp
      refine (HFn.out.read (.slice (some ⟨bl, ol, none⟩) 0 0) ((splitS s).drop 1) W.drew wc.heap.size HGW.out HBl.out h8 HRV.out HDs.out HDl.out).mono ?_
      rw [HRd.out]
      rintro e w3 ⟨hg3, rfl, hy3⟩
      have hB3 : Below w.heap.size w w3 := HWall.out.grown hg3 HWall.out.size (fun k' e => by injection e with e; omega)
      have hR3 := (hg3.block w.heap.size (show w.heap.size < W.heap.size from hzW) (fun e => by injection e with e; omega)).trans HRW.out
      have HB3 := Lib.hid hB3
      have HR3 := Lib.hid hR3
      clear hB3 hR3
      obtain ⟨m, t, hbk3, hm3, ht3, hfm, hft⟩ := hy3 y rfl
      obtain ⟨l0, l1, l2, l3, l4, l5, l6, l7, l8, l9⟩ := hbk3.lies
      obtain ⟨Am, nm, cm, rfl, hnm, _, _⟩ := hm3.form
      obtain ⟨At, nt, ct, rfl, hnt, _, _⟩ := ht3.form
      have hyI := read_in HRd.out (hit_kind HK.out) (fun x hx => HLw.out.2 x (List.mem_of_mem_drop hx)) hm3 ht3
      have hyl := read_lens HRd.out
      have VC := validAct_c y _ _ w3 hyI (by have := HDl.out; omega) (by have := HDl.out; omega)
      rw [HVy.out] at VC
      have HVC := Lib.hid VC
      have HYI := Lib.hid hyI
      have HFm := Lib.hid hfm
      have HFt := Lib.hid hft
      have hlw3 : wc.heap.size < w3.heap.size := Nat.lt_of_lt_of_le hlW hg3.size
      have hzw3 : w.heap.size < w3.heap.size := by omega
      clear hy3 hbk3 hm3 ht3 hnm hnt hyI hyl VC hfm hft hg3
      go_simp
      refine hK _ _ ?_
      clear hK K
      try simp only [Act.put, List.setIfInBounds_toArray, List.set_cons_zero, List.set_cons_succ]
      refine take_at (i := 5) (v := ?_) (some 29) rfl rfl (by kernel_rfl) (by kernel_rfl) (by kernel_rfl) (fun _ _ _ h => h) (Or.inl ⟨by rfl, ?_⟩) ?_
      rotate_left
      · intro w
        go_simp
        try with_reducible rfl
      try simp only [Act.put, List.setIfInBounds_toArray, List.set_cons_zero, List.set_cons_succ]
      refine take_at (i := 6) (v := ?_) (some 30) rfl rfl (by kernel_rfl) (by kernel_rfl) (by kernel_rfl) (fun _ _ _ h => h) (Or.inl ⟨by rfl, ?_⟩) ?_
      rotate_left
      · intro w
        go_simp
        try with_reducible rfl
      try simp only [Act.put, List.setIfInBounds_toArray, List.set_cons_zero, List.set_cons_succ]
      refine wpAny_ready (rs := [7]) (by kernel_rfl) (by simp) ?_
      refine AllReady.cons rfl (fun K hK => ?_) AllReady.nil
      go_simp
      refine hK _ _ ?_
      clear hK K
      try simp only [Act.put, List.setIfInBounds_toArray, List.set_cons_zero, List.set_cons_succ]
      refine wpAny_ready (rs := [8]) (by kernel_rfl) (by simp) ?_
      refine AllReady.cons rfl (fun K hK => ?_) AllReady.nil
      go_simp
      refine HVC.out.mono ?_
      rintro e w4 ⟨rfl, hb4⟩
      obtain ⟨hc4, hf4⟩ := bcell hb4
      have HB4 := Lib.hid (bth HB3.out hb4)
      have HR4 := Lib.hid ((hb4.block w.heap.size hzw3).trans HR3.out)
      have HYI4 := Lib.hid ((HYI.out.below hb4 (Nat.le_refl _)).more hb4.size)
      have m0 := (hc4 wc.heap.size 0 hlw3).trans l0
      have m1 := (hc4 wc.heap.size 1 hlw3).trans l1
      have m2 := (hc4 wc.heap.size 2 hlw3).trans l2
      have m3 := (hc4 wc.heap.size 3 hlw3).trans l3
      have m4 := (hc4 wc.heap.size 4 hlw3).trans l4
      have m5 := (hc4 wc.heap.size 5 hlw3).trans l5
      have m6 := (hc4 wc.heap.size 6 hlw3).trans l6
      have m7 := (hc4 wc.heap.size 7 hlw3).trans l7
      have m8 := (hc4 wc.heap.size 8 hlw3).trans l8
      have m9 := (hc4 wc.heap.size 9 hlw3).trans l9
      clear hb4 hc4 hf4 l0 l1 l2 l3 l4 l5 l6 l7 l8 l9
      go_simp
      refine hK _ _ ?_
      clear hK K
      try simp only [Act.put, List.setIfInBounds_toArray, List.set_cons_zero, List.set_cons_succ]
      refine take_at (i := 9) (v := ?_) (some 33) rfl rfl (by kernel_rfl) (by kernel_rfl) (by kernel_rfl) (fun _ _ _ h => h) (Or.inl ⟨by rfl, ?_⟩) ?_
      rotate_left
      · intro w
        go_simp
        try with_reducible rfl
      try simp only [Act.put, List.setIfInBounds_toArray, List.set_cons_zero, List.set_cons_succ]
      refine take_at (i := 10) (v := ?_) (some 34) rfl rfl (by kernel_rfl) (by kernel_rfl) (by kernel_rfl) (fun _ _ _ h => h) (Or.inl ⟨by rfl, ?_⟩) ?_
      rotate_left
      · intro w
        go_simp
        try with_reducible rfl
      try simp only [Act.put, List.setIfInBounds_toArray, List.set_cons_zero, List.set_cons_succ]
      refine wpAny_done (by kernel_rfl) ?_ _
      have hRz := HR4.out
      rw [cells_z] at hRz
      obtain ⟨⟨d0, d1, d2, d3, d4, d5, d6, d7, d8, d9⟩, fr⟩ := blk10 hRz
      have f0 := fr 0
      have f1 := fr 1
      have f2 := fr 2
      have f3 := fr 3
      have f4 := fr 4
      have f5 := fr 5
      have f6 := fr 6
      have f7 := fr 7
      have f8 := fr 8
      have f9 := fr 9
      clear hRz fr
      go_wp2_with fail
      refine bodyPost_ret (v := .tuple #[.agg (y.cells (.slice Am nm cm) (.slice At nt ct)), .int .i64 0]) (by simp [results, Tryz.results10, go_sem, ActD.cells_def, nilS, d0, d1, d2, d3, d4, d5, d6, d7, d8, d9]) rfl ?_
      refine ⟨?_, ?_⟩
      · have hb := HB4.out
        repeat' first | with_reducible exact hb | with_reducible refine bst ?_ (Nat.le_refl _) _
      · rw [parse_hit HK.out, HRd.out]
        simp only [Option.bind_some, HVy.out, if_true]
        refine ⟨_, _, rfl, ?_⟩
        have hyi := HYI4.out
        have hfm : ∀ a n c, Value.slice Am nm cm = .slice (some a) n c → ¬a.block = w.heap.size := fun a n c e => by have : W.heap.size ≤ a.block := HFm.out a n c e; omega
        have hft : ∀ a n c, Value.slice At nt ct = .slice (some a) n c → ¬a.block = w.heap.size := fun a n c e => by have : W.heap.size ≤ a.block := HFt.out a n c e; omega
        repeat' first | with_reducible exact hyi | with_reducible refine In.set ?_ hfm hft _ _
theorem parse_c (s : ByteArray) (w : World) (hG : Glob w) (hs : s.size ≤ 100000) :
    Calls Tryz.prog 10 #[.string s] w (ParsePost w (splitS s)) := by
  cases hk : kindOf (nths (splitS s) 0) with
  | none => exact parse_miss s w hG hs hk
  | some k =>
    cases hr : readK k ((splitS s).drop 1) with
    | none => exact parse_bad s w hG hs k hk hr
    | some y =>
      cases hv : validB y with
      | false => exact parse_inv s w hG hs k hk y hr hv
      | true => exact parse_ok s w hG hs k hk y hr hv
end Go.Proofs.YtdgciagmcjdhhaaGreatDoor
