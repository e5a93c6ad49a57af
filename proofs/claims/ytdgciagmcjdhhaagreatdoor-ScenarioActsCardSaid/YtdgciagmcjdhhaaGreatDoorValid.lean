/-
  The program's ValidAct.
-/
import Derived.Test.YtdgciagmcjdhhaaGreatDoorFind
set_option linter.unusedVariables false
set_option linter.unusedSimpArgs false
namespace Go.Proofs.YtdgciagmcjdhhaaGreatDoor
open Go Go.RowKit Go.MapKept Go.ChangeMaps

theorem find_yes (k : Int) (h0 : 0 ≤ k) (h17 : k ≤ 17) (w : World) : Calls Tryz.prog 12 #[.int .i64 k] w fun e w' => ∃ (x : Item), FnsOk w' k.toNat x ∧ e = .returned (.tuple #[.agg #[.string (bs x.word), .int .i64 x.kind, .func (.func x.gu) #[] #[], .func (.func x.gf) #[] x.caps, .func (.func x.gr) #[] #[], .func (.func x.gt) #[] #[]], .bool true]) ∧ Below w.heap.size w w' :=
  (find_c k w).mono fun e w' ⟨hb, h⟩ => by
    rcases h with ⟨n, x, rfl, hF, he⟩ | ⟨h, _⟩
    · exact ⟨x, hF, he, hb⟩
    · omega
theorem find_no (k : Int) (h : ¬(0 ≤ k ∧ k ≤ 17)) (w : World) : Calls Tryz.prog 12 #[.int .i64 k] w fun e w' => e = .returned (.tuple #[.agg #[.string ⟨#[]⟩, .int .i64 0, .nilFunc, .nilFunc, .nilFunc, .nilFunc], .bool false]) ∧ Below w.heap.size w w' :=
  (find_c k w).mono fun e w' ⟨hb, h'⟩ => by
    rcases h' with ⟨n, x, rfl, hF, he⟩ | ⟨_, he⟩
    · have := hF.lt; omega
    · exact ⟨he, hb⟩
set_option maxRecDepth 100000 in
set_option maxHeartbeats 4000000 in
theorem valid_no (x : ActD) (m s : Value) (w : World) (h : ¬(0 ≤ x.kind ∧ x.kind ≤ 17)) :
    Calls Tryz.prog 7 #[.agg (x.cells m s)] w fun e w' => e = .returned (.bool false) ∧ Below w.heap.size w w' := by
  have HF := Lib.hid (fun W => find_no x.kind h W)
  clear h
  rw [ActD.cells_def]
  go_enter Tryz.func7, Tryz.ntmps7
  go_wp2_with (go_at_call 12; refine (HF.out _).mono ?_; rintro e w1 ⟨rfl, hb1⟩)
  go_ret
  exact ⟨rfl, bal (bth (bal (B0 w) _) hb1) _⟩
theorem turns_below {w w' : World} {b B : Nat} {a : World} (h : TurnsOnly w w' b) (hb : Below B a w) (hB : B ≤ b) : Below B a w' := h.1 B a hb hB
theorem Lies.turns {w w' : World} {b c : Nat} {x : ActD} {m s : Value} (h : Lies w b x m s) (hT : TurnsOnly w w' c) (hne : b ≠ c) : Lies w' b x m s := h.keep fun _ => hT.cell hne
theorem two_new (w1 : World) (o1 : Obj) (k : Nat) (kx : Int) (hk : kx = k) : Blk ((w1.alloc o1).alloc (.cells #[.int .i64 kx, .int .i64 0, .int .i64 0, .int .i64 0, .int .i64 0, .string ⟨#[]⟩, .int .i64 0, .int .i64 0, .slice none 0 0, .slice none 0 0] 26)) (w1.heap.size + 1) (actZ k) nilS nilS := by
  have BB := heap_alloc_new (w1.alloc o1) (.cells #[.int .i64 kx, .int .i64 0, .int .i64 0, .int .i64 0, .int .i64 0, .string ⟨#[]⟩, .int .i64 0, .int .i64 0, .slice none 0 0, .slice none 0 0] 26)
  rw [show (w1.alloc o1).heap.size = w1.heap.size + 1 by simp] at BB
  unfold Blk
  rw [cells_z, ← hk]
  exact BB
set_option maxRecDepth 100000 in
set_option maxHeartbeats 8000000 in
theorem valid_yes (x : ActD) (m s : Value) (w : World) (hx : x.In w w.heap.size m s) (hms : x.ms.length ≤ 1000000) (hss : x.ss.length ≤ 1000000) (h0 : 0 ≤ x.kind) (h17 : x.kind ≤ 17) :
    Calls Tryz.prog 7 #[.agg (x.cells m s)] w fun e w' => e = .returned (.bool (sameB x (usedD x) && fitK x.kind x)) ∧ Below w.heap.size w w' := by
  obtain ⟨k, hk⟩ : ∃ k : Nat, x.kind = k := ⟨x.kind.toNat, by omega⟩
  have ek : x.kind.toNat = k := by omega
  have HF := fun W => find_yes x.kind h0 h17 W
  rw [ek] at HF
  have HFi := Lib.hid HF
  have HX := Lib.hid hx
  have HK := Lib.hid hk
  clear hk ek h0 h17 HF
  obtain ⟨Am, nm, cm, rfl, _, _, _⟩ := hx.ms.form
  obtain ⟨As, ns, cs, rfl, _, _, _⟩ := hx.ss.form
  obtain ⟨m', hm'⟩ : ∃ m', m' = if k = 15 then Value.slice Am nm cm else nilS := ⟨_, rfl⟩
  obtain ⟨s', hs'⟩ : ∃ s', s' = if k = 5 then Value.slice As ns cs else nilS := ⟨_, rfl⟩
  obtain ⟨y, hy⟩ : ∃ y, y = usedD x := ⟨_, rfl⟩
  have hyI : y.In w w.heap.size m' s' := by
    have h := used_in hx
    rw [← hy] at h
    have e1 : (if x.kind = 15 then Value.slice Am nm cm else .slice none 0 0) = m' := by
      rw [hm', HK.out]
      by_cases e : k = 15
      · rw [if_pos e, if_pos (by omega)]
      · rw [if_neg e, if_neg (by omega)]; rfl
    have e2 : (if x.kind = 5 then Value.slice As ns cs else .slice none 0 0) = s' := by
      rw [hs', HK.out]
      by_cases e : k = 5
      · rw [if_pos e, if_pos (by omega)]
      · rw [if_neg e, if_neg (by omega)]; rfl
    rwa [e1, e2] at h
  have HU : Hid (∀ (w1 : World) (it : Item) (W : World) (px pa : Nat), FnsOk w1 k it → Blk W px (actZ k) nilS nilS → Lies W pa x (.slice Am nm cm) (.slice As ns cs) → px ≠ pa → Calls Tryz.prog it.gu #[ptr px, ptr pa] W (UsedPost W px y m' s')) := fun w1 it W px pa hF h1 h2 h3 => by
    have h := hF.used x (.slice Am nm cm) (.slice As ns cs) W px pa ⟨_, _, _, rfl⟩ ⟨_, _, _, rfl⟩ h1 h2 h3
    have e : ({ x with kind := (k : Int) } : ActD) = x := by rw [← HK.out]
    rw [e, ← hy, ← hm', ← hs'] at h
    exact h
  have HY := Lib.hid hyI
  have HE := Lib.hid hy
  clear hx hm' hs' hyI hy
  rw [ActD.cells_def]
  cases hs : sameB x (usedD x) with
  | false =>
    have HS := Lib.hid (show sameB x y = false by rw [HE.out]; exact hs)
    clear hs
    go_enter Tryz.func7, Tryz.ntmps7
    go_wp2_with (first
      | (go_at_call 12
         refine (HFi.out _).mono ?_
         rintro e w1 ⟨⟨word, kind, gu, gf, caps, gr, gt⟩, hF, rfl, hb1⟩
         have HFn := Lib.hid hF
         have eu := hF.eu
         have ef := hF.ef
         unfold Enters at eu ef
         simp only at eu ef
         have hz1 : w.heap.size < w1.heap.size := blt hb1 (by simp)
         have HB1 := Lib.hid (bth (bal (B0 w) _) hb1)
         have HL1 := Lib.hid ((Lies.new w 26 x (.slice Am nm cm) (.slice As ns cs)).below hb1 (by simp))
         obtain ⟨hc1, hf1⟩ := bcell hb1
         clear hF hb1))
    refine (HU.out w1 ⟨word, kind, gu, gf, caps, gr, gt⟩ _ (w1.heap.size + 1) w.heap.size HFn.out (two_new w1 _ k _ HK.out) (HL1.out.below (bal (bal (B0 w1) _) _) hz1) (by omega)).mono ?_
    rintro e w2 ⟨⟨v, rfl⟩, hT, hBk⟩
    have hsz2 : w2.heap.size = w1.heap.size + 1 + 1 := hT.2.1.trans (by simp)
    obtain ⟨l0, l1, l2, l3, l4, l5, l6, l7, l8, l9⟩ := Lies.turns (HL1.out.below (bal (bal (B0 w1) _) _) hz1) hT (by omega)
    obtain ⟨q0, q1, q2, q3, q4, q5, q6, q7, q8, q9⟩ := hBk.lies
    have p3 : w2.cell? ⟨w1.heap.size, 3, none⟩ = some (.func (.func gf) #[] caps) := (hT.cell (by simp)).trans (by go_simp)
    have hB2 := hT.1 w1.heap.size w1 (bal (bal (B0 w1) _) _) (by omega)
    have HBA := Lib.hid (bth HB1.out hB2)
    have HB2 := Lib.hid hB2
    have hz2 : w.heap.size < w2.heap.size := by omega
    have hp2 : w1.heap.size < w2.heap.size := by omega
    have hq2 : w1.heap.size + 1 < w2.heap.size := by omega
    have SC := same_c x y (.slice Am nm cm) (.slice As ns cs) m' s' w2 ((HX.out.below HBA.out (Nat.le_refl _)).more HBA.out.size) ((HY.out.below HBA.out (Nat.le_refl _)).more HBA.out.size)
    rw [HS.out] at SC
    have HSC := Lib.hid SC
    clear SC hT hBk hc1 hf1 hsz2 hB2 hz1
    go_wp2_with (go_at_call 14; refine HSC.out.mono ?_; rintro e w3 ⟨rfl, hb3⟩; obtain ⟨hc3, hf3⟩ := bcell hb3; have HB3 := Lib.hid (bth HBA.out hb3); have HB3' := Lib.hid (bth HB2.out hb3); clear hb3)
    go_ret
    exact ⟨rfl, HB3.out⟩
  | true =>
    have HS := Lib.hid (show sameB x y = true by rw [HE.out]; exact hs)
    clear hs
    go_enter Tryz.func7, Tryz.ntmps7
    go_wp2_with (first
      | (go_at_call 12
         refine (HFi.out _).mono ?_
         rintro e w1 ⟨⟨word, kind, gu, gf, caps, gr, gt⟩, hF, rfl, hb1⟩
         have HFn := Lib.hid hF
         have eu := hF.eu
         have ef := hF.ef
         unfold Enters at eu ef
         simp only at eu ef
         have hz1 : w.heap.size < w1.heap.size := blt hb1 (by simp)
         have HB1 := Lib.hid (bth (bal (B0 w) _) hb1)
         have HL1 := Lib.hid ((Lies.new w 26 x (.slice Am nm cm) (.slice As ns cs)).below hb1 (by simp))
         obtain ⟨hc1, hf1⟩ := bcell hb1
         clear hF hb1))
    refine (HU.out w1 ⟨word, kind, gu, gf, caps, gr, gt⟩ _ (w1.heap.size + 1) w.heap.size HFn.out (two_new w1 _ k _ HK.out) (HL1.out.below (bal (bal (B0 w1) _) _) hz1) (by omega)).mono ?_
    rintro e w2 ⟨⟨v, rfl⟩, hT, hBk⟩
    have hsz2 : w2.heap.size = w1.heap.size + 1 + 1 := hT.2.1.trans (by simp)
    obtain ⟨l0, l1, l2, l3, l4, l5, l6, l7, l8, l9⟩ := Lies.turns (HL1.out.below (bal (bal (B0 w1) _) _) hz1) hT (by omega)
    obtain ⟨q0, q1, q2, q3, q4, q5, q6, q7, q8, q9⟩ := hBk.lies
    have p3 : w2.cell? ⟨w1.heap.size, 3, none⟩ = some (.func (.func gf) #[] caps) := (hT.cell (by simp)).trans (by go_simp)
    have hB2 := hT.1 w1.heap.size w1 (bal (bal (B0 w1) _) _) (by omega)
    have HBA := Lib.hid (bth HB1.out hB2)
    have HB2 := Lib.hid hB2
    have hz2 : w.heap.size < w2.heap.size := by omega
    have hp2 : w1.heap.size < w2.heap.size := by omega
    have hq2 : w1.heap.size + 1 < w2.heap.size := by omega
    have SC := same_c x y (.slice Am nm cm) (.slice As ns cs) m' s' w2 ((HX.out.below HBA.out (Nat.le_refl _)).more HBA.out.size) ((HY.out.below HBA.out (Nat.le_refl _)).more HBA.out.size)
    rw [HS.out] at SC
    have HSC := Lib.hid SC
    clear SC hT hBk hc1 hf1 hsz2 hB2 hz1
    go_wp2_with (go_at_call 14; refine HSC.out.mono ?_; rintro e w3 ⟨rfl, hb3⟩; obtain ⟨hc3, hf3⟩ := bcell hb3; have HB3 := Lib.hid (bth HBA.out hb3); have HB3' := Lib.hid (bth HB2.out hb3); clear hb3)
    have hXw3 := (HX.out.below HB3.out (Nat.le_refl _)).more HB3.out.size
    refine (HFn.out.fits x (.slice Am nm cm) (.slice As ns cs) w3 HB3'.out hXw3.a hXw3.ms hXw3.ss hms hss).mono ?_
    rintro e w4 ⟨rfl, hb4⟩
    clear hXw3
    go_wp2_with fail
    go_ret
    exact ⟨ret_bool (by rw [HK.out]; simp), bth HB3.out hb4⟩
theorem validAct_c (x : ActD) (m s : Value) (w : World) (hx : x.In w w.heap.size m s) (hms : x.ms.length ≤ 1000000) (hss : x.ss.length ≤ 1000000) :
    Calls Tryz.prog 7 #[.agg (x.cells m s)] w fun e w' => e = .returned (.bool (validB x)) ∧ Below w.heap.size w w' := by
  rw [← validP_eq]
  by_cases h : 0 ≤ x.kind ∧ x.kind ≤ 17
  · refine (valid_yes x m s w hx hms hss h.1 h.2).mono fun e w' ⟨he, hb⟩ => ⟨?_, hb⟩
    rw [he]
    exact ret_bool (by simp [validP, h.1, h.2])
  · refine (valid_no x m s w h).mono fun e w' ⟨he, hb⟩ => ⟨?_, hb⟩
    rw [he]
    refine ret_bool ?_
    have : (decide (0 ≤ x.kind) && decide (x.kind ≤ 17)) = false := by
      rw [Bool.eq_false_iff]
      intro e
      simp only [Bool.and_eq_true, decide_eq_true_eq] at e
      exact h e
    simp [validP, this]
end Go.Proofs.YtdgciagmcjdhhaaGreatDoor
