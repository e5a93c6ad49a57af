/-
  The law ScenarioActs: true at every act.
-/
import Derived.Test.YtdgciagmcjdhhaaGreatDoorAwake
import Derived.Test.YtdgciagmcjdhhaaGreatDoorRef5
set_option linter.unusedVariables false
set_option linter.unusedSimpArgs false
namespace Go.Proofs.YtdgciagmcjdhhaaGreatDoor
open Go Go.RowKit Go.MapKept Go.ChangeMaps

set_option maxRecDepth 100000 in
set_option maxHeartbeats 4000000 in
theorem acts_long (x : ActD) (Am As : Option Addr) (nm cm ns cs : Nat) (w : World) (hG : Glob w) (hl : 20 < nm ∨ 25 < ns ∨ 40 < x.key.size) :
    Calls Tryz.prog 3 #[.agg (x.cells (.slice Am nm cm) (.slice As ns cs))] w fun e w' => e = .returned (.bool true) ∧ Below w.heap.size w w' := by
  have HA := Lib.hid (fun W (h : Glob W) => awake_c W h)
  have HG := Lib.hid hG
  clear hG
  rw [ActD.cells_def]
  by_cases h1 : 20 < nm
  · have i1 : (20 : Int) < (nm : Int) := by omega
    go_enter Tryz.func3, Tryz.ntmps3
    go_wp2_with (go_at_call 5; refine (HA.out _ (HG.out.step (bal (B0 w) _))).mono ?_; rintro e w1 ⟨rfl, hb1⟩)
    go_ret
    exact ⟨rfl, bth (bal (B0 w) _) hb1⟩
  by_cases h2 : 25 < ns
  · have i1 : ¬(20 : Int) < (nm : Int) := by omega
    have i2 : (25 : Int) < (ns : Int) := by omega
    go_enter Tryz.func3, Tryz.ntmps3
    go_wp2_with (go_at_call 5; refine (HA.out _ (HG.out.step (bal (B0 w) _))).mono ?_; rintro e w1 ⟨rfl, hb1⟩)
    go_ret
    exact ⟨rfl, bth (bal (B0 w) _) hb1⟩
  · have i1 : ¬(20 : Int) < (nm : Int) := by omega
    have i2 : ¬(25 : Int) < (ns : Int) := by omega
    have h3 : 40 < x.key.size := by omega
    have i3 : (40 : Int) < (x.key.size : Int) := by omega
    go_enter Tryz.func3, Tryz.ntmps3
    go_wp2_with (go_at_call 5; refine (HA.out _ (HG.out.step (bal (B0 w) _))).mono ?_; rintro e w1 ⟨rfl, hb1⟩)
    go_ret
    exact ⟨rfl, bth (bal (B0 w) _) hb1⟩
set_option maxRecDepth 100000 in
set_option maxHeartbeats 8000000 in
theorem acts_bad (x : ActD) (Am As : Option Addr) (nm cm ns cs : Nat) (w : World) (hG : Glob w) (hx : x.In w w.heap.size (.slice Am nm cm) (.slice As ns cs)) (hm : x.ms.length = nm) (hs : x.ss.length = ns) (h1 : ¬20 < nm) (h2 : ¬25 < ns) (h3 : ¬40 < x.key.size) (hv : validB x = false) :
    Calls Tryz.prog 3 #[.agg (x.cells (.slice Am nm cm) (.slice As ns cs))] w fun e w' => e = .returned (.bool true) ∧ Below w.heap.size w w' := by
  have HA := Lib.hid (fun W (h : Glob W) => awake_c W h)
  have HG := Lib.hid hG
  have HX := Lib.hid hx
  have eT : actText x = [] := by unfold actText; rw [hv]; rfl
  have HAct : Hid (∀ W, Below w.heap.size w W → Calls Tryz.prog 6 #[.agg (x.cells (.slice Am nm cm) (.slice As ns cs))] W fun e w' => e = .returned (.string ⟨#[]⟩) ∧ Below W.heap.size W w') := fun W h => by
    have c := act_c x _ _ W (hG.step h) ((hx.below h (Nat.le_refl _)).more h.size) (by omega) (by omega)
    rw [eT] at c
    exact c
  have HrAct : Hid (∀ W, Below w.heap.size w W → Calls Tryz.prog 9 #[.agg (x.cells (.slice Am nm cm) (.slice As ns cs))] W fun e w' => e = .returned (.string ⟨#[]⟩) ∧ Below W.heap.size W w') := fun W h => by
    have c := rAct_c x _ _ W ((hx.below h (Nat.le_refl _)).more h.size) (by omega) (by omega)
    rw [eT] at c
    exact c
  have HVal : Hid (∀ W, Below w.heap.size w W → Calls Tryz.prog 7 #[.agg (x.cells (.slice Am nm cm) (.slice As ns cs))] W fun e w' => e = .returned (.bool false) ∧ Below W.heap.size W w') := fun W h => by
    have c := validAct_c x _ _ W ((hx.below h (Nat.le_refl _)).more h.size) (by omega) (by omega)
    rw [hv] at c
    exact c
  have HrVal : Hid (∀ W, Below w.heap.size w W → Calls Tryz.prog 8 #[.agg (x.cells (.slice Am nm cm) (.slice As ns cs))] W fun e w' => e = .returned (.bool false) ∧ Below W.heap.size W w') := fun W h => by
    have c := rValidAct_c x _ _ W ((hx.below h (Nat.le_refl _)).more h.size)
    rw [hv] at c
    exact c
  have i1 : ¬(20 : Int) < (nm : Int) := by omega
  have i2 : ¬(25 : Int) < (ns : Int) := by omega
  have i3 : ¬(40 : Int) < (x.key.size : Int) := by omega
  clear hG hx hm hs hv eT
  simp only [ActD.cells_def] at HAct HrAct HVal HrVal ⊢
  go_enter Tryz.func3, Tryz.ntmps3
  go_wp2_with (go_at_call 6; refine (HAct.out _ (bal (B0 w) _)).mono ?_; rintro e w1 ⟨rfl, hb1⟩)
  have HB1 := Lib.hid (bth (bal (B0 w) _) hb1)
  have hz1 : w.heap.size < w1.heap.size := blt hb1 (by simp)
  obtain ⟨l0, l1, l2, l3, l4, l5, l6, l7, l8, l9⟩ := (Lies.new w 26 x (.slice Am nm cm) (.slice As ns cs)).below hb1 (by simp)
  clear hb1
  go_region_held3 (fun w' => w'.cell? ⟨w.heap.size, 0, none⟩ = some (.int .i64 x.kind) ∧ w'.cell? ⟨w.heap.size, 1, none⟩ = some (.int .i64 x.a) ∧ w'.cell? ⟨w.heap.size, 2, none⟩ = some (.int .i64 x.b) ∧ w'.cell? ⟨w.heap.size, 3, none⟩ = some (.int .i64 x.c) ∧ w'.cell? ⟨w.heap.size, 4, none⟩ = some (.int .i64 x.ok) ∧ w'.cell? ⟨w.heap.size, 5, none⟩ = some (.string x.key) ∧ w'.cell? ⟨w.heap.size, 6, none⟩ = some (.int .i64 x.val) ∧ w'.cell? ⟨w.heap.size, 7, none⟩ = some (.int .i64 x.old) ∧ w'.cell? ⟨w.heap.size, 8, none⟩ = some (.slice Am nm cm) ∧ w'.cell? ⟨w.heap.size, 9, none⟩ = some (.slice As ns cs)) (go_simp)
    (first
      | (go_at_call 7
         refine (HVal.out _ (bdr HB1.out)).mono ?_
         rintro e w2 ⟨rfl, hb2⟩
         have hB2 := bth (bdr HB1.out) hb2
         have hz2 : w.heap.size < w2.heap.size := blt hb2 hz1
         obtain ⟨hc2, hf2⟩ := bcellD hb2)
      | (go_at_call 8
         refine (HrVal.out _ hB2).mono ?_
         rintro e w3 ⟨rfl, hb3⟩
         have hB3 := bth hB2 hb3
         have hz3 : w.heap.size < w3.heap.size := blt hb3 hz2
         obtain ⟨hc3, hf3⟩ := bcell hb3)
      | (go_at_call 9
         refine (HrAct.out _ hB3).mono ?_
         rintro e w4 ⟨rfl, hb4⟩
         have hB4 := bth hB3 hb4
         have hz4 : w.heap.size < w4.heap.size := blt hb4 hz3
         obtain ⟨hc4, hf4⟩ := bcell hb4))
  go_wp2_with (go_at_call 5; refine (HA.out _ (HG.out.step hB4)).mono ?_; rintro e w5 ⟨rfl, hb5⟩)
  go_ret
  exact ⟨rfl, bth hB4 hb5⟩
set_option maxRecDepth 100000 in
set_option maxHeartbeats 8000000 in
theorem acts_ok (x : ActD) (Am As : Option Addr) (nm cm ns cs : Nat) (w : World) (hG : Glob w) (hx : x.In w w.heap.size (.slice Am nm cm) (.slice As ns cs)) (hm : x.ms.length = nm) (hs : x.ss.length = ns) (h1 : ¬20 < nm) (h2 : ¬25 < ns) (h3 : ¬40 < x.key.size) (hv : validB x = true) :
    Calls Tryz.prog 3 #[.agg (x.cells (.slice Am nm cm) (.slice As ns cs))] w fun e w' => e = .returned (.bool true) ∧ Below w.heap.size w w' := by
  have HA := Lib.hid (fun W (h : Glob W) => awake_c W h)
  have HG := Lib.hid hG
  have HX := Lib.hid hx
  have eT : actText x = textL x := by unfold actText; rw [hv]; rfl
  have HAct : Hid (∀ W, Below w.heap.size w W → Calls Tryz.prog 6 #[.agg (x.cells (.slice Am nm cm) (.slice As ns cs))] W fun e w' => e = .returned (.string (bs (textL x))) ∧ Below W.heap.size W w') := fun W h => by
    have c := act_c x _ _ W (hG.step h) ((hx.below h (Nat.le_refl _)).more h.size) (by omega) (by omega)
    rw [eT] at c
    exact c
  have HrAct : Hid (∀ W, Below w.heap.size w W → Calls Tryz.prog 9 #[.agg (x.cells (.slice Am nm cm) (.slice As ns cs))] W fun e w' => e = .returned (.string (bs (textL x))) ∧ Below W.heap.size W w') := fun W h => by
    have c := rAct_c x _ _ W ((hx.below h (Nat.le_refl _)).more h.size) (by omega) (by omega)
    rw [eT] at c
    exact c
  have HVal : Hid (∀ W, Below w.heap.size w W → Calls Tryz.prog 7 #[.agg (x.cells (.slice Am nm cm) (.slice As ns cs))] W fun e w' => e = .returned (.bool true) ∧ Below W.heap.size W w') := fun W h => by
    have c := validAct_c x _ _ W ((hx.below h (Nat.le_refl _)).more h.size) (by omega) (by omega)
    rw [hv] at c
    exact c
  have HrVal : Hid (∀ W, Below w.heap.size w W → Calls Tryz.prog 8 #[.agg (x.cells (.slice Am nm cm) (.slice As ns cs))] W fun e w' => e = .returned (.bool true) ∧ Below W.heap.size W w') := fun W h => by
    have c := rValidAct_c x _ _ W ((hx.below h (Nat.le_refl _)).more h.size)
    rw [hv] at c
    exact c
  have i1 : ¬(20 : Int) < (nm : Int) := by omega
  have i2 : ¬(25 : Int) < (ns : Int) := by omega
  have i3 : ¬(40 : Int) < (x.key.size : Int) := by omega
  have HTs := Lib.hid (text_size x hx.num hx.key (by omega) (by omega))
  have hne : (bs (textL x)).toList.isEmpty = false := by
    rw [ba_toList, bs_data, List.isEmpty_eq_false_iff]; exact textL_ne x hv
  have hne2 : ¬(bs (textL x)).toList = [] := by rw [ba_toList, bs_data]; exact textL_ne x hv
  have HPs := Lib.hid (parse_text x hx.num hv)
  have HPar : Hid (∀ W, Glob W → Calls Tryz.prog 10 #[.string (bs (textL x))] W fun e w' => ∃ Am nm cm At nt ct, e = .returned (.tuple #[.agg (x.cells (.slice Am nm cm) (.slice At nt ct)), .int .i64 0]) ∧ x.In w' w'.heap.size (.slice Am nm cm) (.slice At nt ct) ∧ Below W.heap.size W w') :=
    fun W h => parse_some_c HPs.out (text_short x hx.num (by omega) (by omega) (by omega)) W h
  have HSame : Hid (∀ (Bm Bt : Option Addr) (pm qm pt qt : Nat) (W : World), Below w.heap.size w W → x.In W W.heap.size (.slice Bm pm qm) (.slice Bt pt qt) → Calls Tryz.prog 11 #[.agg (x.cells (.slice Am nm cm) (.slice As ns cs)), .agg (x.cells (.slice Bm pm qm) (.slice Bt pt qt))] W fun e w' => e = .returned (.bool true) ∧ Below W.heap.size W w') := fun Bm Bt pm qm pt qt W hb hI => by
    have c := Same_c x x (.slice Am nm cm) (.slice As ns cs) (.slice Bm pm qm) (.slice Bt pt qt) W ((hx.below hb (Nat.le_refl _)).more hb.size) hI
    rw [same_refl] at c
    exact c
  clear hG hx hm hs hv eT
  simp only [ActD.cells_def] at HAct HrAct HVal HrVal HPar HSame ⊢
  go_enter Tryz.func3, Tryz.ntmps3
  go_wp2_with (go_at_call 6; refine (HAct.out _ (bal (B0 w) _)).mono ?_; rintro e w1 ⟨rfl, hb1⟩)
  have HB1 := Lib.hid (bth (bal (B0 w) _) hb1)
  have hz1 : w.heap.size < w1.heap.size := blt hb1 (by simp)
  obtain ⟨l0, l1, l2, l3, l4, l5, l6, l7, l8, l9⟩ := (Lies.new w 26 x (.slice Am nm cm) (.slice As ns cs)).below hb1 (by simp)
  clear hb1
  go_region_held3 (fun w' => w'.cell? ⟨w.heap.size, 0, none⟩ = some (.int .i64 x.kind) ∧ w'.cell? ⟨w.heap.size, 1, none⟩ = some (.int .i64 x.a) ∧ w'.cell? ⟨w.heap.size, 2, none⟩ = some (.int .i64 x.b) ∧ w'.cell? ⟨w.heap.size, 3, none⟩ = some (.int .i64 x.c) ∧ w'.cell? ⟨w.heap.size, 4, none⟩ = some (.int .i64 x.ok) ∧ w'.cell? ⟨w.heap.size, 5, none⟩ = some (.string x.key) ∧ w'.cell? ⟨w.heap.size, 6, none⟩ = some (.int .i64 x.val) ∧ w'.cell? ⟨w.heap.size, 7, none⟩ = some (.int .i64 x.old) ∧ w'.cell? ⟨w.heap.size, 8, none⟩ = some (.slice Am nm cm) ∧ w'.cell? ⟨w.heap.size, 9, none⟩ = some (.slice As ns cs)) (go_simp)
    (first
      | (go_at_call 7
         refine (HVal.out _ (bdr HB1.out)).mono ?_
         rintro e w2 ⟨rfl, hb2⟩
         have hB2 := bth (bdr HB1.out) hb2
         have hz2 : w.heap.size < w2.heap.size := blt hb2 hz1
         obtain ⟨hc2, hf2⟩ := bcellD hb2)
      | (go_at_call 8
         refine (HrVal.out _ hB2).mono ?_
         rintro e w3 ⟨rfl, hb3⟩
         have hB3 := bth hB2 hb3
         have hz3 : w.heap.size < w3.heap.size := blt hb3 hz2
         obtain ⟨hc3, hf3⟩ := bcell hb3)
      | (go_at_call 9
         refine (HrAct.out _ hB3).mono ?_
         rintro e w4 ⟨rfl, hb4⟩
         have hB4 := bth hB3 hb4
         have hz4 : w.heap.size < w4.heap.size := blt hb4 hz3
         obtain ⟨hc4, hf4⟩ := bcell hb4))
  go_wp2_with fail
  refine (HPar.out _ (HG.out.step hB4)).mono ?_
  rintro e w5 ⟨Bm, pm, qm, Bt, pt, qt, rfl, hI5, hb5⟩
  have hB5 := bth hB4 hb5
  have hz5 : w.heap.size < w5.heap.size := blt hb5 hz4
  have HI5 := Lib.hid ((hI5.below (bal (B0 w5) (.cells (x.cells (.slice Bm pm qm) (.slice Bt pt qt)) 26)) (Nat.le_refl _)).more (bal (B0 w5) (.cells (x.cells (.slice Bm pm qm) (.slice Bt pt qt)) 26)).size)
  obtain ⟨hc5, hf5⟩ := bcell hb5
  clear hI5
  go_wp2_with fail
  refine (HSame.out Bm Bt pm qm pt qt _ (bal hB5 _) HI5.out).mono ?_
  rintro e w6 ⟨rfl, hb6⟩
  go_wp2_with fail
  have hB6 := bth (bal hB5 _) hb6
  refine (HA.out _ (HG.out.step hB6)).mono ?_
  rintro e w7 ⟨rfl, hb7⟩
  go_wp2_with fail
  go_ret
  exact ⟨rfl, bth hB6 hb7⟩
end Go.Proofs.YtdgciagmcjdhhaaGreatDoor
