/-
  The reference's Act: the text of a valid act.
-/
import Derived.Test.YtdgciagmcjdhhaaGreatDoorTxt
set_option linter.unusedVariables false
set_option linter.unusedSimpArgs false
namespace Go.Proofs.YtdgciagmcjdhhaaGreatDoor
open Go Go.RowKit

set_option maxRecDepth 100000 in
set_option maxHeartbeats 4000000 in
theorem rAct_0 (x : ActD) (m s : Value) (w : World) (hx : x.In w w.heap.size m s) (hv : validB x = true) (hms : x.ms.length ≤ 100) (hss : x.ss.length ≤ 100) (hk : x.kind = 0) :
    Calls Tryz.prog 9 #[.agg (x.cells m s)] w fun e w' => e = .returned (.string (bs (textL x))) ∧ Below w.heap.size w w' := by
  obtain ⟨Am, nm, cm, rfl, hnm, _, hcm⟩ := hx.ms.form
  obtain ⟨As, ns, cs, rfl, hns, _, hcs⟩ := hx.ss.form
  have HX := Lib.hid hx
  have ia := hx.a; have ib := hx.b; have ic := hx.c; have iv := hx.val; have io := hx.old; have hkey := hx.key
  have valid' := fun W hb => rValidAct_c x (.slice Am nm cm) (.slice As ns cs) W ((HX.out.below hb (Nat.le_refl _)).more (Below.size hb))
  rw [hv] at valid'
  have HV := Lib.hid valid'
  have hM := Lib.hid hms; have hS := Lib.hid hss
  have HT : Hid (textL x = wordL 0 ++ Lib.joinTail [32] (argsL x)) := by rw [textL_eq, hk]; rfl
  have word' := fun W => word_c 0 (by decide) W
  rw [show ((((0 : Nat) : Int))) = x.kind from hk.symm] at word'
  have HW := Lib.hid word'
  clear valid' word' hx hv hnm hns hms hss
  have hw0 : (bs (wordL 0)).size ≤ 8 := by rw [bs_size]; decide
  have hs1 := nums_size [x.a] (by simpa using ia) (by simp)
  have HA : Hid (argsL x = [Lib.itoa x.a]) := by simp [Hid, argsL, hk]
  have k4 : (x.kind == 4) = false := by rw [hk]; rfl
  have k16 : (x.kind == 16) = false := by rw [hk]; rfl
  have k15 : (x.kind == 15) = false := by rw [hk]; rfl
  have k5 : (x.kind == 5) = false := by rw [hk]; rfl
  have k7 : (x.kind == 7) = false := by rw [hk]; rfl
  have k14 : (x.kind == 14) = false := by rw [hk]; rfl
  have k12 : (x.kind == 12) = false := by rw [hk]; rfl
  have k10 : (x.kind == 10) = false := by rw [hk]; rfl
  clear hk
  rw [ActD.cells_def]
  go_enter Tryz.func9, Tryz.ntmps9
  go_wp2_with (first
    | (go_at_call 8; refine (HV.out _ (bal (B0 w) _)).mono ?_; rintro e w1 ⟨rfl, hb1⟩; have hB1 := bth (bal (B0 w) _) hb1; have hz1 : w.heap.size < w1.heap.size := blt hb1 (by simp); obtain ⟨hc1, hf1⟩ := bcell hb1)
    | (go_at_call 18; refine (HW.out _).mono ?_; rintro e w2 ⟨rfl, hb2⟩; have hB2 := bth hB1 hb2; have hz2 : w.heap.size < w2.heap.size := blt hb2 hz1; obtain ⟨hc2, hf2⟩ := bcell hb2; have hz2a : w.heap.size < w2.heap.size + 1 := Nat.lt_succ_of_lt hz2; have hz2b : w.heap.size < w2.heap.size + 1 + 1 := Nat.lt_succ_of_lt hz2a))
  refine (numbers1 x.a ia _ _ _ (by simp)).mono ?_
  rintro e w3 ⟨rfl, hb3⟩
  have hB3 := bth (bal (bal hB2 _) _) hb3
  go_wp2_with fail
  go_ret
  refine ⟨ret_string (a := bs (wordL 0) ++ bs (numsL [x.a])) ?_, hB3⟩
  rw [HT.out, HA.out, bs_append, numsL_tail]; try rfl

set_option maxRecDepth 100000 in
set_option maxHeartbeats 4000000 in
theorem rAct_1 (x : ActD) (m s : Value) (w : World) (hx : x.In w w.heap.size m s) (hv : validB x = true) (hms : x.ms.length ≤ 100) (hss : x.ss.length ≤ 100) (hk : x.kind = 1) :
    Calls Tryz.prog 9 #[.agg (x.cells m s)] w fun e w' => e = .returned (.string (bs (textL x))) ∧ Below w.heap.size w w' := by
  obtain ⟨Am, nm, cm, rfl, hnm, _, hcm⟩ := hx.ms.form
  obtain ⟨As, ns, cs, rfl, hns, _, hcs⟩ := hx.ss.form
  have HX := Lib.hid hx
  have ia := hx.a; have ib := hx.b; have ic := hx.c; have iv := hx.val; have io := hx.old; have hkey := hx.key
  have valid' := fun W hb => rValidAct_c x (.slice Am nm cm) (.slice As ns cs) W ((HX.out.below hb (Nat.le_refl _)).more (Below.size hb))
  rw [hv] at valid'
  have HV := Lib.hid valid'
  have hM := Lib.hid hms; have hS := Lib.hid hss
  have HT : Hid (textL x = wordL 1 ++ Lib.joinTail [32] (argsL x)) := by rw [textL_eq, hk]; rfl
  have word' := fun W => word_c 1 (by decide) W
  rw [show ((((1 : Nat) : Int))) = x.kind from hk.symm] at word'
  have HW := Lib.hid word'
  clear valid' word' hx hv hnm hns hms hss
  have hw0 : (bs (wordL 1)).size ≤ 8 := by rw [bs_size]; decide
  have hs1 := nums_size [x.a] (by simpa using ia) (by simp)
  have HA : Hid (argsL x = [Lib.itoa x.a]) := by simp [Hid, argsL, hk]
  have k4 : (x.kind == 4) = false := by rw [hk]; rfl
  have k16 : (x.kind == 16) = false := by rw [hk]; rfl
  have k15 : (x.kind == 15) = false := by rw [hk]; rfl
  have k5 : (x.kind == 5) = false := by rw [hk]; rfl
  have k7 : (x.kind == 7) = false := by rw [hk]; rfl
  have k14 : (x.kind == 14) = false := by rw [hk]; rfl
  have k12 : (x.kind == 12) = false := by rw [hk]; rfl
  have k10 : (x.kind == 10) = false := by rw [hk]; rfl
  clear hk
  rw [ActD.cells_def]
  go_enter Tryz.func9, Tryz.ntmps9
  go_wp2_with (first
    | (go_at_call 8; refine (HV.out _ (bal (B0 w) _)).mono ?_; rintro e w1 ⟨rfl, hb1⟩; have hB1 := bth (bal (B0 w) _) hb1; have hz1 : w.heap.size < w1.heap.size := blt hb1 (by simp); obtain ⟨hc1, hf1⟩ := bcell hb1)
    | (go_at_call 18; refine (HW.out _).mono ?_; rintro e w2 ⟨rfl, hb2⟩; have hB2 := bth hB1 hb2; have hz2 : w.heap.size < w2.heap.size := blt hb2 hz1; obtain ⟨hc2, hf2⟩ := bcell hb2; have hz2a : w.heap.size < w2.heap.size + 1 := Nat.lt_succ_of_lt hz2; have hz2b : w.heap.size < w2.heap.size + 1 + 1 := Nat.lt_succ_of_lt hz2a))
  refine (numbers1 x.a ia _ _ _ (by simp)).mono ?_
  rintro e w3 ⟨rfl, hb3⟩
  have hB3 := bth (bal (bal hB2 _) _) hb3
  go_wp2_with fail
  go_ret
  refine ⟨ret_string (a := bs (wordL 1) ++ bs (numsL [x.a])) ?_, hB3⟩
  rw [HT.out, HA.out, bs_append, numsL_tail]; try rfl

set_option maxRecDepth 100000 in
set_option maxHeartbeats 4000000 in
theorem rAct_2 (x : ActD) (m s : Value) (w : World) (hx : x.In w w.heap.size m s) (hv : validB x = true) (hms : x.ms.length ≤ 100) (hss : x.ss.length ≤ 100) (hk : x.kind = 2) :
    Calls Tryz.prog 9 #[.agg (x.cells m s)] w fun e w' => e = .returned (.string (bs (textL x))) ∧ Below w.heap.size w w' := by
  obtain ⟨Am, nm, cm, rfl, hnm, _, hcm⟩ := hx.ms.form
  obtain ⟨As, ns, cs, rfl, hns, _, hcs⟩ := hx.ss.form
  have HX := Lib.hid hx
  have ia := hx.a; have ib := hx.b; have ic := hx.c; have iv := hx.val; have io := hx.old; have hkey := hx.key
  have valid' := fun W hb => rValidAct_c x (.slice Am nm cm) (.slice As ns cs) W ((HX.out.below hb (Nat.le_refl _)).more (Below.size hb))
  rw [hv] at valid'
  have HV := Lib.hid valid'
  have hM := Lib.hid hms; have hS := Lib.hid hss
  have HT : Hid (textL x = wordL 2 ++ Lib.joinTail [32] (argsL x)) := by rw [textL_eq, hk]; rfl
  have word' := fun W => word_c 2 (by decide) W
  rw [show ((((2 : Nat) : Int))) = x.kind from hk.symm] at word'
  have HW := Lib.hid word'
  clear valid' word' hx hv hnm hns hms hss
  have hw0 : (bs (wordL 2)).size ≤ 8 := by rw [bs_size]; decide
  have hs1 := nums_size [x.a] (by simpa using ia) (by simp)
  have HA : Hid (argsL x = [Lib.itoa x.a]) := by simp [Hid, argsL, hk]
  have k4 : (x.kind == 4) = false := by rw [hk]; rfl
  have k16 : (x.kind == 16) = false := by rw [hk]; rfl
  have k15 : (x.kind == 15) = false := by rw [hk]; rfl
  have k5 : (x.kind == 5) = false := by rw [hk]; rfl
  have k7 : (x.kind == 7) = false := by rw [hk]; rfl
  have k14 : (x.kind == 14) = false := by rw [hk]; rfl
  have k12 : (x.kind == 12) = false := by rw [hk]; rfl
  have k10 : (x.kind == 10) = false := by rw [hk]; rfl
  clear hk
  rw [ActD.cells_def]
  go_enter Tryz.func9, Tryz.ntmps9
  go_wp2_with (first
    | (go_at_call 8; refine (HV.out _ (bal (B0 w) _)).mono ?_; rintro e w1 ⟨rfl, hb1⟩; have hB1 := bth (bal (B0 w) _) hb1; have hz1 : w.heap.size < w1.heap.size := blt hb1 (by simp); obtain ⟨hc1, hf1⟩ := bcell hb1)
    | (go_at_call 18; refine (HW.out _).mono ?_; rintro e w2 ⟨rfl, hb2⟩; have hB2 := bth hB1 hb2; have hz2 : w.heap.size < w2.heap.size := blt hb2 hz1; obtain ⟨hc2, hf2⟩ := bcell hb2; have hz2a : w.heap.size < w2.heap.size + 1 := Nat.lt_succ_of_lt hz2; have hz2b : w.heap.size < w2.heap.size + 1 + 1 := Nat.lt_succ_of_lt hz2a))
  refine (numbers1 x.a ia _ _ _ (by simp)).mono ?_
  rintro e w3 ⟨rfl, hb3⟩
  have hB3 := bth (bal (bal hB2 _) _) hb3
  go_wp2_with fail
  go_ret
  refine ⟨ret_string (a := bs (wordL 2) ++ bs (numsL [x.a])) ?_, hB3⟩
  rw [HT.out, HA.out, bs_append, numsL_tail]; try rfl

set_option maxRecDepth 100000 in
set_option maxHeartbeats 4000000 in
theorem rAct_3 (x : ActD) (m s : Value) (w : World) (hx : x.In w w.heap.size m s) (hv : validB x = true) (hms : x.ms.length ≤ 100) (hss : x.ss.length ≤ 100) (hk : x.kind = 3) :
    Calls Tryz.prog 9 #[.agg (x.cells m s)] w fun e w' => e = .returned (.string (bs (textL x))) ∧ Below w.heap.size w w' := by
  obtain ⟨Am, nm, cm, rfl, hnm, _, hcm⟩ := hx.ms.form
  obtain ⟨As, ns, cs, rfl, hns, _, hcs⟩ := hx.ss.form
  have HX := Lib.hid hx
  have ia := hx.a; have ib := hx.b; have ic := hx.c; have iv := hx.val; have io := hx.old; have hkey := hx.key
  have valid' := fun W hb => rValidAct_c x (.slice Am nm cm) (.slice As ns cs) W ((HX.out.below hb (Nat.le_refl _)).more (Below.size hb))
  rw [hv] at valid'
  have HV := Lib.hid valid'
  have hM := Lib.hid hms; have hS := Lib.hid hss
  have HT : Hid (textL x = wordL 3 ++ Lib.joinTail [32] (argsL x)) := by rw [textL_eq, hk]; rfl
  have word' := fun W => word_c 3 (by decide) W
  rw [show ((((3 : Nat) : Int))) = x.kind from hk.symm] at word'
  have HW := Lib.hid word'
  clear valid' word' hx hv hnm hns hms hss
  have hw0 : (bs (wordL 3)).size ≤ 8 := by rw [bs_size]; decide
  have hs1 := nums_size [x.a] (by simpa using ia) (by simp)
  have HA : Hid (argsL x = [Lib.itoa x.a]) := by simp [Hid, argsL, hk]
  have k4 : (x.kind == 4) = false := by rw [hk]; rfl
  have k16 : (x.kind == 16) = false := by rw [hk]; rfl
  have k15 : (x.kind == 15) = false := by rw [hk]; rfl
  have k5 : (x.kind == 5) = false := by rw [hk]; rfl
  have k7 : (x.kind == 7) = false := by rw [hk]; rfl
  have k14 : (x.kind == 14) = false := by rw [hk]; rfl
  have k12 : (x.kind == 12) = false := by rw [hk]; rfl
  have k10 : (x.kind == 10) = false := by rw [hk]; rfl
  clear hk
  rw [ActD.cells_def]
  go_enter Tryz.func9, Tryz.ntmps9
  go_wp2_with (first
    | (go_at_call 8; refine (HV.out _ (bal (B0 w) _)).mono ?_; rintro e w1 ⟨rfl, hb1⟩; have hB1 := bth (bal (B0 w) _) hb1; have hz1 : w.heap.size < w1.heap.size := blt hb1 (by simp); obtain ⟨hc1, hf1⟩ := bcell hb1)
    | (go_at_call 18; refine (HW.out _).mono ?_; rintro e w2 ⟨rfl, hb2⟩; have hB2 := bth hB1 hb2; have hz2 : w.heap.size < w2.heap.size := blt hb2 hz1; obtain ⟨hc2, hf2⟩ := bcell hb2; have hz2a : w.heap.size < w2.heap.size + 1 := Nat.lt_succ_of_lt hz2; have hz2b : w.heap.size < w2.heap.size + 1 + 1 := Nat.lt_succ_of_lt hz2a))
  refine (numbers1 x.a ia _ _ _ (by simp)).mono ?_
  rintro e w3 ⟨rfl, hb3⟩
  have hB3 := bth (bal (bal hB2 _) _) hb3
  go_wp2_with fail
  go_ret
  refine ⟨ret_string (a := bs (wordL 3) ++ bs (numsL [x.a])) ?_, hB3⟩
  rw [HT.out, HA.out, bs_append, numsL_tail]; try rfl

set_option maxRecDepth 100000 in
set_option maxHeartbeats 4000000 in
theorem rAct_4 (x : ActD) (m s : Value) (w : World) (hx : x.In w w.heap.size m s) (hv : validB x = true) (hms : x.ms.length ≤ 100) (hss : x.ss.length ≤ 100) (hk : x.kind = 4) :
    Calls Tryz.prog 9 #[.agg (x.cells m s)] w fun e w' => e = .returned (.string (bs (textL x))) ∧ Below w.heap.size w w' := by
  obtain ⟨Am, nm, cm, rfl, hnm, _, hcm⟩ := hx.ms.form
  obtain ⟨As, ns, cs, rfl, hns, _, hcs⟩ := hx.ss.form
  have HX := Lib.hid hx
  have ia := hx.a; have ib := hx.b; have ic := hx.c; have iv := hx.val; have io := hx.old; have hkey := hx.key
  have valid' := fun W hb => rValidAct_c x (.slice Am nm cm) (.slice As ns cs) W ((HX.out.below hb (Nat.le_refl _)).more (Below.size hb))
  rw [hv] at valid'
  have HV := Lib.hid valid'
  have hM := Lib.hid hms; have hS := Lib.hid hss
  have HT : Hid (textL x = wordL 4 ++ Lib.joinTail [32] (argsL x)) := by rw [textL_eq, hk]; rfl
  have word' := fun W => word_c 4 (by decide) W
  rw [show ((((4 : Nat) : Int))) = x.kind from hk.symm] at word'
  have HW := Lib.hid word'
  clear valid' word' hx hv hnm hns hms hss
  have hw0 : (bs (wordL 4)).size ≤ 8 := by rw [bs_size]; decide
  have HA : Hid (argsL x = []) := by simp [Hid, argsL, hk]
  have k4 : (x.kind == 4) = true := by rw [hk]; rfl
  clear hk
  rw [ActD.cells_def]
  go_enter Tryz.func9, Tryz.ntmps9
  go_wp2_with (first
    | (go_at_call 8; refine (HV.out _ (bal (B0 w) _)).mono ?_; rintro e w1 ⟨rfl, hb1⟩; have hB1 := bth (bal (B0 w) _) hb1; have hz1 : w.heap.size < w1.heap.size := blt hb1 (by simp); obtain ⟨hc1, hf1⟩ := bcell hb1)
    | (go_at_call 18; refine (HW.out _).mono ?_; rintro e w2 ⟨rfl, hb2⟩; have hB2 := bth hB1 hb2; have hz2 : w.heap.size < w2.heap.size := blt hb2 hz1; obtain ⟨hc2, hf2⟩ := bcell hb2; have hz2a : w.heap.size < w2.heap.size + 1 := Nat.lt_succ_of_lt hz2; have hz2b : w.heap.size < w2.heap.size + 1 + 1 := Nat.lt_succ_of_lt hz2a))
  go_ret
  refine ⟨ret_string ?_, bal hB2 _⟩
  rw [HT.out, HA.out]; rfl

set_option maxRecDepth 100000 in
set_option maxHeartbeats 4000000 in
theorem rAct_5 (x : ActD) (m s : Value) (w : World) (hx : x.In w w.heap.size m s) (hv : validB x = true) (hms : x.ms.length ≤ 100) (hss : x.ss.length ≤ 100) (hk : x.kind = 5) :
    Calls Tryz.prog 9 #[.agg (x.cells m s)] w fun e w' => e = .returned (.string (bs (textL x))) ∧ Below w.heap.size w w' := by
  obtain ⟨Am, nm, cm, rfl, hnm, _, hcm⟩ := hx.ms.form
  obtain ⟨As, ns, cs, rfl, hns, _, hcs⟩ := hx.ss.form
  have HX := Lib.hid hx
  have ia := hx.a; have ib := hx.b; have ic := hx.c; have iv := hx.val; have io := hx.old; have hkey := hx.key
  have valid' := fun W hb => rValidAct_c x (.slice Am nm cm) (.slice As ns cs) W ((HX.out.below hb (Nat.le_refl _)).more (Below.size hb))
  rw [hv] at valid'
  have HV := Lib.hid valid'
  have hM := Lib.hid hms; have hS := Lib.hid hss
  have HT : Hid (textL x = wordL 5 ++ Lib.joinTail [32] (argsL x)) := by rw [textL_eq, hk]; rfl
  have word' := fun W => word_c 5 (by decide) W
  rw [show ((((5 : Nat) : Int))) = x.kind from hk.symm] at word'
  have HW := Lib.hid word'
  clear valid' word' hx hv hnm hns hms hss
  have hw0 : (bs (wordL 5)).size ≤ 8 := by rw [bs_size]; decide
  have hs1 := nums_size [x.a] (by simpa using ia) (by simp)
  have hs2 := nums_size x.ss HX.out.ss.2 hS.out
  have HA : Hid (argsL x = Lib.itoa x.a :: x.ss.map Lib.itoa) := by simp [Hid, argsL, hk]
  have k4 : (x.kind == 4) = false := by rw [hk]; rfl
  have k16 : (x.kind == 16) = false := by rw [hk]; rfl
  have k15 : (x.kind == 15) = false := by rw [hk]; rfl
  have k5 : (x.kind == 5) = true := by rw [hk]; rfl
  clear hk
  rw [ActD.cells_def]
  go_enter Tryz.func9, Tryz.ntmps9
  go_wp2_with (first
    | (go_at_call 8; refine (HV.out _ (bal (B0 w) _)).mono ?_; rintro e w1 ⟨rfl, hb1⟩; have hB1 := bth (bal (B0 w) _) hb1; have hz1 : w.heap.size < w1.heap.size := blt hb1 (by simp); obtain ⟨hc1, hf1⟩ := bcell hb1)
    | (go_at_call 18; refine (HW.out _).mono ?_; rintro e w2 ⟨rfl, hb2⟩; have hB2 := bth hB1 hb2; have hz2 : w.heap.size < w2.heap.size := blt hb2 hz1; obtain ⟨hc2, hf2⟩ := bcell hb2; have hz2a : w.heap.size < w2.heap.size + 1 := Nat.lt_succ_of_lt hz2; have hz2b : w.heap.size < w2.heap.size + 1 + 1 := Nat.lt_succ_of_lt hz2a))
  have hq1 : ¬9223372036854775807 < (bs (wordL 5)).size + (bs (numsL [x.a])).size := by omega
  have hq2 : ¬9223372036854775807 < (bs (wordL 5)).size + (bs (numsL [x.a])).size + (bs (numsL x.ss)).size := by omega
  go_region_held3 (fun w' => w'.cell? ⟨w.heap.size, 1, none⟩ = some (.int .i64 x.a) ∧ w'.cell? ⟨w.heap.size, 9, none⟩ = some (.slice As ns cs)) (go_simp)
    (first
      | (go_at_call_of 19 (Value.slice As ns cs); refine (numbers_c _ x.ss _ ((HX.out.ss.below hB3 (Nat.le_refl _)).more (Below.size hB3)) (Nat.le_trans hS.out (by decide))).mono ?_; rintro e w4 ⟨rfl, hb4⟩; have hB4 := bth hB3 hb4; have hz4 : w.heap.size < w4.heap.size := blt hb4 hz3; obtain ⟨hc4, hf4⟩ := bcell hb4)
      | (go_at_call 19; refine (numbers_c _ [x.a] _ (SlI.of1 (by go_simp) (by simp) ia) (by simp)).mono ?_; rintro e w3 ⟨rfl, hb3⟩; have hB3 := bth (bdr (bal (bal hB2 _) _)) hb3; have hz3 : w.heap.size < w3.heap.size := blt hb3 (by simp; omega); obtain ⟨hc3, hf3⟩ := bcell hb3))
  go_wp2_with fail
  go_ret
  refine ⟨ret_string (a := bs (wordL 5) ++ bs (numsL [x.a]) ++ bs (numsL x.ss)) ?_, hB4⟩
  rw [HT.out, HA.out, bs_append, bs_append, numsL_tail, numsL_tail]
  simp [Lib.joinTail]

set_option maxRecDepth 100000 in
set_option maxHeartbeats 4000000 in
theorem rAct_6 (x : ActD) (m s : Value) (w : World) (hx : x.In w w.heap.size m s) (hv : validB x = true) (hms : x.ms.length ≤ 100) (hss : x.ss.length ≤ 100) (hk : x.kind = 6) :
    Calls Tryz.prog 9 #[.agg (x.cells m s)] w fun e w' => e = .returned (.string (bs (textL x))) ∧ Below w.heap.size w w' := by
  obtain ⟨Am, nm, cm, rfl, hnm, _, hcm⟩ := hx.ms.form
  obtain ⟨As, ns, cs, rfl, hns, _, hcs⟩ := hx.ss.form
  have HX := Lib.hid hx
  have ia := hx.a; have ib := hx.b; have ic := hx.c; have iv := hx.val; have io := hx.old; have hkey := hx.key
  have valid' := fun W hb => rValidAct_c x (.slice Am nm cm) (.slice As ns cs) W ((HX.out.below hb (Nat.le_refl _)).more (Below.size hb))
  rw [hv] at valid'
  have HV := Lib.hid valid'
  have hM := Lib.hid hms; have hS := Lib.hid hss
  have HT : Hid (textL x = wordL 6 ++ Lib.joinTail [32] (argsL x)) := by rw [textL_eq, hk]; rfl
  have word' := fun W => word_c 6 (by decide) W
  rw [show ((((6 : Nat) : Int))) = x.kind from hk.symm] at word'
  have HW := Lib.hid word'
  clear valid' word' hx hv hnm hns hms hss
  have hw0 : (bs (wordL 6)).size ≤ 8 := by rw [bs_size]; decide
  have hs1 := nums_size [x.a] (by simpa using ia) (by simp)
  have HA : Hid (argsL x = [Lib.itoa x.a]) := by simp [Hid, argsL, hk]
  have k4 : (x.kind == 4) = false := by rw [hk]; rfl
  have k16 : (x.kind == 16) = false := by rw [hk]; rfl
  have k15 : (x.kind == 15) = false := by rw [hk]; rfl
  have k5 : (x.kind == 5) = false := by rw [hk]; rfl
  have k7 : (x.kind == 7) = false := by rw [hk]; rfl
  have k14 : (x.kind == 14) = false := by rw [hk]; rfl
  have k12 : (x.kind == 12) = false := by rw [hk]; rfl
  have k10 : (x.kind == 10) = false := by rw [hk]; rfl
  clear hk
  rw [ActD.cells_def]
  go_enter Tryz.func9, Tryz.ntmps9
  go_wp2_with (first
    | (go_at_call 8; refine (HV.out _ (bal (B0 w) _)).mono ?_; rintro e w1 ⟨rfl, hb1⟩; have hB1 := bth (bal (B0 w) _) hb1; have hz1 : w.heap.size < w1.heap.size := blt hb1 (by simp); obtain ⟨hc1, hf1⟩ := bcell hb1)
    | (go_at_call 18; refine (HW.out _).mono ?_; rintro e w2 ⟨rfl, hb2⟩; have hB2 := bth hB1 hb2; have hz2 : w.heap.size < w2.heap.size := blt hb2 hz1; obtain ⟨hc2, hf2⟩ := bcell hb2; have hz2a : w.heap.size < w2.heap.size + 1 := Nat.lt_succ_of_lt hz2; have hz2b : w.heap.size < w2.heap.size + 1 + 1 := Nat.lt_succ_of_lt hz2a))
  refine (numbers1 x.a ia _ _ _ (by simp)).mono ?_
  rintro e w3 ⟨rfl, hb3⟩
  have hB3 := bth (bal (bal hB2 _) _) hb3
  go_wp2_with fail
  go_ret
  refine ⟨ret_string (a := bs (wordL 6) ++ bs (numsL [x.a])) ?_, hB3⟩
  rw [HT.out, HA.out, bs_append, numsL_tail]; try rfl

set_option maxRecDepth 100000 in
set_option maxHeartbeats 4000000 in
theorem rAct_7 (x : ActD) (m s : Value) (w : World) (hx : x.In w w.heap.size m s) (hv : validB x = true) (hms : x.ms.length ≤ 100) (hss : x.ss.length ≤ 100) (hk : x.kind = 7) :
    Calls Tryz.prog 9 #[.agg (x.cells m s)] w fun e w' => e = .returned (.string (bs (textL x))) ∧ Below w.heap.size w w' := by
  obtain ⟨Am, nm, cm, rfl, hnm, _, hcm⟩ := hx.ms.form
  obtain ⟨As, ns, cs, rfl, hns, _, hcs⟩ := hx.ss.form
  have HX := Lib.hid hx
  have ia := hx.a; have ib := hx.b; have ic := hx.c; have iv := hx.val; have io := hx.old; have hkey := hx.key
  have valid' := fun W hb => rValidAct_c x (.slice Am nm cm) (.slice As ns cs) W ((HX.out.below hb (Nat.le_refl _)).more (Below.size hb))
  rw [hv] at valid'
  have HV := Lib.hid valid'
  have hM := Lib.hid hms; have hS := Lib.hid hss
  have HT : Hid (textL x = wordL 7 ++ Lib.joinTail [32] (argsL x)) := by rw [textL_eq, hk]; rfl
  have word' := fun W => word_c 7 (by decide) W
  rw [show ((((7 : Nat) : Int))) = x.kind from hk.symm] at word'
  have HW := Lib.hid word'
  clear valid' word' hx hv hnm hns hms hss
  have hw0 : (bs (wordL 7)).size ≤ 8 := by rw [bs_size]; decide
  have hs1 := nums_size [x.a, x.b] (by simpa using ⟨ia, ib⟩) (by simp)
  have HA : Hid (argsL x = [Lib.itoa x.a, Lib.itoa x.b]) := by simp [Hid, argsL, hk]
  have k4 : (x.kind == 4) = false := by rw [hk]; rfl
  have k16 : (x.kind == 16) = false := by rw [hk]; rfl
  have k15 : (x.kind == 15) = false := by rw [hk]; rfl
  have k5 : (x.kind == 5) = false := by rw [hk]; rfl
  have k7 : (x.kind == 7) = true := by rw [hk]; rfl
  clear hk
  rw [ActD.cells_def]
  go_enter Tryz.func9, Tryz.ntmps9
  go_wp2_with (first
    | (go_at_call 8; refine (HV.out _ (bal (B0 w) _)).mono ?_; rintro e w1 ⟨rfl, hb1⟩; have hB1 := bth (bal (B0 w) _) hb1; have hz1 : w.heap.size < w1.heap.size := blt hb1 (by simp); obtain ⟨hc1, hf1⟩ := bcell hb1)
    | (go_at_call 18; refine (HW.out _).mono ?_; rintro e w2 ⟨rfl, hb2⟩; have hB2 := bth hB1 hb2; have hz2 : w.heap.size < w2.heap.size := blt hb2 hz1; obtain ⟨hc2, hf2⟩ := bcell hb2; have hz2a : w.heap.size < w2.heap.size + 1 := Nat.lt_succ_of_lt hz2; have hz2b : w.heap.size < w2.heap.size + 1 + 1 := Nat.lt_succ_of_lt hz2a))
  refine (numbers2 x.a x.b ia ib _ _ _ (by simp)).mono ?_
  rintro e w3 ⟨rfl, hb3⟩
  have hB3 := bth (bal (bal hB2 _) _) hb3
  go_wp2_with fail
  go_ret
  refine ⟨ret_string (a := bs (wordL 7) ++ bs (numsL [x.a, x.b])) ?_, hB3⟩
  rw [HT.out, HA.out, bs_append, numsL_tail]; try rfl

set_option maxRecDepth 100000 in
set_option maxHeartbeats 4000000 in
theorem rAct_8 (x : ActD) (m s : Value) (w : World) (hx : x.In w w.heap.size m s) (hv : validB x = true) (hms : x.ms.length ≤ 100) (hss : x.ss.length ≤ 100) (hk : x.kind = 8) :
    Calls Tryz.prog 9 #[.agg (x.cells m s)] w fun e w' => e = .returned (.string (bs (textL x))) ∧ Below w.heap.size w w' := by
  obtain ⟨Am, nm, cm, rfl, hnm, _, hcm⟩ := hx.ms.form
  obtain ⟨As, ns, cs, rfl, hns, _, hcs⟩ := hx.ss.form
  have HX := Lib.hid hx
  have ia := hx.a; have ib := hx.b; have ic := hx.c; have iv := hx.val; have io := hx.old; have hkey := hx.key
  have valid' := fun W hb => rValidAct_c x (.slice Am nm cm) (.slice As ns cs) W ((HX.out.below hb (Nat.le_refl _)).more (Below.size hb))
  rw [hv] at valid'
  have HV := Lib.hid valid'
  have hM := Lib.hid hms; have hS := Lib.hid hss
  have HT : Hid (textL x = wordL 8 ++ Lib.joinTail [32] (argsL x)) := by rw [textL_eq, hk]; rfl
  have word' := fun W => word_c 8 (by decide) W
  rw [show ((((8 : Nat) : Int))) = x.kind from hk.symm] at word'
  have HW := Lib.hid word'
  clear valid' word' hx hv hnm hns hms hss
  have hw0 : (bs (wordL 8)).size ≤ 8 := by rw [bs_size]; decide
  have hs1 := nums_size [x.a] (by simpa using ia) (by simp)
  have HA : Hid (argsL x = [Lib.itoa x.a]) := by simp [Hid, argsL, hk]
  have k4 : (x.kind == 4) = false := by rw [hk]; rfl
  have k16 : (x.kind == 16) = false := by rw [hk]; rfl
  have k15 : (x.kind == 15) = false := by rw [hk]; rfl
  have k5 : (x.kind == 5) = false := by rw [hk]; rfl
  have k7 : (x.kind == 7) = false := by rw [hk]; rfl
  have k14 : (x.kind == 14) = false := by rw [hk]; rfl
  have k12 : (x.kind == 12) = false := by rw [hk]; rfl
  have k10 : (x.kind == 10) = false := by rw [hk]; rfl
  clear hk
  rw [ActD.cells_def]
  go_enter Tryz.func9, Tryz.ntmps9
  go_wp2_with (first
    | (go_at_call 8; refine (HV.out _ (bal (B0 w) _)).mono ?_; rintro e w1 ⟨rfl, hb1⟩; have hB1 := bth (bal (B0 w) _) hb1; have hz1 : w.heap.size < w1.heap.size := blt hb1 (by simp); obtain ⟨hc1, hf1⟩ := bcell hb1)
    | (go_at_call 18; refine (HW.out _).mono ?_; rintro e w2 ⟨rfl, hb2⟩; have hB2 := bth hB1 hb2; have hz2 : w.heap.size < w2.heap.size := blt hb2 hz1; obtain ⟨hc2, hf2⟩ := bcell hb2; have hz2a : w.heap.size < w2.heap.size + 1 := Nat.lt_succ_of_lt hz2; have hz2b : w.heap.size < w2.heap.size + 1 + 1 := Nat.lt_succ_of_lt hz2a))
  refine (numbers1 x.a ia _ _ _ (by simp)).mono ?_
  rintro e w3 ⟨rfl, hb3⟩
  have hB3 := bth (bal (bal hB2 _) _) hb3
  go_wp2_with fail
  go_ret
  refine ⟨ret_string (a := bs (wordL 8) ++ bs (numsL [x.a])) ?_, hB3⟩
  rw [HT.out, HA.out, bs_append, numsL_tail]; try rfl

set_option maxRecDepth 100000 in
set_option maxHeartbeats 4000000 in
theorem rAct_9 (x : ActD) (m s : Value) (w : World) (hx : x.In w w.heap.size m s) (hv : validB x = true) (hms : x.ms.length ≤ 100) (hss : x.ss.length ≤ 100) (hk : x.kind = 9) :
    Calls Tryz.prog 9 #[.agg (x.cells m s)] w fun e w' => e = .returned (.string (bs (textL x))) ∧ Below w.heap.size w w' := by
  obtain ⟨Am, nm, cm, rfl, hnm, _, hcm⟩ := hx.ms.form
  obtain ⟨As, ns, cs, rfl, hns, _, hcs⟩ := hx.ss.form
  have HX := Lib.hid hx
  have ia := hx.a; have ib := hx.b; have ic := hx.c; have iv := hx.val; have io := hx.old; have hkey := hx.key
  have valid' := fun W hb => rValidAct_c x (.slice Am nm cm) (.slice As ns cs) W ((HX.out.below hb (Nat.le_refl _)).more (Below.size hb))
  rw [hv] at valid'
  have HV := Lib.hid valid'
  have hM := Lib.hid hms; have hS := Lib.hid hss
  have HT : Hid (textL x = wordL 9 ++ Lib.joinTail [32] (argsL x)) := by rw [textL_eq, hk]; rfl
  have word' := fun W => word_c 9 (by decide) W
  rw [show ((((9 : Nat) : Int))) = x.kind from hk.symm] at word'
  have HW := Lib.hid word'
  clear valid' word' hx hv hnm hns hms hss
  have hw0 : (bs (wordL 9)).size ≤ 8 := by rw [bs_size]; decide
  have hs1 := nums_size [x.a] (by simpa using ia) (by simp)
  have HA : Hid (argsL x = [Lib.itoa x.a]) := by simp [Hid, argsL, hk]
  have k4 : (x.kind == 4) = false := by rw [hk]; rfl
  have k16 : (x.kind == 16) = false := by rw [hk]; rfl
  have k15 : (x.kind == 15) = false := by rw [hk]; rfl
  have k5 : (x.kind == 5) = false := by rw [hk]; rfl
  have k7 : (x.kind == 7) = false := by rw [hk]; rfl
  have k14 : (x.kind == 14) = false := by rw [hk]; rfl
  have k12 : (x.kind == 12) = false := by rw [hk]; rfl
  have k10 : (x.kind == 10) = false := by rw [hk]; rfl
  clear hk
  rw [ActD.cells_def]
  go_enter Tryz.func9, Tryz.ntmps9
  go_wp2_with (first
    | (go_at_call 8; refine (HV.out _ (bal (B0 w) _)).mono ?_; rintro e w1 ⟨rfl, hb1⟩; have hB1 := bth (bal (B0 w) _) hb1; have hz1 : w.heap.size < w1.heap.size := blt hb1 (by simp); obtain ⟨hc1, hf1⟩ := bcell hb1)
    | (go_at_call 18; refine (HW.out _).mono ?_; rintro e w2 ⟨rfl, hb2⟩; have hB2 := bth hB1 hb2; have hz2 : w.heap.size < w2.heap.size := blt hb2 hz1; obtain ⟨hc2, hf2⟩ := bcell hb2; have hz2a : w.heap.size < w2.heap.size + 1 := Nat.lt_succ_of_lt hz2; have hz2b : w.heap.size < w2.heap.size + 1 + 1 := Nat.lt_succ_of_lt hz2a))
  refine (numbers1 x.a ia _ _ _ (by simp)).mono ?_
  rintro e w3 ⟨rfl, hb3⟩
  have hB3 := bth (bal (bal hB2 _) _) hb3
  go_wp2_with fail
  go_ret
  refine ⟨ret_string (a := bs (wordL 9) ++ bs (numsL [x.a])) ?_, hB3⟩
  rw [HT.out, HA.out, bs_append, numsL_tail]; try rfl

set_option maxRecDepth 100000 in
set_option maxHeartbeats 4000000 in
theorem rAct_10_0 (x : ActD) (m s : Value) (w : World) (hx : x.In w w.heap.size m s) (hv : validB x = true) (hms : x.ms.length ≤ 100) (hss : x.ss.length ≤ 100) (hk : x.kind = 10) (ho : x.ok = 0) :
    Calls Tryz.prog 9 #[.agg (x.cells m s)] w fun e w' => e = .returned (.string (bs (textL x))) ∧ Below w.heap.size w w' := by
  obtain ⟨Am, nm, cm, rfl, hnm, _, hcm⟩ := hx.ms.form
  obtain ⟨As, ns, cs, rfl, hns, _, hcs⟩ := hx.ss.form
  have HX := Lib.hid hx
  have ia := hx.a; have ib := hx.b; have ic := hx.c; have iv := hx.val; have io := hx.old; have hkey := hx.key
  have valid' := fun W hb => rValidAct_c x (.slice Am nm cm) (.slice As ns cs) W ((HX.out.below hb (Nat.le_refl _)).more (Below.size hb))
  rw [hv] at valid'
  have HV := Lib.hid valid'
  have hM := Lib.hid hms; have hS := Lib.hid hss
  have HT : Hid (textL x = wordL 10 ++ Lib.joinTail [32] (argsL x)) := by rw [textL_eq, hk]; rfl
  have word' := fun W => word_c 10 (by decide) W
  rw [show ((((10 : Nat) : Int))) = x.kind from hk.symm] at word'
  have HW := Lib.hid word'
  clear valid' word' hx hv hnm hns hms hss
  have hw0 : (bs (wordL 10)).size ≤ 8 := by rw [bs_size]; decide
  have hs1 := nums_size [x.a, x.b] (by simpa using ⟨ia, ib⟩) (by simp)
  have hs3 := itoa_size x.val iv
  have hs4 := itoa_size x.old io
  have HA : Hid (argsL x = [Lib.itoa x.a, Lib.itoa x.b] ++ opWords x) := by simp [Hid, argsL, hk]
  have HO : Hid (opWords x = [[103, 101, 116], x.key.data.toList]) := by simp [Hid, opWords, ho]
  have k4 : (x.kind == 4) = false := by rw [hk]; rfl
  have k16 : (x.kind == 16) = false := by rw [hk]; rfl
  have k15 : (x.kind == 15) = false := by rw [hk]; rfl
  have k5 : (x.kind == 5) = false := by rw [hk]; rfl
  have k7 : (x.kind == 7) = false := by rw [hk]; rfl
  have k14 : (x.kind == 14) = false := by rw [hk]; rfl
  have k12 : (x.kind == 12) = false := by rw [hk]; rfl
  have k10 : (x.kind == 10) = true := by rw [hk]; rfl
  clear hk
  have o0 : (x.ok == 0) = true := by rw [ho]; rfl
  have o1 : (x.ok == 1) = false := by rw [ho]; rfl
  have o2 : (x.ok == 2) = false := by rw [ho]; rfl
  clear ho
  rw [ActD.cells_def]
  go_enter Tryz.func9, Tryz.ntmps9
  go_wp2_with (first
    | (go_at_call 8; refine (HV.out _ (bal (B0 w) _)).mono ?_; rintro e w1 ⟨rfl, hb1⟩; have hB1 := bth (bal (B0 w) _) hb1; have hz1 : w.heap.size < w1.heap.size := blt hb1 (by simp); obtain ⟨hc1, hf1⟩ := bcell hb1)
    | (go_at_call 18; refine (HW.out _).mono ?_; rintro e w2 ⟨rfl, hb2⟩; have hB2 := bth hB1 hb2; have hz2 : w.heap.size < w2.heap.size := blt hb2 hz1; obtain ⟨hc2, hf2⟩ := bcell hb2; have hz2a : w.heap.size < w2.heap.size + 1 := Nat.lt_succ_of_lt hz2; have hz2b : w.heap.size < w2.heap.size + 1 + 1 := Nat.lt_succ_of_lt hz2a))
  refine (numbers2 x.a x.b ia ib _ _ _ (by simp)).mono ?_
  rintro e w3 ⟨rfl, hb3⟩
  have hB3 := bth (bal (bal hB2 _) _) hb3
  have hz3 : w.heap.size < w3.heap.size := blt hb3 (by simp; omega)
  have hy3 : w2.heap.size < w3.heap.size := blt hb3 (by simp; omega)
  obtain ⟨hc3, hf3⟩ := bcell hb3
  have hy3a : w2.heap.size < w2.heap.size + 1 + 1 := by omega
  have hr0 : ¬9223372036854775807 < (bs (wordL 10)).size + (bs (numsL [x.a, x.b])).size + 5 := by omega
  have hr1 : ¬9223372036854775807 < (bs (wordL 10)).size + (bs (numsL [x.a, x.b])).size + 5 + x.key.size := by omega
  go_wp2_with fail
  go_ret
  refine ⟨ret_string (a := bs (wordL 10) ++ bs (numsL [x.a, x.b]) ++ bs [32, 103, 101, 116, 32] ++ x.key) ?_, hB3⟩
  obtain ⟨kl, hkl⟩ : ∃ kl, x.key = bs kl := ⟨_, (bs_toList _).symm⟩
  rw [HT.out, HA.out, HO.out, hkl, bs_data]
  simp only [bs_append, numsL_tail]
  simp [Lib.joinTail]

set_option maxRecDepth 100000 in
set_option maxHeartbeats 4000000 in
theorem rAct_10_1 (x : ActD) (m s : Value) (w : World) (hx : x.In w w.heap.size m s) (hv : validB x = true) (hms : x.ms.length ≤ 100) (hss : x.ss.length ≤ 100) (hk : x.kind = 10) (ho : x.ok = 1) :
    Calls Tryz.prog 9 #[.agg (x.cells m s)] w fun e w' => e = .returned (.string (bs (textL x))) ∧ Below w.heap.size w w' := by
  obtain ⟨Am, nm, cm, rfl, hnm, _, hcm⟩ := hx.ms.form
  obtain ⟨As, ns, cs, rfl, hns, _, hcs⟩ := hx.ss.form
  have HX := Lib.hid hx
  have ia := hx.a; have ib := hx.b; have ic := hx.c; have iv := hx.val; have io := hx.old; have hkey := hx.key
  have valid' := fun W hb => rValidAct_c x (.slice Am nm cm) (.slice As ns cs) W ((HX.out.below hb (Nat.le_refl _)).more (Below.size hb))
  rw [hv] at valid'
  have HV := Lib.hid valid'
  have hM := Lib.hid hms; have hS := Lib.hid hss
  have HT : Hid (textL x = wordL 10 ++ Lib.joinTail [32] (argsL x)) := by rw [textL_eq, hk]; rfl
  have word' := fun W => word_c 10 (by decide) W
  rw [show ((((10 : Nat) : Int))) = x.kind from hk.symm] at word'
  have HW := Lib.hid word'
  clear valid' word' hx hv hnm hns hms hss
  have hw0 : (bs (wordL 10)).size ≤ 8 := by rw [bs_size]; decide
  have hs1 := nums_size [x.a, x.b] (by simpa using ⟨ia, ib⟩) (by simp)
  have hs3 := itoa_size x.val iv
  have hs4 := itoa_size x.old io
  have HA : Hid (argsL x = [Lib.itoa x.a, Lib.itoa x.b] ++ opWords x) := by simp [Hid, argsL, hk]
  have HO : Hid (opWords x = [[112, 117, 116], x.key.data.toList, Lib.itoa x.val]) := by simp [Hid, opWords, ho]
  have k4 : (x.kind == 4) = false := by rw [hk]; rfl
  have k16 : (x.kind == 16) = false := by rw [hk]; rfl
  have k15 : (x.kind == 15) = false := by rw [hk]; rfl
  have k5 : (x.kind == 5) = false := by rw [hk]; rfl
  have k7 : (x.kind == 7) = false := by rw [hk]; rfl
  have k14 : (x.kind == 14) = false := by rw [hk]; rfl
  have k12 : (x.kind == 12) = false := by rw [hk]; rfl
  have k10 : (x.kind == 10) = true := by rw [hk]; rfl
  clear hk
  have o0 : (x.ok == 0) = false := by rw [ho]; rfl
  have o1 : (x.ok == 1) = true := by rw [ho]; rfl
  have o2 : (x.ok == 2) = false := by rw [ho]; rfl
  clear ho
  rw [ActD.cells_def]
  go_enter Tryz.func9, Tryz.ntmps9
  go_wp2_with (first
    | (go_at_call 8; refine (HV.out _ (bal (B0 w) _)).mono ?_; rintro e w1 ⟨rfl, hb1⟩; have hB1 := bth (bal (B0 w) _) hb1; have hz1 : w.heap.size < w1.heap.size := blt hb1 (by simp); obtain ⟨hc1, hf1⟩ := bcell hb1)
    | (go_at_call 18; refine (HW.out _).mono ?_; rintro e w2 ⟨rfl, hb2⟩; have hB2 := bth hB1 hb2; have hz2 : w.heap.size < w2.heap.size := blt hb2 hz1; obtain ⟨hc2, hf2⟩ := bcell hb2; have hz2a : w.heap.size < w2.heap.size + 1 := Nat.lt_succ_of_lt hz2; have hz2b : w.heap.size < w2.heap.size + 1 + 1 := Nat.lt_succ_of_lt hz2a))
  refine (numbers2 x.a x.b ia ib _ _ _ (by simp)).mono ?_
  rintro e w3 ⟨rfl, hb3⟩
  have hB3 := bth (bal (bal hB2 _) _) hb3
  have hz3 : w.heap.size < w3.heap.size := blt hb3 (by simp; omega)
  have hy3 : w2.heap.size < w3.heap.size := blt hb3 (by simp; omega)
  obtain ⟨hc3, hf3⟩ := bcell hb3
  have hy3a : w2.heap.size < w2.heap.size + 1 + 1 := by omega
  have hr0 : ¬9223372036854775807 < (bs (wordL 10)).size + (bs (numsL [x.a, x.b])).size + 5 := by omega
  have hr1 : ¬9223372036854775807 < (bs (wordL 10)).size + (bs (numsL [x.a, x.b])).size + 5 + x.key.size := by omega
  have hr2 : ¬9223372036854775807 < (bs (wordL 10)).size + (bs (numsL [x.a, x.b])).size + 5 + x.key.size + 1 := by omega
  have hr3 : ¬9223372036854775807 < (bs (wordL 10)).size + (bs (numsL [x.a, x.b])).size + 5 + x.key.size + 1 + (bs (Lib.itoa x.val)).size := by omega
  go_wp2_with fail
  go_region_held3 (fun w' => w'.cell? ⟨w2.heap.size, 1, none⟩ = some (.string x.key) ∧ w'.cell? ⟨w2.heap.size, 2, none⟩ = some (.int .i64 x.val) ∧ w'.cell? ⟨w2.heap.size, 3, none⟩ = some (.int .i64 x.old)) (go_simp)
    (first
      | (go_at_call 20; refine (Decimal_c _ iv _).mono ?_; rintro e w4 ⟨rfl, hb4⟩; have hB4 := bth (bdr hB3) hb4; have hy4 : w2.heap.size < w4.heap.size := blt hb4 hy3; obtain ⟨hc4, hf4⟩ := bcellD hb4))
  go_wp2_with fail
  go_ret
  refine ⟨ret_string (a := bs (wordL 10) ++ bs (numsL [x.a, x.b]) ++ bs [32, 112, 117, 116, 32] ++ x.key ++ bs [32] ++ bs (Lib.itoa x.val)) ?_, hB4⟩
  obtain ⟨kl, hkl⟩ : ∃ kl, x.key = bs kl := ⟨_, (bs_toList _).symm⟩
  rw [HT.out, HA.out, HO.out, hkl, bs_data]
  simp only [bs_append, numsL_tail]
  simp [Lib.joinTail]

set_option maxRecDepth 100000 in
set_option maxHeartbeats 4000000 in
theorem rAct_10_2 (x : ActD) (m s : Value) (w : World) (hx : x.In w w.heap.size m s) (hv : validB x = true) (hms : x.ms.length ≤ 100) (hss : x.ss.length ≤ 100) (hk : x.kind = 10) (ho : x.ok = 2) :
    Calls Tryz.prog 9 #[.agg (x.cells m s)] w fun e w' => e = .returned (.string (bs (textL x))) ∧ Below w.heap.size w w' := by
  obtain ⟨Am, nm, cm, rfl, hnm, _, hcm⟩ := hx.ms.form
  obtain ⟨As, ns, cs, rfl, hns, _, hcs⟩ := hx.ss.form
  have HX := Lib.hid hx
  have ia := hx.a; have ib := hx.b; have ic := hx.c; have iv := hx.val; have io := hx.old; have hkey := hx.key
  have valid' := fun W hb => rValidAct_c x (.slice Am nm cm) (.slice As ns cs) W ((HX.out.below hb (Nat.le_refl _)).more (Below.size hb))
  rw [hv] at valid'
  have HV := Lib.hid valid'
  have hM := Lib.hid hms; have hS := Lib.hid hss
  have HT : Hid (textL x = wordL 10 ++ Lib.joinTail [32] (argsL x)) := by rw [textL_eq, hk]; rfl
  have word' := fun W => word_c 10 (by decide) W
  rw [show ((((10 : Nat) : Int))) = x.kind from hk.symm] at word'
  have HW := Lib.hid word'
  clear valid' word' hx hv hnm hns hms hss
  have hw0 : (bs (wordL 10)).size ≤ 8 := by rw [bs_size]; decide
  have hs1 := nums_size [x.a, x.b] (by simpa using ⟨ia, ib⟩) (by simp)
  have hs3 := itoa_size x.val iv
  have hs4 := itoa_size x.old io
  have HA : Hid (argsL x = [Lib.itoa x.a, Lib.itoa x.b] ++ opWords x) := by simp [Hid, argsL, hk]
  have HO : Hid (opWords x = [[99, 97, 115], x.key.data.toList, Lib.itoa x.old, Lib.itoa x.val]) := by simp [Hid, opWords, ho]
  have k4 : (x.kind == 4) = false := by rw [hk]; rfl
  have k16 : (x.kind == 16) = false := by rw [hk]; rfl
  have k15 : (x.kind == 15) = false := by rw [hk]; rfl
  have k5 : (x.kind == 5) = false := by rw [hk]; rfl
  have k7 : (x.kind == 7) = false := by rw [hk]; rfl
  have k14 : (x.kind == 14) = false := by rw [hk]; rfl
  have k12 : (x.kind == 12) = false := by rw [hk]; rfl
  have k10 : (x.kind == 10) = true := by rw [hk]; rfl
  clear hk
  have o0 : (x.ok == 0) = false := by rw [ho]; rfl
  have o1 : (x.ok == 1) = false := by rw [ho]; rfl
  have o2 : (x.ok == 2) = true := by rw [ho]; rfl
  clear ho
  rw [ActD.cells_def]
  go_enter Tryz.func9, Tryz.ntmps9
  go_wp2_with (first
    | (go_at_call 8; refine (HV.out _ (bal (B0 w) _)).mono ?_; rintro e w1 ⟨rfl, hb1⟩; have hB1 := bth (bal (B0 w) _) hb1; have hz1 : w.heap.size < w1.heap.size := blt hb1 (by simp); obtain ⟨hc1, hf1⟩ := bcell hb1)
    | (go_at_call 18; refine (HW.out _).mono ?_; rintro e w2 ⟨rfl, hb2⟩; have hB2 := bth hB1 hb2; have hz2 : w.heap.size < w2.heap.size := blt hb2 hz1; obtain ⟨hc2, hf2⟩ := bcell hb2; have hz2a : w.heap.size < w2.heap.size + 1 := Nat.lt_succ_of_lt hz2; have hz2b : w.heap.size < w2.heap.size + 1 + 1 := Nat.lt_succ_of_lt hz2a))
  refine (numbers2 x.a x.b ia ib _ _ _ (by simp)).mono ?_
  rintro e w3 ⟨rfl, hb3⟩
  have hB3 := bth (bal (bal hB2 _) _) hb3
  have hz3 : w.heap.size < w3.heap.size := blt hb3 (by simp; omega)
  have hy3 : w2.heap.size < w3.heap.size := blt hb3 (by simp; omega)
  obtain ⟨hc3, hf3⟩ := bcell hb3
  have hy3a : w2.heap.size < w2.heap.size + 1 + 1 := by omega
  have hr0 : ¬9223372036854775807 < (bs (wordL 10)).size + (bs (numsL [x.a, x.b])).size + 5 := by omega
  have hr1 : ¬9223372036854775807 < (bs (wordL 10)).size + (bs (numsL [x.a, x.b])).size + 5 + x.key.size := by omega
  have hr2 : ¬9223372036854775807 < (bs (wordL 10)).size + (bs (numsL [x.a, x.b])).size + 5 + x.key.size + 1 := by omega
  have hr3 : ¬9223372036854775807 < (bs (wordL 10)).size + (bs (numsL [x.a, x.b])).size + 5 + x.key.size + 1 + (bs (Lib.itoa x.old)).size := by omega
  have hr4 : ¬9223372036854775807 < (bs (wordL 10)).size + (bs (numsL [x.a, x.b])).size + 5 + x.key.size + 1 + (bs (Lib.itoa x.old)).size + 1 := by omega
  have hr5 : ¬9223372036854775807 < (bs (wordL 10)).size + (bs (numsL [x.a, x.b])).size + 5 + x.key.size + 1 + (bs (Lib.itoa x.old)).size + 1 + (bs (Lib.itoa x.val)).size := by omega
  go_wp2_with fail
  go_region_held3 (fun w' => w'.cell? ⟨w2.heap.size, 1, none⟩ = some (.string x.key) ∧ w'.cell? ⟨w2.heap.size, 2, none⟩ = some (.int .i64 x.val) ∧ w'.cell? ⟨w2.heap.size, 3, none⟩ = some (.int .i64 x.old)) (go_simp)
    (first
      | (go_at_call_of 20 (Value.int IntKind.i64 x.old); refine (Decimal_c _ io _).mono ?_; rintro e w4 ⟨rfl, hb4⟩; have hB4 := bth (bdr hB3) hb4; have hy4 : w2.heap.size < w4.heap.size := blt hb4 hy3; obtain ⟨hc4, hf4⟩ := bcellD hb4)
      | (go_at_call_of 20 (Value.int IntKind.i64 x.val); refine (Decimal_c _ iv _).mono ?_; rintro e w5 ⟨rfl, hb5⟩; have hB5 := bth hB4 hb5; have hy5 : w2.heap.size < w5.heap.size := blt hb5 hy4; obtain ⟨hc5, hf5⟩ := bcell hb5))
  go_wp2_with fail
  go_ret
  refine ⟨ret_string (a := bs (wordL 10) ++ bs (numsL [x.a, x.b]) ++ bs [32, 99, 97, 115, 32] ++ x.key ++ bs [32] ++ bs (Lib.itoa x.old) ++ bs [32] ++ bs (Lib.itoa x.val)) ?_, hB5⟩
  obtain ⟨kl, hkl⟩ : ∃ kl, x.key = bs kl := ⟨_, (bs_toList _).symm⟩
  rw [HT.out, HA.out, HO.out, hkl, bs_data]
  simp only [bs_append, numsL_tail]
  simp [Lib.joinTail]

set_option maxRecDepth 100000 in
set_option maxHeartbeats 4000000 in
theorem rAct_10_3 (x : ActD) (m s : Value) (w : World) (hx : x.In w w.heap.size m s) (hv : validB x = true) (hms : x.ms.length ≤ 100) (hss : x.ss.length ≤ 100) (hk : x.kind = 10) (ho : ¬x.ok = 0 ∧ ¬x.ok = 1 ∧ ¬x.ok = 2) :
    Calls Tryz.prog 9 #[.agg (x.cells m s)] w fun e w' => e = .returned (.string (bs (textL x))) ∧ Below w.heap.size w w' := by
  obtain ⟨Am, nm, cm, rfl, hnm, _, hcm⟩ := hx.ms.form
  obtain ⟨As, ns, cs, rfl, hns, _, hcs⟩ := hx.ss.form
  have HX := Lib.hid hx
  have ia := hx.a; have ib := hx.b; have ic := hx.c; have iv := hx.val; have io := hx.old; have hkey := hx.key
  have valid' := fun W hb => rValidAct_c x (.slice Am nm cm) (.slice As ns cs) W ((HX.out.below hb (Nat.le_refl _)).more (Below.size hb))
  rw [hv] at valid'
  have HV := Lib.hid valid'
  have hM := Lib.hid hms; have hS := Lib.hid hss
  have HT : Hid (textL x = wordL 10 ++ Lib.joinTail [32] (argsL x)) := by rw [textL_eq, hk]; rfl
  have word' := fun W => word_c 10 (by decide) W
  rw [show ((((10 : Nat) : Int))) = x.kind from hk.symm] at word'
  have HW := Lib.hid word'
  clear valid' word' hx hv hnm hns hms hss
  have hw0 : (bs (wordL 10)).size ≤ 8 := by rw [bs_size]; decide
  have hs1 := nums_size [x.a, x.b] (by simpa using ⟨ia, ib⟩) (by simp)
  have hs3 := itoa_size x.val iv
  have hs4 := itoa_size x.old io
  have HA : Hid (argsL x = [Lib.itoa x.a, Lib.itoa x.b] ++ opWords x) := by simp [Hid, argsL, hk]
  have HO : Hid (opWords x = [[97, 100, 100], x.key.data.toList, Lib.itoa x.val]) := by simp [Hid, opWords, ho]
  have k4 : (x.kind == 4) = false := by rw [hk]; rfl
  have k16 : (x.kind == 16) = false := by rw [hk]; rfl
  have k15 : (x.kind == 15) = false := by rw [hk]; rfl
  have k5 : (x.kind == 5) = false := by rw [hk]; rfl
  have k7 : (x.kind == 7) = false := by rw [hk]; rfl
  have k14 : (x.kind == 14) = false := by rw [hk]; rfl
  have k12 : (x.kind == 12) = false := by rw [hk]; rfl
  have k10 : (x.kind == 10) = true := by rw [hk]; rfl
  clear hk
  have o0 : (x.ok == 0) = false := by simp [ho]
  have o1 : (x.ok == 1) = false := by simp [ho]
  have o2 : (x.ok == 2) = false := by simp [ho]
  clear ho
  rw [ActD.cells_def]
  go_enter Tryz.func9, Tryz.ntmps9
  go_wp2_with (first
    | (go_at_call 8; refine (HV.out _ (bal (B0 w) _)).mono ?_; rintro e w1 ⟨rfl, hb1⟩; have hB1 := bth (bal (B0 w) _) hb1; have hz1 : w.heap.size < w1.heap.size := blt hb1 (by simp); obtain ⟨hc1, hf1⟩ := bcell hb1)
    | (go_at_call 18; refine (HW.out _).mono ?_; rintro e w2 ⟨rfl, hb2⟩; have hB2 := bth hB1 hb2; have hz2 : w.heap.size < w2.heap.size := blt hb2 hz1; obtain ⟨hc2, hf2⟩ := bcell hb2; have hz2a : w.heap.size < w2.heap.size + 1 := Nat.lt_succ_of_lt hz2; have hz2b : w.heap.size < w2.heap.size + 1 + 1 := Nat.lt_succ_of_lt hz2a))
  refine (numbers2 x.a x.b ia ib _ _ _ (by simp)).mono ?_
  rintro e w3 ⟨rfl, hb3⟩
  have hB3 := bth (bal (bal hB2 _) _) hb3
  have hz3 : w.heap.size < w3.heap.size := blt hb3 (by simp; omega)
  have hy3 : w2.heap.size < w3.heap.size := blt hb3 (by simp; omega)
  obtain ⟨hc3, hf3⟩ := bcell hb3
  have hy3a : w2.heap.size < w2.heap.size + 1 + 1 := by omega
  have hr0 : ¬9223372036854775807 < (bs (wordL 10)).size + (bs (numsL [x.a, x.b])).size + 5 := by omega
  have hr1 : ¬9223372036854775807 < (bs (wordL 10)).size + (bs (numsL [x.a, x.b])).size + 5 + x.key.size := by omega
  have hr2 : ¬9223372036854775807 < (bs (wordL 10)).size + (bs (numsL [x.a, x.b])).size + 5 + x.key.size + 1 := by omega
  have hr3 : ¬9223372036854775807 < (bs (wordL 10)).size + (bs (numsL [x.a, x.b])).size + 5 + x.key.size + 1 + (bs (Lib.itoa x.val)).size := by omega
  go_wp2_with fail
  go_region_held3 (fun w' => w'.cell? ⟨w2.heap.size, 1, none⟩ = some (.string x.key) ∧ w'.cell? ⟨w2.heap.size, 2, none⟩ = some (.int .i64 x.val) ∧ w'.cell? ⟨w2.heap.size, 3, none⟩ = some (.int .i64 x.old)) (go_simp)
    (first
      | (go_at_call 20; refine (Decimal_c _ iv _).mono ?_; rintro e w4 ⟨rfl, hb4⟩; have hB4 := bth (bdr hB3) hb4; have hy4 : w2.heap.size < w4.heap.size := blt hb4 hy3; obtain ⟨hc4, hf4⟩ := bcellD hb4))
  go_wp2_with fail
  go_ret
  refine ⟨ret_string (a := bs (wordL 10) ++ bs (numsL [x.a, x.b]) ++ bs [32, 97, 100, 100, 32] ++ x.key ++ bs [32] ++ bs (Lib.itoa x.val)) ?_, hB4⟩
  obtain ⟨kl, hkl⟩ : ∃ kl, x.key = bs kl := ⟨_, (bs_toList _).symm⟩
  rw [HT.out, HA.out, HO.out, hkl, bs_data]
  simp only [bs_append, numsL_tail]
  simp [Lib.joinTail]

set_option maxRecDepth 100000 in
set_option maxHeartbeats 4000000 in
theorem rAct_11 (x : ActD) (m s : Value) (w : World) (hx : x.In w w.heap.size m s) (hv : validB x = true) (hms : x.ms.length ≤ 100) (hss : x.ss.length ≤ 100) (hk : x.kind = 11) :
    Calls Tryz.prog 9 #[.agg (x.cells m s)] w fun e w' => e = .returned (.string (bs (textL x))) ∧ Below w.heap.size w w' := by
  obtain ⟨Am, nm, cm, rfl, hnm, _, hcm⟩ := hx.ms.form
  obtain ⟨As, ns, cs, rfl, hns, _, hcs⟩ := hx.ss.form
  have HX := Lib.hid hx
  have ia := hx.a; have ib := hx.b; have ic := hx.c; have iv := hx.val; have io := hx.old; have hkey := hx.key
  have valid' := fun W hb => rValidAct_c x (.slice Am nm cm) (.slice As ns cs) W ((HX.out.below hb (Nat.le_refl _)).more (Below.size hb))
  rw [hv] at valid'
  have HV := Lib.hid valid'
  have hM := Lib.hid hms; have hS := Lib.hid hss
  have HT : Hid (textL x = wordL 11 ++ Lib.joinTail [32] (argsL x)) := by rw [textL_eq, hk]; rfl
  have word' := fun W => word_c 11 (by decide) W
  rw [show ((((11 : Nat) : Int))) = x.kind from hk.symm] at word'
  have HW := Lib.hid word'
  clear valid' word' hx hv hnm hns hms hss
  have hw0 : (bs (wordL 11)).size ≤ 8 := by rw [bs_size]; decide
  have hs1 := nums_size [x.a] (by simpa using ia) (by simp)
  have HA : Hid (argsL x = [Lib.itoa x.a]) := by simp [Hid, argsL, hk]
  have k4 : (x.kind == 4) = false := by rw [hk]; rfl
  have k16 : (x.kind == 16) = false := by rw [hk]; rfl
  have k15 : (x.kind == 15) = false := by rw [hk]; rfl
  have k5 : (x.kind == 5) = false := by rw [hk]; rfl
  have k7 : (x.kind == 7) = false := by rw [hk]; rfl
  have k14 : (x.kind == 14) = false := by rw [hk]; rfl
  have k12 : (x.kind == 12) = false := by rw [hk]; rfl
  have k10 : (x.kind == 10) = false := by rw [hk]; rfl
  clear hk
  rw [ActD.cells_def]
  go_enter Tryz.func9, Tryz.ntmps9
  go_wp2_with (first
    | (go_at_call 8; refine (HV.out _ (bal (B0 w) _)).mono ?_; rintro e w1 ⟨rfl, hb1⟩; have hB1 := bth (bal (B0 w) _) hb1; have hz1 : w.heap.size < w1.heap.size := blt hb1 (by simp); obtain ⟨hc1, hf1⟩ := bcell hb1)
    | (go_at_call 18; refine (HW.out _).mono ?_; rintro e w2 ⟨rfl, hb2⟩; have hB2 := bth hB1 hb2; have hz2 : w.heap.size < w2.heap.size := blt hb2 hz1; obtain ⟨hc2, hf2⟩ := bcell hb2; have hz2a : w.heap.size < w2.heap.size + 1 := Nat.lt_succ_of_lt hz2; have hz2b : w.heap.size < w2.heap.size + 1 + 1 := Nat.lt_succ_of_lt hz2a))
  refine (numbers1 x.a ia _ _ _ (by simp)).mono ?_
  rintro e w3 ⟨rfl, hb3⟩
  have hB3 := bth (bal (bal hB2 _) _) hb3
  go_wp2_with fail
  go_ret
  refine ⟨ret_string (a := bs (wordL 11) ++ bs (numsL [x.a])) ?_, hB3⟩
  rw [HT.out, HA.out, bs_append, numsL_tail]; try rfl

set_option maxRecDepth 100000 in
set_option maxHeartbeats 4000000 in
theorem rAct_12 (x : ActD) (m s : Value) (w : World) (hx : x.In w w.heap.size m s) (hv : validB x = true) (hms : x.ms.length ≤ 100) (hss : x.ss.length ≤ 100) (hk : x.kind = 12) :
    Calls Tryz.prog 9 #[.agg (x.cells m s)] w fun e w' => e = .returned (.string (bs (textL x))) ∧ Below w.heap.size w w' := by
  obtain ⟨Am, nm, cm, rfl, hnm, _, hcm⟩ := hx.ms.form
  obtain ⟨As, ns, cs, rfl, hns, _, hcs⟩ := hx.ss.form
  have HX := Lib.hid hx
  have ia := hx.a; have ib := hx.b; have ic := hx.c; have iv := hx.val; have io := hx.old; have hkey := hx.key
  have valid' := fun W hb => rValidAct_c x (.slice Am nm cm) (.slice As ns cs) W ((HX.out.below hb (Nat.le_refl _)).more (Below.size hb))
  rw [hv] at valid'
  have HV := Lib.hid valid'
  have hM := Lib.hid hms; have hS := Lib.hid hss
  have HT : Hid (textL x = wordL 12 ++ Lib.joinTail [32] (argsL x)) := by rw [textL_eq, hk]; rfl
  have word' := fun W => word_c 12 (by decide) W
  rw [show ((((12 : Nat) : Int))) = x.kind from hk.symm] at word'
  have HW := Lib.hid word'
  clear valid' word' hx hv hnm hns hms hss
  have hw0 : (bs (wordL 12)).size ≤ 8 := by rw [bs_size]; decide
  have hs1 := nums_size [x.a, x.b] (by simpa using ⟨ia, ib⟩) (by simp)
  have hs3 := itoa_size x.val iv
  have HA : Hid (argsL x = [Lib.itoa x.a, Lib.itoa x.b, Lib.itoa x.val]) := by simp [Hid, argsL, hk]
  have k4 : (x.kind == 4) = false := by rw [hk]; rfl
  have k16 : (x.kind == 16) = false := by rw [hk]; rfl
  have k15 : (x.kind == 15) = false := by rw [hk]; rfl
  have k5 : (x.kind == 5) = false := by rw [hk]; rfl
  have k7 : (x.kind == 7) = false := by rw [hk]; rfl
  have k14 : (x.kind == 14) = false := by rw [hk]; rfl
  have k12 : (x.kind == 12) = true := by rw [hk]; rfl
  clear hk
  rw [ActD.cells_def]
  go_enter Tryz.func9, Tryz.ntmps9
  go_wp2_with (first
    | (go_at_call 8; refine (HV.out _ (bal (B0 w) _)).mono ?_; rintro e w1 ⟨rfl, hb1⟩; have hB1 := bth (bal (B0 w) _) hb1; have hz1 : w.heap.size < w1.heap.size := blt hb1 (by simp); obtain ⟨hc1, hf1⟩ := bcell hb1)
    | (go_at_call 18; refine (HW.out _).mono ?_; rintro e w2 ⟨rfl, hb2⟩; have hB2 := bth hB1 hb2; have hz2 : w.heap.size < w2.heap.size := blt hb2 hz1; obtain ⟨hc2, hf2⟩ := bcell hb2; have hz2a : w.heap.size < w2.heap.size + 1 := Nat.lt_succ_of_lt hz2; have hz2b : w.heap.size < w2.heap.size + 1 + 1 := Nat.lt_succ_of_lt hz2a))
  have hq1 : ¬9223372036854775807 < (bs (wordL 12)).size + (bs (numsL [x.a, x.b])).size := by omega
  have hq2 : ¬9223372036854775807 < (bs (wordL 12)).size + (bs (numsL [x.a, x.b])).size + 1 := by omega
  have hq3 : ¬9223372036854775807 < (bs (wordL 12)).size + (bs (numsL [x.a, x.b])).size + 1 + (bs (Lib.itoa x.val)).size := by omega
  have hz2c : w2.heap.size < w2.heap.size + 1 + 1 := by omega
  go_region_held3 (fun w' => w'.cell? ⟨w.heap.size, 1, none⟩ = some (.int .i64 x.a) ∧ w'.cell? ⟨w.heap.size, 2, none⟩ = some (.int .i64 x.b) ∧ w'.cell? ⟨w2.heap.size, 2, none⟩ = some (.int .i64 x.val)) (go_simp)
    (first
      | (go_at_call 20; refine (Decimal_c _ iv _).mono ?_; rintro e w4 ⟨rfl, hb4⟩; have hB4 := bth hB3 hb4; have hz4 : w.heap.size < w4.heap.size := blt hb4 hz3; have hy4 : w2.heap.size < w4.heap.size := blt hb4 hy3; obtain ⟨hc4, hf4⟩ := bcell hb4)
      | (go_at_call 19; refine (numbers_c _ [x.a, x.b] _ (SlI.of2 (by go_simp) (by go_simp) (by simp) ia ib) (by simp)).mono ?_; rintro e w3 ⟨rfl, hb3⟩; have hB3 := bth (bdr (bal (bal hB2 _) _)) hb3; have hz3 : w.heap.size < w3.heap.size := blt hb3 (by simp; omega); have hy3 : w2.heap.size < w3.heap.size := blt hb3 (by simp; omega); obtain ⟨hc3, hf3⟩ := bcell hb3))
  go_wp2_with fail
  go_ret
  refine ⟨ret_string (a := bs (wordL 12) ++ bs (numsL [x.a, x.b]) ++ bs [32] ++ bs (Lib.itoa x.val)) ?_, hB4⟩
  rw [HT.out, HA.out, bs_append, bs_append, bs_append, numsL_tail]
  simp [Lib.joinTail]

set_option maxRecDepth 100000 in
set_option maxHeartbeats 4000000 in
theorem rAct_13 (x : ActD) (m s : Value) (w : World) (hx : x.In w w.heap.size m s) (hv : validB x = true) (hms : x.ms.length ≤ 100) (hss : x.ss.length ≤ 100) (hk : x.kind = 13) :
    Calls Tryz.prog 9 #[.agg (x.cells m s)] w fun e w' => e = .returned (.string (bs (textL x))) ∧ Below w.heap.size w w' := by
  obtain ⟨Am, nm, cm, rfl, hnm, _, hcm⟩ := hx.ms.form
  obtain ⟨As, ns, cs, rfl, hns, _, hcs⟩ := hx.ss.form
  have HX := Lib.hid hx
  have ia := hx.a; have ib := hx.b; have ic := hx.c; have iv := hx.val; have io := hx.old; have hkey := hx.key
  have valid' := fun W hb => rValidAct_c x (.slice Am nm cm) (.slice As ns cs) W ((HX.out.below hb (Nat.le_refl _)).more (Below.size hb))
  rw [hv] at valid'
  have HV := Lib.hid valid'
  have hM := Lib.hid hms; have hS := Lib.hid hss
  have HT : Hid (textL x = wordL 13 ++ Lib.joinTail [32] (argsL x)) := by rw [textL_eq, hk]; rfl
  have word' := fun W => word_c 13 (by decide) W
  rw [show ((((13 : Nat) : Int))) = x.kind from hk.symm] at word'
  have HW := Lib.hid word'
  clear valid' word' hx hv hnm hns hms hss
  have hw0 : (bs (wordL 13)).size ≤ 8 := by rw [bs_size]; decide
  have hs1 := nums_size [x.a] (by simpa using ia) (by simp)
  have HA : Hid (argsL x = [Lib.itoa x.a]) := by simp [Hid, argsL, hk]
  have k4 : (x.kind == 4) = false := by rw [hk]; rfl
  have k16 : (x.kind == 16) = false := by rw [hk]; rfl
  have k15 : (x.kind == 15) = false := by rw [hk]; rfl
  have k5 : (x.kind == 5) = false := by rw [hk]; rfl
  have k7 : (x.kind == 7) = false := by rw [hk]; rfl
  have k14 : (x.kind == 14) = false := by rw [hk]; rfl
  have k12 : (x.kind == 12) = false := by rw [hk]; rfl
  have k10 : (x.kind == 10) = false := by rw [hk]; rfl
  clear hk
  rw [ActD.cells_def]
  go_enter Tryz.func9, Tryz.ntmps9
  go_wp2_with (first
    | (go_at_call 8; refine (HV.out _ (bal (B0 w) _)).mono ?_; rintro e w1 ⟨rfl, hb1⟩; have hB1 := bth (bal (B0 w) _) hb1; have hz1 : w.heap.size < w1.heap.size := blt hb1 (by simp); obtain ⟨hc1, hf1⟩ := bcell hb1)
    | (go_at_call 18; refine (HW.out _).mono ?_; rintro e w2 ⟨rfl, hb2⟩; have hB2 := bth hB1 hb2; have hz2 : w.heap.size < w2.heap.size := blt hb2 hz1; obtain ⟨hc2, hf2⟩ := bcell hb2; have hz2a : w.heap.size < w2.heap.size + 1 := Nat.lt_succ_of_lt hz2; have hz2b : w.heap.size < w2.heap.size + 1 + 1 := Nat.lt_succ_of_lt hz2a))
  refine (numbers1 x.a ia _ _ _ (by simp)).mono ?_
  rintro e w3 ⟨rfl, hb3⟩
  have hB3 := bth (bal (bal hB2 _) _) hb3
  go_wp2_with fail
  go_ret
  refine ⟨ret_string (a := bs (wordL 13) ++ bs (numsL [x.a])) ?_, hB3⟩
  rw [HT.out, HA.out, bs_append, numsL_tail]; try rfl

set_option maxRecDepth 100000 in
set_option maxHeartbeats 4000000 in
theorem rAct_14 (x : ActD) (m s : Value) (w : World) (hx : x.In w w.heap.size m s) (hv : validB x = true) (hms : x.ms.length ≤ 100) (hss : x.ss.length ≤ 100) (hk : x.kind = 14) :
    Calls Tryz.prog 9 #[.agg (x.cells m s)] w fun e w' => e = .returned (.string (bs (textL x))) ∧ Below w.heap.size w w' := by
  obtain ⟨Am, nm, cm, rfl, hnm, _, hcm⟩ := hx.ms.form
  obtain ⟨As, ns, cs, rfl, hns, _, hcs⟩ := hx.ss.form
  have HX := Lib.hid hx
  have ia := hx.a; have ib := hx.b; have ic := hx.c; have iv := hx.val; have io := hx.old; have hkey := hx.key
  have valid' := fun W hb => rValidAct_c x (.slice Am nm cm) (.slice As ns cs) W ((HX.out.below hb (Nat.le_refl _)).more (Below.size hb))
  rw [hv] at valid'
  have HV := Lib.hid valid'
  have hM := Lib.hid hms; have hS := Lib.hid hss
  have HT : Hid (textL x = wordL 14 ++ Lib.joinTail [32] (argsL x)) := by rw [textL_eq, hk]; rfl
  have word' := fun W => word_c 14 (by decide) W
  rw [show ((((14 : Nat) : Int))) = x.kind from hk.symm] at word'
  have HW := Lib.hid word'
  clear valid' word' hx hv hnm hns hms hss
  have hw0 : (bs (wordL 14)).size ≤ 8 := by rw [bs_size]; decide
  have hs1 := nums_size [x.a, x.b, x.c] (by simpa using ⟨ia, ib, ic⟩) (by simp)
  have HA : Hid (argsL x = [Lib.itoa x.a, Lib.itoa x.b, Lib.itoa x.c]) := by simp [Hid, argsL, hk]
  have k4 : (x.kind == 4) = false := by rw [hk]; rfl
  have k16 : (x.kind == 16) = false := by rw [hk]; rfl
  have k15 : (x.kind == 15) = false := by rw [hk]; rfl
  have k5 : (x.kind == 5) = false := by rw [hk]; rfl
  have k7 : (x.kind == 7) = false := by rw [hk]; rfl
  have k14 : (x.kind == 14) = true := by rw [hk]; rfl
  clear hk
  rw [ActD.cells_def]
  go_enter Tryz.func9, Tryz.ntmps9
  go_wp2_with (first
    | (go_at_call 8; refine (HV.out _ (bal (B0 w) _)).mono ?_; rintro e w1 ⟨rfl, hb1⟩; have hB1 := bth (bal (B0 w) _) hb1; have hz1 : w.heap.size < w1.heap.size := blt hb1 (by simp); obtain ⟨hc1, hf1⟩ := bcell hb1)
    | (go_at_call 18; refine (HW.out _).mono ?_; rintro e w2 ⟨rfl, hb2⟩; have hB2 := bth hB1 hb2; have hz2 : w.heap.size < w2.heap.size := blt hb2 hz1; obtain ⟨hc2, hf2⟩ := bcell hb2; have hz2a : w.heap.size < w2.heap.size + 1 := Nat.lt_succ_of_lt hz2; have hz2b : w.heap.size < w2.heap.size + 1 + 1 := Nat.lt_succ_of_lt hz2a))
  refine (numbers3 x.a x.b x.c ia ib ic _ _ _ (by simp)).mono ?_
  rintro e w3 ⟨rfl, hb3⟩
  have hB3 := bth (bal (bal hB2 _) _) hb3
  go_wp2_with fail
  go_ret
  refine ⟨ret_string (a := bs (wordL 14) ++ bs (numsL [x.a, x.b, x.c])) ?_, hB3⟩
  rw [HT.out, HA.out, bs_append, numsL_tail]; try rfl

set_option maxRecDepth 100000 in
set_option maxHeartbeats 4000000 in
theorem rAct_15 (x : ActD) (m s : Value) (w : World) (hx : x.In w w.heap.size m s) (hv : validB x = true) (hms : x.ms.length ≤ 100) (hss : x.ss.length ≤ 100) (hk : x.kind = 15) :
    Calls Tryz.prog 9 #[.agg (x.cells m s)] w fun e w' => e = .returned (.string (bs (textL x))) ∧ Below w.heap.size w w' := by
  obtain ⟨Am, nm, cm, rfl, hnm, _, hcm⟩ := hx.ms.form
  obtain ⟨As, ns, cs, rfl, hns, _, hcs⟩ := hx.ss.form
  have HX := Lib.hid hx
  have ia := hx.a; have ib := hx.b; have ic := hx.c; have iv := hx.val; have io := hx.old; have hkey := hx.key
  have valid' := fun W hb => rValidAct_c x (.slice Am nm cm) (.slice As ns cs) W ((HX.out.below hb (Nat.le_refl _)).more (Below.size hb))
  rw [hv] at valid'
  have HV := Lib.hid valid'
  have hM := Lib.hid hms; have hS := Lib.hid hss
  have HT : Hid (textL x = wordL 15 ++ Lib.joinTail [32] (argsL x)) := by rw [textL_eq, hk]; rfl
  have word' := fun W => word_c 15 (by decide) W
  rw [show ((((15 : Nat) : Int))) = x.kind from hk.symm] at word'
  have HW := Lib.hid word'
  clear valid' word' hx hv hnm hns hms hss
  have hw0 : (bs (wordL 15)).size ≤ 8 := by rw [bs_size]; decide
  have hs2 := nums_size x.ms HX.out.ms.2 hM.out
  have HA : Hid (argsL x = x.ms.map Lib.itoa) := by simp [Hid, argsL, hk]
  have k4 : (x.kind == 4) = false := by rw [hk]; rfl
  have k16 : (x.kind == 16) = false := by rw [hk]; rfl
  have k15 : (x.kind == 15) = true := by rw [hk]; rfl
  clear hk
  rw [ActD.cells_def]
  go_enter Tryz.func9, Tryz.ntmps9
  go_wp2_with (first
    | (go_at_call 8; refine (HV.out _ (bal (B0 w) _)).mono ?_; rintro e w1 ⟨rfl, hb1⟩; have hB1 := bth (bal (B0 w) _) hb1; have hz1 : w.heap.size < w1.heap.size := blt hb1 (by simp); obtain ⟨hc1, hf1⟩ := bcell hb1)
    | (go_at_call 18; refine (HW.out _).mono ?_; rintro e w2 ⟨rfl, hb2⟩; have hB2 := bth hB1 hb2; have hz2 : w.heap.size < w2.heap.size := blt hb2 hz1; obtain ⟨hc2, hf2⟩ := bcell hb2; have hz2a : w.heap.size < w2.heap.size + 1 := Nat.lt_succ_of_lt hz2; have hz2b : w.heap.size < w2.heap.size + 1 + 1 := Nat.lt_succ_of_lt hz2a))
  refine (numbers_c _ x.ms _ ((HX.out.ms.below (bal hB2 _) (Nat.le_refl _)).more (Below.size (bal hB2 _))) (Nat.le_trans hM.out (by decide))).mono ?_
  rintro e w3 ⟨rfl, hb3⟩
  have hB3 := bth (bal hB2 _) hb3
  go_wp2_with fail
  go_ret
  refine ⟨ret_string (a := bs (wordL 15) ++ bs (numsL x.ms)) ?_, hB3⟩
  rw [HT.out, HA.out, bs_append, numsL_tail]; try rfl

set_option maxRecDepth 100000 in
set_option maxHeartbeats 4000000 in
theorem rAct_16 (x : ActD) (m s : Value) (w : World) (hx : x.In w w.heap.size m s) (hv : validB x = true) (hms : x.ms.length ≤ 100) (hss : x.ss.length ≤ 100) (hk : x.kind = 16) :
    Calls Tryz.prog 9 #[.agg (x.cells m s)] w fun e w' => e = .returned (.string (bs (textL x))) ∧ Below w.heap.size w w' := by
  obtain ⟨Am, nm, cm, rfl, hnm, _, hcm⟩ := hx.ms.form
  obtain ⟨As, ns, cs, rfl, hns, _, hcs⟩ := hx.ss.form
  have HX := Lib.hid hx
  have ia := hx.a; have ib := hx.b; have ic := hx.c; have iv := hx.val; have io := hx.old; have hkey := hx.key
  have valid' := fun W hb => rValidAct_c x (.slice Am nm cm) (.slice As ns cs) W ((HX.out.below hb (Nat.le_refl _)).more (Below.size hb))
  rw [hv] at valid'
  have HV := Lib.hid valid'
  have hM := Lib.hid hms; have hS := Lib.hid hss
  have HT : Hid (textL x = wordL 16 ++ Lib.joinTail [32] (argsL x)) := by rw [textL_eq, hk]; rfl
  have word' := fun W => word_c 16 (by decide) W
  rw [show ((((16 : Nat) : Int))) = x.kind from hk.symm] at word'
  have HW := Lib.hid word'
  clear valid' word' hx hv hnm hns hms hss
  have hw0 : (bs (wordL 16)).size ≤ 8 := by rw [bs_size]; decide
  have HA : Hid (argsL x = []) := by simp [Hid, argsL, hk]
  have k4 : (x.kind == 4) = false := by rw [hk]; rfl
  have k16 : (x.kind == 16) = true := by rw [hk]; rfl
  clear hk
  rw [ActD.cells_def]
  go_enter Tryz.func9, Tryz.ntmps9
  go_wp2_with (first
    | (go_at_call 8; refine (HV.out _ (bal (B0 w) _)).mono ?_; rintro e w1 ⟨rfl, hb1⟩; have hB1 := bth (bal (B0 w) _) hb1; have hz1 : w.heap.size < w1.heap.size := blt hb1 (by simp); obtain ⟨hc1, hf1⟩ := bcell hb1)
    | (go_at_call 18; refine (HW.out _).mono ?_; rintro e w2 ⟨rfl, hb2⟩; have hB2 := bth hB1 hb2; have hz2 : w.heap.size < w2.heap.size := blt hb2 hz1; obtain ⟨hc2, hf2⟩ := bcell hb2; have hz2a : w.heap.size < w2.heap.size + 1 := Nat.lt_succ_of_lt hz2; have hz2b : w.heap.size < w2.heap.size + 1 + 1 := Nat.lt_succ_of_lt hz2a))
  go_ret
  refine ⟨ret_string ?_, bal hB2 _⟩
  rw [HT.out, HA.out]; rfl

set_option maxRecDepth 100000 in
set_option maxHeartbeats 4000000 in
theorem rAct_17 (x : ActD) (m s : Value) (w : World) (hx : x.In w w.heap.size m s) (hv : validB x = true) (hms : x.ms.length ≤ 100) (hss : x.ss.length ≤ 100) (hk : x.kind = 17) :
    Calls Tryz.prog 9 #[.agg (x.cells m s)] w fun e w' => e = .returned (.string (bs (textL x))) ∧ Below w.heap.size w w' := by
  obtain ⟨Am, nm, cm, rfl, hnm, _, hcm⟩ := hx.ms.form
  obtain ⟨As, ns, cs, rfl, hns, _, hcs⟩ := hx.ss.form
  have HX := Lib.hid hx
  have ia := hx.a; have ib := hx.b; have ic := hx.c; have iv := hx.val; have io := hx.old; have hkey := hx.key
  have valid' := fun W hb => rValidAct_c x (.slice Am nm cm) (.slice As ns cs) W ((HX.out.below hb (Nat.le_refl _)).more (Below.size hb))
  rw [hv] at valid'
  have HV := Lib.hid valid'
  have hM := Lib.hid hms; have hS := Lib.hid hss
  have HT : Hid (textL x = wordL 17 ++ Lib.joinTail [32] (argsL x)) := by rw [textL_eq, hk]; rfl
  have word' := fun W => word_c 17 (by decide) W
  rw [show ((((17 : Nat) : Int))) = x.kind from hk.symm] at word'
  have HW := Lib.hid word'
  clear valid' word' hx hv hnm hns hms hss
  have hw0 : (bs (wordL 17)).size ≤ 8 := by rw [bs_size]; decide
  have hs1 := nums_size [x.a] (by simpa using ia) (by simp)
  have HA : Hid (argsL x = [Lib.itoa x.a]) := by simp [Hid, argsL, hk]
  have k4 : (x.kind == 4) = false := by rw [hk]; rfl
  have k16 : (x.kind == 16) = false := by rw [hk]; rfl
  have k15 : (x.kind == 15) = false := by rw [hk]; rfl
  have k5 : (x.kind == 5) = false := by rw [hk]; rfl
  have k7 : (x.kind == 7) = false := by rw [hk]; rfl
  have k14 : (x.kind == 14) = false := by rw [hk]; rfl
  have k12 : (x.kind == 12) = false := by rw [hk]; rfl
  have k10 : (x.kind == 10) = false := by rw [hk]; rfl
  clear hk
  rw [ActD.cells_def]
  go_enter Tryz.func9, Tryz.ntmps9
  go_wp2_with (first
    | (go_at_call 8; refine (HV.out _ (bal (B0 w) _)).mono ?_; rintro e w1 ⟨rfl, hb1⟩; have hB1 := bth (bal (B0 w) _) hb1; have hz1 : w.heap.size < w1.heap.size := blt hb1 (by simp); obtain ⟨hc1, hf1⟩ := bcell hb1)
    | (go_at_call 18; refine (HW.out _).mono ?_; rintro e w2 ⟨rfl, hb2⟩; have hB2 := bth hB1 hb2; have hz2 : w.heap.size < w2.heap.size := blt hb2 hz1; obtain ⟨hc2, hf2⟩ := bcell hb2; have hz2a : w.heap.size < w2.heap.size + 1 := Nat.lt_succ_of_lt hz2; have hz2b : w.heap.size < w2.heap.size + 1 + 1 := Nat.lt_succ_of_lt hz2a))
  refine (numbers1 x.a ia _ _ _ (by simp)).mono ?_
  rintro e w3 ⟨rfl, hb3⟩
  have hB3 := bth (bal (bal hB2 _) _) hb3
  go_wp2_with fail
  go_ret
  refine ⟨ret_string (a := bs (wordL 17) ++ bs (numsL [x.a])) ?_, hB3⟩
  rw [HT.out, HA.out, bs_append, numsL_tail]; try rfl

set_option maxRecDepth 100000 in
theorem rAct_no (x : ActD) (m s : Value) (w : World) (hx : x.In w w.heap.size m s) (hv : validB x = false) :
    Calls Tryz.prog 9 #[.agg (x.cells m s)] w fun e w' => e = .returned (.string (bs [])) ∧ Below w.heap.size w w' := by
  obtain ⟨Am, nm, cm, rfl, _, _, _⟩ := hx.ms.form
  obtain ⟨As, ns, cs, rfl, _, _, _⟩ := hx.ss.form
  have HX := Lib.hid hx
  have valid' := fun W hb => rValidAct_c x (.slice Am nm cm) (.slice As ns cs) W ((HX.out.below hb (Nat.le_refl _)).more (Below.size hb))
  rw [hv] at valid'
  have HV := Lib.hid valid'
  clear valid' hx hv
  rw [ActD.cells_def]
  go_enter Tryz.func9, Tryz.ntmps9
  go_wp2_with (go_at_call 8; refine (HV.out _ (bal (B0 w) _)).mono ?_; rintro e w1 ⟨rfl, hb1⟩; have hB1 := bth (bal (B0 w) _) hb1)
  go_ret
  exact ⟨rfl, hB1⟩
theorem rAct_c (x : ActD) (m s : Value) (w : World) (hx : x.In w w.heap.size m s) (hms : x.ms.length ≤ 100) (hss : x.ss.length ≤ 100) :
    Calls Tryz.prog 9 #[.agg (x.cells m s)] w fun e w' => e = .returned (.string (bs (actText x))) ∧ Below w.heap.size w w' := by
  unfold actText
  cases hv : validB x with
  | false => exact rAct_no x m s w hx hv
  | true =>
    obtain ⟨h0, h17⟩ := kindOk_range (validB_kind hv)
    by_cases h0 : x.kind = 0
    · exact rAct_0 x m s w hx hv hms hss h0
    by_cases h1 : x.kind = 1
    · exact rAct_1 x m s w hx hv hms hss h1
    by_cases h2 : x.kind = 2
    · exact rAct_2 x m s w hx hv hms hss h2
    by_cases h3 : x.kind = 3
    · exact rAct_3 x m s w hx hv hms hss h3
    by_cases h4 : x.kind = 4
    · exact rAct_4 x m s w hx hv hms hss h4
    by_cases h5 : x.kind = 5
    · exact rAct_5 x m s w hx hv hms hss h5
    by_cases h6 : x.kind = 6
    · exact rAct_6 x m s w hx hv hms hss h6
    by_cases h7 : x.kind = 7
    · exact rAct_7 x m s w hx hv hms hss h7
    by_cases h8 : x.kind = 8
    · exact rAct_8 x m s w hx hv hms hss h8
    by_cases h9 : x.kind = 9
    · exact rAct_9 x m s w hx hv hms hss h9
    by_cases h11 : x.kind = 11
    · exact rAct_11 x m s w hx hv hms hss h11
    by_cases h12 : x.kind = 12
    · exact rAct_12 x m s w hx hv hms hss h12
    by_cases h13 : x.kind = 13
    · exact rAct_13 x m s w hx hv hms hss h13
    by_cases h14 : x.kind = 14
    · exact rAct_14 x m s w hx hv hms hss h14
    by_cases h15 : x.kind = 15
    · exact rAct_15 x m s w hx hv hms hss h15
    by_cases h16 : x.kind = 16
    · exact rAct_16 x m s w hx hv hms hss h16
    by_cases h17 : x.kind = 17
    · exact rAct_17 x m s w hx hv hms hss h17
    have h10 : x.kind = 10 := by omega
    by_cases o0 : x.ok = 0
    · exact rAct_10_0 x m s w hx hv hms hss h10 o0
    by_cases o1 : x.ok = 1
    · exact rAct_10_1 x m s w hx hv hms hss h10 o1
    by_cases o2 : x.ok = 2
    · exact rAct_10_2 x m s w hx hv hms hss h10 o2
    exact rAct_10_3 x m s w hx hv hms hss h10 ⟨o0, o1, o2⟩
end Go.Proofs.YtdgciagmcjdhhaaGreatDoor
