/-
  The reference's ValidAct.
-/
import Derived.Test.YtdgciagmcjdhhaaGreatDoorRef3
import Derived.Deep.RegionHeld3
set_option linter.unusedVariables false
set_option linter.unusedSimpArgs false
namespace Go.Proofs.YtdgciagmcjdhhaaGreatDoor
open Go Go.RowKit

/-- The ten cells of an act that lies at the head of block b. -/
def Lies (w : World) (b : Nat) (x : ActD) (m s : Value) : Prop :=
  w.cell? ⟨b, 0, none⟩ = some (.int .i64 x.kind) ∧ w.cell? ⟨b, 1, none⟩ = some (.int .i64 x.a) ∧ w.cell? ⟨b, 2, none⟩ = some (.int .i64 x.b) ∧ w.cell? ⟨b, 3, none⟩ = some (.int .i64 x.c) ∧ w.cell? ⟨b, 4, none⟩ = some (.int .i64 x.ok) ∧ w.cell? ⟨b, 5, none⟩ = some (.string x.key) ∧ w.cell? ⟨b, 6, none⟩ = some (.int .i64 x.val) ∧ w.cell? ⟨b, 7, none⟩ = some (.int .i64 x.old) ∧ w.cell? ⟨b, 8, none⟩ = some m ∧ w.cell? ⟨b, 9, none⟩ = some s
theorem Lies.keep {w w' : World} {b : Nat} {x : ActD} {m s : Value} (h : Lies w b x m s) (hk : ∀ o, w'.cell? ⟨b, o, none⟩ = w.cell? ⟨b, o, none⟩) : Lies w' b x m s := by
  unfold Lies at h ⊢
  simp only [hk]
  exact h
theorem Lies.below {w w' : World} {b B : Nat} {x : ActD} {m s : Value} (h : Lies w b x m s) (hb : Below B w w') (hB : b < B) : Lies w' b x m s :=
  h.keep fun _ => hb.cell hB
theorem Lies.new (w : World) (t : TypeId) (x : ActD) (m s : Value) : Lies (w.alloc (.cells (x.cells m s) t)) w.heap.size x m s := by
  simp [Lies, ActD.cells]

def ssGood (n : Int) : Prop := 0 ≤ n ∧ n ≤ 128
def msGood (l : List Int) (j : Nat) : Prop := (1 ≤ nth l j ∧ nth l j ≤ 16) ∧ (0 < j → nth l (j - 1) < nth l j)
instance (n : Int) : Decidable (ssGood n) := by unfold ssGood; infer_instance
instance (l : List Int) (j : Nat) : Decidable (msGood l j) := by unfold msGood; infer_instance
def ssOk (l : List Int) : Bool := (List.range l.length).all fun j => decide (ssGood (nth l j))
def msOk (l : List Int) : Bool := (List.range l.length).all fun j => decide (msGood l j)
theorem ssOk_true {l : List Int} (h : ∀ j, j < l.length → ssGood (nth l j)) : ssOk l = true := by
  rw [ssOk, List.all_eq_true]; intro j hj; exact decide_eq_true (h j (by simpa using hj))
theorem ssOk_false {l : List Int} {k : Nat} (hk : k < l.length) (h : ¬ssGood (nth l k)) : ssOk l = false := by
  rw [Bool.eq_false_iff, ssOk]; intro ha; rw [List.all_eq_true] at ha
  exact h (of_decide_eq_true (ha k (by simpa using hk)))
theorem msOk_true {l : List Int} (h : ∀ j, j < l.length → msGood l j) : msOk l = true := by
  rw [msOk, List.all_eq_true]; intro j hj; exact decide_eq_true (h j (by simpa using hj))
theorem msOk_false {l : List Int} {k : Nat} (hk : k < l.length) (h : ¬msGood l k) : msOk l = false := by
  rw [Bool.eq_false_iff, msOk]; intro ha; rw [List.all_eq_true] at ha
  exact h (of_decide_eq_true (ha k (by simpa using hk)))
theorem within_t (n a b : Int) (h : a ≤ n ∧ n ≤ b) (w : World) : Calls Tryz.prog 16 #[.int .i64 n, .int .i64 a, .int .i64 b] w fun e w' => e = .returned (.bool true) ∧ w' = w :=
  (within_c n a b w).mono fun e w' ⟨he, hw⟩ => ⟨by rw [he]; simp [h.1, h.2], hw.symm⟩
theorem within_f (n a b : Int) (h : ¬(a ≤ n ∧ n ≤ b)) (w : World) : Calls Tryz.prog 16 #[.int .i64 n, .int .i64 a, .int .i64 b] w fun e w' => e = .returned (.bool false) ∧ w' = w :=
  (within_c n a b w).mono fun e w' ⟨he, hw⟩ => ⟨by rw [he]; refine ret_bool ?_; rw [Bool.eq_false_iff]; simpa using h, hw.symm⟩
def inR (n a b : Int) : Bool := decide (a ≤ n) && decide (n ≤ b)
theorem within_q (n a b : Int) (w : World) : Calls Tryz.prog 16 #[.int .i64 n, .int .i64 a, .int .i64 b] w fun e w' => e = .returned (.bool (inR n a b)) ∧ w' = w :=
  (within_c n a b w).mono fun e w' ⟨he, hw⟩ => ⟨he, hw.symm⟩
def kindOk (x : ActD) : Bool :=
  if x.kind = 0 ∨ x.kind = 1 ∨ x.kind = 2 then inR x.a 0 1048576
  else if x.kind = 3 ∨ x.kind = 6 ∨ x.kind = 13 ∨ x.kind = 5 then inR x.a 1 16
  else if x.kind = 4 ∨ x.kind = 16 ∨ x.kind = 15 then true
  else if x.kind = 7 then inR x.a 1 16 && inR x.b 0 1048576
  else if x.kind = 8 ∨ x.kind = 9 then inR x.a 1 16 || inR x.a 101 108
  else if x.kind = 10 then inR x.a 1 8 && inR x.b 0 8 && validOpB x
  else if x.kind = 11 then inR x.a 1 8
  else if x.kind = 12 then inR x.a 1 8 && inR x.b 1 8
  else if x.kind = 14 then inR x.a 1 16 && inR x.c 1 16 && inR x.b 0 8
  else if x.kind = 17 then inR x.a 1 200
  else false
def validB (x : ActD) : Bool := sameB x (usedD x) && decide (x.ss.length ≤ 20) && ssOk x.ss && msOk x.ms && kindOk x

set_option maxRecDepth 100000 in
set_option maxHeartbeats 4000000 in
theorem rValid_first (x : ActD) (m s : Value) (w : World) (hx : x.In w w.heap.size m s) (hv : sameB x (usedD x) = false) :
    Calls Tryz.prog 8 #[.agg (x.cells m s)] w fun e w' => e = .returned (.bool false) ∧ Below w.heap.size w w' := by
  obtain ⟨Am, nm, cm, rfl, hnm, _, hcm⟩ := hx.ms.form
  obtain ⟨As, ns, cs, rfl, hns, _, hcs⟩ := hx.ss.form
  have HX := Lib.hid hx
  have HNm := Lib.hid hnm; have HNs := Lib.hid hns
  have used' := fun W hb => used_c x (.slice Am nm cm) (.slice As ns cs) W ((HX.out.below hb (Nat.le_refl _)).more (Below.size hb))
  have same' := fun W m' s' hb (hu : (usedD x).In W W.heap.size m' s') => Same_c x (usedD x) (.slice Am nm cm) (.slice As ns cs) m' s' W ((HX.out.below hb (Nat.le_refl _)).more (Below.size hb)) hu
  rw [hv] at same'
  have HU := Lib.hid used'
  have HS := Lib.hid same'
  clear used' same' hx hv hnm hns
  rw [ActD.cells_def]
  go_enter Tryz.func8, Tryz.ntmps8
  go_wp2_with fail
  first | (go_region_with
    (first
      | (go_at_call 15; refine (HU.out _ (bdr (bal (B0 w) _))).mono ?_; rintro e w1 ⟨m1, s1, rfl, hin1, hb1⟩; have hB1 := bth (bdr (bal (B0 w) _)) hb1; have hz1 : w.heap.size < w1.heap.size := blt hb1 (by simp); obtain ⟨hc1, hf1⟩ := bcell hb1)
      | (go_at_call 11; refine (HS.out _ m1 s1 hB1 hin1).mono ?_; rintro e w2 ⟨rfl, hb2⟩; have hB2 := bth hB1 hb2; have hz2 : w.heap.size < w2.heap.size := blt hb2 hz1; obtain ⟨hc2, hf2⟩ := bcell hb2))) | fail
  all_goals go_wp2_with fail
  all_goals go_ret
  all_goals exact ⟨rfl, hB2⟩

set_option maxRecDepth 100000 in
set_option maxHeartbeats 4000000 in
theorem rValid_long (x : ActD) (m s : Value) (w : World) (hx : x.In w w.heap.size m s) (hv : sameB x (usedD x) = true) (hl : 20 < x.ss.length) :
    Calls Tryz.prog 8 #[.agg (x.cells m s)] w fun e w' => e = .returned (.bool false) ∧ Below w.heap.size w w' := by
  obtain ⟨Am, nm, cm, rfl, hnm, _, hcm⟩ := hx.ms.form
  obtain ⟨As, ns, cs, rfl, hns, _, hcs⟩ := hx.ss.form
  have HX := Lib.hid hx
  have HNm := Lib.hid hnm; have HNs := Lib.hid hns
  have used' := fun W hb => used_c x (.slice Am nm cm) (.slice As ns cs) W ((HX.out.below hb (Nat.le_refl _)).more (Below.size hb))
  have same' := fun W m' s' hb (hu : (usedD x).In W W.heap.size m' s') => Same_c x (usedD x) (.slice Am nm cm) (.slice As ns cs) m' s' W ((HX.out.below hb (Nat.le_refl _)).more (Below.size hb)) hu
  rw [hv] at same'
  have HU := Lib.hid used'
  have HS := Lib.hid same'
  clear used' same' hx hv hnm hns
  have hl' : (20 : Int) < ns := by rw [HNs.out] at hl; omega
  clear hl
  rw [ActD.cells_def]
  go_enter Tryz.func8, Tryz.ntmps8
  go_wp2_with fail
  go_region_held3 (fun w' => w'.cell? ⟨w.heap.size, 0, none⟩ = some (.int .i64 x.kind) ∧ w'.cell? ⟨w.heap.size, 1, none⟩ = some (.int .i64 x.a) ∧ w'.cell? ⟨w.heap.size, 2, none⟩ = some (.int .i64 x.b) ∧ w'.cell? ⟨w.heap.size, 3, none⟩ = some (.int .i64 x.c) ∧ w'.cell? ⟨w.heap.size, 4, none⟩ = some (.int .i64 x.ok) ∧ w'.cell? ⟨w.heap.size, 5, none⟩ = some (.string x.key) ∧ w'.cell? ⟨w.heap.size, 6, none⟩ = some (.int .i64 x.val) ∧ w'.cell? ⟨w.heap.size, 7, none⟩ = some (.int .i64 x.old) ∧ w'.cell? ⟨w.heap.size, 8, none⟩ = some (.slice Am nm cm) ∧ w'.cell? ⟨w.heap.size, 9, none⟩ = some (.slice As ns cs)) (simp [*])
    (first
      | (go_at_call 15; refine (HU.out _ (bdr (bal (B0 w) _))).mono ?_; rintro e w1 ⟨m1, s1, rfl, hin1, hb1⟩; have hB1 := bth (bdr (bal (B0 w) _)) hb1; have hz1 : w.heap.size < w1.heap.size := blt hb1 (by simp); obtain ⟨hc1, hf1⟩ := bcell hb1)
      | (go_at_call 11; refine (HS.out _ m1 s1 hB1 hin1).mono ?_; rintro e w2 ⟨rfl, hb2⟩; have hB2 := bth hB1 hb2; have hz2 : w.heap.size < w2.heap.size := blt hb2 hz1; obtain ⟨hc2, hf2⟩ := bcell hb2))
  all_goals go_wp2_with fail
  all_goals go_ret
  all_goals exact ⟨rfl, hB2⟩

set_option maxRecDepth 100000 in
set_option maxHeartbeats 4000000 in
theorem rValid_rest (x : ActD) (m s : Value) (w : World) (hx : x.In w w.heap.size m s) (hv : sameB x (usedD x) = true) (hl : x.ss.length ≤ 20) :
    Calls Tryz.prog 8 #[.agg (x.cells m s)] w fun e w' => e = .returned (.bool (ssOk x.ss && msOk x.ms && kindOk x)) ∧ Below w.heap.size w w' := by
  obtain ⟨Am, nm, cm, rfl, hnm, _, hcm⟩ := hx.ms.form
  obtain ⟨As, ns, cs, rfl, hns, _, hcs⟩ := hx.ss.form
  have HX := Lib.hid hx
  have HNm := Lib.hid hnm; have HNs := Lib.hid hns
  have used' := fun W hb => used_c x (.slice Am nm cm) (.slice As ns cs) W ((HX.out.below hb (Nat.le_refl _)).more (Below.size hb))
  have same' := fun W m' s' hb (hu : (usedD x).In W W.heap.size m' s') => Same_c x (usedD x) (.slice Am nm cm) (.slice As ns cs) m' s' W ((HX.out.below hb (Nat.le_refl _)).more (Below.size hb)) hu
  rw [hv] at same'
  have HU := Lib.hid used'
  have HS := Lib.hid same'
  clear used' same' hx hv hnm hns
  have hl' : (ns : Int) ≤ 20 := by rw [HNs.out] at hl; omega
  clear hl
  rw [ActD.cells_def]
  go_enter Tryz.func8, Tryz.ntmps8
  go_wp2_with fail
  go_region_held3 (fun w' => w'.cell? ⟨w.heap.size, 0, none⟩ = some (.int .i64 x.kind) ∧ w'.cell? ⟨w.heap.size, 1, none⟩ = some (.int .i64 x.a) ∧ w'.cell? ⟨w.heap.size, 2, none⟩ = some (.int .i64 x.b) ∧ w'.cell? ⟨w.heap.size, 3, none⟩ = some (.int .i64 x.c) ∧ w'.cell? ⟨w.heap.size, 4, none⟩ = some (.int .i64 x.ok) ∧ w'.cell? ⟨w.heap.size, 5, none⟩ = some (.string x.key) ∧ w'.cell? ⟨w.heap.size, 6, none⟩ = some (.int .i64 x.val) ∧ w'.cell? ⟨w.heap.size, 7, none⟩ = some (.int .i64 x.old) ∧ w'.cell? ⟨w.heap.size, 8, none⟩ = some (.slice Am nm cm) ∧ w'.cell? ⟨w.heap.size, 9, none⟩ = some (.slice As ns cs)) (simp [*])
    (first
      | (go_at_call 15; refine (HU.out _ (bdr (bal (B0 w) _))).mono ?_; rintro e w1 ⟨m1, s1, rfl, hin1, hb1⟩; have hB1 := bth (bdr (bal (B0 w) _)) hb1; have hz1 : w.heap.size < w1.heap.size := blt hb1 (by simp); obtain ⟨hc1, hf1⟩ := bcell hb1)
      | (go_at_call 11; refine (HS.out _ m1 s1 hB1 hin1).mono ?_; rintro e w2 ⟨rfl, hb2⟩; have hB2 := bth hB1 hb2; have hz2 : w.heap.size < w2.heap.size := blt hb2 hz1; obtain ⟨hc2, hf2⟩ := bcell hb2))
  all_goals go_wp2_with fail
  have hIn := HX.out.below hB2 (Nat.le_refl _)
  have HIn := Lib.hid hIn
  clear hIn HU HS hc1 hf1 hc2 hf2 hz1 hb1 hb2 hin1 hB1
  go_loop [3] (fun i => ∃ k : Nat, k ≤ ns ∧ i = .int .i64 k ∧ ∀ j, j < k → ssGood (nth x.ss j)) (fun i => ns - (intOf i).toNat)
  case atStart => exact ⟨0, Nat.zero_le _, rfl, by omega⟩
  case round =>
    obtain ⟨k, hk, rfl, hgood⟩ := hrel
    have HG := Lib.hid hgood
    clear hgood
    by_cases hlt : k < ns
    · obtain ⟨b, o, rfl, hbB, hcell⟩ := HIn.out.ss.at_ k hlt
      have h1 := hcell k hlt
      clear hcell
      by_cases hg : ssGood (nth x.ss k)
      · have HGG := Lib.hid hg
        clear hg
        go_wp2_with (go_at_call 16; refine (within_t _ _ _ HGG.out _).mono ?_; rintro e w3 ⟨rfl, rfl⟩)
        exact ⟨⟨k + 1, by omega, by go_num, (fun j hj => by
          by_cases e : j = k
          · rw [e]; exact HGG.out
          · exact HG.out j (by omega))⟩, by simp [intOf]; omega⟩
      · have HGG := Lib.hid hg
        clear hg
        go_wp2_with (go_at_call 16; refine (within_f _ _ _ HGG.out _).mono ?_; rintro e w3 ⟨rfl, rfl⟩)
        go_ret
        exact ⟨ret_bool (by rw [ssOk_false (by rw [HNs.out]; exact hlt) HGG.out]; rfl), hB2⟩
    · have hss : ssOk x.ss = true := ssOk_true fun j hj => HG.out j (by rw [HNs.out] at hj; omega)
      have HSS := Lib.hid hss
      clear hss HG
      go_wp2_with fail
      go_loopw [4] (fun i wr => ∃ k : Nat, k ≤ nm ∧ i = .int .i64 k ∧ (∀ j, j < k → msGood x.ms j) ∧ ∃ q, wr = w2.drewN q) (fun i _ => nm - (intOf i).toNat)
      case atStart => exact ⟨0, Nat.zero_le _, rfl, by omega, 0, rfl⟩
      case round =>
        obtain ⟨k2, hk2, rfl, hgood, q, rfl⟩ := hrel
        have HG := Lib.hid hgood
        clear hgood
        by_cases hlt2 : k2 < nm
        · obtain ⟨b, o, rfl, hbB, hcell⟩ := HIn.out.ms.at_ k2 hlt2
          have h1 := hcell k2 hlt2
          have h0 : 0 < k2 → w2.cell? ⟨b, o + (k2 - 1), none⟩ = some (.int .i64 (nth x.ms (k2 - 1))) := fun h => hcell (k2 - 1) (by omega)
          have i1 : (0 : Int) ≤ (k2 : Int) := by omega
          have i2 : (k2 : Int) < (nm : Int) := by omega
          clear hcell
          have bad : ¬msGood x.ms k2 → Hid (msOk x.ms = false) := fun h => msOk_false (by rw [HNm.out]; exact hlt2) h
          have good : msGood x.ms k2 → Hid (∀ j, j < k2 + 1 → msGood x.ms j) := fun h j hj => by
            by_cases e : j = k2
            · rw [e]; exact h
            · exact HG.out j (by omega)
          by_cases hw : 1 ≤ nth x.ms k2 ∧ nth x.ms k2 ≤ 16
          · have HW := Lib.hid hw
            by_cases hz : k2 = 0
            · have GOOD := good ⟨hw, fun h => by omega⟩
              have hgt : decide (0 < k2) = false := by simp; omega
              clear hw bad good h0 hz
              go_wp2_with fail
              go_quiet ((go_at_call 16; first | exact quiet_add_same (within_t _ _ _ HW.out _) | exact Calls.quiet_of_same (within_t _ _ _ HW.out _)))
              go_wp2
              exact ⟨⟨k2 + 1, by omega, by go_num, GOOD.out, _, rfl⟩, by simp [intOf]; omega⟩
            · have h0' := h0 (by omega)
              have hgt : decide (0 < k2) = true := by simp; omega
              have i3 : IntKind.i64.wrap ((k2 : Int) - 1) = (k2 : Int) - 1 := IntWalk.i64_in _ (by omega)
              have i4 : ((k2 : Int) - 1).toNat = k2 - 1 := by omega
              have i5 : (0 : Int) ≤ (k2 : Int) - 1 := by omega
              have i6 : (k2 : Int) - 1 < (nm : Int) := by omega
              by_cases hc : nth x.ms (k2 - 1) < nth x.ms k2
              · have GOOD := good ⟨hw, fun _ => hc⟩
                have hge : decide (nth x.ms k2 ≤ nth x.ms (k2 - 1)) = false := by simpa using hc
                clear hw bad good h0 hz hc
                go_wp2_with fail
                go_quiet ((go_at_call 16; first | exact quiet_add_same (within_t _ _ _ HW.out _) | exact Calls.quiet_of_same (within_t _ _ _ HW.out _)))
                clear i3 i4
                go_wp2
                exact ⟨⟨k2 + 1, by omega, by go_num, GOOD.out, _, rfl⟩, by simp [intOf]; omega⟩
              · have BAD := bad (fun h => hc (h.2 (by omega)))
                have hge : decide (nth x.ms k2 ≤ nth x.ms (k2 - 1)) = true := by simp; omega
                clear hw bad good h0 hz hc
                go_wp2_with fail
                go_quiet ((go_at_call 16; first | exact quiet_add_same (within_t _ _ _ HW.out _) | exact Calls.quiet_of_same (within_t _ _ _ HW.out _)))
                clear i3 i4
                go_wp2
                go_ret
                exact ⟨ret_bool (by rw [HSS.out, BAD.out]; rfl), (by first | exact bdrN hB2 _ | exact bdrN (bdrN hB2 _) _)⟩
          · have HW := Lib.hid hw
            have BAD := bad (fun h => hw h.1)
            clear hw bad good h0
            go_wp2_with fail
            go_quiet ((go_at_call 16; first | exact quiet_add_same (within_f _ _ _ HW.out _) | exact Calls.quiet_of_same (within_f _ _ _ HW.out _)))
            go_wp2
            go_ret
            exact ⟨ret_bool (by rw [HSS.out, BAD.out]; rfl), (by first | exact bdrN hB2 _ | exact bdrN (bdrN hB2 _) _)⟩
        · have hms : msOk x.ms = true := msOk_true fun j hj => HG.out j (by rw [HNm.out] at hj; omega)
          have HMS := Lib.hid hms
          clear hms HG
          have hRes : ∀ b, b = kindOk x → (ssOk x.ss && msOk x.ms && kindOk x) = b := fun b hb => by rw [HSS.out, HMS.out, hb]; rfl
          have HRes := Lib.hid hRes
          clear hRes
          go_wp2_with fail
          go_quiet ((go_at_call 16; first | exact quiet_add_same (within_q _ _ _ _) | exact Calls.quiet_of_same (within_q _ _ _ _)))
          by_cases h0 : x.kind = 0
          · go_wp2_with (first
              | (go_at_call 16; refine (within_q _ _ _ _).mono ?_; rintro e w3 ⟨rfl, rfl⟩)
              | (go_at_call 17; refine (validOp_c x _).mono ?_; rintro e w3 ⟨rfl, hb3⟩))
            all_goals go_ret
            all_goals exact ⟨ret_bool (HRes.out _ (by simp [kindOk, *])).symm, (by first | exact bdrN hB2 _ | exact bdrN (bdrN hB2 _) _)⟩
          have e0 : (x.kind == 0) = false := by simp [h0]
          by_cases h1 : x.kind = 1
          · go_wp2_with (first
              | (go_at_call 16; refine (within_q _ _ _ _).mono ?_; rintro e w3 ⟨rfl, rfl⟩)
              | (go_at_call 17; refine (validOp_c x _).mono ?_; rintro e w3 ⟨rfl, hb3⟩))
            all_goals go_ret
            all_goals exact ⟨ret_bool (HRes.out _ (by simp [kindOk, *])).symm, (by first | exact bdrN hB2 _ | exact bdrN (bdrN hB2 _) _)⟩
          have e1 : (x.kind == 1) = false := by simp [h1]
          by_cases h2 : x.kind = 2
          · go_wp2_with (first
              | (go_at_call 16; refine (within_q _ _ _ _).mono ?_; rintro e w3 ⟨rfl, rfl⟩)
              | (go_at_call 17; refine (validOp_c x _).mono ?_; rintro e w3 ⟨rfl, hb3⟩))
            all_goals go_ret
            all_goals exact ⟨ret_bool (HRes.out _ (by simp [kindOk, *])).symm, (by first | exact bdrN hB2 _ | exact bdrN (bdrN hB2 _) _)⟩
          have e2 : (x.kind == 2) = false := by simp [h2]
          by_cases h3 : x.kind = 3
          · go_wp2_with (first
              | (go_at_call 16; refine (within_q _ _ _ _).mono ?_; rintro e w3 ⟨rfl, rfl⟩)
              | (go_at_call 17; refine (validOp_c x _).mono ?_; rintro e w3 ⟨rfl, hb3⟩))
            all_goals go_ret
            all_goals exact ⟨ret_bool (HRes.out _ (by simp [kindOk, *])).symm, (by first | exact bdrN hB2 _ | exact bdrN (bdrN hB2 _) _)⟩
          have e3 : (x.kind == 3) = false := by simp [h3]
          by_cases h6 : x.kind = 6
          · go_wp2_with (first
              | (go_at_call 16; refine (within_q _ _ _ _).mono ?_; rintro e w3 ⟨rfl, rfl⟩)
              | (go_at_call 17; refine (validOp_c x _).mono ?_; rintro e w3 ⟨rfl, hb3⟩))
            all_goals go_ret
            all_goals exact ⟨ret_bool (HRes.out _ (by simp [kindOk, *])).symm, (by first | exact bdrN hB2 _ | exact bdrN (bdrN hB2 _) _)⟩
          have e6 : (x.kind == 6) = false := by simp [h6]
          by_cases h13 : x.kind = 13
          · go_wp2_with (first
              | (go_at_call 16; refine (within_q _ _ _ _).mono ?_; rintro e w3 ⟨rfl, rfl⟩)
              | (go_at_call 17; refine (validOp_c x _).mono ?_; rintro e w3 ⟨rfl, hb3⟩))
            all_goals go_ret
            all_goals exact ⟨ret_bool (HRes.out _ (by simp [kindOk, *])).symm, (by first | exact bdrN hB2 _ | exact bdrN (bdrN hB2 _) _)⟩
          have e13 : (x.kind == 13) = false := by simp [h13]
          by_cases h5 : x.kind = 5
          · go_wp2_with (first
              | (go_at_call 16; refine (within_q _ _ _ _).mono ?_; rintro e w3 ⟨rfl, rfl⟩)
              | (go_at_call 17; refine (validOp_c x _).mono ?_; rintro e w3 ⟨rfl, hb3⟩))
            all_goals go_ret
            all_goals exact ⟨ret_bool (HRes.out _ (by simp [kindOk, *])).symm, (by first | exact bdrN hB2 _ | exact bdrN (bdrN hB2 _) _)⟩
          have e5 : (x.kind == 5) = false := by simp [h5]
          by_cases h4 : x.kind = 4
          · go_wp2_with (first
              | (go_at_call 16; refine (within_q _ _ _ _).mono ?_; rintro e w3 ⟨rfl, rfl⟩)
              | (go_at_call 17; refine (validOp_c x _).mono ?_; rintro e w3 ⟨rfl, hb3⟩))
            all_goals go_ret
            all_goals exact ⟨ret_bool (HRes.out _ (by simp [kindOk, *])).symm, (by first | exact bdrN hB2 _ | exact bdrN (bdrN hB2 _) _)⟩
          have e4 : (x.kind == 4) = false := by simp [h4]
          by_cases h16 : x.kind = 16
          · go_wp2_with (first
              | (go_at_call 16; refine (within_q _ _ _ _).mono ?_; rintro e w3 ⟨rfl, rfl⟩)
              | (go_at_call 17; refine (validOp_c x _).mono ?_; rintro e w3 ⟨rfl, hb3⟩))
            all_goals go_ret
            all_goals exact ⟨ret_bool (HRes.out _ (by simp [kindOk, *])).symm, (by first | exact bdrN hB2 _ | exact bdrN (bdrN hB2 _) _)⟩
          have e16 : (x.kind == 16) = false := by simp [h16]
          by_cases h15 : x.kind = 15
          · go_wp2_with (first
              | (go_at_call 16; refine (within_q _ _ _ _).mono ?_; rintro e w3 ⟨rfl, rfl⟩)
              | (go_at_call 17; refine (validOp_c x _).mono ?_; rintro e w3 ⟨rfl, hb3⟩))
            all_goals go_ret
            all_goals exact ⟨ret_bool (HRes.out _ (by simp [kindOk, *])).symm, (by first | exact bdrN hB2 _ | exact bdrN (bdrN hB2 _) _)⟩
          have e15 : (x.kind == 15) = false := by simp [h15]
          by_cases h7 : x.kind = 7
          · go_wp2_with (first
              | (go_at_call 16; refine (within_q _ _ _ _).mono ?_; rintro e w3 ⟨rfl, rfl⟩)
              | (go_at_call 17; refine (validOp_c x _).mono ?_; rintro e w3 ⟨rfl, hb3⟩))
            all_goals go_ret
            all_goals exact ⟨ret_bool (HRes.out _ (by simp [kindOk, *])).symm, (by first | exact bdrN hB2 _ | exact bdrN (bdrN hB2 _) _)⟩
          have e7 : (x.kind == 7) = false := by simp [h7]
          by_cases h8 : x.kind = 8
          · go_wp2_with (first
              | (go_at_call 16; refine (within_q _ _ _ _).mono ?_; rintro e w3 ⟨rfl, rfl⟩)
              | (go_at_call 17; refine (validOp_c x _).mono ?_; rintro e w3 ⟨rfl, hb3⟩))
            all_goals go_ret
            all_goals exact ⟨ret_bool (HRes.out _ (by simp [kindOk, *])).symm, (by first | exact bdrN hB2 _ | exact bdrN (bdrN hB2 _) _)⟩
          have e8 : (x.kind == 8) = false := by simp [h8]
          by_cases h9 : x.kind = 9
          · go_wp2_with (first
              | (go_at_call 16; refine (within_q _ _ _ _).mono ?_; rintro e w3 ⟨rfl, rfl⟩)
              | (go_at_call 17; refine (validOp_c x _).mono ?_; rintro e w3 ⟨rfl, hb3⟩))
            all_goals go_ret
            all_goals exact ⟨ret_bool (HRes.out _ (by simp [kindOk, *])).symm, (by first | exact bdrN hB2 _ | exact bdrN (bdrN hB2 _) _)⟩
          have e9 : (x.kind == 9) = false := by simp [h9]
          by_cases h10 : x.kind = 10
          · go_wp2_with (first
              | (go_at_call 16; refine (within_q _ _ _ _).mono ?_; rintro e w3 ⟨rfl, rfl⟩)
              | (go_at_call 17; refine (validOp_c x _).mono ?_; rintro e w3 ⟨rfl, hb3⟩))
            all_goals go_ret
            all_goals refine ⟨ret_bool (HRes.out _ (by simp [kindOk, *])).symm, ?_⟩
            all_goals first | exact bdrN hB2 _ | exact bdrN (bdrN hB2 _) _ | exact bth (bdrN hB2 _) hb3 | exact bth (bdrN (bdrN hB2 _) _) hb3
          have e10 : (x.kind == 10) = false := by simp [h10]
          by_cases h11 : x.kind = 11
          · go_wp2_with (first
              | (go_at_call 16; refine (within_q _ _ _ _).mono ?_; rintro e w3 ⟨rfl, rfl⟩)
              | (go_at_call 17; refine (validOp_c x _).mono ?_; rintro e w3 ⟨rfl, hb3⟩))
            all_goals go_ret
            all_goals exact ⟨ret_bool (HRes.out _ (by simp [kindOk, *])).symm, (by first | exact bdrN hB2 _ | exact bdrN (bdrN hB2 _) _)⟩
          have e11 : (x.kind == 11) = false := by simp [h11]
          by_cases h12 : x.kind = 12
          · go_wp2_with (first
              | (go_at_call 16; refine (within_q _ _ _ _).mono ?_; rintro e w3 ⟨rfl, rfl⟩)
              | (go_at_call 17; refine (validOp_c x _).mono ?_; rintro e w3 ⟨rfl, hb3⟩))
            all_goals go_ret
            all_goals exact ⟨ret_bool (HRes.out _ (by simp [kindOk, *])).symm, (by first | exact bdrN hB2 _ | exact bdrN (bdrN hB2 _) _)⟩
          have e12 : (x.kind == 12) = false := by simp [h12]
          by_cases h14 : x.kind = 14
          · go_wp2_with (first
              | (go_at_call 16; refine (within_q _ _ _ _).mono ?_; rintro e w3 ⟨rfl, rfl⟩)
              | (go_at_call 17; refine (validOp_c x _).mono ?_; rintro e w3 ⟨rfl, hb3⟩))
            all_goals go_ret
            all_goals exact ⟨ret_bool (HRes.out _ (by simp [kindOk, *])).symm, (by first | exact bdrN hB2 _ | exact bdrN (bdrN hB2 _) _)⟩
          have e14 : (x.kind == 14) = false := by simp [h14]
          by_cases h17 : x.kind = 17
          · go_wp2_with (first
              | (go_at_call 16; refine (within_q _ _ _ _).mono ?_; rintro e w3 ⟨rfl, rfl⟩)
              | (go_at_call 17; refine (validOp_c x _).mono ?_; rintro e w3 ⟨rfl, hb3⟩))
            all_goals go_ret
            all_goals exact ⟨ret_bool (HRes.out _ (by simp [kindOk, *])).symm, (by first | exact bdrN hB2 _ | exact bdrN (bdrN hB2 _) _)⟩
          have e17 : (x.kind == 17) = false := by simp [h17]
          go_wp2_with fail
          go_ret
          exact ⟨ret_bool (HRes.out _ (by simp [kindOk, *])).symm, (by first | exact bdrN hB2 _ | exact bdrN (bdrN hB2 _) _)⟩

theorem rValidAct_c (x : ActD) (m s : Value) (w : World) (hx : x.In w w.heap.size m s) :
    Calls Tryz.prog 8 #[.agg (x.cells m s)] w fun e w' => e = .returned (.bool (validB x)) ∧ Below w.heap.size w w' := by
  cases hv : sameB x (usedD x) with
  | false => exact (rValid_first x m s w hx hv).mono fun e w' ⟨he, hw⟩ => ⟨by rw [he]; simp [validB, hv], hw⟩
  | true =>
    by_cases hl : x.ss.length ≤ 20
    · exact (rValid_rest x m s w hx hv hl).mono fun e w' ⟨he, hw⟩ => ⟨by rw [he]; simp [validB, hv, hl], hw⟩
    · exact (rValid_long x m s w hx hv (by omega)).mono fun e w' ⟨he, hw⟩ => ⟨by rw [he]; simp [validB, hv, hl], hw⟩
end Go.Proofs.YtdgciagmcjdhhaaGreatDoor
