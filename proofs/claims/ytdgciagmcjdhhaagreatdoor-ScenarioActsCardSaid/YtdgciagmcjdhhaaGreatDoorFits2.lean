/-
  The closure that looks whether the machines of a replan fit.
-/
import Derived.Test.YtdgciagmcjdhhaaGreatDoorFits
set_option linter.unusedVariables false
set_option linter.unusedSimpArgs false
namespace Go.Proofs.YtdgciagmcjdhhaaGreatDoor
open Go Go.RowKit Go.MapKept Go.ChangeMaps

set_option maxRecDepth 100000 in
set_option maxHeartbeats 4000000 in
theorem fits_replan (x : ActD) (m s : Value) (w : World) (hms : SlI w w.heap.size m x.ms) (hl : x.ms.length ≤ 1000000) :
    Calls Tryz.prog 69 #[.agg (x.cells m s)] w fun e w' => e = .returned (.bool (msOk x.ms)) ∧ Below w.heap.size w w' := by
  obtain ⟨A, n, c, rfl, hn, hc, hm⟩ := hms.form
  have HL := Lib.hid hn
  have H := Lib.hid hms
  have hn' : n ≤ 1000000 := by omega
  clear hms hn hl
  rw [ActD.cells_def]
  go_enter Tryz.func69, Tryz.ntmps69
  go_wp2_with fail
  go_loopw [8] (fun i wr => ∃ k : Nat, k ≤ n ∧ i = .int .i64 k ∧ Below w.heap.size w wr ∧ w.heap.size < wr.heap.size ∧ wr.cell? ⟨w.heap.size, 8, none⟩ = some (.slice A n c) ∧ ∀ j, j < k → msGood x.ms j) (fun i _ => n - (intOf i).toNat)
  case atStart => exact ⟨0, Nat.zero_le _, rfl, bal (B0 w) _, by simp, by go_simp, by omega⟩
  case round =>
    obtain ⟨k, hk, rfl, hb, hbx, hcl, hgood⟩ := hrel
    have HGd := Lib.hid hgood
    clear hgood
    by_cases hlt : k < n
    · obtain ⟨b, o, rfl, hbB, hcell⟩ := (H.out.below hb (Nat.le_refl _)).at_ k hlt
      have h1 := hcell k hlt
      have h2 := hcell (k - 1) (by omega)
      clear hcell
      have i3 : IntKind.i64.wrap ((k : Int) + 1) = (k : Int) + 1 := IntWalk.i64_in _ (by omega)
      have mc := fun W => machine_c (nth x.ms k) W
      by_cases h0 : k = 0
      · subst h0
        rw [Nat.add_zero] at h1
        clear h2
        have i4 : IntKind.i64.wrap ((0 : Int) + 1) = 1 := by decide
        cases hg : inR (nth x.ms 0) 1 16 with
        | true =>
          rw [hg] at mc
          have HM := Lib.hid mc
          clear mc
          go_wp2_with (go_at_call 31; refine (HM.out _).mono ?_; rintro e w1 ⟨rfl, rfl⟩)
          exact ⟨⟨1, by omega, by go_num, hb, hbx, hcl, fun j hj => by
            have : j = 0 := by omega
            subst this
            exact ⟨inR_iff.1 hg, fun h => by omega⟩⟩, by simp [intOf]; omega⟩
        | false =>
          rw [hg] at mc
          have HM := Lib.hid mc
          clear mc
          go_wp2_with (go_at_call 31; refine (HM.out _).mono ?_; rintro e w1 ⟨rfl, rfl⟩)
          go_ret
          exact ⟨ret_bool (msOk_false (k := 0) (by rw [HL.out]; exact hlt) (fun h => by rw [inR_iff.2 h.1] at hg; cases hg)).symm, hb⟩
      · have j0 : decide (0 < k) = true := by simp; omega
        have j1 : IntKind.i64.wrap ((k : Int) - 1) = (k : Int) - 1 := IntWalk.i64_in _ (by omega)
        have j2 : ((k : Int) - 1).toNat = k - 1 := by omega
        have j3 : (0 : Int) ≤ (k : Int) - 1 := by omega
        have j4 : (k : Int) - 1 < (n : Int) := by omega
        cases hg : inR (nth x.ms k) 1 16 with
        | true =>
          rw [hg] at mc
          have HM := Lib.hid mc
          clear mc
          by_cases hle : nth x.ms k ≤ nth x.ms (k - 1)
          · have hle' : decide (nth x.ms k ≤ nth x.ms (k - 1)) = true := by simpa using hle
            go_wp2_with (go_at_call 31; refine (HM.out _).mono ?_; rintro e w1 ⟨rfl, rfl⟩)
            go_ret
            exact ⟨ret_bool (msOk_false (k := k) (by rw [HL.out]; exact hlt) (fun h => by have := h.2 (by omega); omega)).symm, hb⟩
          · have hle' : decide (nth x.ms k ≤ nth x.ms (k - 1)) = false := by simpa using hle
            go_wp2_with (go_at_call 31; refine (HM.out _).mono ?_; rintro e w1 ⟨rfl, rfl⟩)
            exact ⟨⟨k + 1, by omega, by go_num, hb, hbx, hcl, fun j hj => by
              by_cases e : j = k
              · subst e; exact ⟨inR_iff.1 hg, fun _ => by omega⟩
              · exact HGd.out j (by omega)⟩, by simp [intOf]; omega⟩
        | false =>
          rw [hg] at mc
          have HM := Lib.hid mc
          clear mc
          go_wp2_with (go_at_call 31; refine (HM.out _).mono ?_; rintro e w1 ⟨rfl, rfl⟩)
          go_ret
          exact ⟨ret_bool (msOk_false (k := k) (by rw [HL.out]; exact hlt) (fun h => by rw [inR_iff.2 h.1] at hg; cases hg)).symm, hb⟩
    · go_wp2_with fail
      go_ret
      exact ⟨ret_bool (msOk_true (fun j hj => HGd.out j (by rw [HL.out] at hj; omega))).symm, hb⟩
end Go.Proofs.YtdgciagmcjdhhaaGreatDoor
