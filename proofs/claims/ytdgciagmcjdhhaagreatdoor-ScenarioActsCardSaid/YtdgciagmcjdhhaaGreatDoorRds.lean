/-
  The law ScenarioReadsActs: true at every string.
-/
import Derived.Test.YtdgciagmcjdhhaaGreatDoorActs
set_option linter.unusedVariables false
set_option linter.unusedSimpArgs false
namespace Go.Proofs.YtdgciagmcjdhhaaGreatDoor
open Go Go.RowKit Go.MapKept Go.ChangeMaps

theorem ms_ge {l : List Int} (h : msOk l = true) : ∀ j, j < l.length → ((j : Int) + 1 ≤ nth l j ∧ nth l j ≤ 16) := by
  have hg : ∀ j, j < l.length → msGood l j := fun j hj => by
    rw [msOk, List.all_eq_true] at h
    exact of_decide_eq_true (h j (by simpa using hj))
  intro j
  induction j with
  | zero => intro hj; have := (hg 0 hj).1; omega
  | succ j ih =>
    intro hj
    have h1 := ih (by omega)
    have h2 := hg (j + 1) hj
    have h3 := h2.2 (by omega)
    have h4 := h2.1
    simp only [Nat.add_sub_cancel] at h3
    omega
theorem valid_lens {y : ActD} (h : validB y = true) : y.ms.length ≤ 16 ∧ y.ss.length ≤ 20 := by
  simp only [validB, Bool.and_eq_true, decide_eq_true_eq] at h
  obtain ⟨⟨⟨⟨_, h1⟩, _⟩, h2⟩, _⟩ := h
  refine ⟨?_, h1⟩
  rcases Nat.lt_or_ge 16 y.ms.length with h | h
  · have := ms_ge h2 16 h; omega
  · exact h
set_option maxRecDepth 100000 in
set_option maxHeartbeats 4000000 in
theorem reads_long (s : ByteArray) (w : World) (hG : Glob w) (hl : 300 < s.size) :
    Calls Tryz.prog 4 #[.string s] w fun e w' => e = .returned (.bool true) ∧ Below w.heap.size w w' := by
  have HA := Lib.hid (fun W (h : Glob W) => awake_c W h)
  have HG := Lib.hid hG
  have i1 : (300 : Int) < (s.size : Int) := by omega
  clear hG
  go_enter Tryz.func4, Tryz.ntmps4
  go_wp2_with (go_at_call 5; refine (HA.out _ HG.out).mono ?_; rintro e w1 ⟨rfl, hb1⟩)
  go_ret
  exact ⟨rfl, hb1⟩
theorem in_zero (W : World) : (actZ 0).In W W.heap.size (.slice none 0 0) (.slice none 0 0) :=
  ⟨I64.zero, I64.zero, I64.zero, I64.zero, I64.zero, Nat.zero_le _, I64.zero, I64.zero, SlI.nil_ _ _, SlI.nil_ _ _⟩
theorem same_zero (W : World) :
    Calls Tryz.prog 11 #[.agg #[.int .i64 0, .int .i64 0, .int .i64 0, .int .i64 0, .int .i64 0, .string ⟨#[]⟩, .int .i64 0, .int .i64 0, .slice none 0 0, .slice none 0 0], .agg #[.int .i64 0, .int .i64 0, .int .i64 0, .int .i64 0, .int .i64 0, .string ⟨#[]⟩, .int .i64 0, .int .i64 0, .slice none 0 0, .slice none 0 0]] W fun e w' => e = .returned (.bool true) ∧ Below W.heap.size W w' := by
  have c := Same_c (actZ 0) (actZ 0) (.slice none 0 0) (.slice none 0 0) (.slice none 0 0) (.slice none 0 0) W (in_zero W) (in_zero W)
  rw [same_refl] at c
  exact c
set_option maxRecDepth 100000 in
set_option maxHeartbeats 4000000 in
theorem reads_none (s : ByteArray) (w : World) (hG : Glob w) (hl : s.size ≤ 300) (hp : parseActD (splitS s) = none) :
    Calls Tryz.prog 4 #[.string s] w fun e w' => e = .returned (.bool true) ∧ Below w.heap.size w w' := by
  have HA := Lib.hid (fun W (h : Glob W) => awake_c W h)
  have HP := Lib.hid (fun W (h : Glob W) => parse_none_c hp (by omega) W h)
  have HG := Lib.hid hG
  have i1 : ¬(300 : Int) < (s.size : Int) := by omega
  clear hG hp
  go_enter Tryz.func4, Tryz.ntmps4
  go_wp2_with fail
  refine (HP.out _ HG.out).mono ?_
  rintro e w1 ⟨rfl, hb1⟩
  go_wp2_with fail
  refine (same_zero _).mono ?_
  rintro e w2 ⟨rfl, hb2⟩
  have hB2 := bth (bal hb1 _) hb2
  go_wp2_with fail
  refine (HA.out _ (HG.out.step hB2)).mono ?_
  rintro e w3 ⟨rfl, hb3⟩
  go_wp2_with fail
  go_ret
  exact ⟨rfl, bth hB2 hb3⟩
set_option maxRecDepth 100000 in
set_option maxHeartbeats 8000000 in
theorem reads_some (s : ByteArray) (w : World) (hG : Glob w) (hl : s.size ≤ 300) (y : ActD) (hp : parseActD (splitS s) = some y) :
    Calls Tryz.prog 4 #[.string s] w fun e w' => e = .returned (.bool true) ∧ Below w.heap.size w w' := by
  obtain ⟨hv, ht⟩ := text_parse hp
  obtain ⟨hlm, hls⟩ := valid_lens hv
  have HA := Lib.hid (fun W (h : Glob W) => awake_c W h)
  have HP := Lib.hid (fun W (h : Glob W) => parse_some_c hp (by omega) W h)
  have HrVal : Hid (∀ (m t : Value) (W : World), y.In W W.heap.size m t → Calls Tryz.prog 8 #[.agg (y.cells m t)] W fun e w' => e = .returned (.bool true) ∧ Below W.heap.size W w') := fun m t W h => by
    have c := rValidAct_c y m t W h
    rw [hv] at c
    exact c
  have HrAct : Hid (∀ (m t : Value) (W : World), y.In W W.heap.size m t → Calls Tryz.prog 9 #[.agg (y.cells m t)] W fun e w' => e = .returned (.string s) ∧ Below W.heap.size W w') := fun m t W h => by
    have c := rAct_c y m t W h (by omega) (by omega)
    have e : bs (actText y) = s := by unfold actText; rw [if_pos hv]; exact ht
    rw [e] at c
    exact c
  have HG := Lib.hid hG
  have i1 : ¬(300 : Int) < (s.size : Int) := by omega
  clear hG hp hv ht
  simp only [ActD.cells_def] at HP HrVal HrAct
  go_enter Tryz.func4, Tryz.ntmps4
  go_wp2_with fail
  refine (HP.out _ HG.out).mono ?_
  rintro e w1 ⟨Am, nm, cm, At, nt, ct, rfl, hI1, hb1⟩
  have HI1 := Lib.hid hI1
  have HB1 := Lib.hid hb1
  clear hI1 hb1
  go_wp2_with fail
  refine (HrVal.out (.slice Am nm cm) (.slice At nt ct) _ ((HI1.out.below (bal (B0 w1) _) (Nat.le_refl _)).more (bal (B0 w1) _).size)).mono ?_
  rintro e w2 ⟨rfl, hb2⟩
  have hB2 := bth (bal (B0 w1) _) hb2
  have hz2 : w1.heap.size < w2.heap.size := by have h := hb2.size; simp at h; omega
  have HI2 := Lib.hid ((HI1.out.below hB2 (Nat.le_refl _)).more hB2.size)
  have HB2 := Lib.hid (bth HB1.out hB2)
  obtain ⟨hc2, hf2⟩ := bcell hb2
  clear hb2 hB2
  go_wp2_with fail
  refine (HrAct.out (.slice Am nm cm) (.slice At nt ct) _ HI2.out).mono ?_
  rintro e w3 ⟨rfl, hb3⟩
  have HB3 := Lib.hid (bth HB2.out hb3)
  clear hb3
  go_wp2_with fail
  refine (HA.out _ (HG.out.step HB3.out)).mono ?_
  rintro e w4 ⟨rfl, hb4⟩
  go_wp2_with fail
  go_ret
  exact ⟨rfl, bth HB3.out hb4⟩
theorem reads_c (s : ByteArray) (w : World) (hG : Glob w) :
    Calls Tryz.prog 4 #[.string s] w fun e w' => e = .returned (.bool true) ∧ Below w.heap.size w w' := by
  by_cases hl : 300 < s.size
  · exact reads_long s w hG hl
  · cases hp : parseActD (splitS s) with
    | none => exact reads_none s w hG (by omega) hp
    | some y => exact reads_some s w hG (by omega) y hp
end Go.Proofs.YtdgciagmcjdhhaaGreatDoor
