/-
  The reference's validOp, word and numbers.
-/
import Derived.Test.YtdgciagmcjdhhaaGreatDoorRef1
set_option linter.unusedVariables false
set_option linter.unusedSimpArgs false
namespace Go.Proofs.YtdgciagmcjdhhaaGreatDoor
open Go Go.RowKit

def okByte (c : UInt8) : Bool := decide (33 ≤ c.toNat) && decide (c.toNat ≤ 126)
def opCells (x : ActD) : Array Value := #[.int .i64 x.ok, .string x.key, .int .i64 x.val, .int .i64 x.old]

def keyOk (s : ByteArray) : Bool := s.data.toList.all okByte
theorem keyOk_true {s : ByteArray} (h : ∀ k (hk : k < s.size), okByte s[k] = true) : keyOk s = true := by
  rw [keyOk, List.all_eq_true]
  intro c hc
  obtain ⟨i, hi, rfl⟩ := List.getElem_of_mem hc
  exact h i (by rw [Array.length_toList] at hi; exact hi)
theorem keyOk_false {s : ByteArray} {k : Nat} (hk : k < s.size) (h : ¬okByte s[k] = true) : keyOk s = false := by
  rw [Bool.eq_false_iff]
  intro ha
  rw [keyOk, List.all_eq_true] at ha
  exact h (ha _ (Array.mem_toList_iff.2 (Array.getElem_mem hk)))
theorem okByte_iff (c : UInt8) : okByte c = true ↔ 33 ≤ c.toNat ∧ c.toNat ≤ 126 := by simp [okByte]

def validOpB (x : ActD) : Bool :=
  decide (0 ≤ x.ok) && decide (x.ok ≤ 3) && decide (1 ≤ x.key.size) && decide (x.key.size ≤ 31) && ((x.old == 0) || (x.ok == 2)) && ((x.val == 0) || !(x.ok == 0)) && keyOk x.key

set_option maxHeartbeats 1000000 in
theorem validOp_no (x : ActD) (w : World) (hA : ¬(0 ≤ x.ok ∧ x.ok ≤ 3 ∧ 1 ≤ x.key.size ∧ x.key.size ≤ 31 ∧ (x.old = 0 ∨ x.ok = 2) ∧ (x.val = 0 ∨ x.ok ≠ 0))) :
    Calls Tryz.prog 17 #[.agg (opCells x)] w fun e w' => e = .returned (.bool false) ∧ Below w.heap.size w w' := by
  have HA := Lib.hid hA
  clear hA
  rw [opCells]
  go_enter Tryz.func17, Tryz.ntmps17
  go_wp2_with fail
  all_goals first
    | (go_ret; exact ⟨rfl, bal (B0 w) _⟩)
    | (exfalso; refine HA.out ?_; simp only [bne_iff_ne, ne_eq, beq_iff_eq, beq_eq_false_iff_ne, bne_eq_false_iff_eq] at *; omega)

set_option maxHeartbeats 1000000 in
theorem validOp_yes (x : ActD) (w : World) (hA : 0 ≤ x.ok ∧ x.ok ≤ 3 ∧ 1 ≤ x.key.size ∧ x.key.size ≤ 31 ∧ (x.old = 0 ∨ x.ok = 2) ∧ (x.val = 0 ∨ x.ok ≠ 0)) :
    Calls Tryz.prog 17 #[.agg (opCells x)] w fun e w' => e = .returned (.bool (keyOk x.key)) ∧ Below w.heap.size w w' := by
  obtain ⟨h1, h2, h3, h4, h5, h6⟩ := hA
  have h5' : ((x.old != 0) = false) ∨ ((x.old != 0) = true ∧ (x.ok != 2) = false) := by
    rcases h5 with h | h
    · simp [h]
    · by_cases h0 : x.old = 0 <;> simp [h, h0]
  have h6' : ((x.val != 0) = false) ∨ ((x.val != 0) = true ∧ (x.ok == 0) = false) := by
    rcases h6 with h | h
    · simp [h]
    · by_cases h0 : x.val = 0 <;> simp [h, h0]
  clear h5 h6
  rw [opCells]
  rcases h5' with h5 | ⟨h5, h5b⟩ <;> rcases h6' with h6 | ⟨h6, h6b⟩
  all_goals
    go_enter Tryz.func17, Tryz.ntmps17
    go_wp2_with fail
    go_loopw [3] (fun i wr => ∃ k : Nat, k ≤ x.key.size ∧ i = .int .i64 k ∧ (∀ j (hj : j < x.key.size), j < k → okByte x.key[j] = true) ∧ wr = w.alloc (.cells #[.int .i64 x.ok, .string x.key, .int .i64 x.val, .int .i64 x.old] 23)) (fun i _ => x.key.size - (intOf i).toNat)
    case atStart => exact ⟨0, Nat.zero_le _, rfl, by omega, rfl⟩
    case round =>
      obtain ⟨k, hk, rfl, hok, rfl⟩ := hrel
      have HO := Lib.hid hok
      clear hok
      by_cases hlt : k < x.key.size
      · go_wp2_with fail
        all_goals first
          | exact ⟨⟨k + 1, by omega, by go_num, (fun j hj hl => by
              by_cases e : j = k
              · subst e; rw [okByte_iff]; omega
              · exact HO.out j hj (by omega)), trivial⟩, by simp [intOf]; omega⟩
          | (go_ret; exact ⟨ret_bool (keyOk_false hlt (by rw [okByte_iff]; omega)).symm, bal (B0 w) _⟩)
      · go_wp2_with fail
        go_ret
        exact ⟨ret_bool (keyOk_true fun j hj => HO.out j hj (by omega)).symm, bal (B0 w) _⟩

theorem validOp_c (x : ActD) (w : World) :
    Calls Tryz.prog 17 #[.agg (opCells x)] w fun e w' => e = .returned (.bool (validOpB x)) ∧ Below w.heap.size w w' := by
  by_cases hA : 0 ≤ x.ok ∧ x.ok ≤ 3 ∧ 1 ≤ x.key.size ∧ x.key.size ≤ 31 ∧ (x.old = 0 ∨ x.ok = 2) ∧ (x.val = 0 ∨ x.ok ≠ 0)
  · refine (validOp_yes x w hA).mono fun e w' ⟨he, hw⟩ => ⟨?_, hw⟩
    obtain ⟨h1, h2, h3, h4, h5, h6⟩ := hA
    rw [he]; refine ret_bool ?_
    by_cases hv : x.val = 0 <;> rcases h5 with h5 | h5 <;> rcases h6 with h6 | h6 <;> simp [validOpB, h1, h2, h3, h4, h5, h6, hv]
  · refine (validOp_no x w hA).mono fun e w' ⟨he, hw⟩ => ⟨?_, hw⟩
    rw [he]; refine ret_bool ?_
    simp only [validOpB]
    symm
    rw [Bool.eq_false_iff]
    intro h
    simp only [Bool.and_eq_true, Bool.or_eq_true, decide_eq_true_eq, beq_iff_eq, Bool.not_eq_true', beq_eq_false_iff_ne] at h
    exact hA ⟨h.1.1.1.1.1.1, h.1.1.1.1.1.2, h.1.1.1.1.2, h.1.1.1.2, h.1.1.2, h.1.2⟩
end Go.Proofs.YtdgciagmcjdhhaaGreatDoor
