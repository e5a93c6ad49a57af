/-
  The reference's word (the first word of an act's text) and numbers (a blank and a numeral for each element).
-/
import Derived.Test.YtdgciagmcjdhhaaGreatDoorRef2
set_option linter.unusedVariables false
set_option linter.unusedSimpArgs false
namespace Go.Proofs.YtdgciagmcjdhhaaGreatDoor
open Go Go.RowKit

def wordL : Nat → List UInt8
  | 0 => [100, 101, 108, 105, 118, 101, 114]
  | 1 => [100, 114, 111, 112]
  | 2 => [100, 111, 117, 98, 108, 101]
  | 3 => [116, 105, 99, 107]
  | 4 => [115, 108, 111, 116]
  | 5 => [99, 114, 97, 115, 104]
  | 6 => [114, 101, 115, 116, 97, 114, 116]
  | 7 => [102, 97, 105, 108]
  | 8 => [105, 115, 111, 108, 97, 116, 101]
  | 9 => [106, 111, 105, 110]
  | 10 => [114, 101, 113, 117, 101, 115, 116]
  | 11 => [114, 101, 116, 114, 121]
  | 12 => [99, 97, 108, 108]
  | 13 => [99, 111, 109, 112, 97, 99, 116]
  | 14 => [116, 114, 97, 110, 115, 102, 101, 114]
  | 15 => [114, 101, 112, 108, 97, 110]
  | 16 => [100, 97, 114, 107]
  | 17 => [99, 97, 108, 109]
  | _ => []
theorem word_0 (w : World) : Calls Tryz.prog 18 #[.int .i64 0] w fun e w' => e = .returned (.string (bs (wordL 0))) ∧ Below w.heap.size w w' := by
  go_enter Tryz.func18, Tryz.ntmps18
  go_wp2
  go_ret
  exact ⟨rfl, bal (B0 w) _⟩
theorem word_1 (w : World) : Calls Tryz.prog 18 #[.int .i64 1] w fun e w' => e = .returned (.string (bs (wordL 1))) ∧ Below w.heap.size w w' := by
  go_enter Tryz.func18, Tryz.ntmps18
  go_wp2
  go_ret
  exact ⟨rfl, bal (B0 w) _⟩
theorem word_2 (w : World) : Calls Tryz.prog 18 #[.int .i64 2] w fun e w' => e = .returned (.string (bs (wordL 2))) ∧ Below w.heap.size w w' := by
  go_enter Tryz.func18, Tryz.ntmps18
  go_wp2
  go_ret
  exact ⟨rfl, bal (B0 w) _⟩
theorem word_3 (w : World) : Calls Tryz.prog 18 #[.int .i64 3] w fun e w' => e = .returned (.string (bs (wordL 3))) ∧ Below w.heap.size w w' := by
  go_enter Tryz.func18, Tryz.ntmps18
  go_wp2
  go_ret
  exact ⟨rfl, bal (B0 w) _⟩
theorem word_4 (w : World) : Calls Tryz.prog 18 #[.int .i64 4] w fun e w' => e = .returned (.string (bs (wordL 4))) ∧ Below w.heap.size w w' := by
  go_enter Tryz.func18, Tryz.ntmps18
  go_wp2
  go_ret
  exact ⟨rfl, bal (B0 w) _⟩
theorem word_5 (w : World) : Calls Tryz.prog 18 #[.int .i64 5] w fun e w' => e = .returned (.string (bs (wordL 5))) ∧ Below w.heap.size w w' := by
  go_enter Tryz.func18, Tryz.ntmps18
  go_wp2
  go_ret
  exact ⟨rfl, bal (B0 w) _⟩
theorem word_6 (w : World) : Calls Tryz.prog 18 #[.int .i64 6] w fun e w' => e = .returned (.string (bs (wordL 6))) ∧ Below w.heap.size w w' := by
  go_enter Tryz.func18, Tryz.ntmps18
  go_wp2
  go_ret
  exact ⟨rfl, bal (B0 w) _⟩
theorem word_7 (w : World) : Calls Tryz.prog 18 #[.int .i64 7] w fun e w' => e = .returned (.string (bs (wordL 7))) ∧ Below w.heap.size w w' := by
  go_enter Tryz.func18, Tryz.ntmps18
  go_wp2
  go_ret
  exact ⟨rfl, bal (B0 w) _⟩
theorem word_8 (w : World) : Calls Tryz.prog 18 #[.int .i64 8] w fun e w' => e = .returned (.string (bs (wordL 8))) ∧ Below w.heap.size w w' := by
  go_enter Tryz.func18, Tryz.ntmps18
  go_wp2
  go_ret
  exact ⟨rfl, bal (B0 w) _⟩
theorem word_9 (w : World) : Calls Tryz.prog 18 #[.int .i64 9] w fun e w' => e = .returned (.string (bs (wordL 9))) ∧ Below w.heap.size w w' := by
  go_enter Tryz.func18, Tryz.ntmps18
  go_wp2
  go_ret
  exact ⟨rfl, bal (B0 w) _⟩
theorem word_10 (w : World) : Calls Tryz.prog 18 #[.int .i64 10] w fun e w' => e = .returned (.string (bs (wordL 10))) ∧ Below w.heap.size w w' := by
  go_enter Tryz.func18, Tryz.ntmps18
  go_wp2
  go_ret
  exact ⟨rfl, bal (B0 w) _⟩
theorem word_11 (w : World) : Calls Tryz.prog 18 #[.int .i64 11] w fun e w' => e = .returned (.string (bs (wordL 11))) ∧ Below w.heap.size w w' := by
  go_enter Tryz.func18, Tryz.ntmps18
  go_wp2
  go_ret
  exact ⟨rfl, bal (B0 w) _⟩
theorem word_12 (w : World) : Calls Tryz.prog 18 #[.int .i64 12] w fun e w' => e = .returned (.string (bs (wordL 12))) ∧ Below w.heap.size w w' := by
  go_enter Tryz.func18, Tryz.ntmps18
  go_wp2
  go_ret
  exact ⟨rfl, bal (B0 w) _⟩
theorem word_13 (w : World) : Calls Tryz.prog 18 #[.int .i64 13] w fun e w' => e = .returned (.string (bs (wordL 13))) ∧ Below w.heap.size w w' := by
  go_enter Tryz.func18, Tryz.ntmps18
  go_wp2
  go_ret
  exact ⟨rfl, bal (B0 w) _⟩
theorem word_14 (w : World) : Calls Tryz.prog 18 #[.int .i64 14] w fun e w' => e = .returned (.string (bs (wordL 14))) ∧ Below w.heap.size w w' := by
  go_enter Tryz.func18, Tryz.ntmps18
  go_wp2
  go_ret
  exact ⟨rfl, bal (B0 w) _⟩
theorem word_15 (w : World) : Calls Tryz.prog 18 #[.int .i64 15] w fun e w' => e = .returned (.string (bs (wordL 15))) ∧ Below w.heap.size w w' := by
  go_enter Tryz.func18, Tryz.ntmps18
  go_wp2
  go_ret
  exact ⟨rfl, bal (B0 w) _⟩
theorem word_16 (w : World) : Calls Tryz.prog 18 #[.int .i64 16] w fun e w' => e = .returned (.string (bs (wordL 16))) ∧ Below w.heap.size w w' := by
  go_enter Tryz.func18, Tryz.ntmps18
  go_wp2
  go_ret
  exact ⟨rfl, bal (B0 w) _⟩
theorem word_17 (w : World) : Calls Tryz.prog 18 #[.int .i64 17] w fun e w' => e = .returned (.string (bs (wordL 17))) ∧ Below w.heap.size w w' := by
  go_enter Tryz.func18, Tryz.ntmps18
  go_wp2
  go_ret
  exact ⟨rfl, bal (B0 w) _⟩
theorem word_c (k : Nat) (h : k < 18) (w : World) : Calls Tryz.prog 18 #[.int .i64 k] w fun e w' => e = .returned (.string (bs (wordL k))) ∧ Below w.heap.size w w' := by
  match k, h with
  | 0, _ => exact word_0 w
  | 1, _ => exact word_1 w
  | 2, _ => exact word_2 w
  | 3, _ => exact word_3 w
  | 4, _ => exact word_4 w
  | 5, _ => exact word_5 w
  | 6, _ => exact word_6 w
  | 7, _ => exact word_7 w
  | 8, _ => exact word_8 w
  | 9, _ => exact word_9 w
  | 10, _ => exact word_10 w
  | 11, _ => exact word_11 w
  | 12, _ => exact word_12 w
  | 13, _ => exact word_13 w
  | 14, _ => exact word_14 w
  | 15, _ => exact word_15 w
  | 16, _ => exact word_16 w
  | 17, _ => exact word_17 w
  | _ + 18, h => exact absurd h (by omega)

def numsL : List Int → List UInt8
  | [] => []
  | n :: r => 32 :: Lib.itoa n ++ numsL r
theorem numsL_append (a b : List Int) : numsL (a ++ b) = numsL a ++ numsL b := by
  induction a with
  | nil => rfl
  | cons n r ih => simp [numsL, ih]
theorem numsL_len (l : List Int) (h : ∀ x ∈ l, I64 x) : (numsL l).length ≤ 22 * l.length := by
  induction l with
  | nil => simp [numsL]
  | cons n r ih =>
    have h1 := Lib.itoa_length_le n (h n (by simp)).1 (h n (by simp)).2
    have h2 := ih (fun x hx => h x (by simp [hx]))
    simp [numsL]; omega
theorem take_snoc_nth (l : List Int) (k : Nat) (h : k < l.length) : l.take (k + 1) = l.take k ++ [nth l k] := by
  rw [List.take_succ_eq_append_getElem h, nth_eq h]
theorem nth_mem {l : List Int} {k : Nat} (h : k < l.length) : nth l k ∈ l := by rw [nth_eq h]; exact List.getElem_mem h

set_option maxHeartbeats 1000000 in
theorem numbers_c (v : Value) (l : List Int) (w : World) (h : SlI w w.heap.size v l) (hl : l.length ≤ 100000) :
    Calls Tryz.prog 19 #[v] w fun e w' => e = .returned (.string (bs (numsL l))) ∧ Below w.heap.size w w' := by
  obtain ⟨A, n, c, rfl, hn, hc, hm⟩ := h.form
  have HL := Lib.hid hn
  have H := Lib.hid h
  have hn' : n ≤ 100000 := by omega
  clear h hn hl
  go_enter Tryz.func19, Tryz.ntmps19
  go_wp2_with fail
  go_loopw [3, 4] (fun s i wr => ∃ k : Nat, k ≤ n ∧ i = .int .i64 k ∧ s = .string (bs (numsL (l.take k))) ∧ Below w.heap.size w wr) (fun _ i _ => n - (intOf i).toNat)
  case atStart => exact ⟨0, Nat.zero_le _, rfl, rfl, B0 w⟩
  case round =>
    obtain ⟨k, hk, rfl, rfl, hb⟩ := hrel
    have hs : (bs (numsL (l.take k))).size ≤ 2200000 := by
      rw [bs_size]
      have := numsL_len (l.take k) (fun x hx => H.out.2 x (List.mem_of_mem_take hx))
      rw [List.length_take] at this
      omega
    by_cases hlt : k < n
    · obtain ⟨b, o, rfl, hbB, hcell⟩ := (H.out.below hb (Nat.le_refl _)).at_ k hlt
      have h1 := hcell k hlt
      clear hcell
      have hI : I64 (nth l k) := H.out.2 _ (nth_mem (by rw [HL.out]; exact hlt))
      have hs2 : (bs (Lib.itoa (nth l k))).size ≤ 21 := by rw [bs_size]; exact Lib.itoa_length_le _ hI.1 hI.2
      have hs3 : (bs (numsL (l.take k)) ++ ⟨#[32]⟩ : ByteArray).size ≤ 2200001 := by
        rw [ByteArray.size_append]; have : (⟨#[32]⟩ : ByteArray).size = 1 := rfl
        omega
      have HS : Hid (bs (numsL (l.take (k + 1))) = bs (numsL (l.take k)) ++ ⟨#[32]⟩ ++ bs (Lib.itoa (nth l k))) := by
        rw [take_snoc_nth l k (by rw [HL.out]; exact hlt), numsL_append]
        show bs (numsL (l.take k) ++ (32 :: Lib.itoa (nth l k) ++ [])) = bs (numsL (l.take k)) ++ bs [32] ++ bs (Lib.itoa (nth l k))
        rw [bs_append, bs_append]; simp
      go_wp2_with (go_at_call 28; refine (number_c _ hI _).mono ?_; rintro e w1 ⟨rfl, hb1⟩)
      exact ⟨⟨k + 1, by omega, by go_num, by rw [HS.out], bth hb hb1⟩, by simp [intOf]; omega⟩
    · go_wp2_with fail
      go_ret
      refine ⟨ret_string (by rw [List.take_of_length_le (by rw [HL.out]; omega)]), hb⟩
end Go.Proofs.YtdgciagmcjdhhaaGreatDoor
