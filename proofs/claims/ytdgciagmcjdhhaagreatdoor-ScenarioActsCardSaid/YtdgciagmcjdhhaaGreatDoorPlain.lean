/-
  Plain lists of bytes: a numeral is read back as its number; a text of words joined by blanks is split into its words, and back. No program in sight.
-/
import Derived.Test.YtdgciagmcjdhhaaGreatDoorTxt
import Derived.Test.YtdgciagmcjdhhaaGreatDoorStep2
import Derived.Lib.AtoiAllCases
import Derived.Lib.SplitLaws
import Derived.Lib.Join
set_option linter.unusedVariables false
set_option linter.unusedSimpArgs false
namespace Go.Proofs.YtdgciagmcjdhhaaGreatDoor
open Go Go.RowKit

theorem u8_toNat (d : Nat) (h : d < 10) : (UInt8.ofNat (48 + d)).toNat = 48 + d := by
  rw [UInt8.toNat_ofNat']; omega
theorem parse_digits : ∀ (n u : Nat) (r : List UInt8), u ≤ n → u < 18446744073709551616 → Lib.parseUint10 0 (Lib.decDigits u ++ r) = Lib.parseUint10 u r
  | 0, u, r, hn, _ => by
    have : u = 0 := by omega
    subst this
    rw [Lib.decDigits, dif_pos (by omega)]
    rfl
  | n + 1, u, r, hn, hu => by
    rw [Lib.decDigits]
    by_cases h10 : u < 10
    · rw [dif_pos h10]
      show Lib.parseUint10 0 (UInt8.ofNat (48 + u) :: r) = _
      rw [Lib.parseUint10, u8_toNat u h10, if_pos (by omega), if_neg (by omega), if_neg (by omega)]
      congr 1; omega
    · rw [dif_neg h10, List.append_assoc, parse_digits n (u / 10) _ (by omega) (by omega)]
      show Lib.parseUint10 (u / 10) (UInt8.ofNat (48 + u % 10) :: r) = _
      rw [Lib.parseUint10, u8_toNat (u % 10) (by omega), if_pos (by omega), if_neg (by omega), if_neg (by omega)]
      congr 1; omega
theorem decDigits_ne (u : Nat) : Lib.decDigits u ≠ [] := by
  rw [Lib.decDigits]
  split <;> simp
theorem parseMag_digits (u : Nat) (hu : u < 18446744073709551616) : Lib.parseMag (Lib.decDigits u) = .ok u := by
  unfold Lib.parseMag
  rw [if_neg (decDigits_ne u)]
  have := parse_digits u u [] (Nat.le_refl _) hu
  rw [List.append_nil] at this
  rw [this]; rfl
theorem digits_mem : ∀ (n u : Nat), u ≤ n → ∀ c ∈ Lib.decDigits u, 48 ≤ c.toNat ∧ c.toNat ≤ 57
  | 0, u, hn, c, hc => by
    have : u = 0 := by omega
    subst this
    rw [Lib.decDigits, dif_pos (by omega)] at hc
    simp at hc; subst hc; decide
  | n + 1, u, hn, c, hc => by
    rw [Lib.decDigits] at hc
    by_cases h10 : u < 10
    · rw [dif_pos h10] at hc
      have : c = UInt8.ofNat (48 + u) := by simpa using hc
      subst this
      rw [u8_toNat u h10]; omega
    · rw [dif_neg h10] at hc
      rcases List.mem_append.1 hc with h | h
      · exact digits_mem n (u / 10) (by omega) c h
      · have : c = UInt8.ofNat (48 + u % 10) := by simpa using h
        subst this
        rw [u8_toNat _ (by omega)]; omega
theorem atoi_itoa (v : Int) (h : I64 v) : Lib.atoiAll (Lib.itoa v) = .ok v := by
  obtain ⟨h1, h2⟩ := h
  unfold Lib.itoa
  by_cases hv : v < 0
  · rw [if_pos hv, Lib.atoiAll_minus, parseMag_digits _ (by omega)]
    show Lib.signed (.ok v.natAbs) = _
    unfold Lib.signed
    simp only
    rw [if_neg (by omega)]
    congr 1; omega
  · rw [if_neg hv]
    cases hd : Lib.decDigits v.toNat with
    | nil => exact absurd hd (decDigits_ne _)
    | cons c r =>
      have hc := digits_mem v.toNat v.toNat (Nat.le_refl _) c (by rw [hd]; simp)
      rw [Lib.atoiAll_plain c r (by omega) (by omega), ← hd, parseMag_digits _ (by omega)]
      show Lib.signless (.ok v.toNat) = _
      unfold Lib.signless
      simp only
      rw [if_neg (by omega)]
      congr 1; omega
theorem parseN_itoa (v : Int) (h : I64 v) : parseN (bs (Lib.itoa v)) = some v := by
  unfold parseN
  rw [bs_data, atoi_itoa v h]
  simp
theorem parseN_text {s : ByteArray} {v : Int} (h : parseN s = some v) : bs (Lib.itoa v) = s := by
  unfold parseN at h
  split at h
  · split at h
    · injection h with h
      subst h
      assumption
    · cases h
  · cases h
theorem parseAll_itoa : ∀ (l : List Int), (∀ x ∈ l, I64 x) → parseAll (l.map fun n => bs (Lib.itoa n)) = some l
  | [], _ => rfl
  | v :: r, h => by
    rw [List.map_cons, parseAll, parseN_itoa v (h v (by simp))]
    simp only
    rw [parseAll_itoa r fun x hx => h x (by simp [hx])]; rfl
theorem parseAll_text : ∀ {l : List ByteArray} {vs : List Int}, parseAll l = some vs → vs.map (fun n => bs (Lib.itoa n)) = l
  | [], vs, h => by simp [parseAll] at h; subst h; rfl
  | s :: r, vs, h => by
    rw [parseAll] at h
    split at h
    · cases h
    · rename_i v hv
      obtain ⟨us, hu, rfl⟩ := Option.map_eq_some_iff.1 h
      rw [List.map_cons, parseN_text hv, parseAll_text hu]

/-- A word: no blank in it. -/
def Word (w : List UInt8) : Prop := ∀ c ∈ w, c ≠ 32
theorem itoa_word (v : Int) : Word (Lib.itoa v) := by
  intro c hc
  unfold Lib.itoa at hc
  split at hc
  · rcases List.mem_cons.1 hc with rfl | hc
    · decide
    · intro e; subst e
      have := digits_mem _ _ (Nat.le_refl _) _ hc
      exact absurd this (by decide)
  · intro e; subst e
    have := digits_mem _ _ (Nat.le_refl _) _ hc
    exact absurd this (by decide)
theorem key_word {s : ByteArray} (h : keyOk s = true) : Word s.data.toList := by
  intro c hc e
  subst e
  rw [keyOk, List.all_eq_true] at h
  exact absurd (h _ hc) (by decide)
theorem index_hit : ∀ (w r : List UInt8), Word w → Lib.index (w ++ 32 :: r) [32] = w.length
  | [], r, _ => by simp [Lib.index]
  | c :: w, r, h => by
    have hc : c ≠ 32 := h c (by simp)
    have ih := index_hit w r (fun x hx => h x (by simp [hx]))
    show Lib.index (c :: (w ++ 32 :: r)) [32] = _
    rw [Lib.index, ih]
    have hp : ([32] : List UInt8).isPrefixOf (c :: (w ++ 32 :: r)) = false := by simp [List.isPrefixOf, Ne.symm hc]
    rw [hp]
    have hne : ((w.length : Int) == -1) = false := by simp
    simp [hne]
theorem index_miss : ∀ (w : List UInt8), Word w → Lib.index w [32] = -1
  | [], _ => by simp [Lib.index]
  | c :: w, h => by
    have hc : c ≠ 32 := h c (by simp)
    have ih := index_miss w (fun x hx => h x (by simp [hx]))
    rw [Lib.index, ih]
    have hp : ([32] : List UInt8).isPrefixOf (c :: w) = false := by simp [List.isPrefixOf, Ne.symm hc]
    rw [hp]
    simp
theorem split_last (w : List UInt8) (h : Word w) : Lib.split w [32] = [w] := by
  unfold Lib.split
  rw [Lib.count_miss (index_miss w h)]; rfl
theorem split_word (w r : List UInt8) (h : Word w) : Lib.split (w ++ 32 :: r) [32] = w :: Lib.split r [32] := by
  have hi := index_hit w r h
  have e : (w ++ 32 :: r).drop (w.length + 1) = r := by
    rw [List.drop_append]
    simp
  unfold Lib.split
  rw [Lib.count_hit (by simp) hi, Nat.add_comm, Lib.splitK, hi]
  have hne : ((w.length : Int) == -1) = false := by simp
  simp only [hne, Bool.false_eq_true, if_false, Int.toNat_natCast, Nat.add_zero, List.length_singleton]
  rw [e]
  simp
theorem join_two (w x : List UInt8) (r : List (List UInt8)) : Lib.join (w :: x :: r) [32] = w ++ 32 :: Lib.join (x :: r) [32] := by
  rw [Lib.join_cons, Lib.join_cons]
  simp [Lib.joinTail]
theorem split_join : ∀ (w : List UInt8) (r : List (List UInt8)), (∀ x ∈ w :: r, Word x) → Lib.split (Lib.join (w :: r) [32]) [32] = w :: r
  | w, [], h => by rw [Lib.join_one]; exact split_last w (h w (by simp))
  | w, x :: r, h => by
    rw [join_two, split_word w _ (h w (by simp)), split_join x r fun y hy => h y (by simp at hy ⊢; exact .inr hy)]
theorem word_cases : ∀ (l : List UInt8), Word l ∨ ∃ w r, l = w ++ 32 :: r ∧ Word w
  | [] => .inl fun c hc => by simp at hc
  | c :: l => by
    by_cases hc : c = 32
    · subst hc; exact .inr ⟨[], l, rfl, fun c hc => by simp at hc⟩
    · rcases word_cases l with h | ⟨w, r, rfl, h⟩
      · exact .inl fun x hx => by
          rcases List.mem_cons.1 hx with rfl | hx
          · exact hc
          · exact h x hx
      · exact .inr ⟨c :: w, r, rfl, fun x hx => by
          rcases List.mem_cons.1 hx with rfl | hx
          · exact hc
          · exact h x hx⟩
theorem join_split : ∀ (n : Nat) (l : List UInt8), l.length ≤ n → ∃ w r, Lib.split l [32] = w :: r ∧ Lib.join (w :: r) [32] = l
  | n, l, hn => by
    rcases word_cases l with h | ⟨w, r, rfl, h⟩
    · exact ⟨l, [], split_last l h, Lib.join_one _ _⟩
    · match n, hn with
      | 0, hn => simp at hn
      | n + 1, hn =>
        obtain ⟨x, q, h1, h2⟩ := join_split n r (by simp at hn; omega)
        exact ⟨w, x :: q, by rw [split_word w r h, h1], by rw [join_two, h2]⟩
/-- The words of a text. -/
def splitS (s : ByteArray) : List ByteArray := Lib.splitB (bs [32]) 0 (Lib.countB s (bs [32])) s
theorem splitS_data (s : ByteArray) : (splitS s).map (·.data.toList) = Lib.split s.data.toList [32] := by
  unfold splitS Lib.split
  rw [Lib.splitB_data]
  simp [Lib.countB, bs_data]
theorem bs_inj {l l' : List UInt8} (h : bs l = bs l') : l = l' := by
  rw [← bs_data l, h, bs_data]
theorem map_bs (l : List ByteArray) : (l.map (·.data.toList)).map bs = l := by
  rw [List.map_map]
  conv => rhs; rw [← List.map_id l]
  exact List.map_congr_left fun x _ => bs_toList x
theorem splitS_eq (s : ByteArray) : splitS s = (Lib.split s.data.toList [32]).map bs := by
  rw [← splitS_data, map_bs]
/-- A text of words is split into its words. -/
theorem splitS_join (w : List UInt8) (r : List (List UInt8)) (h : ∀ x ∈ w :: r, Word x) : splitS (bs (Lib.join (w :: r) [32])) = (w :: r).map bs := by
  rw [splitS_eq, bs_data, split_join w r h]
/-- The words of a text, joined, are the text. -/
theorem join_splitS (s : ByteArray) : ∃ w r, splitS s = w :: r ∧ bs (Lib.join ((w :: r).map (·.data.toList)) [32]) = s := by
  obtain ⟨w, r, h1, h2⟩ := join_split _ s.data.toList (Nat.le_refl _)
  have h3 := splitS_data s
  rw [h1] at h3
  match hs : splitS s with
  | [] => rw [hs] at h3; simp at h3
  | x :: q => exact ⟨x, q, rfl, by rw [← hs, splitS_data, h1, h2, bs_toList]⟩
end Go.Proofs.YtdgciagmcjdhhaaGreatDoor
