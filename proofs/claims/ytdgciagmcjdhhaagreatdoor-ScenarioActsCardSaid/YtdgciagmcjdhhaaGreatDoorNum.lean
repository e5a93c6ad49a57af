/-
  The reference's decimal text of a number is the numeral of the shelf's strconv contracts (Lib.itoa), at every int64; the small range tests.
-/
import Derived.Test.YtdgciagmcjdhhaaGreatDoorProg
import Derived.Test.YtdgciagmcjdhhaaGreatDoorWords
import Derived.Lib.ItoaNum
import Derived.Lib.ItoaLen
import Derived.Laws.BytesString
set_option linter.unusedVariables false
set_option linter.unusedSimpArgs false
namespace Go.Proofs.YtdgciagmcjdhhaaGreatDoor
open Go Go.RowKit
def bs (l : List UInt8) : ByteArray := ⟨l.toArray⟩
theorem bs_data (l : List UInt8) : (bs l).data.toList = l := by simp [bs]
theorem bs_size (l : List UInt8) : (bs l).size = l.length := by simp [bs, ByteArray.size]
theorem bs_toList (s : ByteArray) : bs s.data.toList = s := by cases s; simp [bs]
theorem ba_toList (s : ByteArray) : s.toList = s.data.toList := by
  exact ByteArray.toList_eq s
theorem bs_append (a b : List UInt8) : bs a ++ bs b = bs (a ++ b) := by
  exact ByteArray.ext rfl

theorem ret_string {a b : ByteArray} (h : a = b) : Ending.returned (.string a) = .returned (.string b) := by rw [h]
theorem ret_bool {a b : Bool} (h : a = b) : Ending.returned (.bool a) = .returned (.bool b) := by rw [h]
theorem ret_int {k : IntKind} {a b : Int} (h : a = b) : Ending.returned (.int k a) = .returned (.int k b) := by rw [h]

def DecInv (n : Int) (l : List UInt8) (k : Int) : Prop :=
  (l = [] ∧ k = n) ∨ (l ≠ [] ∧ Lib.decDigits n.natAbs = (if k = 0 then [] else Lib.decDigits k.natAbs) ++ l)
theorem DecInv.len {n k : Int} {l : List UInt8} (hn : I64 n) (h : DecInv n l k) : l.length ≤ 20 := by
  have h20 : (Lib.decDigits n.natAbs).length ≤ 20 := by
    rw [Lib.decDigits_length]; exact Lib.nDigits_le20 _ (by obtain ⟨h1, h2⟩ := hn; omega)
  rcases h with ⟨rfl, _⟩ | ⟨_, h⟩
  · simp
  · rw [h] at h20; simp at h20; omega
theorem DecInv.step {n k : Int} {l : List UInt8} (h : DecInv n l k) (hk : l = [] ∨ k ≠ 0) :
    DecInv n (UInt8.ofNat (48 + k.natAbs % 10) :: l) (k.tdiv 10) := by
  have key : Lib.decDigits k.natAbs = (if k.tdiv 10 = 0 then [] else Lib.decDigits (k.tdiv 10).natAbs) ++ [UInt8.ofNat (48 + k.natAbs % 10)] := by
    have e : (k.tdiv 10).natAbs = k.natAbs / 10 := by rw [Int.natAbs_tdiv]; rfl
    have e0 : k.tdiv 10 = 0 ↔ k.natAbs < 10 := by
      rw [← Int.natAbs_eq_zero, e]; omega
    rw [e, Lib.decDigits]
    by_cases h10 : k.natAbs < 10
    · rw [dif_pos h10, if_pos (e0.2 h10), Nat.mod_eq_of_lt h10]; rfl
    · rw [dif_neg h10, if_neg (fun h => h10 (e0.1 h))]
  refine .inr ⟨by simp, ?_⟩
  rcases h with ⟨rfl, rfl⟩ | ⟨hl, h⟩
  · exact key
  · have hk0 : k ≠ 0 := hk.resolve_left hl
    rw [h, if_neg hk0, key]; simp
theorem DecInv.done {n k : Int} {l : List UInt8} (h : DecInv n l k) (hl : l ≠ []) (hk : k = 0) : Lib.decDigits n.natAbs = l := by
  rcases h with ⟨rfl, _⟩ | ⟨_, h⟩
  · exact absurd rfl hl
  · rw [h, if_pos hk]; rfl

theorem conv1 (x : Int) (W : World) : (convert 56 9 (.slice (some ⟨W.heap.size, 0, none⟩) 1 1)).run Tryz.prog (W.alloc (.cells #[.int .u8 x] 5)) = .ok (.string (bs [UInt8.ofNat x.toNat])) (W.alloc (.cells #[.int .u8 x] 5)) := by
  rw [run_convert_bytes_string _ 56 9 5 _ _ _ Tryz.underlying56 Tryz.underlying5 Tryz.underlying9]
  have h := run_loadCells_list (P := Tryz.prog) (w := W.alloc (.cells #[.int .u8 x] 5)) ⟨W.heap.size, 0, none⟩ [Value.int .u8 x] (by
    intro j v hj
    match j, hj with
    | 0, hj =>
      injection hj with hj
      subst hj
      simp [Addr.add])
  exact run_bytesToString _ _ 1 1 [x] h

theorem isNil_toList (l : List UInt8) (h : l ≠ []) : ((bs l).toList == []) = false := by
  rw [ba_toList, bs_data]; simpa using h

def decM (s m : Value) : Nat := (intOf m).natAbs + match s with | .string s => if s.size = 0 then 1 else 0 | _ => 0
theorem dec_round {n k d q : Int} {l : List UInt8} {w W : World} (hk : I64 k) (hD : DecInv n l k) (hC : l = [] ∨ k ≠ 0) (hd : d = k.natAbs % 10) (hq : q = k.tdiv 10) (hb : Below w.heap.size w W) :
    (∃ (l1 : List UInt8) (k1 : Int), Value.string (bs [UInt8.ofNat (48 + d).toNat] ++ bs l) = .string (bs l1) ∧ Value.int .i64 q = .int .i64 k1 ∧ I64 k1 ∧ DecInv n l1 k1 ∧ Below w.heap.size w W) ∧
      decM (.string (bs [UInt8.ofNat (48 + d).toNat] ++ bs l)) (.int .i64 q) < decM (.string (bs l)) (.int .i64 k) := by
  have e : q.natAbs = k.natAbs / 10 := by rw [hq, Int.natAbs_tdiv]; rfl
  have ed : (48 + d).toNat = 48 + k.natAbs % 10 := by omega
  rw [ed, bs_append]
  refine ⟨⟨_, q, rfl, rfl, ?_, hq ▸ hD.step hC, hb⟩, ?_⟩
  · obtain ⟨h1, h2⟩ := hk
    have : q ≤ q.natAbs := Int.le_natAbs
    have : -(q.natAbs : Int) ≤ q := by omega
    constructor <;> omega
  · simp only [decM, bs_size, intOf, e]
    rcases hC with rfl | hC
    · simp; omega
    · simp; split <;> omega

set_option maxRecDepth 100000 in
set_option maxHeartbeats 800000 in
theorem Decimal_c (n : Int) (hn : I64 n) (w : World) :
    Calls Tryz.prog 20 #[.int .i64 n] w fun e w' => e = .returned (.string (bs (Lib.itoa n))) ∧ Below w.heap.size w w' := by
  have HN := Lib.hid hn
  clear hn
  have hconv := conv1
  go_enter Tryz.func20, Tryz.ntmps20
  go_wp2
  go_loopw [3, 4] (fun s m wr => ∃ (l : List UInt8) (k : Int), s = .string (bs l) ∧ m = .int .i64 k ∧ I64 k ∧ DecInv n l k ∧ Below w.heap.size w wr) (fun s m _ => decM s m)
  case atStart => exact ⟨[], n, rfl, rfl, HN.out, .inl ⟨rfl, rfl⟩, Below.refl _ _⟩
  case round =>
    obtain ⟨l, k, rfl, rfl, ⟨hk1, hk2⟩, hd, hb⟩ := hrel
    have hlen := hd.len HN.out
    have hsz : (bs l).size ≤ 20 := by rw [bs_size]; exact hlen
    have HD := Lib.hid hd
    clear hd hlen
    by_cases hc : l = [] ∨ k ≠ 0
    · have HC := Lib.hid hc
      have hl1 : (((bs l).toList == []) = true ∨ ((bs l).toList == []) = false) := by cases ((bs l).toList == []) <;> simp
      have hk' : ((bs l).toList == []) = false → (k != 0) = true := fun h => by
        rcases hc with rfl | hc
        · rw [ba_toList] at h; simp [bs] at h
        · simp [hc]
      clear hc
      have hs0 : ∀ x, (bs [x]).size ≤ 1 := fun x => by rw [bs_size]; exact Nat.le_refl _
      by_cases hpos : 0 ≤ k
      · have m1 : 0 ≤ k % 10 := by omega
        have m2 : k % 10 ≤ 9 := by omega
        have hs1 := hs0 (UInt8.ofNat (48 + k % 10).toNat)
        clear hs0
        have fin := fun (W : World) (hW : Below w.heap.size w W) => dec_round (W := W) ⟨hk1, hk2⟩ HD.out HC.out (show k % 10 = k.natAbs % 10 by omega) (show k / 10 = k.tdiv 10 by rw [Int.tdiv_eq_ediv_of_nonneg hpos]) hW
        rcases hl1 with hl | hl
        · clear hk'
          go_wp2
          exact fin _ (hb.alloc hb.size _)
        · have hk := hk' hl
          clear hk'
          go_wp2
          exact fin _ (hb.alloc hb.size _)
      · have m1 : k.tmod 10 ≤ 0 := by
          have := Int.tmod_nonneg (a := -k) 10 (by omega)
          rw [Int.neg_tmod] at this; omega
        have m2 : -9 ≤ k.tmod 10 := by
          have := Int.tmod_lt_of_pos (-k) (b := 10) (by omega)
          rw [Int.neg_tmod] at this; omega
        have hs1 := hs0 (UInt8.ofNat (48 + -k.tmod 10).toNat)
        have hs2 := hs0 (UInt8.ofNat (48 + k.tmod 10).toNat)
        clear hs0
        have ed : -k.tmod 10 = k.natAbs % 10 := by
          have h1 := Int.tmod_eq_emod_of_nonneg (a := -k) (b := 10) (by omega)
          rw [Int.neg_tmod] at h1; omega
        have fin := fun (W : World) (hW : Below w.heap.size w W) => dec_round (W := W) ⟨hk1, hk2⟩ HD.out HC.out ed rfl hW
        have ed0 : 0 ≤ k.tmod 10 → k.tmod 10 = k.natAbs % 10 := fun h => by omega
        have fin0 := fun (W : World) (h : 0 ≤ k.tmod 10) (hW : Below w.heap.size w W) => dec_round (W := W) ⟨hk1, hk2⟩ HD.out HC.out (ed0 h) rfl hW
        clear ed ed0
        have Fin := Lib.hid fin
        have Fin0 := Lib.hid fin0
        clear fin fin0
        rcases hl1 with hl | hl
        · clear hk'
          go_wp2
          all_goals first | exact Fin.out _ (hb.alloc hb.size _) | exact Fin0.out _ ‹_› (hb.alloc hb.size _)
        · have hk := hk' hl
          clear hk'
          go_wp2
          all_goals first | exact Fin.out _ (hb.alloc hb.size _) | exact Fin0.out _ ‹_› (hb.alloc hb.size _)
    · have h1 : l ≠ [] := fun h => hc (.inl h)
      have h2 : k = 0 := Classical.byContradiction fun h => hc (.inr h)
      clear hc
      have hl := isNil_toList l h1
      have hfin : Lib.decDigits n.natAbs = l := HD.out.done h1 h2
      have HF := Lib.hid hfin
      have hk' : (k != 0) = false := by simp [h2]
      have hs1 : (bs [45]).size ≤ 1 := by rw [bs_size]; exact Nat.le_refl _
      clear hfin h1 h2
      go_wp2
      all_goals go_ret
      · refine ⟨?_, hb⟩
        refine ret_string (a := bs [45] ++ bs l) ?_
        rw [← HF.out, Lib.itoa, if_pos ‹_›, bs_append]; rfl
      · refine ⟨?_, hb⟩
        have : ¬ n < 0 := by omega
        refine ret_string (a := bs l) ?_
        rw [← HF.out, Lib.itoa, if_neg this]
        congr 2; omega

theorem number_c (n : Int) (hn : I64 n) (w : World) :
    Calls Tryz.prog 28 #[.int .i64 n] w fun e w' => e = .returned (.string (bs (Lib.itoa n))) ∧ Below w.heap.size w w' := by
  obtain ⟨h1, h2⟩ := hn
  go_enter Tryz.func28, Tryz.ntmps28
  go_wp2_with (go_at_call 20; refine (Decimal_c _ ⟨‹_›, ‹_›⟩ _).mono ?_; rintro e w1 ⟨rfl, hb1⟩)
  go_ret
  exact ⟨rfl, hb1⟩

theorem within_c (n a b : Int) (w : World) :
    Calls Tryz.prog 16 #[.int .i64 n, .int .i64 a, .int .i64 b] w fun e w' => e = .returned (.bool (decide (a ≤ n) && decide (n ≤ b))) ∧ w = w' := by
  by_cases h : a ≤ n
  · go_enter Tryz.func16, Tryz.ntmps16
    go_wp2
    go_ret
    exact ⟨by simp [h], rfl⟩
  · go_enter Tryz.func16, Tryz.ntmps16
    go_wp2
    go_ret
    exact ⟨by simp; omega, rfl⟩

end Go.Proofs.YtdgciagmcjdhhaaGreatDoor
