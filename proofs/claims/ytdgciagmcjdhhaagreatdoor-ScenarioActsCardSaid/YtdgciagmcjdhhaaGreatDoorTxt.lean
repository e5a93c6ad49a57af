/-
  The text of an act, as words and blanks; small facts.
-/
import Derived.Test.YtdgciagmcjdhhaaGreatDoorRef4
import Derived.Lib.Join
set_option linter.unusedVariables false
set_option linter.unusedSimpArgs false
namespace Go.Proofs.YtdgciagmcjdhhaaGreatDoor
open Go Go.RowKit

def opWords (x : ActD) : List (List UInt8) :=
  if x.ok = 0 then [[103, 101, 116], x.key.data.toList]
  else if x.ok = 1 then [[112, 117, 116], x.key.data.toList, Lib.itoa x.val]
  else if x.ok = 2 then [[99, 97, 115], x.key.data.toList, Lib.itoa x.old, Lib.itoa x.val]
  else [[97, 100, 100], x.key.data.toList, Lib.itoa x.val]
/-- The words behind the first one. -/
def argsL (x : ActD) : List (List UInt8) :=
  if x.kind = 4 ∨ x.kind = 16 then []
  else if x.kind = 15 then x.ms.map Lib.itoa
  else if x.kind = 5 then Lib.itoa x.a :: x.ss.map Lib.itoa
  else if x.kind = 7 then [Lib.itoa x.a, Lib.itoa x.b]
  else if x.kind = 14 then [Lib.itoa x.a, Lib.itoa x.b, Lib.itoa x.c]
  else if x.kind = 12 then [Lib.itoa x.a, Lib.itoa x.b, Lib.itoa x.val]
  else if x.kind = 10 then [Lib.itoa x.a, Lib.itoa x.b] ++ opWords x
  else [Lib.itoa x.a]
def textL (x : ActD) : List UInt8 := Lib.join (wordL x.kind.toNat :: argsL x) [32]
theorem numsL_tail (l : List Int) : numsL l = Lib.joinTail [32] (l.map Lib.itoa) := by
  induction l with
  | nil => rfl
  | cons n r ih => simp [numsL, ih, Lib.joinTail]
theorem textL_eq (x : ActD) : textL x = wordL x.kind.toNat ++ Lib.joinTail [32] (argsL x) := Lib.join_cons _ _ _

theorem SlI.lit (W : World) (l : List Int) (hl : ∀ x ∈ l, I64 x) (hn : l.length ≤ 1000) (t : TypeId) :
    SlI (W.alloc (.cells (l.map (Value.int .i64)).toArray t)) (W.alloc (.cells (l.map (Value.int .i64)).toArray t)).heap.size (.slice (some ⟨W.heap.size, 0, none⟩) l.length l.length) l := by
  refine ⟨⟨_, l.length, by simp, by simp, by simp only [maxLen]; omega, fun _ => ⟨W.heap.size, 0, rfl, by simp, fun j u hj => ?_⟩⟩, hl⟩
  rw [World.cell?_alloc_new]
  simpa using hj
theorem numbers1 (a : Int) (ha : I64 a) (t : TypeId) (W : World) (h : Nat) (hh : h = W.heap.size) :
    Calls Tryz.prog 19 #[.slice (some ⟨h, 0, none⟩) 1 1] (W.alloc (.cells #[.int .i64 a] t)) fun e w' => e = .returned (.string (bs (numsL [a]))) ∧ Below (W.alloc (.cells #[.int .i64 a] t)).heap.size (W.alloc (.cells #[.int .i64 a] t)) w' :=
  hh ▸ numbers_c _ [a] _ (SlI.lit W [a] (by simpa using ha) (by simp) t) (by simp)
theorem numbers2 (a b : Int) (ha : I64 a) (hb : I64 b) (t : TypeId) (W : World) (h : Nat) (hh : h = W.heap.size) :
    Calls Tryz.prog 19 #[.slice (some ⟨h, 0, none⟩) 2 2] (W.alloc (.cells #[.int .i64 a, .int .i64 b] t)) fun e w' => e = .returned (.string (bs (numsL [a, b]))) ∧ Below (W.alloc (.cells #[.int .i64 a, .int .i64 b] t)).heap.size (W.alloc (.cells #[.int .i64 a, .int .i64 b] t)) w' :=
  hh ▸ numbers_c _ [a, b] _ (SlI.lit W [a, b] (by simpa using ⟨ha, hb⟩) (by simp) t) (by simp)
theorem numbers3 (a b c : Int) (ha : I64 a) (hb : I64 b) (hc : I64 c) (t : TypeId) (W : World) (h : Nat) (hh : h = W.heap.size) :
    Calls Tryz.prog 19 #[.slice (some ⟨h, 0, none⟩) 3 3] (W.alloc (.cells #[.int .i64 a, .int .i64 b, .int .i64 c] t)) fun e w' => e = .returned (.string (bs (numsL [a, b, c]))) ∧ Below (W.alloc (.cells #[.int .i64 a, .int .i64 b, .int .i64 c] t)).heap.size (W.alloc (.cells #[.int .i64 a, .int .i64 b, .int .i64 c] t)) w' :=
  hh ▸ numbers_c _ [a, b, c] _ (SlI.lit W [a, b, c] (by simpa using ⟨ha, hb, hc⟩) (by simp) t) (by simp)
theorem SlI.of1 {W : World} {h : Nat} {a : Int} (hc : W.cell? ⟨h, 0, none⟩ = some (.int .i64 a)) (hh : h < W.heap.size) (ha : I64 a) : SlI W W.heap.size (.slice (some ⟨h, 0, none⟩) 1 1) [a] :=
  ⟨⟨_, 1, rfl, Nat.le_refl _, by simp [maxLen], fun _ => ⟨h, 0, rfl, hh, fun j u hj => by
    match j, hj with
    | 0, hj => simpa using (hc.trans (by simpa using hj))⟩⟩, by simpa using ha⟩
theorem SlI.of2 {W : World} {h : Nat} {a b : Int} (hc : W.cell? ⟨h, 0, none⟩ = some (.int .i64 a)) (hc1 : W.cell? ⟨h, 1, none⟩ = some (.int .i64 b)) (hh : h < W.heap.size) (ha : I64 a) (hb : I64 b) : SlI W W.heap.size (.slice (some ⟨h, 0, none⟩) 2 2) [a, b] :=
  ⟨⟨_, 2, rfl, Nat.le_refl _, by simp [maxLen], fun _ => ⟨h, 0, rfl, hh, fun j u hj => by
    match j, hj with
    | 0, hj => simpa using (hc.trans (by simpa using hj))
    | 1, hj => simpa using (hc1.trans (by simpa using hj))⟩⟩, by simpa using ⟨ha, hb⟩⟩
theorem bcellD {W w1 : World} (hb : Below W.drew.heap.size W.drew w1) : (∀ b o, b < W.heap.size → w1.cell? ⟨b, o, none⟩ = W.cell? ⟨b, o, none⟩) ∧ (∀ b o, b < W.heap.size → w1.frozen? ⟨b, o, none⟩ = W.frozen? ⟨b, o, none⟩) :=
  ⟨fun b o h => hb.cell (p := ⟨b, o, none⟩) h, fun b o h => hb.frozen (p := ⟨b, o, none⟩) h⟩
theorem nums_size (l : List Int) (h : ∀ x ∈ l, I64 x) (hl : l.length ≤ 100) : (bs (numsL l)).size ≤ 2200 := by
  rw [bs_size]; have := numsL_len l h; omega
theorem itoa_size (n : Int) (h : I64 n) : (bs (Lib.itoa n)).size ≤ 21 := by rw [bs_size]; exact Lib.itoa_length_le n h.1 h.2
/-- The text that belongs to an act: none for one that is not valid. -/
def actText (x : ActD) : List UInt8 := if validB x then textL x else []
theorem kindOk_range {x : ActD} (h : kindOk x = true) : 0 ≤ x.kind ∧ x.kind ≤ 17 := by
  by_cases hk : 0 ≤ x.kind ∧ x.kind ≤ 17
  · exact hk
  · exfalso
    have : kindOk x = false := by
      unfold kindOk
      repeat rw [if_neg (by omega)]
    rw [this] at h; cases h
theorem validB_kind {x : ActD} (h : validB x = true) : kindOk x = true := by
  simp only [validB, Bool.and_eq_true] at h; exact h.2
end Go.Proofs.YtdgciagmcjdhhaaGreatDoor
