/-
  The program's patterns: a map from the words of the kinds to the patterns. (Printed by gen_pats.py.)
-/
import Derived.Test.YtdgciagmcjdhhaaGreatDoorPats1
import Derived.IntWalk
set_option linter.unusedVariables false
set_option linter.unusedSimpArgs false
namespace Go.Proofs.YtdgciagmcjdhhaaGreatDoor
open Go Go.RowKit Go.MapKept Go.ChangeMaps

/-- A pattern as data: its word, its kind, the numbers of its four functions, and what the second one has captured. -/
structure Item where
  word : List UInt8
  kind : Int
  gu : Nat
  gf : Nat
  caps : Array Value
  gr : Nat
  gt : Nat
def Item.val (x : Item) : Value := patV (bs x.word) x.kind (fnV x.gu #[]) (fnV x.gf x.caps) (fnV x.gr #[]) (fnV x.gt #[])
def Item.kv (x : Item) : Value × Value := (.string (bs x.word), x.val)
/-- The patterns, in the order of the text; b: the blocks in which the ten kinds of one number hold their test. -/
def items (b : Nat → Nat) : List Item := [
  ⟨wordL 0, 0, 77, 78, #[ptr (b 0)], 79, 80⟩,
  ⟨wordL 1, 1, 77, 78, #[ptr (b 1)], 79, 80⟩,
  ⟨wordL 2, 2, 77, 78, #[ptr (b 2)], 79, 80⟩,
  ⟨wordL 3, 3, 77, 78, #[ptr (b 3)], 79, 80⟩,
  ⟨wordL 6, 6, 77, 78, #[ptr (b 4)], 79, 80⟩,
  ⟨wordL 13, 13, 77, 78, #[ptr (b 5)], 79, 80⟩,
  ⟨wordL 4, 4, 81, 82, #[], 83, 84⟩,
  ⟨wordL 16, 16, 81, 82, #[], 83, 84⟩,
  ⟨wordL 8, 8, 77, 78, #[ptr (b 6)], 79, 80⟩,
  ⟨wordL 9, 9, 77, 78, #[ptr (b 7)], 79, 80⟩,
  ⟨wordL 11, 11, 77, 78, #[ptr (b 8)], 79, 80⟩,
  ⟨wordL 17, 17, 77, 78, #[ptr (b 9)], 79, 80⟩,
  ⟨wordL 5, 5, 37, 38, #[], 41, 44⟩,
  ⟨wordL 7, 7, 46, 47, #[], 48, 49⟩,
  ⟨wordL 10, 10, 50, 51, #[], 54, 56⟩,
  ⟨wordL 12, 12, 58, 59, #[], 60, 62⟩,
  ⟨wordL 14, 14, 64, 65, #[], 66, 67⟩,
  ⟨wordL 15, 15, 68, 69, #[], 70, 71⟩]
def itemKinds : List Nat := [0, 1, 2, 3, 6, 13, 4, 16, 8, 9, 11, 17, 5, 7, 10, 12, 14, 15]
theorem items_words (b : Nat → Nat) : (items b).map (·.word) = itemKinds.map wordL := rfl
theorem itemWords_nodup : (itemKinds.map wordL).Nodup := by decide
/-- The six cells of the j-th pattern in the row that lies in block r. -/
def RowAt (w : World) (r j : Nat) (x : Item) : Prop :=
  w.cell? ⟨r, j * 6, none⟩ = some (.string (bs x.word)) ∧ w.cell? ⟨r, j * 6 + 1, none⟩ = some (.int .i64 x.kind) ∧ w.cell? ⟨r, j * 6 + 2, none⟩ = some (fnV x.gu #[]) ∧ w.cell? ⟨r, j * 6 + 3, none⟩ = some (fnV x.gf x.caps) ∧ w.cell? ⟨r, j * 6 + 4, none⟩ = some (fnV x.gr #[]) ∧ w.cell? ⟨r, j * 6 + 5, none⟩ = some (fnV x.gt #[])
/-- Which test the i-th kind of one number holds. -/
def testOf : Nat → Nat
  | 0 => 34
  | 1 => 34
  | 2 => 34
  | 3 => 31
  | 4 => 31
  | 5 => 31
  | 6 => 30
  | 7 => 30
  | 8 => 32
  | 9 => 36
  | _ => 0
def BoxAt (w : World) (b : Nat → Nat) : Prop := ∀ i, i < 10 → b i < w.heap.size ∧ w.cell? ⟨b i, 0, none⟩ = some (fnV (testOf i) #[])
/-- What 'patterns' hands back. -/
def PatsPost (w : World) (e : Ending) (w' : World) : Prop :=
  ∃ M b, e = .returned (.map (some M)) ∧ LiesMap w' M ((items b).map Item.kv) ∧ BoxAt w' b ∧ (∀ i, i < 10 → w.heap.size < b i) ∧ w.heap.size ≤ M ∧ Below w.heap.size w w'
theorem abs_world {P : Program} {c : Code} {Q : Exit → Act → World → Prop} {a : Act} {W : World} (F : World → Prop) (hF : F W) (h : ∀ W0, F W0 → Code.wp P c Q a W0) : Code.wp P c Q a W := h W hF
/-- What stands when the loop begins. -/
structure PatsAt (w : World) (b : Nat → Nat) (r : Nat) (W : World) : Prop where
  below : Below w.heap.size w W
  map : LiesMap W w.heap.size []
  rows : ∀ (j : Nat) x, (items b)[j]? = some x → RowAt W r j x
  boxes : BoxAt W b
  ne : ¬r = w.heap.size
  lt : r < W.heap.size
  fresh : ∀ i, i < 10 → w.heap.size < b i
theorem items_len (b : Nat → Nat) : (items b).length = 18 := rfl
theorem new_key {b : Nat → Nat} {k : Nat} {x : Item} (hx : (items b)[k]? = some x) : ∀ p ∈ ((items b).take k).map Item.kv, IsKey .string p.1 ∧ p.1 ≠ .string (bs x.word) := by
  intro p hp
  obtain ⟨y, hy, rfl⟩ := List.mem_map.1 hp
  refine ⟨trivial, fun e => ?_⟩
  have e' : bs y.word = bs x.word := by injection e
  have e2 : y.word = x.word := by rw [← bs_data y.word, e', bs_data]
  obtain ⟨j, hj⟩ := List.mem_iff_getElem?.1 hy
  rw [List.getElem?_take] at hj
  split at hj
  · rename_i hjk
    have h1 : ((items b).map (·.word))[j]? = some x.word := by rw [List.getElem?_map, hj, ← e2]; rfl
    have h2 : ((items b).map (·.word))[k]? = some x.word := by rw [List.getElem?_map, hx]; rfl
    rw [items_words] at h1 h2
    have := (List.getElem?_inj (List.getElem?_eq_some_iff.1 h1).1 itemWords_nodup).1 (h1.trans h2.symm)
    omega
  · cases hj
theorem RowAt.keep {w w' : World} {r j : Nat} {x : Item} (h : RowAt w r j x) (hk : ∀ o, w'.cell? ⟨r, o, none⟩ = w.cell? ⟨r, o, none⟩) : RowAt w' r j x := by
  unfold RowAt at h ⊢
  simp only [hk]
  exact h
/-- Nothing of the blocks of the beginning has turned but block M. -/
def Kept (M : Nat) (W0 w : World) : Prop := W0.heap.size ≤ w.heap.size ∧ ∀ b o, b ≠ M → b < W0.heap.size → w.cell? ⟨b, o, none⟩ = W0.cell? ⟨b, o, none⟩
theorem Kept.refl (M : Nat) (W : World) : Kept M W W := ⟨Nat.le_refl _, fun _ _ _ _ => rfl⟩
theorem Kept.put {M : Nat} {W0 w w' : World} {o : Obj} (h : Kept M W0 w) (hT : TurnsOnly (w.alloc o) w' M) : Kept M W0 w' :=
  ⟨by rw [hT.2.1]; exact Nat.le_trans h.1 (by simp), fun b o' hb hlt => (hT.cell hb).trans ((World.cell?_alloc_lt w _ _ (Nat.lt_of_lt_of_le hlt h.1)).trans (h.2 b o' hb hlt))⟩
set_option maxRecDepth 100000 in
set_option maxHeartbeats 16000000 in
theorem patterns_c (w : World) :
    Calls Tryz.prog 22 #[] w (PatsPost w) := by
  have S := fun word k g w => single_c word k g w
  have S0 := fun word k w => plain_c word k w
  simp only [patV, fnV, ptr] at S S0
  have HS := Lib.hid S; have HS0 := Lib.hid S0
  clear S S0
  have hmm := fun (t : TypeId) (w : World) => run_makeMap (P := Tryz.prog) t w
  go_enter Tryz.func22, Tryz.ntmps22
  go_wp2_with fail
  refine (HS.out { data := #[100, 101, 108, 105, 118, 101, 114] } 0 34 _).mono ?_
  rintro e w0 ⟨rfl, hb0, hx0, hl0⟩
  have hB0 := bth (bal (B0 w) _) hb0
  go_wp2_with fail
  refine (HS.out { data := #[100, 114, 111, 112] } 1 34 _).mono ?_
  rintro e w1 ⟨rfl, hb1, hx1, hl1⟩
  have hB1 := bth hB0 hb1
  go_wp2_with fail
  refine (HS.out { data := #[100, 111, 117, 98, 108, 101] } 2 34 _).mono ?_
  rintro e w2 ⟨rfl, hb2, hx2, hl2⟩
  have hB2 := bth hB1 hb2
  go_wp2_with fail
  refine (HS.out { data := #[116, 105, 99, 107] } 3 31 _).mono ?_
  rintro e w3 ⟨rfl, hb3, hx3, hl3⟩
  have hB3 := bth hB2 hb3
  go_wp2_with fail
  refine (HS.out { data := #[114, 101, 115, 116, 97, 114, 116] } 6 31 _).mono ?_
  rintro e w4 ⟨rfl, hb4, hx4, hl4⟩
  have hB4 := bth hB3 hb4
  go_wp2_with fail
  refine (HS.out { data := #[99, 111, 109, 112, 97, 99, 116] } 13 31 _).mono ?_
  rintro e w5 ⟨rfl, hb5, hx5, hl5⟩
  have hB5 := bth hB4 hb5
  go_wp2_with fail
  refine (HS0.out { data := #[115, 108, 111, 116] } 4 _).mono ?_
  rintro e w6 ⟨rfl, hb6⟩
  have hB6 := bth hB5 hb6
  go_wp2_with fail
  refine (HS0.out { data := #[100, 97, 114, 107] } 16 _).mono ?_
  rintro e w7 ⟨rfl, hb7⟩
  have hB7 := bth hB6 hb7
  go_wp2_with fail
  refine (HS.out { data := #[105, 115, 111, 108, 97, 116, 101] } 8 30 _).mono ?_
  rintro e w8 ⟨rfl, hb8, hx8, hl8⟩
  have hB8 := bth hB7 hb8
  go_wp2_with fail
  refine (HS.out { data := #[106, 111, 105, 110] } 9 30 _).mono ?_
  rintro e w9 ⟨rfl, hb9, hx9, hl9⟩
  have hB9 := bth hB8 hb9
  go_wp2_with fail
  refine (HS.out { data := #[114, 101, 116, 114, 121] } 11 32 _).mono ?_
  rintro e w10 ⟨rfl, hb10, hx10, hl10⟩
  have hB10 := bth hB9 hb10
  go_wp2_with fail
  refine (HS.out { data := #[99, 97, 108, 109] } 17 36 _).mono ?_
  rintro e w11 ⟨rfl, hb11, hx11, hl11⟩
  have hB11 := bth hB10 hb11
  go_wp2_with fail
  rw [show (w.alloc (Obj.map #[] 0)).heap.size = w.heap.size + 1 by simp] at hx0 hl0
  have hz0 : w.heap.size < w0.heap.size := by omega
  have hz1 : w.heap.size < w1.heap.size := Nat.lt_of_lt_of_le hz0 hb1.size
  have hz2 : w.heap.size < w2.heap.size := Nat.lt_of_lt_of_le hz1 hb2.size
  have hz3 : w.heap.size < w3.heap.size := Nat.lt_of_lt_of_le hz2 hb3.size
  have hz4 : w.heap.size < w4.heap.size := Nat.lt_of_lt_of_le hz3 hb4.size
  have hz5 : w.heap.size < w5.heap.size := Nat.lt_of_lt_of_le hz4 hb5.size
  have hz6 : w.heap.size < w6.heap.size := Nat.lt_of_lt_of_le hz5 hb6.size
  have hz7 : w.heap.size < w7.heap.size := Nat.lt_of_lt_of_le hz6 hb7.size
  have hz8 : w.heap.size < w8.heap.size := Nat.lt_of_lt_of_le hz7 hb8.size
  have hz9 : w.heap.size < w9.heap.size := Nat.lt_of_lt_of_le hz8 hb9.size
  have hz10 : w.heap.size < w10.heap.size := Nat.lt_of_lt_of_le hz9 hb10.size
  have hz11 : w.heap.size < w11.heap.size := Nat.lt_of_lt_of_le hz10 hb11.size
  have hT10 := hb11
  have hT9 := bth hb10 hT10
  have hT8 := bth hb9 hT9
  have hT7 := bth hb8 hT8
  have hT6 := bth hb7 hT7
  have hT5 := bth hb6 hT6
  have hT4 := bth hb5 hT5
  have hT3 := bth hb4 hT4
  have hT2 := bth hb3 hT3
  have hT1 := bth hb2 hT2
  have hT0 := bth hb1 hT1

  refine abs_world (PatsAt w (fun i => match i with | 0 => w.heap.size + 1 | 1 => w0.heap.size | 2 => w1.heap.size | 3 => w2.heap.size | 4 => w3.heap.size | 5 => w4.heap.size | 6 => w7.heap.size | 7 => w8.heap.size | 8 => w9.heap.size | 9 => w10.heap.size | _ => w.heap.size + 1) w11.heap.size) ?_ ?_
  · refine ⟨bal hB11 _, ?_, ?_, ?_, by omega, by simp, ?_⟩
    · exact ((LiesMap.made w).later (bth hb0 hT0)).later (bal (B0 w11) _)
    · intro j x hj
      match j, hj with
      | 0, hj => injection hj with hj; subst hj; refine ⟨?_, ?_, ?_, ?_, ?_, ?_⟩ <;> (rw [World.cell?_alloc_new]; rfl)
      | 1, hj => injection hj with hj; subst hj; refine ⟨?_, ?_, ?_, ?_, ?_, ?_⟩ <;> (rw [World.cell?_alloc_new]; rfl)
      | 2, hj => injection hj with hj; subst hj; refine ⟨?_, ?_, ?_, ?_, ?_, ?_⟩ <;> (rw [World.cell?_alloc_new]; rfl)
      | 3, hj => injection hj with hj; subst hj; refine ⟨?_, ?_, ?_, ?_, ?_, ?_⟩ <;> (rw [World.cell?_alloc_new]; rfl)
      | 4, hj => injection hj with hj; subst hj; refine ⟨?_, ?_, ?_, ?_, ?_, ?_⟩ <;> (rw [World.cell?_alloc_new]; rfl)
      | 5, hj => injection hj with hj; subst hj; refine ⟨?_, ?_, ?_, ?_, ?_, ?_⟩ <;> (rw [World.cell?_alloc_new]; rfl)
      | 6, hj => injection hj with hj; subst hj; refine ⟨?_, ?_, ?_, ?_, ?_, ?_⟩ <;> (rw [World.cell?_alloc_new]; rfl)
      | 7, hj => injection hj with hj; subst hj; refine ⟨?_, ?_, ?_, ?_, ?_, ?_⟩ <;> (rw [World.cell?_alloc_new]; rfl)
      | 8, hj => injection hj with hj; subst hj; refine ⟨?_, ?_, ?_, ?_, ?_, ?_⟩ <;> (rw [World.cell?_alloc_new]; rfl)
      | 9, hj => injection hj with hj; subst hj; refine ⟨?_, ?_, ?_, ?_, ?_, ?_⟩ <;> (rw [World.cell?_alloc_new]; rfl)
      | 10, hj => injection hj with hj; subst hj; refine ⟨?_, ?_, ?_, ?_, ?_, ?_⟩ <;> (rw [World.cell?_alloc_new]; rfl)
      | 11, hj => injection hj with hj; subst hj; refine ⟨?_, ?_, ?_, ?_, ?_, ?_⟩ <;> (rw [World.cell?_alloc_new]; rfl)
      | 12, hj => injection hj with hj; subst hj; refine ⟨?_, ?_, ?_, ?_, ?_, ?_⟩ <;> (rw [World.cell?_alloc_new]; rfl)
      | 13, hj => injection hj with hj; subst hj; refine ⟨?_, ?_, ?_, ?_, ?_, ?_⟩ <;> (rw [World.cell?_alloc_new]; rfl)
      | 14, hj => injection hj with hj; subst hj; refine ⟨?_, ?_, ?_, ?_, ?_, ?_⟩ <;> (rw [World.cell?_alloc_new]; rfl)
      | 15, hj => injection hj with hj; subst hj; refine ⟨?_, ?_, ?_, ?_, ?_, ?_⟩ <;> (rw [World.cell?_alloc_new]; rfl)
      | 16, hj => injection hj with hj; subst hj; refine ⟨?_, ?_, ?_, ?_, ?_, ?_⟩ <;> (rw [World.cell?_alloc_new]; rfl)
      | 17, hj => injection hj with hj; subst hj; refine ⟨?_, ?_, ?_, ?_, ?_, ?_⟩ <;> (rw [World.cell?_alloc_new]; rfl)
      | j + 18, hj => simp [items] at hj
    · intro i hi
      match i, hi with
      | 0, _ => exact ⟨Nat.lt_of_lt_of_le (Nat.lt_of_lt_of_le hl0 hT0.size) (by simp), (World.cell?_alloc_lt w11 _ _ (Nat.lt_of_lt_of_le hl0 hT0.size)).trans ((hT0.cell hl0).trans hx0)⟩
      | 1, _ => exact ⟨Nat.lt_of_lt_of_le (Nat.lt_of_lt_of_le hl1 hT1.size) (by simp), (World.cell?_alloc_lt w11 _ _ (Nat.lt_of_lt_of_le hl1 hT1.size)).trans ((hT1.cell hl1).trans hx1)⟩
      | 2, _ => exact ⟨Nat.lt_of_lt_of_le (Nat.lt_of_lt_of_le hl2 hT2.size) (by simp), (World.cell?_alloc_lt w11 _ _ (Nat.lt_of_lt_of_le hl2 hT2.size)).trans ((hT2.cell hl2).trans hx2)⟩
      | 3, _ => exact ⟨Nat.lt_of_lt_of_le (Nat.lt_of_lt_of_le hl3 hT3.size) (by simp), (World.cell?_alloc_lt w11 _ _ (Nat.lt_of_lt_of_le hl3 hT3.size)).trans ((hT3.cell hl3).trans hx3)⟩
      | 4, _ => exact ⟨Nat.lt_of_lt_of_le (Nat.lt_of_lt_of_le hl4 hT4.size) (by simp), (World.cell?_alloc_lt w11 _ _ (Nat.lt_of_lt_of_le hl4 hT4.size)).trans ((hT4.cell hl4).trans hx4)⟩
      | 5, _ => exact ⟨Nat.lt_of_lt_of_le (Nat.lt_of_lt_of_le hl5 hT5.size) (by simp), (World.cell?_alloc_lt w11 _ _ (Nat.lt_of_lt_of_le hl5 hT5.size)).trans ((hT5.cell hl5).trans hx5)⟩
      | 6, _ => exact ⟨Nat.lt_of_lt_of_le (Nat.lt_of_lt_of_le hl8 hT8.size) (by simp), (World.cell?_alloc_lt w11 _ _ (Nat.lt_of_lt_of_le hl8 hT8.size)).trans ((hT8.cell hl8).trans hx8)⟩
      | 7, _ => exact ⟨Nat.lt_of_lt_of_le (Nat.lt_of_lt_of_le hl9 hT9.size) (by simp), (World.cell?_alloc_lt w11 _ _ (Nat.lt_of_lt_of_le hl9 hT9.size)).trans ((hT9.cell hl9).trans hx9)⟩
      | 8, _ => exact ⟨Nat.lt_of_lt_of_le (Nat.lt_of_lt_of_le hl10 hT10.size) (by simp), (World.cell?_alloc_lt w11 _ _ (Nat.lt_of_lt_of_le hl10 hT10.size)).trans ((hT10.cell hl10).trans hx10)⟩
      | 9, _ => exact ⟨Nat.lt_of_lt_of_le hl11 (by simp), (World.cell?_alloc_lt w11 _ _ hl11).trans hx11⟩
    · intro i hi
      match i, hi with
      | 0, _ => exact (Nat.lt_succ_self _)
      | 1, _ => exact hz0
      | 2, _ => exact hz1
      | 3, _ => exact hz2
      | 4, _ => exact hz3
      | 5, _ => exact hz4
      | 6, _ => exact hz7
      | 7, _ => exact hz8
      | 8, _ => exact hz9
      | 9, _ => exact hz10

  intro W0 hW0
  clear hmm
  clear hx0 hl0 hx1 hl1 hx2 hl2 hx3 hl3 hx4 hl4 hx5 hl5 hx8 hl8 hx9 hl9 hx10 hl10 hx11 hl11 hb0 hB0 hb1 hB1 hb2 hB2 hb3 hB3 hb4 hB4 hb5 hB5 hb6 hB6 hb7 hB7 hb8 hB8 hb9 hB9 hb10 hB10 hb11 hB11 hT0 hT1 hT2 hT3 hT4 hT5 hT6 hT7 hT8 hT9 hT10 hz0 hz1 hz2 hz3 hz4 hz5 hz6 hz7 hz8 hz9 hz10 hz11
  suffices h : ∀ (b : Nat → Nat) (r : Nat) (_ : PatsAt w b r W0) (v1 v5 v6 v7 v8 v9 v10 v11 v12 v13 v14 v15 v16 v17 v18 v19 v20 v21 v22 v23 v24 v25 : Value), Code.wp _ _ _ (Act.mk (List.toArray ((.map none) :: v1 :: (.map (some w.heap.size)) :: undef :: undef :: v5 :: v6 :: v7 :: v8 :: v9 :: v10 :: v11 :: v12 :: v13 :: v14 :: v15 :: v16 :: v17 :: v18 :: v19 :: v20 :: v21 :: v22 :: v23 :: v24 :: v25 :: (.slice (some ⟨r, 0, none⟩) 18 18) :: (.int .i64 18) :: (.int .i64 0) :: undef :: undef :: undef :: undef :: undef :: undef :: undef :: undef :: undef :: [])) []) W0 from h _ _ hW0 _ _ _ _ _ _ _ _ _ _ _ _ _ _ _ _ _ _ _ _ _ _
  clear hW0
  intro b r hW v1 v5 v6 v7 v8 v9 v10 v11 v12 v13 v14 v15 v16 v17 v18 v19 v20 v21 v22 v23 v24 v25
  have H := Lib.hid hW
  clear hW HS HS0
  go_loopw [28] (fun i wr => ∃ k : Nat, k ≤ 18 ∧ i = .int .i64 k ∧ LiesMap wr w.heap.size (((items b).take k).map Item.kv) ∧ Below w.heap.size w wr ∧ Kept w.heap.size W0 wr) (fun i _ => 18 - (intOf i).toNat)
  case atStart => exact ⟨0, Nat.zero_le _, rfl, H.out.map, H.out.below, Kept.refl _ _⟩
  case round =>
    obtain ⟨k, hk, rfl, hmap, hb, hkept⟩ := hrel
    have HM := Lib.hid hmap; have HK := Lib.hid hkept
    clear hmap hkept
    by_cases hlt : k < 18
    · obtain ⟨x, hx⟩ : ∃ x, (items b)[k]? = some x := ⟨_, List.getElem?_eq_getElem (by rw [items_len]; exact hlt)⟩
      have HX := Lib.hid hx
      have hrow := (H.out.rows k x hx).keep fun o => HK.out.2 r o H.out.ne H.out.lt
      have hnew := Lib.hid (new_key hx)
      obtain ⟨c0, c1, c2, c3, c4, c5⟩ := hrow
      unfold fnV at c2 c3 c4 c5
      have i1 : (0 : Int) ≤ (k : Int) := by omega
      have i2 : (k : Int) < 18 := by omega
      have i3 : IntKind.i64.wrap ((k : Int) + 1) = (k : Int) + 1 := IntWalk.i64_in _ (by omega)
      clear hx
      go_wp2_with (first
        | (refine wpList_put _ rfl (.tmp 32) (.tmp 34) (.tmp 35) 52 (.inl rfl) 9 39 _ Tryz.underlying52 Tryz.underlying9 w.heap.size _ rfl (HM.out.later (bal (B0 _) _)) (.string (bs x.word)) x.val rfl rfl strKey hnew.out ?_
           intro w' hL hT))
      refine ⟨⟨k + 1, by omega, by go_num, ?_, hT.1 w.heap.size w (bal hb _) (Nat.le_refl _), HK.out.put hT⟩, by simp [intOf]; omega⟩
      rw [List.take_add_one, HX.out, List.map_append]
      exact hL
    · go_wp2_with fail
      go_ret
      obtain rfl : k = 18 := by omega
      refine ⟨w.heap.size, b, rfl, ?_, ?_, H.out.fresh, Nat.le_refl _, hb⟩
      · have h := HM.out
        rwa [List.take_of_length_le (by rw [items_len]; exact Nat.le_refl _)] at h
      · intro i hi
        obtain ⟨h1, h2⟩ := H.out.boxes i hi
        exact ⟨Nat.lt_of_lt_of_le h1 HK.out.1, (HK.out.2 _ _ (Nat.ne_of_gt (H.out.fresh i hi)) h1).trans h2⟩

end Go.Proofs.YtdgciagmcjdhhaaGreatDoor
