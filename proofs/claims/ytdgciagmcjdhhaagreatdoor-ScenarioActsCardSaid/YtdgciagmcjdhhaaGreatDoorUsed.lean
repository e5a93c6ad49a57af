/-
  The closures that copy an act's fields. (Printed by gen_used.py.)
-/
import Derived.Test.YtdgciagmcjdhhaaGreatDoorOps
set_option linter.unusedVariables false
set_option linter.unusedSimpArgs false
namespace Go.Proofs.YtdgciagmcjdhhaaGreatDoor
open Go Go.RowKit Go.MapKept Go.ChangeMaps

/-- The act of a kind with nothing in it. -/
def actZ (k : Int) : ActD := { kind := k, a := 0, b := 0, c := 0, ok := 0, key := ⟨#[]⟩, val := 0, old := 0, ms := [], ss := [] }
def nilS : Value := .slice none 0 0
def ptr (b : Nat) : Value := .pointer (some ⟨b, 0, none⟩)
/-- Block b holds the act x, its slices' values being m and s. -/
def Blk (w : World) (b : Nat) (x : ActD) (m s : Value) : Prop := w.heap[b]? = some (.cells (x.cells m s) 26 (0, 0))
theorem Blk.lies {w : World} {b : Nat} {x : ActD} {m s : Value} (h : Blk w b x m s) : Lies w b x m s := by
  refine ⟨?_, ?_, ?_, ?_, ?_, ?_, ?_, ?_, ?_, ?_⟩ <;> exact blk_cell h (by show _ < 10; decide)
theorem Blk.lt {w : World} {b : Nat} {x : ActD} {m s : Value} (h : Blk w b x m s) : b < w.heap.size := (Array.getElem?_eq_some_iff.1 h).1
theorem Blk.turns {w w' : World} {b c : Nat} {x : ActD} {m s : Value} (h : Blk w b x m s) (hT : TurnsOnly w w' c) (hne : b ≠ c) : Blk w' b x m s := (hT.2.2 b hne).trans h
theorem turns_refl (w : World) (b : Nat) : TurnsOnly w w b := ⟨fun _ _ h _ => h, rfl, fun _ _ => rfl⟩
theorem turns_drew {w w' : World} {b : Nat} (h : TurnsOnly w w' b) : TurnsOnly w w'.drew b := ⟨fun B w0 hB hle => by have := h.1 B w0 hB hle; exact ⟨this.os, this.tape, this.output, this.size, this.block⟩, h.2.1, h.2.2⟩
theorem turns_set {w w' : World} {b : Nat} (h : TurnsOnly w w' b) (o : Nat) (u : Value) : TurnsOnly w (w'.setCell ⟨b, o, none⟩ u) b :=
  ⟨fun B w0 hB hle => (h.1 B w0 hB hle).setCell hle u, by rw [← h.2.1]; simp [World.setCell], fun i hi => (Below.heap_setCell w' ⟨b, o, none⟩ u i (by intro e; exact hi e)).trans (h.2.2 i hi)⟩
theorem blk_drew {w : World} {b : Nat} {C : Array Value} {t : TypeId} (h : w.heap[b]? = some (.cells C t (0, 0))) : w.drew.heap[b]? = some (.cells C t (0, 0)) := h
theorem cells_z (k : Int) : (actZ k).cells nilS nilS = #[.int .i64 k, .int .i64 0, .int .i64 0, .int .i64 0, .int .i64 0, .string ⟨#[]⟩, .int .i64 0, .int .i64 0, nilS, nilS] := rfl
theorem heap_drew (w : World) : w.drew.heap = w.heap := rfl
def UsedPost (W : World) (px : Nat) (y : ActD) (m s : Value) (e : Ending) (w' : World) : Prop := (∃ v, e = .returned v) ∧ TurnsOnly W w' px ∧ Blk w' px y m s

set_option maxRecDepth 100000 in
set_option maxHeartbeats 1000000 in
theorem used_single (k : Int) (x : ActD) (m s : Value) (W : World) (px pa : Nat) (hm : ∃ A n c, m = .slice A n c) (hs : ∃ A n c, s = .slice A n c) (hp : Blk W px (actZ k) nilS nilS) (ha : Lies W pa x m s) (hne : px ≠ pa) :
    Calls Tryz.prog 77 #[ptr px, ptr pa] W (UsedPost W px ({ actZ k with a := x.a }) nilS nilS) := by
  obtain ⟨Am, nm, cm, rfl⟩ := hm
  obtain ⟨As, ns, cs, rfl⟩ := hs
  have z1 : W.cell? ⟨px, 1, none⟩ = some (.int .i64 0) := blk_cell hp (o := 1) (by show _ < 10; decide)
  have f1 : W.frozen? ⟨px, 1, none⟩ = false := blk_frozen hp 1
  obtain ⟨l0, l1, l2, l3, l4, l5, l6, l7, l8, l9⟩ := ha
  have hne1 : ¬px = pa := hne
  have hne2 : ¬pa = px := fun e => hne e.symm
  have HP := Lib.hid hp
  clear hp hne
  simp only [ptr]
  go_enter Tryz.func77, Tryz.ntmps77
  go_wp2_with fail
  all_goals
    go_end0
    refine ⟨⟨_, rfl⟩, ?_, ?_⟩
    · repeat' first | with_reducible refine turns_set ?_ _ _ | with_reducible refine turns_drew ?_ | with_reducible exact turns_refl _ _
    · have h := HP.out
      clear HP
      unfold Blk at h ⊢
      rw [cells_z] at h
      try rw [heap_drew]
      refine (set_blk (h) _ _).trans ?_
      simp only [List.setIfInBounds_toArray, List.set_cons_succ, List.set_cons_zero]
      rfl

set_option maxRecDepth 100000 in
set_option maxHeartbeats 1000000 in
theorem used_plain (k : Int) (x : ActD) (m s : Value) (W : World) (px pa : Nat) (hm : ∃ A n c, m = .slice A n c) (hs : ∃ A n c, s = .slice A n c) (hp : Blk W px (actZ k) nilS nilS) (ha : Lies W pa x m s) (hne : px ≠ pa) :
    Calls Tryz.prog 81 #[ptr px, ptr pa] W (UsedPost W px (actZ k) nilS nilS) := by
  obtain ⟨Am, nm, cm, rfl⟩ := hm
  obtain ⟨As, ns, cs, rfl⟩ := hs
  obtain ⟨l0, l1, l2, l3, l4, l5, l6, l7, l8, l9⟩ := ha
  have hne1 : ¬px = pa := hne
  have hne2 : ¬pa = px := fun e => hne e.symm
  have HP := Lib.hid hp
  clear hp hne
  simp only [ptr]
  go_enter Tryz.func81, Tryz.ntmps81
  go_wp2_with fail
  all_goals
    go_end0
    refine ⟨⟨_, rfl⟩, ?_, ?_⟩
    · repeat' first | with_reducible refine turns_set ?_ _ _ | with_reducible refine turns_drew ?_ | with_reducible exact turns_refl _ _
    · have h := HP.out
      clear HP
      unfold Blk at h ⊢
      rw [cells_z] at h
      try rw [heap_drew]
      exact h

set_option maxRecDepth 100000 in
set_option maxHeartbeats 1000000 in
theorem used_crash (k : Int) (x : ActD) (m s : Value) (W : World) (px pa : Nat) (hm : ∃ A n c, m = .slice A n c) (hs : ∃ A n c, s = .slice A n c) (hp : Blk W px (actZ k) nilS nilS) (ha : Lies W pa x m s) (hne : px ≠ pa) :
    Calls Tryz.prog 37 #[ptr px, ptr pa] W (UsedPost W px ({ actZ k with a := x.a, ss := x.ss }) nilS s) := by
  obtain ⟨Am, nm, cm, rfl⟩ := hm
  obtain ⟨As, ns, cs, rfl⟩ := hs
  have z1 : W.cell? ⟨px, 1, none⟩ = some (.int .i64 0) := blk_cell hp (o := 1) (by show _ < 10; decide)
  have f1 : W.frozen? ⟨px, 1, none⟩ = false := blk_frozen hp 1
  have z9 : W.cell? ⟨px, 9, none⟩ = some nilS := blk_cell hp (o := 9) (by show _ < 10; decide)
  have f9 : W.frozen? ⟨px, 9, none⟩ = false := blk_frozen hp 9
  obtain ⟨l0, l1, l2, l3, l4, l5, l6, l7, l8, l9⟩ := ha
  have hne1 : ¬px = pa := hne
  have hne2 : ¬pa = px := fun e => hne e.symm
  have HP := Lib.hid hp
  clear hp hne
  simp only [ptr]
  go_enter Tryz.func37, Tryz.ntmps37
  go_wp2_with fail
  go_region
  all_goals
    go_end0
    refine ⟨⟨_, rfl⟩, ?_, ?_⟩
    · repeat' first | with_reducible refine turns_set ?_ _ _ | with_reducible refine turns_drew ?_ | with_reducible exact turns_refl _ _
    · have h := HP.out
      clear HP
      unfold Blk at h ⊢
      rw [cells_z] at h
      try rw [heap_drew]
      refine (set_blk (set_blk (h) _ _) _ _).trans ?_
      simp only [List.setIfInBounds_toArray, List.set_cons_succ, List.set_cons_zero]
      rfl

set_option maxRecDepth 100000 in
set_option maxHeartbeats 1000000 in
theorem used_fail (k : Int) (x : ActD) (m s : Value) (W : World) (px pa : Nat) (hm : ∃ A n c, m = .slice A n c) (hs : ∃ A n c, s = .slice A n c) (hp : Blk W px (actZ k) nilS nilS) (ha : Lies W pa x m s) (hne : px ≠ pa) :
    Calls Tryz.prog 46 #[ptr px, ptr pa] W (UsedPost W px ({ actZ k with a := x.a, b := x.b }) nilS nilS) := by
  obtain ⟨Am, nm, cm, rfl⟩ := hm
  obtain ⟨As, ns, cs, rfl⟩ := hs
  have z1 : W.cell? ⟨px, 1, none⟩ = some (.int .i64 0) := blk_cell hp (o := 1) (by show _ < 10; decide)
  have f1 : W.frozen? ⟨px, 1, none⟩ = false := blk_frozen hp 1
  have z2 : W.cell? ⟨px, 2, none⟩ = some (.int .i64 0) := blk_cell hp (o := 2) (by show _ < 10; decide)
  have f2 : W.frozen? ⟨px, 2, none⟩ = false := blk_frozen hp 2
  obtain ⟨l0, l1, l2, l3, l4, l5, l6, l7, l8, l9⟩ := ha
  have hne1 : ¬px = pa := hne
  have hne2 : ¬pa = px := fun e => hne e.symm
  have HP := Lib.hid hp
  clear hp hne
  simp only [ptr]
  go_enter Tryz.func46, Tryz.ntmps46
  go_wp2_with fail
  go_region
  all_goals
    go_end0
    refine ⟨⟨_, rfl⟩, ?_, ?_⟩
    · repeat' first | with_reducible refine turns_set ?_ _ _ | with_reducible refine turns_drew ?_ | with_reducible exact turns_refl _ _
    · have h := HP.out
      clear HP
      unfold Blk at h ⊢
      rw [cells_z] at h
      try rw [heap_drew]
      refine (set_blk (set_blk (h) _ _) _ _).trans ?_
      simp only [List.setIfInBounds_toArray, List.set_cons_succ, List.set_cons_zero]
      rfl

set_option maxRecDepth 100000 in
set_option maxHeartbeats 1000000 in
theorem used_request (k : Int) (x : ActD) (m s : Value) (W : World) (px pa : Nat) (hm : ∃ A n c, m = .slice A n c) (hs : ∃ A n c, s = .slice A n c) (hp : Blk W px (actZ k) nilS nilS) (ha : Lies W pa x m s) (hne : px ≠ pa) :
    Calls Tryz.prog 50 #[ptr px, ptr pa] W (UsedPost W px ({ actZ k with a := x.a, b := x.b, ok := x.ok, key := x.key, val := x.val, old := x.old }) nilS nilS) := by
  obtain ⟨Am, nm, cm, rfl⟩ := hm
  obtain ⟨As, ns, cs, rfl⟩ := hs
  have z1 : W.cell? ⟨px, 1, none⟩ = some (.int .i64 0) := blk_cell hp (o := 1) (by show _ < 10; decide)
  have f1 : W.frozen? ⟨px, 1, none⟩ = false := blk_frozen hp 1
  have z2 : W.cell? ⟨px, 2, none⟩ = some (.int .i64 0) := blk_cell hp (o := 2) (by show _ < 10; decide)
  have f2 : W.frozen? ⟨px, 2, none⟩ = false := blk_frozen hp 2
  have z4 : W.cell? ⟨px, 4, none⟩ = some (.int .i64 0) := blk_cell hp (o := 4) (by show _ < 10; decide)
  have f4 : W.frozen? ⟨px, 4, none⟩ = false := blk_frozen hp 4
  have z5 : W.cell? ⟨px, 5, none⟩ = some (.string ⟨#[]⟩) := blk_cell hp (o := 5) (by show _ < 10; decide)
  have f5 : W.frozen? ⟨px, 5, none⟩ = false := blk_frozen hp 5
  have z6 : W.cell? ⟨px, 6, none⟩ = some (.int .i64 0) := blk_cell hp (o := 6) (by show _ < 10; decide)
  have f6 : W.frozen? ⟨px, 6, none⟩ = false := blk_frozen hp 6
  have z7 : W.cell? ⟨px, 7, none⟩ = some (.int .i64 0) := blk_cell hp (o := 7) (by show _ < 10; decide)
  have f7 : W.frozen? ⟨px, 7, none⟩ = false := blk_frozen hp 7
  obtain ⟨l0, l1, l2, l3, l4, l5, l6, l7, l8, l9⟩ := ha
  have hne1 : ¬px = pa := hne
  have hne2 : ¬pa = px := fun e => hne e.symm
  have HP := Lib.hid hp
  clear hp hne
  simp only [ptr]
  go_enter Tryz.func50, Tryz.ntmps50
  go_wp2_with fail
  go_region
  all_goals
    go_end0
    refine ⟨⟨_, rfl⟩, ?_, ?_⟩
    · repeat' first | with_reducible refine turns_set ?_ _ _ | with_reducible refine turns_drew ?_ | with_reducible exact turns_refl _ _
    · have h := HP.out
      clear HP
      unfold Blk at h ⊢
      rw [cells_z] at h
      try rw [heap_drew]
      refine (set_blk (set_blk (set_blk (set_blk (set_blk (set_blk (h) _ _) _ _) _ _) _ _) _ _) _ _).trans ?_
      simp only [List.setIfInBounds_toArray, List.set_cons_succ, List.set_cons_zero]
      rfl

set_option maxRecDepth 100000 in
set_option maxHeartbeats 1000000 in
theorem used_call (k : Int) (x : ActD) (m s : Value) (W : World) (px pa : Nat) (hm : ∃ A n c, m = .slice A n c) (hs : ∃ A n c, s = .slice A n c) (hp : Blk W px (actZ k) nilS nilS) (ha : Lies W pa x m s) (hne : px ≠ pa) :
    Calls Tryz.prog 58 #[ptr px, ptr pa] W (UsedPost W px ({ actZ k with a := x.a, b := x.b, val := x.val }) nilS nilS) := by
  obtain ⟨Am, nm, cm, rfl⟩ := hm
  obtain ⟨As, ns, cs, rfl⟩ := hs
  have z1 : W.cell? ⟨px, 1, none⟩ = some (.int .i64 0) := blk_cell hp (o := 1) (by show _ < 10; decide)
  have f1 : W.frozen? ⟨px, 1, none⟩ = false := blk_frozen hp 1
  have z2 : W.cell? ⟨px, 2, none⟩ = some (.int .i64 0) := blk_cell hp (o := 2) (by show _ < 10; decide)
  have f2 : W.frozen? ⟨px, 2, none⟩ = false := blk_frozen hp 2
  have z6 : W.cell? ⟨px, 6, none⟩ = some (.int .i64 0) := blk_cell hp (o := 6) (by show _ < 10; decide)
  have f6 : W.frozen? ⟨px, 6, none⟩ = false := blk_frozen hp 6
  obtain ⟨l0, l1, l2, l3, l4, l5, l6, l7, l8, l9⟩ := ha
  have hne1 : ¬px = pa := hne
  have hne2 : ¬pa = px := fun e => hne e.symm
  have HP := Lib.hid hp
  clear hp hne
  simp only [ptr]
  go_enter Tryz.func58, Tryz.ntmps58
  go_wp2_with fail
  go_region
  all_goals
    go_end0
    refine ⟨⟨_, rfl⟩, ?_, ?_⟩
    · repeat' first | with_reducible refine turns_set ?_ _ _ | with_reducible refine turns_drew ?_ | with_reducible exact turns_refl _ _
    · have h := HP.out
      clear HP
      unfold Blk at h ⊢
      rw [cells_z] at h
      try rw [heap_drew]
      refine (set_blk (set_blk (set_blk (h) _ _) _ _) _ _).trans ?_
      simp only [List.setIfInBounds_toArray, List.set_cons_succ, List.set_cons_zero]
      rfl

set_option maxRecDepth 100000 in
set_option maxHeartbeats 1000000 in
theorem used_transfer (k : Int) (x : ActD) (m s : Value) (W : World) (px pa : Nat) (hm : ∃ A n c, m = .slice A n c) (hs : ∃ A n c, s = .slice A n c) (hp : Blk W px (actZ k) nilS nilS) (ha : Lies W pa x m s) (hne : px ≠ pa) :
    Calls Tryz.prog 64 #[ptr px, ptr pa] W (UsedPost W px ({ actZ k with a := x.a, b := x.b, c := x.c }) nilS nilS) := by
  obtain ⟨Am, nm, cm, rfl⟩ := hm
  obtain ⟨As, ns, cs, rfl⟩ := hs
  have z1 : W.cell? ⟨px, 1, none⟩ = some (.int .i64 0) := blk_cell hp (o := 1) (by show _ < 10; decide)
  have f1 : W.frozen? ⟨px, 1, none⟩ = false := blk_frozen hp 1
  have z2 : W.cell? ⟨px, 2, none⟩ = some (.int .i64 0) := blk_cell hp (o := 2) (by show _ < 10; decide)
  have f2 : W.frozen? ⟨px, 2, none⟩ = false := blk_frozen hp 2
  have z3 : W.cell? ⟨px, 3, none⟩ = some (.int .i64 0) := blk_cell hp (o := 3) (by show _ < 10; decide)
  have f3 : W.frozen? ⟨px, 3, none⟩ = false := blk_frozen hp 3
  obtain ⟨l0, l1, l2, l3, l4, l5, l6, l7, l8, l9⟩ := ha
  have hne1 : ¬px = pa := hne
  have hne2 : ¬pa = px := fun e => hne e.symm
  have HP := Lib.hid hp
  clear hp hne
  simp only [ptr]
  go_enter Tryz.func64, Tryz.ntmps64
  go_wp2_with fail
  go_region
  all_goals
    go_end0
    refine ⟨⟨_, rfl⟩, ?_, ?_⟩
    · repeat' first | with_reducible refine turns_set ?_ _ _ | with_reducible refine turns_drew ?_ | with_reducible exact turns_refl _ _
    · have h := HP.out
      clear HP
      unfold Blk at h ⊢
      rw [cells_z] at h
      try rw [heap_drew]
      refine (set_blk (set_blk (set_blk (h) _ _) _ _) _ _).trans ?_
      simp only [List.setIfInBounds_toArray, List.set_cons_succ, List.set_cons_zero]
      rfl

set_option maxRecDepth 100000 in
set_option maxHeartbeats 1000000 in
theorem used_replan (k : Int) (x : ActD) (m s : Value) (W : World) (px pa : Nat) (hm : ∃ A n c, m = .slice A n c) (hs : ∃ A n c, s = .slice A n c) (hp : Blk W px (actZ k) nilS nilS) (ha : Lies W pa x m s) (hne : px ≠ pa) :
    Calls Tryz.prog 68 #[ptr px, ptr pa] W (UsedPost W px ({ actZ k with ms := x.ms }) m nilS) := by
  obtain ⟨Am, nm, cm, rfl⟩ := hm
  obtain ⟨As, ns, cs, rfl⟩ := hs
  have z8 : W.cell? ⟨px, 8, none⟩ = some nilS := blk_cell hp (o := 8) (by show _ < 10; decide)
  have f8 : W.frozen? ⟨px, 8, none⟩ = false := blk_frozen hp 8
  obtain ⟨l0, l1, l2, l3, l4, l5, l6, l7, l8, l9⟩ := ha
  have hne1 : ¬px = pa := hne
  have hne2 : ¬pa = px := fun e => hne e.symm
  have HP := Lib.hid hp
  clear hp hne
  simp only [ptr]
  go_enter Tryz.func68, Tryz.ntmps68
  go_wp2_with fail
  all_goals
    go_end0
    refine ⟨⟨_, rfl⟩, ?_, ?_⟩
    · repeat' first | with_reducible refine turns_set ?_ _ _ | with_reducible refine turns_drew ?_ | with_reducible exact turns_refl _ _
    · have h := HP.out
      clear HP
      unfold Blk at h ⊢
      rw [cells_z] at h
      try rw [heap_drew]
      refine (set_blk (h) _ _).trans ?_
      simp only [List.setIfInBounds_toArray, List.set_cons_succ, List.set_cons_zero]
      rfl

end Go.Proofs.YtdgciagmcjdhhaaGreatDoor
