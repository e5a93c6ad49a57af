/-
  The closures that read the words of a call and of a request. (Printed by gen_reads2.py.)
-/
import Derived.Test.YtdgciagmcjdhhaaGreatDoorReads2
set_option linter.unusedVariables false
set_option linter.unusedSimpArgs false
namespace Go.Proofs.YtdgciagmcjdhhaaGreatDoor
open Go Go.RowKit Go.MapKept Go.ChangeMaps

theorem grown_alloc {W w : World} {b : Nat} (h : W.grownBy w (some b)) (o : Obj) : W.grownBy (w.alloc o) (some b) :=
  ⟨h.os, h.tape, h.output, Nat.le_trans h.size (by simp), fun i hi hne => (Below.heap_alloc w o i (Nat.lt_of_lt_of_le hi h.size)).trans (h.block i hi hne)⟩
set_option maxRecDepth 100000 in
set_option maxHeartbeats 4000000 in
theorem read_req_no (k : Int) (v : Value) (l : List ByteArray) (W : World) (pa : Nat) (h : SlS W pa v l) (h2 : l.length < 2) :
    Calls Tryz.prog 54 #[ptr pa, v] W (ReadPost W pa (readReq k l)) := by
  have hr : readReq k l = none := by unfold readReq; rw [if_pos h2]
  rw [hr]
  obtain ⟨A, n, c, rfl, hl, hc, hm⟩ := h.form
  have g3 : ((n : Int) < 2) := by omega
  clear h hr
  simp only [ptr]
  go_enter Tryz.func54, Tryz.ntmps54
  go_wp2_with fail
  go_ret
  exact ⟨World.grownBy.refl _ _, rfl, fun y hy => by cases hy⟩
set_option maxRecDepth 100000 in
set_option maxHeartbeats 8000000 in
theorem read_req_bad (k : Int) (v : Value) (l : List ByteArray) (W : World) (pa : Nat) (hG : Glob W) (hb : Blk W pa (actZ k) nilS nilS) (h8 : 8 ≤ pa) (h : SlS W pa v l) (hsz : ∀ s ∈ l, s.size ≤ 1000000) (hn : l.length ≤ 100000) (h2 : 2 ≤ l.length) (hq : opOf (l.drop 2) = none) (hc2 : ∀ A n c, v = .slice A n c → ¬c = 2) :
    Calls Tryz.prog 54 #[ptr pa, v] W (ReadPost W pa (readReq k l)) := by
  have hlt := hb.lt
  have hr : readReq k l = none := by unfold readReq; rw [if_neg (by omega), hq]; rfl
  rw [hr]
  obtain ⟨A, n, c, rfl, hl, hc, hm⟩ := h.form
  obtain ⟨bl, ol, rfl, hbl, hcell⟩ := h.at_ 0 (by omega)
  have hsz' : ∀ s ∈ l.drop 2, s.size ≤ 1000000 := fun s hs => hsz s (List.mem_of_mem_drop hs)
  have hc2' : ¬c = 2 := hc2 _ _ _ rfl
  have i1 : (2 : Int) ≤ n := by omega
  have g0 : ¬((n : Int) < 2) := by omega
  have i2 : (n : Int) ≤ c := by omega
  have i3 : (2 : Int) ≤ c := by omega
  have n1 : 2 ≤ n := by omega
  have n2 : 2 ≤ c := by omega
  have L0 := readOp_c _ (l.drop 2) W hG ((h.drop 2 (by omega)).more (Nat.le_of_lt hlt)) hsz'
  have eq : (if (l.drop 2).length < 2 then none else parseOp (l.drop 2)) = opOf (l.drop 2) := rfl
  rw [eq, hq] at L0
  unfold OpPost at L0
  have HL := Lib.hid L0
  have HB := Lib.hid hb
  have HT := Lib.hid (h.take_ 2 (by omega))
  have HS := Lib.hid (fun s (hs : s ∈ l.take 2) => hsz s (List.mem_of_mem_take hs))
  have HLen := Lib.hid (show (l.take 2).length ≤ 100000 by simp; omega)
  have HG := Lib.hid hG
  clear hG hb h hsz hn L0 hcell hc2 hsz' hq hr eq hl
  simp only [ptr]
  go_enter Tryz.func54, Tryz.ntmps54
  go_wp2_with (first
    | (go_at_call 55
       refine (HL.out).mono ?_
       rintro e w1 ⟨hb1, r, rfl, hrr⟩
       obtain ⟨p0, p1, p2, p3⟩ := r
       unfold opV
       have HR := Lib.hid hrr
       clear hrr
       have r1 : w1.heap[pa]? = _ := (hb1.block _ hlt).trans HB.out
       rw [cells_z] at r1
       have d4 : w1.cell? ⟨pa, 4, none⟩ = some (.int .i64 0) := by simp [World.cell?, r1]
       have f4 : w1.frozen? ⟨pa, 4, none⟩ = false := by simp [World.frozen?, r1]
       have d5 : w1.cell? ⟨pa, 5, none⟩ = some (.string ⟨#[]⟩) := by simp [World.cell?, r1]
       have f5 : w1.frozen? ⟨pa, 5, none⟩ = false := by simp [World.frozen?, r1]
       have d6 : w1.cell? ⟨pa, 6, none⟩ = some (.int .i64 0) := by simp [World.cell?, r1]
       have f6 : w1.frozen? ⟨pa, 6, none⟩ = false := by simp [World.frozen?, r1]
       have d7 : w1.cell? ⟨pa, 7, none⟩ = some (.int .i64 0) := by simp [World.cell?, r1]
       have f7 : w1.frozen? ⟨pa, 7, none⟩ = false := by simp [World.frozen?, r1]
       have hlt1 : pa < w1.heap.size := Nat.lt_of_lt_of_le hlt hb1.size
       have hne : ¬pa = w1.heap.size := by omega
       have hne2 : ¬w1.heap.size = pa := by omega
       have R1 := Lib.hid r1
       clear r1))
  have hlt2 : pa < (((((w1.setCell ⟨pa, 4, none⟩ (.int .i64 p0)).setCell ⟨pa, 5, none⟩ (.string p1)).setCell ⟨pa, 6, none⟩ (.int .i64 p2)).setCell ⟨pa, 7, none⟩ (.int .i64 p3))).heap.size := by simpa [World.setCell] using hlt1
  have hg1 := grown_alloc (grown_set (grown_set (grown_set (grown_set (grown_from hb1 (World.grownBy.refl w1 (some pa))) 4 (.int .i64 p0)) 5 (.string p1)) 6 (.int .i64 p2)) 7 (.int .i64 p3)) (.cells #[.int .i64 p0, .string p1, .int .i64 p2, .int .i64 p3] 23)
  have r2 := (Below.heap_alloc _ (.cells #[.int .i64 p0, .string p1, .int .i64 p2, .int .i64 p3] 23) pa hlt2).trans (set_blk (set_blk (set_blk (set_blk R1.out 4 (.int .i64 p0)) 5 (.string p1)) 6 (.int .i64 p2)) 7 (.int .i64 p3))
  have hbb := (((((hb1.mono (Nat.le_of_lt hlt)).setCell (p := ⟨pa, 4, none⟩) (Nat.le_refl _) (.int .i64 p0)).setCell (p := ⟨pa, 5, none⟩) (Nat.le_refl _) (.string p1)).setCell (p := ⟨pa, 6, none⟩) (Nat.le_refl _) (.int .i64 p2)).setCell (p := ⟨pa, 7, none⟩) (Nat.le_refl _) (.int .i64 p3)).alloc (Nat.le_of_lt hlt2) (.cells #[.int .i64 p0, .string p1, .int .i64 p2, .int .i64 p3] 23)
  generalize hw2 : ((((((w1.setCell ⟨pa, 4, none⟩ (.int .i64 p0)).setCell ⟨pa, 5, none⟩ (.string p1)).setCell ⟨pa, 6, none⟩ (.int .i64 p2)).setCell ⟨pa, 7, none⟩ (.int .i64 p3))).alloc (.cells #[.int .i64 p0, .string p1, .int .i64 p2, .int .i64 p3] 23)) = w2 at hg1 r2 hbb ⊢
  have hl2 : pa < w2.heap.size := Nat.lt_of_lt_of_le hlt hg1.size
  clear hw2 hlt2 d4 f4 d5 f5 d6 f6 d7 f7 hne hne2 hlt1 hb1 R1
  have R2 := Lib.hid r2
  clear r2
  have hne : ¬pa = w2.heap.size := by omega
  have hne2 : ¬w2.heap.size = pa := by omega
  refine wp_region_any (by kernel_rfl) ?_
  change wpAny _ _ _ _ 14 _ _ (World.drew _)
  refine take_at (i := 0) (v := ?_) (some 20) rfl rfl (by kernel_rfl) (by kernel_rfl) (by kernel_rfl) (fun _ _ _ h => h) (Or.inl ⟨by rfl, ?_⟩) ?_
  rotate_left
  · intro w
    go_simp
    try with_reducible rfl
  try simp only [Act.put, List.setIfInBounds_toArray, List.set_cons_zero, List.set_cons_succ]
  refine take_at (i := 1) (v := ?_) (some 21) rfl rfl (by kernel_rfl) (by kernel_rfl) (by kernel_rfl) (fun _ _ _ h => h) (Or.inl ⟨by rfl, ?_⟩) ?_
  rotate_left
  · intro w
    go_simp
    try with_reducible rfl
  try simp only [Act.put, List.setIfInBounds_toArray, List.set_cons_zero, List.set_cons_succ]
  refine take_at (i := 2) (v := undef) (some 22) rfl rfl (by kernel_rfl) (by kernel_rfl) (by kernel_rfl) (fun _ _ _ h => h) (Or.inr ⟨by rfl, rfl⟩) ?_
  try simp only [Act.put, List.setIfInBounds_toArray, List.set_cons_zero, List.set_cons_succ]
  refine take_at (i := 3) (v := undef) (some 23) rfl rfl (by kernel_rfl) (by kernel_rfl) (by kernel_rfl) (fun _ _ _ h => h) (Or.inr ⟨by rfl, rfl⟩) ?_
  try simp only [Act.put, List.setIfInBounds_toArray, List.set_cons_zero, List.set_cons_succ]
  refine take_at (i := 4) (v := undef) (some 24) rfl rfl (by kernel_rfl) (by kernel_rfl) (by kernel_rfl) (fun _ _ _ h => h) (Or.inr ⟨by rfl, rfl⟩) ?_
  try simp only [Act.put, List.setIfInBounds_toArray, List.set_cons_zero, List.set_cons_succ]
  refine take_at (i := 5) (v := undef) (some 25) rfl rfl (by kernel_rfl) (by kernel_rfl) (by kernel_rfl) (fun _ _ _ h => h) (Or.inr ⟨by rfl, rfl⟩) ?_
  try simp only [Act.put, List.setIfInBounds_toArray, List.set_cons_zero, List.set_cons_succ]
  refine take_at (i := 6) (v := undef) (some 26) rfl rfl (by kernel_rfl) (by kernel_rfl) (by kernel_rfl) (fun _ _ _ h => h) (Or.inr ⟨by rfl, rfl⟩) ?_
  try simp only [Act.put, List.setIfInBounds_toArray, List.set_cons_zero, List.set_cons_succ]
  refine take_at (i := 7) (v := undef) (some 27) rfl rfl (by kernel_rfl) (by kernel_rfl) (by kernel_rfl) (fun _ _ _ h => h) (Or.inr ⟨by rfl, rfl⟩) ?_
  try simp only [Act.put, List.setIfInBounds_toArray, List.set_cons_zero, List.set_cons_succ]
  refine take_at (i := 8) (v := undef) (some 28) rfl rfl (by kernel_rfl) (by kernel_rfl) (by kernel_rfl) (fun _ _ _ h => h) (Or.inr ⟨by rfl, rfl⟩) ?_
  try simp only [Act.put, List.setIfInBounds_toArray, List.set_cons_zero, List.set_cons_succ]
  refine take_at (i := 9) (v := undef) (some 29) rfl rfl (by kernel_rfl) (by kernel_rfl) (by kernel_rfl) (fun _ _ _ h => h) (Or.inr ⟨by rfl, rfl⟩) ?_
  try simp only [Act.put, List.setIfInBounds_toArray, List.set_cons_zero, List.set_cons_succ]
  refine take_at (i := 10) (v := undef) (some 30) rfl rfl (by kernel_rfl) (by kernel_rfl) (by kernel_rfl) (fun _ _ _ h => h) (Or.inr ⟨by rfl, rfl⟩) ?_
  try simp only [Act.put, List.setIfInBounds_toArray, List.set_cons_zero, List.set_cons_succ]
  refine take_at (i := 11) (v := undef) (some 31) rfl rfl (by kernel_rfl) (by kernel_rfl) (by kernel_rfl) (fun _ _ _ h => h) (Or.inr ⟨by rfl, rfl⟩) ?_
  try simp only [Act.put, List.setIfInBounds_toArray, List.set_cons_zero, List.set_cons_succ]
  refine take_at (i := 12) (v := ?_) (some 32) rfl rfl (by kernel_rfl) (by kernel_rfl) (by kernel_rfl) (fun _ _ _ h => h) (Or.inl ⟨by rfl, ?_⟩) ?_
  rotate_left
  · intro w
    go_simp
    try with_reducible rfl
  try simp only [Act.put, List.setIfInBounds_toArray, List.set_cons_zero, List.set_cons_succ]
  refine take_at (i := 13) (v := ?_) (some 4) rfl rfl (by kernel_rfl) (by kernel_rfl) (by kernel_rfl) (fun _ _ _ h => h) (Or.inl ⟨by rfl, ?_⟩) ?_
  rotate_left
  · intro w
    go_simp
    try with_reducible rfl
  try simp only [Act.put, List.setIfInBounds_toArray, List.set_cons_zero, List.set_cons_succ]
  refine wpAny_done (by kernel_rfl) ?_ _
  go_wp2_with fail
  go_ret
  exact ⟨grown_drew hg1, rfl, fun y hy => by cases hy⟩
set_option maxRecDepth 100000 in
set_option maxHeartbeats 8000000 in
theorem read_req_bad2 (k : Int) (v : Value) (l : List ByteArray) (W : World) (pa : Nat) (hG : Glob W) (hb : Blk W pa (actZ k) nilS nilS) (h8 : 8 ≤ pa) (h : SlS W pa v l) (hsz : ∀ s ∈ l, s.size ≤ 1000000) (hn : l.length ≤ 100000) (h2 : 2 ≤ l.length) (hq : opOf (l.drop 2) = none) (hc2 : ∀ A n c, v = .slice A n c → c = 2) :
    Calls Tryz.prog 54 #[ptr pa, v] W (ReadPost W pa (readReq k l)) := by
  have hlt := hb.lt
  have hr : readReq k l = none := by unfold readReq; rw [if_neg (by omega), hq]; rfl
  rw [hr]
  obtain ⟨A, n, c, rfl, hl, hc, hm⟩ := h.form
  obtain ⟨bl, ol, rfl, hbl, hcell⟩ := h.at_ 0 (by omega)
  have hsz' : ∀ s ∈ l.drop 2, s.size ≤ 1000000 := fun s hs => hsz s (List.mem_of_mem_drop hs)
  obtain rfl : c = 2 := hc2 _ _ _ rfl
  obtain rfl : n = 2 := by omega
  have hd : l.drop 2 = [] := by rw [List.drop_eq_nil_iff]; omega
  have L0 := fun A => readOp_c (.slice A 0 0) (l.drop 2) W hG (by rw [hd]; exact SlS.none_ (by simp)) hsz'
  have eq : (if (l.drop 2).length < 2 then none else parseOp (l.drop 2)) = opOf (l.drop 2) := rfl
  rw [eq, hq] at L0
  unfold OpPost at L0
  have HL := Lib.hid L0
  have HB := Lib.hid hb
  have HT := Lib.hid (h.take_ 2 (by omega))
  have HS := Lib.hid (fun s (hs : s ∈ l.take 2) => hsz s (List.mem_of_mem_take hs))
  have HLen := Lib.hid (show (l.take 2).length ≤ 100000 by simp; omega)
  have HG := Lib.hid hG
  clear hG hb h hsz hn L0 hcell hc2 hsz' hq hr eq hl
  simp only [ptr]
  go_enter Tryz.func54, Tryz.ntmps54
  go_wp2_with (first
    | (go_at_call 55
       refine (HL.out _).mono ?_
       rintro e w1 ⟨hb1, r, rfl, hrr⟩
       obtain ⟨p0, p1, p2, p3⟩ := r
       unfold opV
       have HR := Lib.hid hrr
       clear hrr
       have r1 : w1.heap[pa]? = _ := (hb1.block _ hlt).trans HB.out
       rw [cells_z] at r1
       have d4 : w1.cell? ⟨pa, 4, none⟩ = some (.int .i64 0) := by simp [World.cell?, r1]
       have f4 : w1.frozen? ⟨pa, 4, none⟩ = false := by simp [World.frozen?, r1]
       have d5 : w1.cell? ⟨pa, 5, none⟩ = some (.string ⟨#[]⟩) := by simp [World.cell?, r1]
       have f5 : w1.frozen? ⟨pa, 5, none⟩ = false := by simp [World.frozen?, r1]
       have d6 : w1.cell? ⟨pa, 6, none⟩ = some (.int .i64 0) := by simp [World.cell?, r1]
       have f6 : w1.frozen? ⟨pa, 6, none⟩ = false := by simp [World.frozen?, r1]
       have d7 : w1.cell? ⟨pa, 7, none⟩ = some (.int .i64 0) := by simp [World.cell?, r1]
       have f7 : w1.frozen? ⟨pa, 7, none⟩ = false := by simp [World.frozen?, r1]
       have hlt1 : pa < w1.heap.size := Nat.lt_of_lt_of_le hlt hb1.size
       have hne : ¬pa = w1.heap.size := by omega
       have hne2 : ¬w1.heap.size = pa := by omega
       have R1 := Lib.hid r1
       clear r1))
  have hlt2 : pa < (((((w1.setCell ⟨pa, 4, none⟩ (.int .i64 p0)).setCell ⟨pa, 5, none⟩ (.string p1)).setCell ⟨pa, 6, none⟩ (.int .i64 p2)).setCell ⟨pa, 7, none⟩ (.int .i64 p3))).heap.size := by simpa [World.setCell] using hlt1
  have hg1 := grown_alloc (grown_set (grown_set (grown_set (grown_set (grown_from hb1 (World.grownBy.refl w1 (some pa))) 4 (.int .i64 p0)) 5 (.string p1)) 6 (.int .i64 p2)) 7 (.int .i64 p3)) (.cells #[.int .i64 p0, .string p1, .int .i64 p2, .int .i64 p3] 23)
  have r2 := (Below.heap_alloc _ (.cells #[.int .i64 p0, .string p1, .int .i64 p2, .int .i64 p3] 23) pa hlt2).trans (set_blk (set_blk (set_blk (set_blk R1.out 4 (.int .i64 p0)) 5 (.string p1)) 6 (.int .i64 p2)) 7 (.int .i64 p3))
  have hbb := (((((hb1.mono (Nat.le_of_lt hlt)).setCell (p := ⟨pa, 4, none⟩) (Nat.le_refl _) (.int .i64 p0)).setCell (p := ⟨pa, 5, none⟩) (Nat.le_refl _) (.string p1)).setCell (p := ⟨pa, 6, none⟩) (Nat.le_refl _) (.int .i64 p2)).setCell (p := ⟨pa, 7, none⟩) (Nat.le_refl _) (.int .i64 p3)).alloc (Nat.le_of_lt hlt2) (.cells #[.int .i64 p0, .string p1, .int .i64 p2, .int .i64 p3] 23)
  generalize hw2 : ((((((w1.setCell ⟨pa, 4, none⟩ (.int .i64 p0)).setCell ⟨pa, 5, none⟩ (.string p1)).setCell ⟨pa, 6, none⟩ (.int .i64 p2)).setCell ⟨pa, 7, none⟩ (.int .i64 p3))).alloc (.cells #[.int .i64 p0, .string p1, .int .i64 p2, .int .i64 p3] 23)) = w2 at hg1 r2 hbb ⊢
  have hl2 : pa < w2.heap.size := Nat.lt_of_lt_of_le hlt hg1.size
  clear hw2 hlt2 d4 f4 d5 f5 d6 f6 d7 f7 hne hne2 hlt1 hb1 R1
  have R2 := Lib.hid r2
  clear r2
  have hne : ¬pa = w2.heap.size := by omega
  have hne2 : ¬w2.heap.size = pa := by omega
  refine wp_region_any (by kernel_rfl) ?_
  change wpAny _ _ _ _ 14 _ _ (World.drew _)
  refine take_at (i := 0) (v := ?_) (some 20) rfl rfl (by kernel_rfl) (by kernel_rfl) (by kernel_rfl) (fun _ _ _ h => h) (Or.inl ⟨by rfl, ?_⟩) ?_
  rotate_left
  · intro w
    go_simp
    try with_reducible rfl
  try simp only [Act.put, List.setIfInBounds_toArray, List.set_cons_zero, List.set_cons_succ]
  refine take_at (i := 1) (v := ?_) (some 21) rfl rfl (by kernel_rfl) (by kernel_rfl) (by kernel_rfl) (fun _ _ _ h => h) (Or.inl ⟨by rfl, ?_⟩) ?_
  rotate_left
  · intro w
    go_simp
    try with_reducible rfl
  try simp only [Act.put, List.setIfInBounds_toArray, List.set_cons_zero, List.set_cons_succ]
  refine take_at (i := 2) (v := undef) (some 22) rfl rfl (by kernel_rfl) (by kernel_rfl) (by kernel_rfl) (fun _ _ _ h => h) (Or.inr ⟨by rfl, rfl⟩) ?_
  try simp only [Act.put, List.setIfInBounds_toArray, List.set_cons_zero, List.set_cons_succ]
  refine take_at (i := 3) (v := undef) (some 23) rfl rfl (by kernel_rfl) (by kernel_rfl) (by kernel_rfl) (fun _ _ _ h => h) (Or.inr ⟨by rfl, rfl⟩) ?_
  try simp only [Act.put, List.setIfInBounds_toArray, List.set_cons_zero, List.set_cons_succ]
  refine take_at (i := 4) (v := undef) (some 24) rfl rfl (by kernel_rfl) (by kernel_rfl) (by kernel_rfl) (fun _ _ _ h => h) (Or.inr ⟨by rfl, rfl⟩) ?_
  try simp only [Act.put, List.setIfInBounds_toArray, List.set_cons_zero, List.set_cons_succ]
  refine take_at (i := 5) (v := undef) (some 25) rfl rfl (by kernel_rfl) (by kernel_rfl) (by kernel_rfl) (fun _ _ _ h => h) (Or.inr ⟨by rfl, rfl⟩) ?_
  try simp only [Act.put, List.setIfInBounds_toArray, List.set_cons_zero, List.set_cons_succ]
  refine take_at (i := 6) (v := undef) (some 26) rfl rfl (by kernel_rfl) (by kernel_rfl) (by kernel_rfl) (fun _ _ _ h => h) (Or.inr ⟨by rfl, rfl⟩) ?_
  try simp only [Act.put, List.setIfInBounds_toArray, List.set_cons_zero, List.set_cons_succ]
  refine take_at (i := 7) (v := undef) (some 27) rfl rfl (by kernel_rfl) (by kernel_rfl) (by kernel_rfl) (fun _ _ _ h => h) (Or.inr ⟨by rfl, rfl⟩) ?_
  try simp only [Act.put, List.setIfInBounds_toArray, List.set_cons_zero, List.set_cons_succ]
  refine take_at (i := 8) (v := undef) (some 28) rfl rfl (by kernel_rfl) (by kernel_rfl) (by kernel_rfl) (fun _ _ _ h => h) (Or.inr ⟨by rfl, rfl⟩) ?_
  try simp only [Act.put, List.setIfInBounds_toArray, List.set_cons_zero, List.set_cons_succ]
  refine take_at (i := 9) (v := undef) (some 29) rfl rfl (by kernel_rfl) (by kernel_rfl) (by kernel_rfl) (fun _ _ _ h => h) (Or.inr ⟨by rfl, rfl⟩) ?_
  try simp only [Act.put, List.setIfInBounds_toArray, List.set_cons_zero, List.set_cons_succ]
  refine take_at (i := 10) (v := undef) (some 30) rfl rfl (by kernel_rfl) (by kernel_rfl) (by kernel_rfl) (fun _ _ _ h => h) (Or.inr ⟨by rfl, rfl⟩) ?_
  try simp only [Act.put, List.setIfInBounds_toArray, List.set_cons_zero, List.set_cons_succ]
  refine take_at (i := 11) (v := undef) (some 31) rfl rfl (by kernel_rfl) (by kernel_rfl) (by kernel_rfl) (fun _ _ _ h => h) (Or.inr ⟨by rfl, rfl⟩) ?_
  try simp only [Act.put, List.setIfInBounds_toArray, List.set_cons_zero, List.set_cons_succ]
  refine take_at (i := 12) (v := ?_) (some 32) rfl rfl (by kernel_rfl) (by kernel_rfl) (by kernel_rfl) (fun _ _ _ h => h) (Or.inl ⟨by rfl, ?_⟩) ?_
  rotate_left
  · intro w
    go_simp
    try with_reducible rfl
  try simp only [Act.put, List.setIfInBounds_toArray, List.set_cons_zero, List.set_cons_succ]
  refine take_at (i := 13) (v := ?_) (some 4) rfl rfl (by kernel_rfl) (by kernel_rfl) (by kernel_rfl) (fun _ _ _ h => h) (Or.inl ⟨by rfl, ?_⟩) ?_
  rotate_left
  · intro w
    go_simp
    try with_reducible rfl
  try simp only [Act.put, List.setIfInBounds_toArray, List.set_cons_zero, List.set_cons_succ]
  refine wpAny_done (by kernel_rfl) ?_ _
  go_wp2_with fail
  go_ret
  exact ⟨grown_drew hg1, rfl, fun y hy => by cases hy⟩
set_option maxRecDepth 100000 in
set_option maxHeartbeats 8000000 in
theorem read_req_go (k : Int) (v : Value) (l : List ByteArray) (W : World) (pa : Nat) (hG : Glob W) (hb : Blk W pa (actZ k) nilS nilS) (h8 : 8 ≤ pa) (h : SlS W pa v l) (hsz : ∀ s ∈ l, s.size ≤ 1000000) (hn : l.length ≤ 100000) (h2 : 2 ≤ l.length) (q : Int × ByteArray × Int × Int) (hq : opOf (l.drop 2) = some q) (hc2 : ∀ A n c, v = .slice A n c → ¬c = 2) :
    Calls Tryz.prog 54 #[ptr pa, v] W (ReadPost W pa (readReq k l)) := by
  have hlt := hb.lt
  have hr : readReq k l = (numsQ (l.take 2) 2).map fun vs => { actZ k with a := nth vs 0, b := nth vs 1, ok := q.1, key := q.2.1, val := q.2.2.1, old := q.2.2.2 } := by unfold readReq; rw [if_neg (by omega), hq]; rfl
  rw [hr]
  obtain ⟨A, n, c, rfl, hl, hc, hm⟩ := h.form
  obtain ⟨bl, ol, rfl, hbl, hcell⟩ := h.at_ 0 (by omega)
  have hsz' : ∀ s ∈ l.drop 2, s.size ≤ 1000000 := fun s hs => hsz s (List.mem_of_mem_drop hs)
  have hc2' : ¬c = 2 := hc2 _ _ _ rfl
  have i1 : (2 : Int) ≤ n := by omega
  have g0 : ¬((n : Int) < 2) := by omega
  have i2 : (n : Int) ≤ c := by omega
  have i3 : (2 : Int) ≤ c := by omega
  have n1 : 2 ≤ n := by omega
  have n2 : 2 ≤ c := by omega
  have L0 := readOp_c _ (l.drop 2) W hG ((h.drop 2 (by omega)).more (Nat.le_of_lt hlt)) hsz'
  have eq : (if (l.drop 2).length < 2 then none else parseOp (l.drop 2)) = opOf (l.drop 2) := rfl
  rw [eq, hq] at L0
  unfold OpPost at L0
  have HL := Lib.hid L0
  have HB := Lib.hid hb
  have HT := Lib.hid (h.take_ 2 (by omega))
  have HS := Lib.hid (fun s (hs : s ∈ l.take 2) => hsz s (List.mem_of_mem_take hs))
  have HLen := Lib.hid (show (l.take 2).length ≤ 100000 by simp; omega)
  have HG := Lib.hid hG
  clear hG hb h hsz hn L0 hcell hc2 hsz' hq hr eq hl
  simp only [ptr]
  go_enter Tryz.func54, Tryz.ntmps54
  go_wp2_with (first
    | (go_at_call 55
       refine (HL.out).mono ?_
       rintro e w1 ⟨hb1, r, rfl, hrr⟩
       obtain ⟨p0, p1, p2, p3⟩ := r
       unfold opV
       have HR := Lib.hid hrr
       clear hrr
       have r1 : w1.heap[pa]? = _ := (hb1.block _ hlt).trans HB.out
       rw [cells_z] at r1
       have d4 : w1.cell? ⟨pa, 4, none⟩ = some (.int .i64 0) := by simp [World.cell?, r1]
       have f4 : w1.frozen? ⟨pa, 4, none⟩ = false := by simp [World.frozen?, r1]
       have d5 : w1.cell? ⟨pa, 5, none⟩ = some (.string ⟨#[]⟩) := by simp [World.cell?, r1]
       have f5 : w1.frozen? ⟨pa, 5, none⟩ = false := by simp [World.frozen?, r1]
       have d6 : w1.cell? ⟨pa, 6, none⟩ = some (.int .i64 0) := by simp [World.cell?, r1]
       have f6 : w1.frozen? ⟨pa, 6, none⟩ = false := by simp [World.frozen?, r1]
       have d7 : w1.cell? ⟨pa, 7, none⟩ = some (.int .i64 0) := by simp [World.cell?, r1]
       have f7 : w1.frozen? ⟨pa, 7, none⟩ = false := by simp [World.frozen?, r1]
       have hlt1 : pa < w1.heap.size := Nat.lt_of_lt_of_le hlt hb1.size
       have hne : ¬pa = w1.heap.size := by omega
       have hne2 : ¬w1.heap.size = pa := by omega
       have R1 := Lib.hid r1
       clear r1))
  have hlt2 : pa < (((((w1.setCell ⟨pa, 4, none⟩ (.int .i64 p0)).setCell ⟨pa, 5, none⟩ (.string p1)).setCell ⟨pa, 6, none⟩ (.int .i64 p2)).setCell ⟨pa, 7, none⟩ (.int .i64 p3))).heap.size := by simpa [World.setCell] using hlt1
  have hg1 := grown_alloc (grown_set (grown_set (grown_set (grown_set (grown_from hb1 (World.grownBy.refl w1 (some pa))) 4 (.int .i64 p0)) 5 (.string p1)) 6 (.int .i64 p2)) 7 (.int .i64 p3)) (.cells #[.int .i64 p0, .string p1, .int .i64 p2, .int .i64 p3] 23)
  have r2 := (Below.heap_alloc _ (.cells #[.int .i64 p0, .string p1, .int .i64 p2, .int .i64 p3] 23) pa hlt2).trans (set_blk (set_blk (set_blk (set_blk R1.out 4 (.int .i64 p0)) 5 (.string p1)) 6 (.int .i64 p2)) 7 (.int .i64 p3))
  have hbb := (((((hb1.mono (Nat.le_of_lt hlt)).setCell (p := ⟨pa, 4, none⟩) (Nat.le_refl _) (.int .i64 p0)).setCell (p := ⟨pa, 5, none⟩) (Nat.le_refl _) (.string p1)).setCell (p := ⟨pa, 6, none⟩) (Nat.le_refl _) (.int .i64 p2)).setCell (p := ⟨pa, 7, none⟩) (Nat.le_refl _) (.int .i64 p3)).alloc (Nat.le_of_lt hlt2) (.cells #[.int .i64 p0, .string p1, .int .i64 p2, .int .i64 p3] 23)
  generalize hw2 : ((((((w1.setCell ⟨pa, 4, none⟩ (.int .i64 p0)).setCell ⟨pa, 5, none⟩ (.string p1)).setCell ⟨pa, 6, none⟩ (.int .i64 p2)).setCell ⟨pa, 7, none⟩ (.int .i64 p3))).alloc (.cells #[.int .i64 p0, .string p1, .int .i64 p2, .int .i64 p3] 23)) = w2 at hg1 r2 hbb ⊢
  have hl2 : pa < w2.heap.size := Nat.lt_of_lt_of_le hlt hg1.size
  clear hw2 hlt2 d4 f4 d5 f5 d6 f6 d7 f7 hne hne2 hlt1 hb1 R1
  have R2 := Lib.hid r2
  clear r2
  have hne : ¬pa = w2.heap.size := by omega
  have hne2 : ¬w2.heap.size = pa := by omega
  have hG2 : Glob (w2.alloc (.cells #[.pointer (some ⟨pa, 1, none⟩), .pointer (some ⟨pa, 2, none⟩)] 73)).drew := (HG.out.grown hg1 h8).step (bdr (bal (B0 w2) _))
  have hbw2 : Below pa W (w2.alloc (.cells #[.pointer (some ⟨pa, 1, none⟩), .pointer (some ⟨pa, 2, none⟩)] 73)).drew := below_drew (hbb.alloc (Nat.le_of_lt hl2) _)
  refine wp_region_any (by kernel_rfl) ?_
  change wpAny _ _ _ _ 14 _ _ (World.drew _)
  refine take_at (i := 0) (v := ?_) (some 20) rfl rfl (by kernel_rfl) (by kernel_rfl) (by kernel_rfl) (fun _ _ _ h => h) (Or.inl ⟨by rfl, ?_⟩) ?_
  rotate_left
  · intro w
    go_simp
    try with_reducible rfl
  try simp only [Act.put, List.setIfInBounds_toArray, List.set_cons_zero, List.set_cons_succ]
  refine take_at (i := 1) (v := ?_) (some 21) rfl rfl (by kernel_rfl) (by kernel_rfl) (by kernel_rfl) (fun _ _ _ h => h) (Or.inl ⟨by rfl, ?_⟩) ?_
  rotate_left
  · intro w
    go_simp
    try with_reducible rfl
  try simp only [Act.put, List.setIfInBounds_toArray, List.set_cons_zero, List.set_cons_succ]
  refine take_at (i := 2) (v := ?_) (some 22) rfl rfl (by kernel_rfl) (by kernel_rfl) (by kernel_rfl) (fun _ _ _ h => h) (Or.inl ⟨by rfl, ?_⟩) ?_
  rotate_left
  · intro w
    go_simp
    try with_reducible rfl
  try simp only [Act.put, List.setIfInBounds_toArray, List.set_cons_zero, List.set_cons_succ]
  refine take_at (i := 3) (v := ?_) (some 23) rfl rfl (by kernel_rfl) (by kernel_rfl) (by kernel_rfl) (fun _ _ _ h => h) (Or.inl ⟨by rfl, ?_⟩) ?_
  rotate_left
  · intro w
    go_simp
    try with_reducible rfl
  try simp only [Act.put, List.setIfInBounds_toArray, List.set_cons_zero, List.set_cons_succ]
  refine take_at (i := 4) (v := ?_) (some 24) rfl rfl (by kernel_rfl) (by kernel_rfl) (by kernel_rfl) (fun _ _ _ h => h) (Or.inl ⟨by rfl, ?_⟩) ?_
  rotate_left
  · intro w
    go_simp
    try with_reducible rfl
  try simp only [Act.put, List.setIfInBounds_toArray, List.set_cons_zero, List.set_cons_succ]
  refine take_at (i := 5) (v := ?_) (some 25) rfl rfl (by kernel_rfl) (by kernel_rfl) (by kernel_rfl) (fun _ _ _ h => h) (Or.inl ⟨by rfl, ?_⟩) ?_
  rotate_left
  · intro w
    go_simp
    try with_reducible rfl
  try simp only [Act.put, List.setIfInBounds_toArray, List.set_cons_zero, List.set_cons_succ]
  refine take_at (i := 6) (v := ?_) (some 26) rfl rfl (by kernel_rfl) (by kernel_rfl) (by kernel_rfl) (fun _ _ _ h => h) (Or.inl ⟨by rfl, ?_⟩) ?_
  rotate_left
  · intro w
    go_simp
    try with_reducible rfl
  try simp only [Act.put, List.setIfInBounds_toArray, List.set_cons_zero, List.set_cons_succ]
  refine take_at (i := 7) (v := ?_) (some 27) rfl rfl (by kernel_rfl) (by kernel_rfl) (by kernel_rfl) (fun _ _ _ h => h) (Or.inl ⟨by rfl, ?_⟩) ?_
  rotate_left
  · intro w
    go_simp
    try with_reducible rfl
  try simp only [Act.put, List.setIfInBounds_toArray, List.set_cons_zero, List.set_cons_succ]
  refine take_at (i := 8) (v := ?_) (some 28) rfl rfl (by kernel_rfl) (by kernel_rfl) (by kernel_rfl) (fun _ _ _ h => h) (Or.inl ⟨by rfl, ?_⟩) ?_
  rotate_left
  · intro w
    go_simp
    try with_reducible rfl
  try simp only [Act.put, List.setIfInBounds_toArray, List.set_cons_zero, List.set_cons_succ]
  refine take_at (i := 9) (v := ?_) (some 29) rfl rfl (by kernel_rfl) (by kernel_rfl) (by kernel_rfl) (fun _ _ _ h => h) (Or.inl ⟨by rfl, ?_⟩) ?_
  rotate_left
  · intro w
    go_simp
    try with_reducible rfl
  try simp only [Act.put, List.setIfInBounds_toArray, List.set_cons_zero, List.set_cons_succ]
  refine wpAny_ready (rs := [10]) (by kernel_rfl) (by simp) ?_
  refine AllReady.cons rfl (fun K hK => ?_) AllReady.nil
  go_simp
  refine hK _ _ ?_
  clear hK K
  try simp only [Act.put, List.setIfInBounds_toArray, List.set_cons_zero, List.set_cons_succ]
  refine wpAny_ready (rs := [11]) (by kernel_rfl) (by simp) ?_
  refine AllReady.cons rfl (fun K hK => ?_) AllReady.nil
  go_simp
  refine (numsQ_c _ (l.take 2) [1, 2] 2 w2.heap.size _ pa 26 _ _ hG2 pa rfl (Sl.below HT.out hbw2) (Nat.le_refl _) (by simp; omega) HS.out HLen.out (fun j hj => by
        match j, hj with
        | 0, _ => go_simp; try rfl
        | 1, _ => go_simp; try rfl) hne2 (by simp) h8 (((bdr (bal (B0 w2) _)).block _ hl2).trans R2.out) (fun j hj => by
        match j, hj with
        | 0, _ => show _ < 10; decide
        | 1, _ => show _ < 10; decide)).mono ?_
  rintro e w3 hp
  have he := hp.ret
  subst he
  go_simp
  refine hK _ _ ?_
  clear hK K
  try simp only [Act.put, List.setIfInBounds_toArray, List.set_cons_zero, List.set_cons_succ]
  refine take_at (i := 12) (v := ?_) (some 32) rfl rfl (by kernel_rfl) (by kernel_rfl) (by kernel_rfl) (fun _ _ _ h => h) (Or.inl ⟨by rfl, ?_⟩) ?_
  rotate_left
  · intro w
    go_simp
    try with_reducible rfl
  try simp only [Act.put, List.setIfInBounds_toArray, List.set_cons_zero, List.set_cons_succ]
  refine take_at (i := 13) (v := ?_) (some 4) rfl rfl (by kernel_rfl) (by kernel_rfl) (by kernel_rfl) (fun _ _ _ h => h) (Or.inl ⟨by rfl, ?_⟩) ?_
  rotate_left
  · intro w
    go_simp
    try with_reducible rfl
  try simp only [Act.put, List.setIfInBounds_toArray, List.set_cons_zero, List.set_cons_succ]
  refine wpAny_done (by kernel_rfl) ?_ _
  go_wp2_with fail
  go_ret
  have hg3 := grown_from (bdr (bal (B0 w2) _)) hp.1
  have hp2 := hp.2
  refine ⟨grown_two hg1 hg3, ?_, fun y hy => ?_⟩
  · show Ending.returned (.bool (numsQ (l.take 2) 2).isSome) = _
    rw [Option.isSome_map]
  · obtain ⟨vs, hv, rfl⟩ := Option.map_eq_some_iff.1 hy
    have e1 : numsQ (l.take 2) [1, 2].length = some vs := hv
    rw [e1] at hp2
    have hvl := numsQ_len hv
    have := HR.out q rfl
    subst this
    match vs, hvl with
    | [p, r], _ => exact ⟨nilS, nilS, hp2.2.trans rfl, SlI.nil_ _ _, SlI.nil_ _ _, Fresh.nil _, Fresh.nil _⟩
theorem read_req (k : Int) (v : Value) (l : List ByteArray) (W : World) (pa : Nat) (hG : Glob W) (hb : Blk W pa (actZ k) nilS nilS) (h8 : 8 ≤ pa) (h : SlS W pa v l) (hsz : ∀ s ∈ l, s.size ≤ 1000000) (hn : l.length ≤ 100000) :
    Calls Tryz.prog 54 #[ptr pa, v] W (ReadPost W pa (readReq k l)) := by
  by_cases h2 : l.length < 2
  · exact read_req_no k v l W pa h h2
  obtain ⟨A, n, c, rfl, hl, hc, hm⟩ := h.form
  by_cases hc2 : c = 2
  · have hq : opOf (l.drop 2) = none := by
      have : l.drop 2 = [] := by rw [List.drop_eq_nil_iff]; omega
      rw [this]; rfl
    exact read_req_bad2 k _ l W pa hG hb h8 h hsz hn (by omega) hq (fun A' n' c' e => by injection e with _ _ e; omega)
  · cases hq : opOf (l.drop 2) with
    | none => exact read_req_bad k _ l W pa hG hb h8 h hsz hn (by omega) hq (fun A' n' c' e => by injection e with _ _ e; omega)
    | some q => exact read_req_go k _ l W pa hG hb h8 h hsz hn (by omega) q hq (fun A' n' c' e => by injection e with _ _ e; omega)
end Go.Proofs.YtdgciagmcjdhhaaGreatDoor
