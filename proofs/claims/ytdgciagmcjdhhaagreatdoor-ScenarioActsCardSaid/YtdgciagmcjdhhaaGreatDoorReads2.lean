/-
  The closures that read the words of a call and of a request. (Printed by gen_reads2.py.)
-/
import Derived.Test.YtdgciagmcjdhhaaGreatDoorDefs
set_option linter.unusedVariables false
set_option linter.unusedSimpArgs false
namespace Go.Proofs.YtdgciagmcjdhhaaGreatDoor
open Go Go.RowKit Go.MapKept Go.ChangeMaps

theorem grown_drewN {W w : World} {b : Nat} (h : W.grownBy w (some b)) (q : Nat) : W.grownBy (w.drewN q) (some b) := ⟨h.os, h.tape, h.output, h.size, h.block⟩
section
variable {P : Program} {ops : Array Oper} {Q : Exit → Act → World → Prop} {md : Region.Mode}
/-- A move of a region's walk whose slot is written out. -/
theorem take_at {i : Nat} {oi : Oper} {v : Value} {fuel : Nat} {listed : Array Bool} {a : Act} {w : World} (d : Option Tmp) (hi : ops[i]? = some oi) (hd : oi.dst = d)
    (hs : Region.noSelect ops = true) (hf : Region.free md ops listed i = true) (hr : (Region.ready md ops listed).contains i = true)
    (hQ : ∀ c a w, Q (.panic c) (a.put d v) w → Q (.panic c) a w) (hy : Yields P ops oi v a)
    (h : wpAny P md ops Q fuel (listed.setIfInBounds i true) (a.put d v) w) : wpAny P md ops Q (fuel + 1) listed a w := by
  subst hd
  exact wpAny_take hi hs hf hr hQ hy h
end
set_option maxRecDepth 100000 in
set_option maxHeartbeats 4000000 in
theorem read_call_no (k : Int) (v : Value) (l : List ByteArray) (W : World) (pa : Nat) (h : SlS W pa v l) (h3 : l.length ≠ 3) :
    Calls Tryz.prog 60 #[ptr pa, v] W (ReadPost W pa (readCall k l)) := by
  have hr : readCall k l = none := by unfold readCall; rw [if_neg h3]
  rw [hr]
  obtain ⟨A, n, c, rfl, hl, hc, hm⟩ := h.form
  have g3 : ((n : Int) == 3) = false := by simp; omega
  have g4 : decide ((n : Int) = 3) = false := by simp; omega
  clear h hr
  simp only [ptr]
  go_enter Tryz.func60, Tryz.ntmps60
  go_wp2_with fail
  go_quiet (fail)
  all_goals go_wp2_with fail
  all_goals
    go_ret
    exact ⟨grown_drewN (World.grownBy.refl _ _) _, rfl, fun y hy => by cases hy⟩
set_option maxRecDepth 100000 in
set_option maxHeartbeats 8000000 in
theorem read_call_bad (k : Int) (v : Value) (l : List ByteArray) (W : World) (pa : Nat) (hG : Glob W) (hb : Blk W pa (actZ k) nilS nilS) (h8 : 8 ≤ pa) (h : SlS W pa v l) (hsz : ∀ s ∈ l, s.size ≤ 1000000) (h3 : l.length = 3) (hq : numsQ (l.take 2) 2 = none) :
    Calls Tryz.prog 60 #[ptr pa, v] W (ReadPost W pa (readCall k l)) := by
  have hlt := hb.lt
  have hr : readCall k l = none := by unfold readCall; rw [if_pos h3, hq]; rfl
  rw [hr]
  obtain ⟨A, n, c, rfl, hl, hc, hm⟩ := h.form
  obtain rfl : n = 3 := by omega
  obtain ⟨bl, ol, rfl, hbl, hcell⟩ := h.at_ 0 (by omega)
  have hcell2 := hcell 2 (by omega)
  have HB := Lib.hid hb; have HC2 := Lib.hid hcell2
  have HT := Lib.hid (h.take_ 2 (by omega))
  have HS := Lib.hid (fun s (hs : s ∈ l.take 2) => hsz s (List.mem_of_mem_take hs))
  have HZ := Lib.hid (hsz _ (nths_mem (k := 2) (by omega)))
  have HQ := Lib.hid hq
  have HLen := Lib.hid (show (l.take 2).length ≤ 100000 by simp; omega)
  have hG0 : Glob (W.alloc (.cells #[.pointer (some ⟨pa, 1, none⟩), .pointer (some ⟨pa, 2, none⟩)] 73)).drew := hG.step (bdr (bal (B0 W) _))
  have hbw0 : Below pa W (W.alloc (.cells #[.pointer (some ⟨pa, 1, none⟩), .pointer (some ⟨pa, 2, none⟩)] 73)).drew := below_drew (((B0 W).mono (Nat.le_of_lt hlt)).alloc (Nat.le_of_lt hlt) _)
  have hne : ¬pa = W.heap.size := by omega
  have hne2 : ¬W.heap.size = pa := by omega
  have i2 : (2 : Int) ≤ c := by omega
  have n2 : 2 ≤ c := by omega
  clear hG hb h hsz hcell hcell2 hq hr
  simp only [ptr]
  go_enter Tryz.func60, Tryz.ntmps60
  go_wp2_with fail
  refine wp_region_any (by kernel_rfl) ?_
  change wpAny _ _ _ _ 26 _ _ (World.drew _)
  refine take_at (i := 0) (v := ?_) (some 5) rfl rfl (by kernel_rfl) (by kernel_rfl) (by kernel_rfl) (fun _ _ _ h => h) (Or.inl ⟨by rfl, ?_⟩) ?_
  rotate_left
  · intro w
    go_simp
    try with_reducible rfl
  try simp only [Act.put, List.setIfInBounds_toArray, List.set_cons_zero, List.set_cons_succ]
  refine take_at (i := 1) (v := ?_) (some 6) rfl rfl (by kernel_rfl) (by kernel_rfl) (by kernel_rfl) (fun _ _ _ h => h) (Or.inl ⟨by rfl, ?_⟩) ?_
  rotate_left
  · intro w
    go_simp
    try with_reducible rfl
  try simp only [Act.put, List.setIfInBounds_toArray, List.set_cons_zero, List.set_cons_succ]
  refine take_at (i := 2) (v := ?_) (some 7) rfl rfl (by kernel_rfl) (by kernel_rfl) (by kernel_rfl) (fun _ _ _ h => h) (Or.inl ⟨by rfl, ?_⟩) ?_
  rotate_left
  · intro w
    go_simp
    try with_reducible rfl
  try simp only [Act.put, List.setIfInBounds_toArray, List.set_cons_zero, List.set_cons_succ]
  refine take_at (i := 3) (v := ?_) (some 8) rfl rfl (by kernel_rfl) (by kernel_rfl) (by kernel_rfl) (fun _ _ _ h => h) (Or.inl ⟨by rfl, ?_⟩) ?_
  rotate_left
  · intro w
    go_simp
    try with_reducible rfl
  try simp only [Act.put, List.setIfInBounds_toArray, List.set_cons_zero, List.set_cons_succ]
  refine take_at (i := 4) (v := ?_) (some 9) rfl rfl (by kernel_rfl) (by kernel_rfl) (by kernel_rfl) (fun _ _ _ h => h) (Or.inl ⟨by rfl, ?_⟩) ?_
  rotate_left
  · intro w
    go_simp
    try with_reducible rfl
  try simp only [Act.put, List.setIfInBounds_toArray, List.set_cons_zero, List.set_cons_succ]
  refine take_at (i := 5) (v := ?_) (some 10) rfl rfl (by kernel_rfl) (by kernel_rfl) (by kernel_rfl) (fun _ _ _ h => h) (Or.inl ⟨by rfl, ?_⟩) ?_
  rotate_left
  · intro w
    go_simp
    try with_reducible rfl
  try simp only [Act.put, List.setIfInBounds_toArray, List.set_cons_zero, List.set_cons_succ]
  refine take_at (i := 6) (v := ?_) (some 11) rfl rfl (by kernel_rfl) (by kernel_rfl) (by kernel_rfl) (fun _ _ _ h => h) (Or.inl ⟨by rfl, ?_⟩) ?_
  rotate_left
  · intro w
    go_simp
    try with_reducible rfl
  try simp only [Act.put, List.setIfInBounds_toArray, List.set_cons_zero, List.set_cons_succ]
  refine take_at (i := 7) (v := ?_) (some 12) rfl rfl (by kernel_rfl) (by kernel_rfl) (by kernel_rfl) (fun _ _ _ h => h) (Or.inl ⟨by rfl, ?_⟩) ?_
  rotate_left
  · intro w
    go_simp
    try with_reducible rfl
  try simp only [Act.put, List.setIfInBounds_toArray, List.set_cons_zero, List.set_cons_succ]
  refine take_at (i := 8) (v := ?_) (some 13) rfl rfl (by kernel_rfl) (by kernel_rfl) (by kernel_rfl) (fun _ _ _ h => h) (Or.inl ⟨by rfl, ?_⟩) ?_
  rotate_left
  · intro w
    go_simp
    try with_reducible rfl
  try simp only [Act.put, List.setIfInBounds_toArray, List.set_cons_zero, List.set_cons_succ]
  refine take_at (i := 9) (v := ?_) (some 14) rfl rfl (by kernel_rfl) (by kernel_rfl) (by kernel_rfl) (fun _ _ _ h => h) (Or.inl ⟨by rfl, ?_⟩) ?_
  rotate_left
  · intro w
    go_simp
    try with_reducible rfl
  try simp only [Act.put, List.setIfInBounds_toArray, List.set_cons_zero, List.set_cons_succ]
  refine take_at (i := 10) (v := ?_) (some 15) rfl rfl (by kernel_rfl) (by kernel_rfl) (by kernel_rfl) (fun _ _ _ h => h) (Or.inl ⟨by rfl, ?_⟩) ?_
  rotate_left
  · intro w
    go_simp
    try with_reducible rfl
  try simp only [Act.put, List.setIfInBounds_toArray, List.set_cons_zero, List.set_cons_succ]
  refine take_at (i := 11) (v := ?_) (some 16) rfl rfl (by kernel_rfl) (by kernel_rfl) (by kernel_rfl) (fun _ _ _ h => h) (Or.inl ⟨by rfl, ?_⟩) ?_
  rotate_left
  · intro w
    go_simp
    try with_reducible rfl
  try simp only [Act.put, List.setIfInBounds_toArray, List.set_cons_zero, List.set_cons_succ]
  refine wpAny_ready (rs := [12]) (by kernel_rfl) (by simp) ?_
  refine AllReady.cons rfl (fun K hK => ?_) AllReady.nil
  go_simp
  refine hK _ _ ?_
  clear hK K
  try simp only [Act.put, List.setIfInBounds_toArray, List.set_cons_zero, List.set_cons_succ]
  refine wpAny_ready (rs := [13]) (by kernel_rfl) (by simp) ?_
  refine AllReady.cons rfl (fun K hK => ?_) AllReady.nil
  go_simp
  refine (numsQ_c _ (l.take 2) [1, 2] 2 W.heap.size _ pa 26 _ _ hG0 pa rfl (Sl.below HT.out hbw0) (Nat.le_refl _) (by simp; omega) HS.out HLen.out (fun j hj => by
        match j, hj with
        | 0, _ => go_simp; try rfl
        | 1, _ => go_simp; try rfl) hne2 (by simp) h8 (((bdr (bal (B0 W) _)).block _ hlt).trans HB.out) (fun j hj => by
        match j, hj with
        | 0, _ => show _ < 10; decide
        | 1, _ => show _ < 10; decide)).mono ?_
  rintro e w1 hp
  have he := hp.ret
  rw [show numsQ (l.take 2) [1, 2].length = _ from HQ.out] at he
  subst he
  have hp2 := hp.2
  rw [show numsQ (l.take 2) [1, 2].length = _ from HQ.out] at hp2
  go_simp
  refine hK _ _ ?_
  clear hK K
  try simp only [Act.put, List.setIfInBounds_toArray, List.set_cons_zero, List.set_cons_succ]
  refine take_at (i := 14) (v := ?_) (some 19) rfl rfl (by kernel_rfl) (by kernel_rfl) (by kernel_rfl) (fun _ _ _ h => h) (Or.inl ⟨by rfl, ?_⟩) ?_
  rotate_left
  · intro w
    go_simp
    try with_reducible rfl
  try simp only [Act.put, List.setIfInBounds_toArray, List.set_cons_zero, List.set_cons_succ]
  refine take_at (i := 15) (v := ?_) (some 20) rfl rfl (by kernel_rfl) (by kernel_rfl) (by kernel_rfl) (fun _ _ _ h => h) (Or.inl ⟨by rfl, ?_⟩) ?_
  rotate_left
  · intro w
    go_simp
    try with_reducible rfl
  try simp only [Act.put, List.setIfInBounds_toArray, List.set_cons_zero, List.set_cons_succ]
  refine take_at (i := 16) (v := undef) (some 21) rfl rfl (by kernel_rfl) (by kernel_rfl) (by kernel_rfl) (fun _ _ _ h => h) (Or.inr ⟨by rfl, rfl⟩) ?_
  try simp only [Act.put, List.setIfInBounds_toArray, List.set_cons_zero, List.set_cons_succ]
  refine take_at (i := 17) (v := undef) (some 22) rfl rfl (by kernel_rfl) (by kernel_rfl) (by kernel_rfl) (fun _ _ _ h => h) (Or.inr ⟨by rfl, rfl⟩) ?_
  try simp only [Act.put, List.setIfInBounds_toArray, List.set_cons_zero, List.set_cons_succ]
  refine take_at (i := 18) (v := undef) (some 23) rfl rfl (by kernel_rfl) (by kernel_rfl) (by kernel_rfl) (fun _ _ _ h => h) (Or.inr ⟨by rfl, rfl⟩) ?_
  try simp only [Act.put, List.setIfInBounds_toArray, List.set_cons_zero, List.set_cons_succ]
  refine take_at (i := 19) (v := undef) (some 24) rfl rfl (by kernel_rfl) (by kernel_rfl) (by kernel_rfl) (fun _ _ _ h => h) (Or.inr ⟨by rfl, rfl⟩) ?_
  try simp only [Act.put, List.setIfInBounds_toArray, List.set_cons_zero, List.set_cons_succ]
  refine take_at (i := 20) (v := undef) (some 25) rfl rfl (by kernel_rfl) (by kernel_rfl) (by kernel_rfl) (fun _ _ _ h => h) (Or.inr ⟨by rfl, rfl⟩) ?_
  try simp only [Act.put, List.setIfInBounds_toArray, List.set_cons_zero, List.set_cons_succ]
  refine take_at (i := 21) (v := undef) (some 26) rfl rfl (by kernel_rfl) (by kernel_rfl) (by kernel_rfl) (fun _ _ _ h => h) (Or.inr ⟨by rfl, rfl⟩) ?_
  try simp only [Act.put, List.setIfInBounds_toArray, List.set_cons_zero, List.set_cons_succ]
  refine take_at (i := 22) (v := undef) (some 27) rfl rfl (by kernel_rfl) (by kernel_rfl) (by kernel_rfl) (fun _ _ _ h => h) (Or.inr ⟨by rfl, rfl⟩) ?_
  try simp only [Act.put, List.setIfInBounds_toArray, List.set_cons_zero, List.set_cons_succ]
  refine take_at (i := 23) (v := undef) (some 28) rfl rfl (by kernel_rfl) (by kernel_rfl) (by kernel_rfl) (fun _ _ _ h => h) (Or.inr ⟨by rfl, rfl⟩) ?_
  try simp only [Act.put, List.setIfInBounds_toArray, List.set_cons_zero, List.set_cons_succ]
  refine take_at (i := 24) (v := ?_) (some 29) rfl rfl (by kernel_rfl) (by kernel_rfl) (by kernel_rfl) (fun _ _ _ h => h) (Or.inl ⟨by rfl, ?_⟩) ?_
  rotate_left
  · intro w
    go_simp
    try with_reducible rfl
  try simp only [Act.put, List.setIfInBounds_toArray, List.set_cons_zero, List.set_cons_succ]
  refine take_at (i := 25) (v := ?_) (some 4) rfl rfl (by kernel_rfl) (by kernel_rfl) (by kernel_rfl) (fun _ _ _ h => h) (Or.inl ⟨by rfl, ?_⟩) ?_
  rotate_left
  · intro w
    go_simp
    try with_reducible rfl
  try simp only [Act.put, List.setIfInBounds_toArray, List.set_cons_zero, List.set_cons_succ]
  refine wpAny_done (by kernel_rfl) ?_ _
  go_wp2_with fail
  go_ret
  exact ⟨grown_from (bdr (bal (B0 W) _)) hp.1, rfl, fun y hy => by cases hy⟩
set_option maxRecDepth 100000 in
set_option maxHeartbeats 8000000 in
theorem read_call_go (k : Int) (v : Value) (l : List ByteArray) (W : World) (pa : Nat) (hG : Glob W) (hb : Blk W pa (actZ k) nilS nilS) (h8 : 8 ≤ pa) (h : SlS W pa v l) (hsz : ∀ s ∈ l, s.size ≤ 1000000) (h3 : l.length = 3) (vs : List Int) (hq : numsQ (l.take 2) 2 = some vs) :
    Calls Tryz.prog 60 #[ptr pa, v] W (ReadPost W pa (readCall k l)) := by
  have hlt := hb.lt
  have hr : readCall k l = (parseN (nths l 2)).map fun u => { actZ k with a := nth vs 0, b := nth vs 1, val := u } := by unfold readCall; rw [if_pos h3, hq]; rfl
  rw [hr]
  obtain ⟨A, n, c, rfl, hl, hc, hm⟩ := h.form
  obtain rfl : n = 3 := by omega
  obtain ⟨bl, ol, rfl, hbl, hcell⟩ := h.at_ 0 (by omega)
  have hcell2 := hcell 2 (by omega)
  have HB := Lib.hid hb; have HC2 := Lib.hid hcell2
  have HT := Lib.hid (h.take_ 2 (by omega))
  have HS := Lib.hid (fun s (hs : s ∈ l.take 2) => hsz s (List.mem_of_mem_take hs))
  have HZ := Lib.hid (hsz _ (nths_mem (k := 2) (by omega)))
  have HQ := Lib.hid hq
  have HLen := Lib.hid (show (l.take 2).length ≤ 100000 by simp; omega)
  have hG0 : Glob (W.alloc (.cells #[.pointer (some ⟨pa, 1, none⟩), .pointer (some ⟨pa, 2, none⟩)] 73)).drew := hG.step (bdr (bal (B0 W) _))
  have hbw0 : Below pa W (W.alloc (.cells #[.pointer (some ⟨pa, 1, none⟩), .pointer (some ⟨pa, 2, none⟩)] 73)).drew := below_drew (((B0 W).mono (Nat.le_of_lt hlt)).alloc (Nat.le_of_lt hlt) _)
  have hne : ¬pa = W.heap.size := by omega
  have hne2 : ¬W.heap.size = pa := by omega
  have i2 : (2 : Int) ≤ c := by omega
  have n2 : 2 ≤ c := by omega
  clear hG hb h hsz hcell hcell2 hq hr
  simp only [ptr]
  go_enter Tryz.func60, Tryz.ntmps60
  go_wp2_with fail
  refine wp_region_any (by kernel_rfl) ?_
  change wpAny _ _ _ _ 26 _ _ (World.drew _)
  refine take_at (i := 0) (v := ?_) (some 5) rfl rfl (by kernel_rfl) (by kernel_rfl) (by kernel_rfl) (fun _ _ _ h => h) (Or.inl ⟨by rfl, ?_⟩) ?_
  rotate_left
  · intro w
    go_simp
    try with_reducible rfl
  try simp only [Act.put, List.setIfInBounds_toArray, List.set_cons_zero, List.set_cons_succ]
  refine take_at (i := 1) (v := ?_) (some 6) rfl rfl (by kernel_rfl) (by kernel_rfl) (by kernel_rfl) (fun _ _ _ h => h) (Or.inl ⟨by rfl, ?_⟩) ?_
  rotate_left
  · intro w
    go_simp
    try with_reducible rfl
  try simp only [Act.put, List.setIfInBounds_toArray, List.set_cons_zero, List.set_cons_succ]
  refine take_at (i := 2) (v := ?_) (some 7) rfl rfl (by kernel_rfl) (by kernel_rfl) (by kernel_rfl) (fun _ _ _ h => h) (Or.inl ⟨by rfl, ?_⟩) ?_
  rotate_left
  · intro w
    go_simp
    try with_reducible rfl
  try simp only [Act.put, List.setIfInBounds_toArray, List.set_cons_zero, List.set_cons_succ]
  refine take_at (i := 3) (v := ?_) (some 8) rfl rfl (by kernel_rfl) (by kernel_rfl) (by kernel_rfl) (fun _ _ _ h => h) (Or.inl ⟨by rfl, ?_⟩) ?_
  rotate_left
  · intro w
    go_simp
    try with_reducible rfl
  try simp only [Act.put, List.setIfInBounds_toArray, List.set_cons_zero, List.set_cons_succ]
  refine take_at (i := 4) (v := ?_) (some 9) rfl rfl (by kernel_rfl) (by kernel_rfl) (by kernel_rfl) (fun _ _ _ h => h) (Or.inl ⟨by rfl, ?_⟩) ?_
  rotate_left
  · intro w
    go_simp
    try with_reducible rfl
  try simp only [Act.put, List.setIfInBounds_toArray, List.set_cons_zero, List.set_cons_succ]
  refine take_at (i := 5) (v := ?_) (some 10) rfl rfl (by kernel_rfl) (by kernel_rfl) (by kernel_rfl) (fun _ _ _ h => h) (Or.inl ⟨by rfl, ?_⟩) ?_
  rotate_left
  · intro w
    go_simp
    try with_reducible rfl
  try simp only [Act.put, List.setIfInBounds_toArray, List.set_cons_zero, List.set_cons_succ]
  refine take_at (i := 6) (v := ?_) (some 11) rfl rfl (by kernel_rfl) (by kernel_rfl) (by kernel_rfl) (fun _ _ _ h => h) (Or.inl ⟨by rfl, ?_⟩) ?_
  rotate_left
  · intro w
    go_simp
    try with_reducible rfl
  try simp only [Act.put, List.setIfInBounds_toArray, List.set_cons_zero, List.set_cons_succ]
  refine take_at (i := 7) (v := ?_) (some 12) rfl rfl (by kernel_rfl) (by kernel_rfl) (by kernel_rfl) (fun _ _ _ h => h) (Or.inl ⟨by rfl, ?_⟩) ?_
  rotate_left
  · intro w
    go_simp
    try with_reducible rfl
  try simp only [Act.put, List.setIfInBounds_toArray, List.set_cons_zero, List.set_cons_succ]
  refine take_at (i := 8) (v := ?_) (some 13) rfl rfl (by kernel_rfl) (by kernel_rfl) (by kernel_rfl) (fun _ _ _ h => h) (Or.inl ⟨by rfl, ?_⟩) ?_
  rotate_left
  · intro w
    go_simp
    try with_reducible rfl
  try simp only [Act.put, List.setIfInBounds_toArray, List.set_cons_zero, List.set_cons_succ]
  refine take_at (i := 9) (v := ?_) (some 14) rfl rfl (by kernel_rfl) (by kernel_rfl) (by kernel_rfl) (fun _ _ _ h => h) (Or.inl ⟨by rfl, ?_⟩) ?_
  rotate_left
  · intro w
    go_simp
    try with_reducible rfl
  try simp only [Act.put, List.setIfInBounds_toArray, List.set_cons_zero, List.set_cons_succ]
  refine take_at (i := 10) (v := ?_) (some 15) rfl rfl (by kernel_rfl) (by kernel_rfl) (by kernel_rfl) (fun _ _ _ h => h) (Or.inl ⟨by rfl, ?_⟩) ?_
  rotate_left
  · intro w
    go_simp
    try with_reducible rfl
  try simp only [Act.put, List.setIfInBounds_toArray, List.set_cons_zero, List.set_cons_succ]
  refine take_at (i := 11) (v := ?_) (some 16) rfl rfl (by kernel_rfl) (by kernel_rfl) (by kernel_rfl) (fun _ _ _ h => h) (Or.inl ⟨by rfl, ?_⟩) ?_
  rotate_left
  · intro w
    go_simp
    try with_reducible rfl
  try simp only [Act.put, List.setIfInBounds_toArray, List.set_cons_zero, List.set_cons_succ]
  refine wpAny_ready (rs := [12]) (by kernel_rfl) (by simp) ?_
  refine AllReady.cons rfl (fun K hK => ?_) AllReady.nil
  go_simp
  refine hK _ _ ?_
  clear hK K
  try simp only [Act.put, List.setIfInBounds_toArray, List.set_cons_zero, List.set_cons_succ]
  refine wpAny_ready (rs := [13]) (by kernel_rfl) (by simp) ?_
  refine AllReady.cons rfl (fun K hK => ?_) AllReady.nil
  go_simp
  refine (numsQ_c _ (l.take 2) [1, 2] 2 W.heap.size _ pa 26 _ _ hG0 pa rfl (Sl.below HT.out hbw0) (Nat.le_refl _) (by simp; omega) HS.out HLen.out (fun j hj => by
        match j, hj with
        | 0, _ => go_simp; try rfl
        | 1, _ => go_simp; try rfl) hne2 (by simp) h8 (((bdr (bal (B0 W) _)).block _ hlt).trans HB.out) (fun j hj => by
        match j, hj with
        | 0, _ => show _ < 10; decide
        | 1, _ => show _ < 10; decide)).mono ?_
  rintro e w1 hp
  have he := hp.ret
  rw [show numsQ (l.take 2) [1, 2].length = _ from HQ.out] at he
  subst he
  have hp2 := hp.2
  rw [show numsQ (l.take 2) [1, 2].length = _ from HQ.out] at hp2
  have hbk1 := hp2.2
  have e2 : w1.cell? ⟨bl, ol + 2, none⟩ = some (.string (nths l 2)) := (World.grownBy.cell_far hp.1 ⟨bl, ol + 2, none⟩ (by simp; omega) (fun e => absurd (show bl = pa by injection e) (by omega))).trans ((hbw0.cell (p := ⟨bl, ol + 2, none⟩) hbl).trans HC2.out)
  go_simp
  refine hK _ _ ?_
  clear hK K
  try simp only [Act.put, List.setIfInBounds_toArray, List.set_cons_zero, List.set_cons_succ]
  refine take_at (i := 14) (v := ?_) (some 19) rfl rfl (by kernel_rfl) (by kernel_rfl) (by kernel_rfl) (fun _ _ _ h => h) (Or.inl ⟨by rfl, ?_⟩) ?_
  rotate_left
  · intro w
    go_simp
    try with_reducible rfl
  try simp only [Act.put, List.setIfInBounds_toArray, List.set_cons_zero, List.set_cons_succ]
  refine take_at (i := 15) (v := ?_) (some 20) rfl rfl (by kernel_rfl) (by kernel_rfl) (by kernel_rfl) (fun _ _ _ h => h) (Or.inl ⟨by rfl, ?_⟩) ?_
  rotate_left
  · intro w
    go_simp
    try with_reducible rfl
  try simp only [Act.put, List.setIfInBounds_toArray, List.set_cons_zero, List.set_cons_succ]
  refine take_at (i := 16) (v := ?_) (some 21) rfl rfl (by kernel_rfl) (by kernel_rfl) (by kernel_rfl) (fun _ _ _ h => h) (Or.inl ⟨by rfl, ?_⟩) ?_
  rotate_left
  · intro w
    go_simp
    try with_reducible rfl
  try simp only [Act.put, List.setIfInBounds_toArray, List.set_cons_zero, List.set_cons_succ]
  refine take_at (i := 17) (v := ?_) (some 22) rfl rfl (by kernel_rfl) (by kernel_rfl) (by kernel_rfl) (fun _ _ _ h => h) (Or.inl ⟨by rfl, ?_⟩) ?_
  rotate_left
  · intro w
    go_simp
    try with_reducible rfl
  try simp only [Act.put, List.setIfInBounds_toArray, List.set_cons_zero, List.set_cons_succ]
  refine take_at (i := 19) (v := ?_) (some 24) rfl rfl (by kernel_rfl) (by kernel_rfl) (by kernel_rfl) (fun _ _ _ h => h) (Or.inl ⟨by rfl, ?_⟩) ?_
  rotate_left
  · intro w
    go_simp
    try with_reducible rfl
  try simp only [Act.put, List.setIfInBounds_toArray, List.set_cons_zero, List.set_cons_succ]
  refine take_at (i := 20) (v := ?_) (some 25) rfl rfl (by kernel_rfl) (by kernel_rfl) (by kernel_rfl) (fun _ _ _ h => h) (Or.inl ⟨by rfl, ?_⟩) ?_
  rotate_left
  · intro w
    go_simp
    try with_reducible rfl
  try simp only [Act.put, List.setIfInBounds_toArray, List.set_cons_zero, List.set_cons_succ]
  refine take_at (i := 21) (v := ?_) (some 26) rfl rfl (by kernel_rfl) (by kernel_rfl) (by kernel_rfl) (fun _ _ _ h => h) (Or.inl ⟨by rfl, ?_⟩) ?_
  rotate_left
  · intro w
    go_simp
    try with_reducible rfl
  try simp only [Act.put, List.setIfInBounds_toArray, List.set_cons_zero, List.set_cons_succ]
  refine take_at (i := 22) (v := ?_) (some 27) rfl rfl (by kernel_rfl) (by kernel_rfl) (by kernel_rfl) (fun _ _ _ h => h) (Or.inl ⟨by rfl, ?_⟩) ?_
  rotate_left
  · intro w
    go_simp
    try with_reducible rfl
  try simp only [Act.put, List.setIfInBounds_toArray, List.set_cons_zero, List.set_cons_succ]
  refine wpAny_ready (rs := [18]) (by kernel_rfl) (by simp) ?_
  refine AllReady.cons rfl (fun K hK => ?_) AllReady.nil
  go_simp
  refine hK _ _ ?_
  clear hK K
  try simp only [Act.put, List.setIfInBounds_toArray, List.set_cons_zero, List.set_cons_succ]
  refine wpAny_ready (rs := [23]) (by kernel_rfl) (by simp) ?_
  refine AllReady.cons rfl (fun K hK => ?_) AllReady.nil
  go_simp
  refine (long_c (nths l 2) pa 6 26 _ w1 (hG0.grown hp.1 h8) HZ.out h8 hbk1 (by rw [setAll_size]; show 6 < 10; decide)).mono ?_
  rintro e w2 ⟨hg2, u, hb2, rfl, hu2⟩
  go_simp
  refine hK _ _ ?_
  clear hK K
  try simp only [Act.put, List.setIfInBounds_toArray, List.set_cons_zero, List.set_cons_succ]
  refine take_at (i := 24) (v := ?_) (some 29) rfl rfl (by kernel_rfl) (by kernel_rfl) (by kernel_rfl) (fun _ _ _ h => h) (Or.inl ⟨by rfl, ?_⟩) ?_
  rotate_left
  · intro w
    go_simp
    try with_reducible rfl
  try simp only [Act.put, List.setIfInBounds_toArray, List.set_cons_zero, List.set_cons_succ]
  refine take_at (i := 25) (v := ?_) (some 4) rfl rfl (by kernel_rfl) (by kernel_rfl) (by kernel_rfl) (fun _ _ _ h => h) (Or.inl ⟨by rfl, ?_⟩) ?_
  rotate_left
  · intro w
    go_simp
    try with_reducible rfl
  try simp only [Act.put, List.setIfInBounds_toArray, List.set_cons_zero, List.set_cons_succ]
  refine wpAny_done (by kernel_rfl) ?_ _
  go_wp2_with fail
  go_ret
  have hg3 := grown_from (bdr (bal (B0 W) _)) hp.1
  refine ⟨grown_two hg3 hg2, ?_, fun y hy => ?_⟩
  · show Ending.returned (.bool (parseN (nths l 2)).isSome) = _
    rw [Option.isSome_map]
  · obtain ⟨a, ha, rfl⟩ := Option.map_eq_some_iff.1 hy
    have := hu2 _ ha
    subst this
    have hvl := numsQ_len HQ.out
    match vs, hvl with
    | [p, q], _ => exact ⟨nilS, nilS, hb2.trans rfl, SlI.nil_ _ _, SlI.nil_ _ _, Fresh.nil _, Fresh.nil _⟩
theorem read_call (k : Int) (v : Value) (l : List ByteArray) (W : World) (pa : Nat) (hG : Glob W) (hb : Blk W pa (actZ k) nilS nilS) (h8 : 8 ≤ pa) (h : SlS W pa v l) (hsz : ∀ s ∈ l, s.size ≤ 1000000) :
    Calls Tryz.prog 60 #[ptr pa, v] W (ReadPost W pa (readCall k l)) := by
  by_cases h3 : l.length = 3
  · cases hq : numsQ (l.take 2) 2 with
    | none => exact read_call_bad k v l W pa hG hb h8 h hsz h3 hq
    | some vs => exact read_call_go k v l W pa hG hb h8 h hsz h3 vs hq
  · exact read_call_no k v l W pa h h3
end Go.Proofs.YtdgciagmcjdhhaaGreatDoor
