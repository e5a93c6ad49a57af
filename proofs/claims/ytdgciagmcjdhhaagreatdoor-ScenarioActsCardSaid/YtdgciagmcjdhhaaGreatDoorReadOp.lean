/-
  The program's readOp. (Printed by gen_readop.py.)
-/
import Derived.Test.YtdgciagmcjdhhaaGreatDoorOps
set_option linter.unusedVariables false
set_option linter.unusedSimpArgs false
namespace Go.Proofs.YtdgciagmcjdhhaaGreatDoor
open Go Go.RowKit Go.MapKept Go.ChangeMaps

def opKind (s : ByteArray) : Option Int :=
  if s = bs [103, 101, 116] then some 0 else if s = bs [112, 117, 116] then some 1 else if s = bs [99, 97, 115] then some 2 else if s = bs [97, 100, 100] then some 3 else none
/-- The operation that words stand for: its kind, key, value and old value. -/
def parseOp (l : List ByteArray) : Option (Int × ByteArray × Int × Int) :=
  match opKind (nths l 0) with
  | none => none
  | some k =>
    if k = 0 then (if l.length = 2 then some (0, nths l 1, 0, 0) else none)
    else if k = 2 then (if l.length = 4 then (parseN (nths l 2)).bind fun o => (parseN (nths l 3)).map fun v => (2, nths l 1, v, o) else none)
    else (if l.length = 3 then (parseN (nths l 2)).map fun v => (k, nths l 1, v, 0) else none)
def opV (r : Int × ByteArray × Int × Int) : Value := .agg #[.int .i64 r.1, .string r.2.1, .int .i64 r.2.2.1, .int .i64 r.2.2.2]
def OpPost (w : World) (p : Option (Int × ByteArray × Int × Int)) (e : Ending) (w' : World) : Prop :=
  Below w.heap.size w w' ∧ ∃ r, e = .returned (.tuple #[opV r, .bool p.isSome]) ∧ ∀ q, p = some q → q = r
theorem strKey {s : ByteArray} : IsKey .string (.string s) := trivial
def opMap : List (Value × Value) := [(.string (bs [103, 101, 116]), .int .i64 0), (.string (bs [112, 117, 116]), .int .i64 1), (.string (bs [99, 97, 115]), .int .i64 2), (.string (bs [97, 100, 100]), .int .i64 3)]
theorem opMap_keys : ∀ p ∈ opMap, IsKey .string p.1 := by simp [opMap, strKey]
theorem opMap_hit {s : ByteArray} {k : Int} (h : opKind s = some k) : (∀ p ∈ opMap, p.1 = .string s → p.2 = .int .i64 k) ∧ ∃ p ∈ opMap, p.1 = .string s := by
  unfold opKind at h
  split at h
  · subst s; injection h with h; subst h; refine ⟨?_, by simp [opMap]⟩; simp [opMap, bs]
  · split at h
    · subst s; injection h with h; subst h; refine ⟨?_, by simp [opMap]⟩; simp [opMap, bs]
    · split at h
      · subst s; injection h with h; subst h; refine ⟨?_, by simp [opMap]⟩; simp [opMap, bs]
      · split at h
        · subst s; injection h with h; subst h; refine ⟨?_, by simp [opMap]⟩; simp [opMap, bs]
        · cases h
theorem opMap_miss {s : ByteArray} (h : opKind s = none) : ∀ p ∈ opMap, IsKey .string p.1 ∧ p.1 ≠ .string s := by
  unfold opKind at h
  repeat (split at h; cases h)
  rename_i h1 h2 h3 h4
  simp only [opMap, List.mem_cons, List.not_mem_nil, or_false]
  rintro p (rfl | rfl | rfl | rfl) <;> refine ⟨trivial, fun e => ?_⟩ <;> simp only [Value.string.injEq] at e <;> exact absurd e.symm (by assumption)
theorem zeroInt (w : World) : (zeroValue 3).run Tryz.prog w = .ok (.int .i64 0) w := by
  kernel_rfl
set_option maxRecDepth 100000 in
set_option maxHeartbeats 4000000 in
theorem readOp_short (v : Value) (l : List ByteArray) (w : World) (h : SlS w w.heap.size v l) (hn2 : l.length < 2) :
    Calls Tryz.prog 55 #[v] w fun e w' => Below w.heap.size w w' ∧ ∃ r, e = .returned (.tuple #[opV r, .bool false]) := by
  obtain ⟨A, n, c, rfl, hl, hc, hm⟩ := h.form
  have g1 : ((n : Int) < 2) := by omega
  clear h hl hc hm hn2
  go_enter Tryz.func55, Tryz.ntmps55
  go_wp2_with fail
  refine bodyPost_ret (v := .tuple #[opV (0, bs [], 0, 0), .bool false]) (by simp [results, Tryz.results55, go_sem]; try rfl) rfl ?_
  exact ⟨bal (B0 w) _, _, rfl⟩
theorem TurnsOnly.trans {w w1 w2 : World} {b : Nat} (h : TurnsOnly w w1 b) (k : TurnsOnly w1 w2 b) : TurnsOnly w w2 b :=
  ⟨fun B w0 hB hle => k.1 B w0 (h.1 B w0 hB hle) hle, k.2.1.trans h.2.1, fun i hi => (k.2.2 i hi).trans (h.2.2 i hi)⟩
set_option maxRecDepth 100000 in
set_option maxHeartbeats 8000000 in
theorem readOp_get (v : Value) (l : List ByteArray) (w : World) (hG : Glob w) (h : SlS w w.heap.size v l) (hsz : ∀ s ∈ l, s.size ≤ 1000000) (hn2 : 2 ≤ l.length) (hk : opKind (nths l 0) = some (0)) :
    Calls Tryz.prog 55 #[v] w (OpPost w (parseOp l)) := by
  obtain ⟨A, n, c, rfl, hl, hc, hm⟩ := h.form
  obtain ⟨bl, ol, rfl, hbl, hcell⟩ := h.at_ 0 (by omega)
  have HC := Lib.hid hcell; have HK := Lib.hid hk; have HG := Lib.hid hG; have HSZ := Lib.hid hsz; have HN := Lib.hid hl
  have g1 : ¬((n : Int) < 2) := by omega
  have i0 : (0 : Int) < n := by omega
  have i1 : (1 : Int) < n := by omega
  have hmm := fun (t : TypeId) (w : World) => run_makeMap (P := Tryz.prog) t w
  have hL0 : ∀ o, LiesMap ((w.alloc o).alloc (.map #[] 0)) (w.heap.size + 1) [] := fun o => by have := LiesMap.made (w.alloc o); simpa using this
  have hP : parseOp l = match opKind (nths l 0) with | none => none | some k => if k = 0 then (if l.length = 2 then some (0, nths l 1, 0, 0) else none) else if k = 2 then (if l.length = 4 then (parseN (nths l 2)).bind fun o => (parseN (nths l 3)).map fun v => (2, nths l 1, v, o) else none) else (if l.length = 3 then (parseN (nths l 2)).map fun v => (k, nths l 1, v, 0) else none) := rfl
  have HP := Lib.hid hP
  clear hcell hk hG hsz hl h hP
  go_enter Tryz.func55, Tryz.ntmps55
  go_wp2_with (first
    | (refine wpList_put _ rfl (.tmp 14) (.const (.string { data := #[103, 101, 116] })) (.const (.int .i64 0)) 90 (.inr rfl) 9 3 _ Tryz.underlying90 Tryz.underlying9 (w.heap.size + 1) _ rfl (hL0 _) (.string (bs [103, 101, 116])) (.int .i64 0) rfl rfl strKey (by simp [strKey, bs]) ?_; intro w1 hL1 hT1)
    | (refine wpList_put _ rfl (.tmp 14) (.const (.string { data := #[112, 117, 116] })) (.const (.int .i64 1)) 90 (.inr rfl) 9 3 _ Tryz.underlying90 Tryz.underlying9 (w.heap.size + 1) _ rfl (hL1) (.string (bs [112, 117, 116])) (.int .i64 1) rfl rfl strKey (by simp [strKey, bs]) ?_; intro w2 hL2 hT2)
    | (refine wpList_put _ rfl (.tmp 14) (.const (.string { data := #[99, 97, 115] })) (.const (.int .i64 2)) 90 (.inr rfl) 9 3 _ Tryz.underlying90 Tryz.underlying9 (w.heap.size + 1) _ rfl (hL2) (.string (bs [99, 97, 115])) (.int .i64 2) rfl rfl strKey (by simp [strKey, bs]) ?_; intro w3 hL3 hT3)
    | (refine wpList_put _ rfl (.tmp 14) (.const (.string { data := #[97, 100, 100] })) (.const (.int .i64 3)) 90 (.inr rfl) 9 3 _ Tryz.underlying90 Tryz.underlying9 (w.heap.size + 1) _ rfl (hL3) (.string (bs [97, 100, 100])) (.int .i64 3) rfl rfl strKey (by simp [strKey, bs]) ?_; intro w4 hL4 hT4
       have hT := hT1.trans (hT2.trans (hT3.trans hT4))
       have hL : LiesMap w4 (w.heap.size + 1) opMap := hL4
       have z4 : w4.heap.size = w.heap.size + 2 := by rw [hT.2.1]; simp
       have zz : w.heap.size < w4.heap.size := by omega
       have hB4 : Below w.heap.size w w4 := hT.1 _ _ (bal (bal (B0 w) _) _) (by omega)
       have zl : bl < w4.heap.size := by omega
       have zl2 : bl < w.heap.size + 2 := by omega
       have zl3 : ¬bl = w.heap.size + 2 := by omega
       have zn2 : ¬w.heap.size = w.heap.size + 2 := by omega
       have zz2 : w.heap.size < w.heap.size + 2 := by omega
       have zn : ¬w.heap.size = w4.heap.size := by omega
       have zm : ¬bl = w.heap.size := by omega
       have e0 : w4.cell? ⟨bl, ol, none⟩ = some (.string (nths l 0)) := (hB4.cell (p := ⟨bl, ol, none⟩) hbl).trans (HC.out 0 (by omega))
       have e1 : w4.cell? ⟨bl, ol + 1, none⟩ = some (.string (nths l 1)) := (hB4.cell (p := ⟨bl, ol + 1, none⟩) hbl).trans (HC.out 1 (by omega))
       have r4 : w4.heap[w.heap.size]? = some (.cells #[.int .i64 0, .string { data := #[] }, .int .i64 0, .int .i64 0] 23 (0, 0)) := by rw [hT.2.2 _ (by omega), (bal (B0 (w.alloc _)) _).block _ (by simp), heap_alloc_new]
       have d0 : w4.cell? ⟨w.heap.size, 0, none⟩ = some (.int .i64 0) := by simp [World.cell?, r4]
       have d1 : w4.cell? ⟨w.heap.size, 1, none⟩ = some (.string { data := #[] }) := by simp [World.cell?, r4]
       have d2 : w4.cell? ⟨w.heap.size, 2, none⟩ = some (.int .i64 0) := by simp [World.cell?, r4]
       have d3 : w4.cell? ⟨w.heap.size, 3, none⟩ = some (.int .i64 0) := by simp [World.cell?, r4]
       have f0 : w4.frozen? ⟨w.heap.size, 0, none⟩ = false := by simp [World.frozen?, r4]
       have f1 : w4.frozen? ⟨w.heap.size, 1, none⟩ = false := by simp [World.frozen?, r4]
       have f2 : w4.frozen? ⟨w.heap.size, 2, none⟩ = false := by simp [World.frozen?, r4]
       have f3 : w4.frozen? ⟨w.heap.size, 3, none⟩ = false := by simp [World.frozen?, r4]
       clear hL1 hL2 hL3 hL4 hT1 hT2 hT3 hT4 hL0)
    | (refine wpList_hit _ rfl (.tmp 15) (.tmp 18) 90 true rfl 9 3 _ Tryz.underlying90 Tryz.underlying9 (w.heap.size + 1) _ rfl hL (.string (nths l 0)) (.int .i64 (0)) rfl strKey opMap_keys (opMap_hit HK.out).1 (opMap_hit HK.out).2 ?_)
    )
  refine bodyPost_ret (v := .tuple #[opV (0, nths l 1, 0, 0), .bool ((n : Int) == 2)]) (by simp [results, Tryz.results55, go_sem, opV, *]) rfl ?_
  refine ⟨bal (bst (bst (bst (bst hB4 (Nat.le_refl _) _) (Nat.le_refl _) _) (Nat.le_refl _) _) (Nat.le_refl _) _) _, (0, nths l 1, 0, 0), ?_, ?_⟩
  · rw [HP.out, HK.out, HN.out]
    by_cases e : n = 2
    · subst e; rfl
    · simp [e]; omega
  · rw [HP.out, HK.out, HN.out]
    intro q hq
    simp only [if_true] at hq
    split at hq
    · injection hq with hq; exact hq.symm
    · cases hq
set_option maxRecDepth 100000 in
set_option maxHeartbeats 8000000 in
theorem readOp_none (v : Value) (l : List ByteArray) (w : World) (hG : Glob w) (h : SlS w w.heap.size v l) (hsz : ∀ s ∈ l, s.size ≤ 1000000) (hn2 : 2 ≤ l.length) (hk : opKind (nths l 0) = none) :
    Calls Tryz.prog 55 #[v] w (OpPost w (parseOp l)) := by
  obtain ⟨A, n, c, rfl, hl, hc, hm⟩ := h.form
  obtain ⟨bl, ol, rfl, hbl, hcell⟩ := h.at_ 0 (by omega)
  have HC := Lib.hid hcell; have HK := Lib.hid hk; have HG := Lib.hid hG; have HSZ := Lib.hid hsz; have HN := Lib.hid hl
  have g1 : ¬((n : Int) < 2) := by omega
  have i0 : (0 : Int) < n := by omega
  have i1 : (1 : Int) < n := by omega
  have hmm := fun (t : TypeId) (w : World) => run_makeMap (P := Tryz.prog) t w
  have hL0 : ∀ o, LiesMap ((w.alloc o).alloc (.map #[] 0)) (w.heap.size + 1) [] := fun o => by have := LiesMap.made (w.alloc o); simpa using this
  have hP : parseOp l = match opKind (nths l 0) with | none => none | some k => if k = 0 then (if l.length = 2 then some (0, nths l 1, 0, 0) else none) else if k = 2 then (if l.length = 4 then (parseN (nths l 2)).bind fun o => (parseN (nths l 3)).map fun v => (2, nths l 1, v, o) else none) else (if l.length = 3 then (parseN (nths l 2)).map fun v => (k, nths l 1, v, 0) else none) := rfl
  have HP := Lib.hid hP
  clear hcell hk hG hsz hl h hP
  go_enter Tryz.func55, Tryz.ntmps55
  go_wp2_with (first
    | (refine wpList_put _ rfl (.tmp 14) (.const (.string { data := #[103, 101, 116] })) (.const (.int .i64 0)) 90 (.inr rfl) 9 3 _ Tryz.underlying90 Tryz.underlying9 (w.heap.size + 1) _ rfl (hL0 _) (.string (bs [103, 101, 116])) (.int .i64 0) rfl rfl strKey (by simp [strKey, bs]) ?_; intro w1 hL1 hT1)
    | (refine wpList_put _ rfl (.tmp 14) (.const (.string { data := #[112, 117, 116] })) (.const (.int .i64 1)) 90 (.inr rfl) 9 3 _ Tryz.underlying90 Tryz.underlying9 (w.heap.size + 1) _ rfl (hL1) (.string (bs [112, 117, 116])) (.int .i64 1) rfl rfl strKey (by simp [strKey, bs]) ?_; intro w2 hL2 hT2)
    | (refine wpList_put _ rfl (.tmp 14) (.const (.string { data := #[99, 97, 115] })) (.const (.int .i64 2)) 90 (.inr rfl) 9 3 _ Tryz.underlying90 Tryz.underlying9 (w.heap.size + 1) _ rfl (hL2) (.string (bs [99, 97, 115])) (.int .i64 2) rfl rfl strKey (by simp [strKey, bs]) ?_; intro w3 hL3 hT3)
    | (refine wpList_put _ rfl (.tmp 14) (.const (.string { data := #[97, 100, 100] })) (.const (.int .i64 3)) 90 (.inr rfl) 9 3 _ Tryz.underlying90 Tryz.underlying9 (w.heap.size + 1) _ rfl (hL3) (.string (bs [97, 100, 100])) (.int .i64 3) rfl rfl strKey (by simp [strKey, bs]) ?_; intro w4 hL4 hT4
       have hT := hT1.trans (hT2.trans (hT3.trans hT4))
       have hL : LiesMap w4 (w.heap.size + 1) opMap := hL4
       have z4 : w4.heap.size = w.heap.size + 2 := by rw [hT.2.1]; simp
       have zz : w.heap.size < w4.heap.size := by omega
       have hB4 : Below w.heap.size w w4 := hT.1 _ _ (bal (bal (B0 w) _) _) (by omega)
       have zl : bl < w4.heap.size := by omega
       have zl2 : bl < w.heap.size + 2 := by omega
       have zl3 : ¬bl = w.heap.size + 2 := by omega
       have zn2 : ¬w.heap.size = w.heap.size + 2 := by omega
       have zz2 : w.heap.size < w.heap.size + 2 := by omega
       have zn : ¬w.heap.size = w4.heap.size := by omega
       have zm : ¬bl = w.heap.size := by omega
       have e0 : w4.cell? ⟨bl, ol, none⟩ = some (.string (nths l 0)) := (hB4.cell (p := ⟨bl, ol, none⟩) hbl).trans (HC.out 0 (by omega))
       have e1 : w4.cell? ⟨bl, ol + 1, none⟩ = some (.string (nths l 1)) := (hB4.cell (p := ⟨bl, ol + 1, none⟩) hbl).trans (HC.out 1 (by omega))
       have r4 : w4.heap[w.heap.size]? = some (.cells #[.int .i64 0, .string { data := #[] }, .int .i64 0, .int .i64 0] 23 (0, 0)) := by rw [hT.2.2 _ (by omega), (bal (B0 (w.alloc _)) _).block _ (by simp), heap_alloc_new]
       have d0 : w4.cell? ⟨w.heap.size, 0, none⟩ = some (.int .i64 0) := by simp [World.cell?, r4]
       have d1 : w4.cell? ⟨w.heap.size, 1, none⟩ = some (.string { data := #[] }) := by simp [World.cell?, r4]
       have d2 : w4.cell? ⟨w.heap.size, 2, none⟩ = some (.int .i64 0) := by simp [World.cell?, r4]
       have d3 : w4.cell? ⟨w.heap.size, 3, none⟩ = some (.int .i64 0) := by simp [World.cell?, r4]
       have f0 : w4.frozen? ⟨w.heap.size, 0, none⟩ = false := by simp [World.frozen?, r4]
       have f1 : w4.frozen? ⟨w.heap.size, 1, none⟩ = false := by simp [World.frozen?, r4]
       have f2 : w4.frozen? ⟨w.heap.size, 2, none⟩ = false := by simp [World.frozen?, r4]
       have f3 : w4.frozen? ⟨w.heap.size, 3, none⟩ = false := by simp [World.frozen?, r4]
       clear hL1 hL2 hL3 hL4 hT1 hT2 hT3 hT4 hL0)
    | (refine wpList_miss _ rfl (.tmp 15) (.tmp 18) 90 true rfl 9 3 _ Tryz.underlying90 Tryz.underlying9 (w.heap.size + 1) _ rfl hL (.string (nths l 0)) (.int .i64 0) rfl strKey (opMap_miss HK.out) (zeroInt _) ?_)
    )
  refine bodyPost_ret (v := .tuple #[opV (0, bs [], 0, 0), .bool false]) (by simp [results, Tryz.results55, go_sem, opV, *]; try rfl) rfl ?_
  refine ⟨bal (bst (bst (bst (bst hB4 (Nat.le_refl _) _) (Nat.le_refl _) _) (Nat.le_refl _) _) (Nat.le_refl _) _) _, (0, bs [], 0, 0), ?_, ?_⟩
  · rw [HP.out, HK.out]; rfl
  · rw [HP.out, HK.out]
    intro q hq; cases hq
set_option maxRecDepth 100000 in
set_option maxHeartbeats 8000000 in
theorem readOp_1_no (v : Value) (l : List ByteArray) (w : World) (hG : Glob w) (h : SlS w w.heap.size v l) (hsz : ∀ s ∈ l, s.size ≤ 1000000) (hn2 : 2 ≤ l.length) (hn : l.length ≠ 3) (hk : opKind (nths l 0) = some (1)) :
    Calls Tryz.prog 55 #[v] w (OpPost w (parseOp l)) := by
  obtain ⟨A, n, c, rfl, hl, hc, hm⟩ := h.form
  obtain ⟨bl, ol, rfl, hbl, hcell⟩ := h.at_ 0 (by omega)
  have HC := Lib.hid hcell; have HK := Lib.hid hk; have HG := Lib.hid hG; have HSZ := Lib.hid hsz; have HN := Lib.hid hl
  have g1 : ¬((n : Int) < 2) := by omega
  have i0 : (0 : Int) < n := by omega
  have i1 : (1 : Int) < n := by omega
  have g2 : ¬((n : Int) = 3) := by omega
  have hmm := fun (t : TypeId) (w : World) => run_makeMap (P := Tryz.prog) t w
  have hL0 : ∀ o, LiesMap ((w.alloc o).alloc (.map #[] 0)) (w.heap.size + 1) [] := fun o => by have := LiesMap.made (w.alloc o); simpa using this
  have hP : parseOp l = match opKind (nths l 0) with | none => none | some k => if k = 0 then (if l.length = 2 then some (0, nths l 1, 0, 0) else none) else if k = 2 then (if l.length = 4 then (parseN (nths l 2)).bind fun o => (parseN (nths l 3)).map fun v => (2, nths l 1, v, o) else none) else (if l.length = 3 then (parseN (nths l 2)).map fun v => (k, nths l 1, v, 0) else none) := rfl
  have HP := Lib.hid hP
  clear hcell hk hG hsz hl h hP
  go_enter Tryz.func55, Tryz.ntmps55
  go_wp2_with (first
    | (refine wpList_put _ rfl (.tmp 14) (.const (.string { data := #[103, 101, 116] })) (.const (.int .i64 0)) 90 (.inr rfl) 9 3 _ Tryz.underlying90 Tryz.underlying9 (w.heap.size + 1) _ rfl (hL0 _) (.string (bs [103, 101, 116])) (.int .i64 0) rfl rfl strKey (by simp [strKey, bs]) ?_; intro w1 hL1 hT1)
    | (refine wpList_put _ rfl (.tmp 14) (.const (.string { data := #[112, 117, 116] })) (.const (.int .i64 1)) 90 (.inr rfl) 9 3 _ Tryz.underlying90 Tryz.underlying9 (w.heap.size + 1) _ rfl (hL1) (.string (bs [112, 117, 116])) (.int .i64 1) rfl rfl strKey (by simp [strKey, bs]) ?_; intro w2 hL2 hT2)
    | (refine wpList_put _ rfl (.tmp 14) (.const (.string { data := #[99, 97, 115] })) (.const (.int .i64 2)) 90 (.inr rfl) 9 3 _ Tryz.underlying90 Tryz.underlying9 (w.heap.size + 1) _ rfl (hL2) (.string (bs [99, 97, 115])) (.int .i64 2) rfl rfl strKey (by simp [strKey, bs]) ?_; intro w3 hL3 hT3)
    | (refine wpList_put _ rfl (.tmp 14) (.const (.string { data := #[97, 100, 100] })) (.const (.int .i64 3)) 90 (.inr rfl) 9 3 _ Tryz.underlying90 Tryz.underlying9 (w.heap.size + 1) _ rfl (hL3) (.string (bs [97, 100, 100])) (.int .i64 3) rfl rfl strKey (by simp [strKey, bs]) ?_; intro w4 hL4 hT4
       have hT := hT1.trans (hT2.trans (hT3.trans hT4))
       have hL : LiesMap w4 (w.heap.size + 1) opMap := hL4
       have z4 : w4.heap.size = w.heap.size + 2 := by rw [hT.2.1]; simp
       have zz : w.heap.size < w4.heap.size := by omega
       have hB4 : Below w.heap.size w w4 := hT.1 _ _ (bal (bal (B0 w) _) _) (by omega)
       have zl : bl < w4.heap.size := by omega
       have zl2 : bl < w.heap.size + 2 := by omega
       have zl3 : ¬bl = w.heap.size + 2 := by omega
       have zn2 : ¬w.heap.size = w.heap.size + 2 := by omega
       have zz2 : w.heap.size < w.heap.size + 2 := by omega
       have zn : ¬w.heap.size = w4.heap.size := by omega
       have zm : ¬bl = w.heap.size := by omega
       have e0 : w4.cell? ⟨bl, ol, none⟩ = some (.string (nths l 0)) := (hB4.cell (p := ⟨bl, ol, none⟩) hbl).trans (HC.out 0 (by omega))
       have e1 : w4.cell? ⟨bl, ol + 1, none⟩ = some (.string (nths l 1)) := (hB4.cell (p := ⟨bl, ol + 1, none⟩) hbl).trans (HC.out 1 (by omega))
       have r4 : w4.heap[w.heap.size]? = some (.cells #[.int .i64 0, .string { data := #[] }, .int .i64 0, .int .i64 0] 23 (0, 0)) := by rw [hT.2.2 _ (by omega), (bal (B0 (w.alloc _)) _).block _ (by simp), heap_alloc_new]
       have d0 : w4.cell? ⟨w.heap.size, 0, none⟩ = some (.int .i64 0) := by simp [World.cell?, r4]
       have d1 : w4.cell? ⟨w.heap.size, 1, none⟩ = some (.string { data := #[] }) := by simp [World.cell?, r4]
       have d2 : w4.cell? ⟨w.heap.size, 2, none⟩ = some (.int .i64 0) := by simp [World.cell?, r4]
       have d3 : w4.cell? ⟨w.heap.size, 3, none⟩ = some (.int .i64 0) := by simp [World.cell?, r4]
       have f0 : w4.frozen? ⟨w.heap.size, 0, none⟩ = false := by simp [World.frozen?, r4]
       have f1 : w4.frozen? ⟨w.heap.size, 1, none⟩ = false := by simp [World.frozen?, r4]
       have f2 : w4.frozen? ⟨w.heap.size, 2, none⟩ = false := by simp [World.frozen?, r4]
       have f3 : w4.frozen? ⟨w.heap.size, 3, none⟩ = false := by simp [World.frozen?, r4]
       clear hL1 hL2 hL3 hL4 hT1 hT2 hT3 hT4 hL0)
    | (refine wpList_hit _ rfl (.tmp 15) (.tmp 18) 90 true rfl 9 3 _ Tryz.underlying90 Tryz.underlying9 (w.heap.size + 1) _ rfl hL (.string (nths l 0)) (.int .i64 (1)) rfl strKey opMap_keys (opMap_hit HK.out).1 (opMap_hit HK.out).2 ?_)
    )
  refine bodyPost_ret (v := .tuple #[opV (1, nths l 1, 0, 0), .bool false]) (by simp [results, Tryz.results55, go_sem, opV, *]) rfl ?_
  have hx : parseOp l = none := by
    rw [HP.out, HK.out, HN.out]
    simp
    intro e; exact absurd e (by omega)
  refine ⟨bal (bst (bst (bst (bst hB4 (Nat.le_refl _) _) (Nat.le_refl _) _) (Nat.le_refl _) _) (Nat.le_refl _) _) _, (1, nths l 1, 0, 0), ?_, ?_⟩
  · rw [hx]; rfl
  · rw [hx]; intro q hq; cases hq
set_option maxRecDepth 100000 in
set_option maxHeartbeats 8000000 in
theorem readOp_3_no (v : Value) (l : List ByteArray) (w : World) (hG : Glob w) (h : SlS w w.heap.size v l) (hsz : ∀ s ∈ l, s.size ≤ 1000000) (hn2 : 2 ≤ l.length) (hn : l.length ≠ 3) (hk : opKind (nths l 0) = some (3)) :
    Calls Tryz.prog 55 #[v] w (OpPost w (parseOp l)) := by
  obtain ⟨A, n, c, rfl, hl, hc, hm⟩ := h.form
  obtain ⟨bl, ol, rfl, hbl, hcell⟩ := h.at_ 0 (by omega)
  have HC := Lib.hid hcell; have HK := Lib.hid hk; have HG := Lib.hid hG; have HSZ := Lib.hid hsz; have HN := Lib.hid hl
  have g1 : ¬((n : Int) < 2) := by omega
  have i0 : (0 : Int) < n := by omega
  have i1 : (1 : Int) < n := by omega
  have g2 : ¬((n : Int) = 3) := by omega
  have hmm := fun (t : TypeId) (w : World) => run_makeMap (P := Tryz.prog) t w
  have hL0 : ∀ o, LiesMap ((w.alloc o).alloc (.map #[] 0)) (w.heap.size + 1) [] := fun o => by have := LiesMap.made (w.alloc o); simpa using this
  have hP : parseOp l = match opKind (nths l 0) with | none => none | some k => if k = 0 then (if l.length = 2 then some (0, nths l 1, 0, 0) else none) else if k = 2 then (if l.length = 4 then (parseN (nths l 2)).bind fun o => (parseN (nths l 3)).map fun v => (2, nths l 1, v, o) else none) else (if l.length = 3 then (parseN (nths l 2)).map fun v => (k, nths l 1, v, 0) else none) := rfl
  have HP := Lib.hid hP
  clear hcell hk hG hsz hl h hP
  go_enter Tryz.func55, Tryz.ntmps55
  go_wp2_with (first
    | (refine wpList_put _ rfl (.tmp 14) (.const (.string { data := #[103, 101, 116] })) (.const (.int .i64 0)) 90 (.inr rfl) 9 3 _ Tryz.underlying90 Tryz.underlying9 (w.heap.size + 1) _ rfl (hL0 _) (.string (bs [103, 101, 116])) (.int .i64 0) rfl rfl strKey (by simp [strKey, bs]) ?_; intro w1 hL1 hT1)
    | (refine wpList_put _ rfl (.tmp 14) (.const (.string { data := #[112, 117, 116] })) (.const (.int .i64 1)) 90 (.inr rfl) 9 3 _ Tryz.underlying90 Tryz.underlying9 (w.heap.size + 1) _ rfl (hL1) (.string (bs [112, 117, 116])) (.int .i64 1) rfl rfl strKey (by simp [strKey, bs]) ?_; intro w2 hL2 hT2)
    | (refine wpList_put _ rfl (.tmp 14) (.const (.string { data := #[99, 97, 115] })) (.const (.int .i64 2)) 90 (.inr rfl) 9 3 _ Tryz.underlying90 Tryz.underlying9 (w.heap.size + 1) _ rfl (hL2) (.string (bs [99, 97, 115])) (.int .i64 2) rfl rfl strKey (by simp [strKey, bs]) ?_; intro w3 hL3 hT3)
    | (refine wpList_put _ rfl (.tmp 14) (.const (.string { data := #[97, 100, 100] })) (.const (.int .i64 3)) 90 (.inr rfl) 9 3 _ Tryz.underlying90 Tryz.underlying9 (w.heap.size + 1) _ rfl (hL3) (.string (bs [97, 100, 100])) (.int .i64 3) rfl rfl strKey (by simp [strKey, bs]) ?_; intro w4 hL4 hT4
       have hT := hT1.trans (hT2.trans (hT3.trans hT4))
       have hL : LiesMap w4 (w.heap.size + 1) opMap := hL4
       have z4 : w4.heap.size = w.heap.size + 2 := by rw [hT.2.1]; simp
       have zz : w.heap.size < w4.heap.size := by omega
       have hB4 : Below w.heap.size w w4 := hT.1 _ _ (bal (bal (B0 w) _) _) (by omega)
       have zl : bl < w4.heap.size := by omega
       have zl2 : bl < w.heap.size + 2 := by omega
       have zl3 : ¬bl = w.heap.size + 2 := by omega
       have zn2 : ¬w.heap.size = w.heap.size + 2 := by omega
       have zz2 : w.heap.size < w.heap.size + 2 := by omega
       have zn : ¬w.heap.size = w4.heap.size := by omega
       have zm : ¬bl = w.heap.size := by omega
       have e0 : w4.cell? ⟨bl, ol, none⟩ = some (.string (nths l 0)) := (hB4.cell (p := ⟨bl, ol, none⟩) hbl).trans (HC.out 0 (by omega))
       have e1 : w4.cell? ⟨bl, ol + 1, none⟩ = some (.string (nths l 1)) := (hB4.cell (p := ⟨bl, ol + 1, none⟩) hbl).trans (HC.out 1 (by omega))
       have r4 : w4.heap[w.heap.size]? = some (.cells #[.int .i64 0, .string { data := #[] }, .int .i64 0, .int .i64 0] 23 (0, 0)) := by rw [hT.2.2 _ (by omega), (bal (B0 (w.alloc _)) _).block _ (by simp), heap_alloc_new]
       have d0 : w4.cell? ⟨w.heap.size, 0, none⟩ = some (.int .i64 0) := by simp [World.cell?, r4]
       have d1 : w4.cell? ⟨w.heap.size, 1, none⟩ = some (.string { data := #[] }) := by simp [World.cell?, r4]
       have d2 : w4.cell? ⟨w.heap.size, 2, none⟩ = some (.int .i64 0) := by simp [World.cell?, r4]
       have d3 : w4.cell? ⟨w.heap.size, 3, none⟩ = some (.int .i64 0) := by simp [World.cell?, r4]
       have f0 : w4.frozen? ⟨w.heap.size, 0, none⟩ = false := by simp [World.frozen?, r4]
       have f1 : w4.frozen? ⟨w.heap.size, 1, none⟩ = false := by simp [World.frozen?, r4]
       have f2 : w4.frozen? ⟨w.heap.size, 2, none⟩ = false := by simp [World.frozen?, r4]
       have f3 : w4.frozen? ⟨w.heap.size, 3, none⟩ = false := by simp [World.frozen?, r4]
       clear hL1 hL2 hL3 hL4 hT1 hT2 hT3 hT4 hL0)
    | (refine wpList_hit _ rfl (.tmp 15) (.tmp 18) 90 true rfl 9 3 _ Tryz.underlying90 Tryz.underlying9 (w.heap.size + 1) _ rfl hL (.string (nths l 0)) (.int .i64 (3)) rfl strKey opMap_keys (opMap_hit HK.out).1 (opMap_hit HK.out).2 ?_)
    )
  refine bodyPost_ret (v := .tuple #[opV (3, nths l 1, 0, 0), .bool false]) (by simp [results, Tryz.results55, go_sem, opV, *]) rfl ?_
  have hx : parseOp l = none := by
    rw [HP.out, HK.out, HN.out]
    simp
    intro e; exact absurd e (by omega)
  refine ⟨bal (bst (bst (bst (bst hB4 (Nat.le_refl _) _) (Nat.le_refl _) _) (Nat.le_refl _) _) (Nat.le_refl _) _) _, (3, nths l 1, 0, 0), ?_, ?_⟩
  · rw [hx]; rfl
  · rw [hx]; intro q hq; cases hq
set_option maxRecDepth 100000 in
set_option maxHeartbeats 8000000 in
theorem readOp_2_no (v : Value) (l : List ByteArray) (w : World) (hG : Glob w) (h : SlS w w.heap.size v l) (hsz : ∀ s ∈ l, s.size ≤ 1000000) (hn2 : 2 ≤ l.length) (hn : l.length ≠ 4) (hk : opKind (nths l 0) = some (2)) :
    Calls Tryz.prog 55 #[v] w (OpPost w (parseOp l)) := by
  obtain ⟨A, n, c, rfl, hl, hc, hm⟩ := h.form
  obtain ⟨bl, ol, rfl, hbl, hcell⟩ := h.at_ 0 (by omega)
  have HC := Lib.hid hcell; have HK := Lib.hid hk; have HG := Lib.hid hG; have HSZ := Lib.hid hsz; have HN := Lib.hid hl
  have g1 : ¬((n : Int) < 2) := by omega
  have i0 : (0 : Int) < n := by omega
  have i1 : (1 : Int) < n := by omega
  have g2 : ¬((n : Int) = 4) := by omega
  have hmm := fun (t : TypeId) (w : World) => run_makeMap (P := Tryz.prog) t w
  have hL0 : ∀ o, LiesMap ((w.alloc o).alloc (.map #[] 0)) (w.heap.size + 1) [] := fun o => by have := LiesMap.made (w.alloc o); simpa using this
  have hP : parseOp l = match opKind (nths l 0) with | none => none | some k => if k = 0 then (if l.length = 2 then some (0, nths l 1, 0, 0) else none) else if k = 2 then (if l.length = 4 then (parseN (nths l 2)).bind fun o => (parseN (nths l 3)).map fun v => (2, nths l 1, v, o) else none) else (if l.length = 3 then (parseN (nths l 2)).map fun v => (k, nths l 1, v, 0) else none) := rfl
  have HP := Lib.hid hP
  clear hcell hk hG hsz hl h hP
  go_enter Tryz.func55, Tryz.ntmps55
  go_wp2_with (first
    | (refine wpList_put _ rfl (.tmp 14) (.const (.string { data := #[103, 101, 116] })) (.const (.int .i64 0)) 90 (.inr rfl) 9 3 _ Tryz.underlying90 Tryz.underlying9 (w.heap.size + 1) _ rfl (hL0 _) (.string (bs [103, 101, 116])) (.int .i64 0) rfl rfl strKey (by simp [strKey, bs]) ?_; intro w1 hL1 hT1)
    | (refine wpList_put _ rfl (.tmp 14) (.const (.string { data := #[112, 117, 116] })) (.const (.int .i64 1)) 90 (.inr rfl) 9 3 _ Tryz.underlying90 Tryz.underlying9 (w.heap.size + 1) _ rfl (hL1) (.string (bs [112, 117, 116])) (.int .i64 1) rfl rfl strKey (by simp [strKey, bs]) ?_; intro w2 hL2 hT2)
    | (refine wpList_put _ rfl (.tmp 14) (.const (.string { data := #[99, 97, 115] })) (.const (.int .i64 2)) 90 (.inr rfl) 9 3 _ Tryz.underlying90 Tryz.underlying9 (w.heap.size + 1) _ rfl (hL2) (.string (bs [99, 97, 115])) (.int .i64 2) rfl rfl strKey (by simp [strKey, bs]) ?_; intro w3 hL3 hT3)
    | (refine wpList_put _ rfl (.tmp 14) (.const (.string { data := #[97, 100, 100] })) (.const (.int .i64 3)) 90 (.inr rfl) 9 3 _ Tryz.underlying90 Tryz.underlying9 (w.heap.size + 1) _ rfl (hL3) (.string (bs [97, 100, 100])) (.int .i64 3) rfl rfl strKey (by simp [strKey, bs]) ?_; intro w4 hL4 hT4
       have hT := hT1.trans (hT2.trans (hT3.trans hT4))
       have hL : LiesMap w4 (w.heap.size + 1) opMap := hL4
       have z4 : w4.heap.size = w.heap.size + 2 := by rw [hT.2.1]; simp
       have zz : w.heap.size < w4.heap.size := by omega
       have hB4 : Below w.heap.size w w4 := hT.1 _ _ (bal (bal (B0 w) _) _) (by omega)
       have zl : bl < w4.heap.size := by omega
       have zl2 : bl < w.heap.size + 2 := by omega
       have zl3 : ¬bl = w.heap.size + 2 := by omega
       have zn2 : ¬w.heap.size = w.heap.size + 2 := by omega
       have zz2 : w.heap.size < w.heap.size + 2 := by omega
       have zn : ¬w.heap.size = w4.heap.size := by omega
       have zm : ¬bl = w.heap.size := by omega
       have e0 : w4.cell? ⟨bl, ol, none⟩ = some (.string (nths l 0)) := (hB4.cell (p := ⟨bl, ol, none⟩) hbl).trans (HC.out 0 (by omega))
       have e1 : w4.cell? ⟨bl, ol + 1, none⟩ = some (.string (nths l 1)) := (hB4.cell (p := ⟨bl, ol + 1, none⟩) hbl).trans (HC.out 1 (by omega))
       have r4 : w4.heap[w.heap.size]? = some (.cells #[.int .i64 0, .string { data := #[] }, .int .i64 0, .int .i64 0] 23 (0, 0)) := by rw [hT.2.2 _ (by omega), (bal (B0 (w.alloc _)) _).block _ (by simp), heap_alloc_new]
       have d0 : w4.cell? ⟨w.heap.size, 0, none⟩ = some (.int .i64 0) := by simp [World.cell?, r4]
       have d1 : w4.cell? ⟨w.heap.size, 1, none⟩ = some (.string { data := #[] }) := by simp [World.cell?, r4]
       have d2 : w4.cell? ⟨w.heap.size, 2, none⟩ = some (.int .i64 0) := by simp [World.cell?, r4]
       have d3 : w4.cell? ⟨w.heap.size, 3, none⟩ = some (.int .i64 0) := by simp [World.cell?, r4]
       have f0 : w4.frozen? ⟨w.heap.size, 0, none⟩ = false := by simp [World.frozen?, r4]
       have f1 : w4.frozen? ⟨w.heap.size, 1, none⟩ = false := by simp [World.frozen?, r4]
       have f2 : w4.frozen? ⟨w.heap.size, 2, none⟩ = false := by simp [World.frozen?, r4]
       have f3 : w4.frozen? ⟨w.heap.size, 3, none⟩ = false := by simp [World.frozen?, r4]
       clear hL1 hL2 hL3 hL4 hT1 hT2 hT3 hT4 hL0)
    | (refine wpList_hit _ rfl (.tmp 15) (.tmp 18) 90 true rfl 9 3 _ Tryz.underlying90 Tryz.underlying9 (w.heap.size + 1) _ rfl hL (.string (nths l 0)) (.int .i64 (2)) rfl strKey opMap_keys (opMap_hit HK.out).1 (opMap_hit HK.out).2 ?_)
    )
  refine bodyPost_ret (v := .tuple #[opV (2, nths l 1, 0, 0), .bool false]) (by simp [results, Tryz.results55, go_sem, opV, *]) rfl ?_
  have hx : parseOp l = none := by
    rw [HP.out, HK.out, HN.out]
    simp
    intro e; exact absurd e (by omega)
  refine ⟨bal (bst (bst (bst (bst hB4 (Nat.le_refl _) _) (Nat.le_refl _) _) (Nat.le_refl _) _) (Nat.le_refl _) _) _, (2, nths l 1, 0, 0), ?_, ?_⟩
  · rw [hx]; rfl
  · rw [hx]; intro q hq; cases hq
set_option maxRecDepth 100000 in
set_option maxHeartbeats 8000000 in
theorem readOp_1_ok (v : Value) (l : List ByteArray) (w : World) (hG : Glob w) (h : SlS w w.heap.size v l) (hsz : ∀ s ∈ l, s.size ≤ 1000000) (hn2 : 2 ≤ l.length) (hn : l.length = 3) (hs : (parseN (nths l 2)).isSome = true) (hk : opKind (nths l 0) = some (1)) :
    Calls Tryz.prog 55 #[v] w (OpPost w (parseOp l)) := by
  obtain ⟨A, n, c, rfl, hl, hc, hm⟩ := h.form
  obtain ⟨bl, ol, rfl, hbl, hcell⟩ := h.at_ 0 (by omega)
  have HC := Lib.hid hcell; have HK := Lib.hid hk; have HG := Lib.hid hG; have HSZ := Lib.hid hsz; have HN := Lib.hid hl
  have g1 : ¬((n : Int) < 2) := by omega
  have i0 : (0 : Int) < n := by omega
  have i1 : (1 : Int) < n := by omega
  obtain rfl : n = 3 := by omega
  have HS2 := Lib.hid hs
  clear hs
  have hmm := fun (t : TypeId) (w : World) => run_makeMap (P := Tryz.prog) t w
  have hL0 : ∀ o, LiesMap ((w.alloc o).alloc (.map #[] 0)) (w.heap.size + 1) [] := fun o => by have := LiesMap.made (w.alloc o); simpa using this
  have hP : parseOp l = match opKind (nths l 0) with | none => none | some k => if k = 0 then (if l.length = 2 then some (0, nths l 1, 0, 0) else none) else if k = 2 then (if l.length = 4 then (parseN (nths l 2)).bind fun o => (parseN (nths l 3)).map fun v => (2, nths l 1, v, o) else none) else (if l.length = 3 then (parseN (nths l 2)).map fun v => (k, nths l 1, v, 0) else none) := rfl
  have HP := Lib.hid hP
  clear hcell hk hG hsz hl h hP
  go_enter Tryz.func55, Tryz.ntmps55
  go_wp2_with (first
    | (refine wpList_put _ rfl (.tmp 14) (.const (.string { data := #[103, 101, 116] })) (.const (.int .i64 0)) 90 (.inr rfl) 9 3 _ Tryz.underlying90 Tryz.underlying9 (w.heap.size + 1) _ rfl (hL0 _) (.string (bs [103, 101, 116])) (.int .i64 0) rfl rfl strKey (by simp [strKey, bs]) ?_; intro w1 hL1 hT1)
    | (refine wpList_put _ rfl (.tmp 14) (.const (.string { data := #[112, 117, 116] })) (.const (.int .i64 1)) 90 (.inr rfl) 9 3 _ Tryz.underlying90 Tryz.underlying9 (w.heap.size + 1) _ rfl (hL1) (.string (bs [112, 117, 116])) (.int .i64 1) rfl rfl strKey (by simp [strKey, bs]) ?_; intro w2 hL2 hT2)
    | (refine wpList_put _ rfl (.tmp 14) (.const (.string { data := #[99, 97, 115] })) (.const (.int .i64 2)) 90 (.inr rfl) 9 3 _ Tryz.underlying90 Tryz.underlying9 (w.heap.size + 1) _ rfl (hL2) (.string (bs [99, 97, 115])) (.int .i64 2) rfl rfl strKey (by simp [strKey, bs]) ?_; intro w3 hL3 hT3)
    | (refine wpList_put _ rfl (.tmp 14) (.const (.string { data := #[97, 100, 100] })) (.const (.int .i64 3)) 90 (.inr rfl) 9 3 _ Tryz.underlying90 Tryz.underlying9 (w.heap.size + 1) _ rfl (hL3) (.string (bs [97, 100, 100])) (.int .i64 3) rfl rfl strKey (by simp [strKey, bs]) ?_; intro w4 hL4 hT4
       have hT := hT1.trans (hT2.trans (hT3.trans hT4))
       have hL : LiesMap w4 (w.heap.size + 1) opMap := hL4
       have z4 : w4.heap.size = w.heap.size + 2 := by rw [hT.2.1]; simp
       have zz : w.heap.size < w4.heap.size := by omega
       have hB4 : Below w.heap.size w w4 := hT.1 _ _ (bal (bal (B0 w) _) _) (by omega)
       have zl : bl < w4.heap.size := by omega
       have zl2 : bl < w.heap.size + 2 := by omega
       have zl3 : ¬bl = w.heap.size + 2 := by omega
       have zn2 : ¬w.heap.size = w.heap.size + 2 := by omega
       have zz2 : w.heap.size < w.heap.size + 2 := by omega
       have zn : ¬w.heap.size = w4.heap.size := by omega
       have zm : ¬bl = w.heap.size := by omega
       have e0 : w4.cell? ⟨bl, ol, none⟩ = some (.string (nths l 0)) := (hB4.cell (p := ⟨bl, ol, none⟩) hbl).trans (HC.out 0 (by omega))
       have e1 : w4.cell? ⟨bl, ol + 1, none⟩ = some (.string (nths l 1)) := (hB4.cell (p := ⟨bl, ol + 1, none⟩) hbl).trans (HC.out 1 (by omega))
       have r4 : w4.heap[w.heap.size]? = some (.cells #[.int .i64 0, .string { data := #[] }, .int .i64 0, .int .i64 0] 23 (0, 0)) := by rw [hT.2.2 _ (by omega), (bal (B0 (w.alloc _)) _).block _ (by simp), heap_alloc_new]
       have d0 : w4.cell? ⟨w.heap.size, 0, none⟩ = some (.int .i64 0) := by simp [World.cell?, r4]
       have d1 : w4.cell? ⟨w.heap.size, 1, none⟩ = some (.string { data := #[] }) := by simp [World.cell?, r4]
       have d2 : w4.cell? ⟨w.heap.size, 2, none⟩ = some (.int .i64 0) := by simp [World.cell?, r4]
       have d3 : w4.cell? ⟨w.heap.size, 3, none⟩ = some (.int .i64 0) := by simp [World.cell?, r4]
       have f0 : w4.frozen? ⟨w.heap.size, 0, none⟩ = false := by simp [World.frozen?, r4]
       have f1 : w4.frozen? ⟨w.heap.size, 1, none⟩ = false := by simp [World.frozen?, r4]
       have f2 : w4.frozen? ⟨w.heap.size, 2, none⟩ = false := by simp [World.frozen?, r4]
       have f3 : w4.frozen? ⟨w.heap.size, 3, none⟩ = false := by simp [World.frozen?, r4]
       have e2 : w4.cell? ⟨bl, ol + 2, none⟩ = some (.string (nths l 2)) := (hB4.cell (p := ⟨bl, ol + 2, none⟩) hbl).trans (HC.out 2 (by omega))
       clear hL1 hL2 hL3 hL4 hT1 hT2 hT3 hT4 hL0)
    | (refine wpList_hit _ rfl (.tmp 15) (.tmp 18) 90 true rfl 9 3 _ Tryz.underlying90 Tryz.underlying9 (w.heap.size + 1) _ rfl hL (.string (nths l 0)) (.int .i64 (1)) rfl strKey opMap_keys (opMap_hit HK.out).1 (opMap_hit HK.out).2 ?_)
    | (go_at_call_of 61 (Value.string (nths l 2))
       refine (long_c (nths l 2) (w.heap.size + 2) 2 23 #[.int .i64 1, .string (nths l 1), .int .i64 0, .int .i64 0] _ (HG.out.step (bal hB4 _)) (HSZ.out _ (nths_mem (by rw [HN.out]; omega))) (by have := HG.out.size; omega) (by rw [← z4]; exact heap_alloc_new _ _) (by simp)).mono ?_
       rintro e w5 ⟨hg5, u5, hb5, he5, hu5⟩
       rw [HS2.out] at he5
       subst he5
       have hB5 : Below w.heap.size w w5 := (bal hB4 _).grown hg5 (by first | omega | (simp; omega)) (fun k hk => by injection hk with hk; omega)
       have y5 : w.heap.size < w5.heap.size := Nat.lt_of_lt_of_le (by first | omega | (simp; omega)) hg5.size
       have r5 : w5.heap[w.heap.size]? = some (.cells #[.int .i64 0, .string { data := #[] }, .int .i64 0, .int .i64 0] 23 (0, 0)) := (hg5.block _ (by first | omega | (simp; omega)) (by intro e; injection e with e; omega)).trans (by rw [(bal (B0 w4) _).block _ zz]; exact r4)
       have d50 : w5.cell? ⟨w.heap.size, 0, none⟩ = some (.int .i64 0) := by simp [World.cell?, r5]
       have f50 : w5.frozen? ⟨w.heap.size, 0, none⟩ = false := by simp [World.frozen?, r5]
       have d51 : w5.cell? ⟨w.heap.size, 1, none⟩ = some (.string { data := #[] }) := by simp [World.cell?, r5]
       have f51 : w5.frozen? ⟨w.heap.size, 1, none⟩ = false := by simp [World.frozen?, r5]
       have d52 : w5.cell? ⟨w.heap.size, 2, none⟩ = some (.int .i64 0) := by simp [World.cell?, r5]
       have f52 : w5.frozen? ⟨w.heap.size, 2, none⟩ = false := by simp [World.frozen?, r5]
       have d53 : w5.cell? ⟨w.heap.size, 3, none⟩ = some (.int .i64 0) := by simp [World.cell?, r5]
       have f53 : w5.frozen? ⟨w.heap.size, 3, none⟩ = false := by simp [World.frozen?, r5]
       have q50 : w5.cell? ⟨w.heap.size + 2, 0, none⟩ = some (.int .i64 1) := by simp [World.cell?, hb5]
       have q51 : w5.cell? ⟨w.heap.size + 2, 1, none⟩ = some (.string (nths l 1)) := by simp [World.cell?, hb5]
       have q52 : w5.cell? ⟨w.heap.size + 2, 2, none⟩ = some (.int .i64 u5) := by simp [World.cell?, hb5]
       have q53 : w5.cell? ⟨w.heap.size + 2, 3, none⟩ = some (.int .i64 0) := by simp [World.cell?, hb5])
    )
  refine bodyPost_ret (v := .tuple #[opV (1, nths l 1, u5, 0), .bool true]) (by simp [results, Tryz.results55, go_sem, opV, *]) rfl ?_
  have hx : parseOp l = (parseN (nths l 2)).map fun v => (1, nths l 1, v, 0) := by
    rw [HP.out, HK.out, HN.out]; rfl
  refine ⟨bst (bst (bst (bst hB5 (Nat.le_refl _) _) (Nat.le_refl _) _) (Nat.le_refl _) _) (Nat.le_refl _) _, (1, nths l 1, u5, 0), ?_, ?_⟩
  · rw [hx, Option.isSome_map, HS2.out]
  · rw [hx]; intro q hq
    obtain ⟨y, hy, rfl⟩ := Option.map_eq_some_iff.1 hq
    rw [hu5 _ hy]
set_option maxRecDepth 100000 in
set_option maxHeartbeats 8000000 in
theorem readOp_1_bad (v : Value) (l : List ByteArray) (w : World) (hG : Glob w) (h : SlS w w.heap.size v l) (hsz : ∀ s ∈ l, s.size ≤ 1000000) (hn2 : 2 ≤ l.length) (hn : l.length = 3) (hs : (parseN (nths l 2)).isSome = false) (hk : opKind (nths l 0) = some (1)) :
    Calls Tryz.prog 55 #[v] w (OpPost w (parseOp l)) := by
  obtain ⟨A, n, c, rfl, hl, hc, hm⟩ := h.form
  obtain ⟨bl, ol, rfl, hbl, hcell⟩ := h.at_ 0 (by omega)
  have HC := Lib.hid hcell; have HK := Lib.hid hk; have HG := Lib.hid hG; have HSZ := Lib.hid hsz; have HN := Lib.hid hl
  have g1 : ¬((n : Int) < 2) := by omega
  have i0 : (0 : Int) < n := by omega
  have i1 : (1 : Int) < n := by omega
  obtain rfl : n = 3 := by omega
  have HS2 := Lib.hid hs
  clear hs
  have hmm := fun (t : TypeId) (w : World) => run_makeMap (P := Tryz.prog) t w
  have hL0 : ∀ o, LiesMap ((w.alloc o).alloc (.map #[] 0)) (w.heap.size + 1) [] := fun o => by have := LiesMap.made (w.alloc o); simpa using this
  have hP : parseOp l = match opKind (nths l 0) with | none => none | some k => if k = 0 then (if l.length = 2 then some (0, nths l 1, 0, 0) else none) else if k = 2 then (if l.length = 4 then (parseN (nths l 2)).bind fun o => (parseN (nths l 3)).map fun v => (2, nths l 1, v, o) else none) else (if l.length = 3 then (parseN (nths l 2)).map fun v => (k, nths l 1, v, 0) else none) := rfl
  have HP := Lib.hid hP
  clear hcell hk hG hsz hl h hP
  go_enter Tryz.func55, Tryz.ntmps55
  go_wp2_with (first
    | (refine wpList_put _ rfl (.tmp 14) (.const (.string { data := #[103, 101, 116] })) (.const (.int .i64 0)) 90 (.inr rfl) 9 3 _ Tryz.underlying90 Tryz.underlying9 (w.heap.size + 1) _ rfl (hL0 _) (.string (bs [103, 101, 116])) (.int .i64 0) rfl rfl strKey (by simp [strKey, bs]) ?_; intro w1 hL1 hT1)
    | (refine wpList_put _ rfl (.tmp 14) (.const (.string { data := #[112, 117, 116] })) (.const (.int .i64 1)) 90 (.inr rfl) 9 3 _ Tryz.underlying90 Tryz.underlying9 (w.heap.size + 1) _ rfl (hL1) (.string (bs [112, 117, 116])) (.int .i64 1) rfl rfl strKey (by simp [strKey, bs]) ?_; intro w2 hL2 hT2)
    | (refine wpList_put _ rfl (.tmp 14) (.const (.string { data := #[99, 97, 115] })) (.const (.int .i64 2)) 90 (.inr rfl) 9 3 _ Tryz.underlying90 Tryz.underlying9 (w.heap.size + 1) _ rfl (hL2) (.string (bs [99, 97, 115])) (.int .i64 2) rfl rfl strKey (by simp [strKey, bs]) ?_; intro w3 hL3 hT3)
    | (refine wpList_put _ rfl (.tmp 14) (.const (.string { data := #[97, 100, 100] })) (.const (.int .i64 3)) 90 (.inr rfl) 9 3 _ Tryz.underlying90 Tryz.underlying9 (w.heap.size + 1) _ rfl (hL3) (.string (bs [97, 100, 100])) (.int .i64 3) rfl rfl strKey (by simp [strKey, bs]) ?_; intro w4 hL4 hT4
       have hT := hT1.trans (hT2.trans (hT3.trans hT4))
       have hL : LiesMap w4 (w.heap.size + 1) opMap := hL4
       have z4 : w4.heap.size = w.heap.size + 2 := by rw [hT.2.1]; simp
       have zz : w.heap.size < w4.heap.size := by omega
       have hB4 : Below w.heap.size w w4 := hT.1 _ _ (bal (bal (B0 w) _) _) (by omega)
       have zl : bl < w4.heap.size := by omega
       have zl2 : bl < w.heap.size + 2 := by omega
       have zl3 : ¬bl = w.heap.size + 2 := by omega
       have zn2 : ¬w.heap.size = w.heap.size + 2 := by omega
       have zz2 : w.heap.size < w.heap.size + 2 := by omega
       have zn : ¬w.heap.size = w4.heap.size := by omega
       have zm : ¬bl = w.heap.size := by omega
       have e0 : w4.cell? ⟨bl, ol, none⟩ = some (.string (nths l 0)) := (hB4.cell (p := ⟨bl, ol, none⟩) hbl).trans (HC.out 0 (by omega))
       have e1 : w4.cell? ⟨bl, ol + 1, none⟩ = some (.string (nths l 1)) := (hB4.cell (p := ⟨bl, ol + 1, none⟩) hbl).trans (HC.out 1 (by omega))
       have r4 : w4.heap[w.heap.size]? = some (.cells #[.int .i64 0, .string { data := #[] }, .int .i64 0, .int .i64 0] 23 (0, 0)) := by rw [hT.2.2 _ (by omega), (bal (B0 (w.alloc _)) _).block _ (by simp), heap_alloc_new]
       have d0 : w4.cell? ⟨w.heap.size, 0, none⟩ = some (.int .i64 0) := by simp [World.cell?, r4]
       have d1 : w4.cell? ⟨w.heap.size, 1, none⟩ = some (.string { data := #[] }) := by simp [World.cell?, r4]
       have d2 : w4.cell? ⟨w.heap.size, 2, none⟩ = some (.int .i64 0) := by simp [World.cell?, r4]
       have d3 : w4.cell? ⟨w.heap.size, 3, none⟩ = some (.int .i64 0) := by simp [World.cell?, r4]
       have f0 : w4.frozen? ⟨w.heap.size, 0, none⟩ = false := by simp [World.frozen?, r4]
       have f1 : w4.frozen? ⟨w.heap.size, 1, none⟩ = false := by simp [World.frozen?, r4]
       have f2 : w4.frozen? ⟨w.heap.size, 2, none⟩ = false := by simp [World.frozen?, r4]
       have f3 : w4.frozen? ⟨w.heap.size, 3, none⟩ = false := by simp [World.frozen?, r4]
       have e2 : w4.cell? ⟨bl, ol + 2, none⟩ = some (.string (nths l 2)) := (hB4.cell (p := ⟨bl, ol + 2, none⟩) hbl).trans (HC.out 2 (by omega))
       clear hL1 hL2 hL3 hL4 hT1 hT2 hT3 hT4 hL0)
    | (refine wpList_hit _ rfl (.tmp 15) (.tmp 18) 90 true rfl 9 3 _ Tryz.underlying90 Tryz.underlying9 (w.heap.size + 1) _ rfl hL (.string (nths l 0)) (.int .i64 (1)) rfl strKey opMap_keys (opMap_hit HK.out).1 (opMap_hit HK.out).2 ?_)
    | (go_at_call_of 61 (Value.string (nths l 2))
       refine (long_c (nths l 2) (w.heap.size + 2) 2 23 #[.int .i64 1, .string (nths l 1), .int .i64 0, .int .i64 0] _ (HG.out.step (bal hB4 _)) (HSZ.out _ (nths_mem (by rw [HN.out]; omega))) (by have := HG.out.size; omega) (by rw [← z4]; exact heap_alloc_new _ _) (by simp)).mono ?_
       rintro e w5 ⟨hg5, u5, hb5, he5, hu5⟩
       rw [HS2.out] at he5
       subst he5
       have hB5 : Below w.heap.size w w5 := (bal hB4 _).grown hg5 (by first | omega | (simp; omega)) (fun k hk => by injection hk with hk; omega)
       have y5 : w.heap.size < w5.heap.size := Nat.lt_of_lt_of_le (by first | omega | (simp; omega)) hg5.size
       have r5 : w5.heap[w.heap.size]? = some (.cells #[.int .i64 0, .string { data := #[] }, .int .i64 0, .int .i64 0] 23 (0, 0)) := (hg5.block _ (by first | omega | (simp; omega)) (by intro e; injection e with e; omega)).trans (by rw [(bal (B0 w4) _).block _ zz]; exact r4)
       have d50 : w5.cell? ⟨w.heap.size, 0, none⟩ = some (.int .i64 0) := by simp [World.cell?, r5]
       have f50 : w5.frozen? ⟨w.heap.size, 0, none⟩ = false := by simp [World.frozen?, r5]
       have d51 : w5.cell? ⟨w.heap.size, 1, none⟩ = some (.string { data := #[] }) := by simp [World.cell?, r5]
       have f51 : w5.frozen? ⟨w.heap.size, 1, none⟩ = false := by simp [World.frozen?, r5]
       have d52 : w5.cell? ⟨w.heap.size, 2, none⟩ = some (.int .i64 0) := by simp [World.cell?, r5]
       have f52 : w5.frozen? ⟨w.heap.size, 2, none⟩ = false := by simp [World.frozen?, r5]
       have d53 : w5.cell? ⟨w.heap.size, 3, none⟩ = some (.int .i64 0) := by simp [World.cell?, r5]
       have f53 : w5.frozen? ⟨w.heap.size, 3, none⟩ = false := by simp [World.frozen?, r5]
       have q50 : w5.cell? ⟨w.heap.size + 2, 0, none⟩ = some (.int .i64 1) := by simp [World.cell?, hb5]
       have q51 : w5.cell? ⟨w.heap.size + 2, 1, none⟩ = some (.string (nths l 1)) := by simp [World.cell?, hb5]
       have q52 : w5.cell? ⟨w.heap.size + 2, 2, none⟩ = some (.int .i64 u5) := by simp [World.cell?, hb5]
       have q53 : w5.cell? ⟨w.heap.size + 2, 3, none⟩ = some (.int .i64 0) := by simp [World.cell?, hb5])
    )
  refine bodyPost_ret (v := .tuple #[opV (1, nths l 1, u5, 0), .bool false]) (by simp [results, Tryz.results55, go_sem, opV, *]) rfl ?_
  have hx : parseOp l = (parseN (nths l 2)).map fun v => (1, nths l 1, v, 0) := by
    rw [HP.out, HK.out, HN.out]; rfl
  refine ⟨bst (bst (bst (bst hB5 (Nat.le_refl _) _) (Nat.le_refl _) _) (Nat.le_refl _) _) (Nat.le_refl _) _, (1, nths l 1, u5, 0), ?_, ?_⟩
  · rw [hx, Option.isSome_map, HS2.out]
  · rw [hx]; intro q hq
    obtain ⟨y, hy, rfl⟩ := Option.map_eq_some_iff.1 hq
    rw [hu5 _ hy]
set_option maxRecDepth 100000 in
set_option maxHeartbeats 8000000 in
theorem readOp_3_ok (v : Value) (l : List ByteArray) (w : World) (hG : Glob w) (h : SlS w w.heap.size v l) (hsz : ∀ s ∈ l, s.size ≤ 1000000) (hn2 : 2 ≤ l.length) (hn : l.length = 3) (hs : (parseN (nths l 2)).isSome = true) (hk : opKind (nths l 0) = some (3)) :
    Calls Tryz.prog 55 #[v] w (OpPost w (parseOp l)) := by
  obtain ⟨A, n, c, rfl, hl, hc, hm⟩ := h.form
  obtain ⟨bl, ol, rfl, hbl, hcell⟩ := h.at_ 0 (by omega)
  have HC := Lib.hid hcell; have HK := Lib.hid hk; have HG := Lib.hid hG; have HSZ := Lib.hid hsz; have HN := Lib.hid hl
  have g1 : ¬((n : Int) < 2) := by omega
  have i0 : (0 : Int) < n := by omega
  have i1 : (1 : Int) < n := by omega
  obtain rfl : n = 3 := by omega
  have HS2 := Lib.hid hs
  clear hs
  have hmm := fun (t : TypeId) (w : World) => run_makeMap (P := Tryz.prog) t w
  have hL0 : ∀ o, LiesMap ((w.alloc o).alloc (.map #[] 0)) (w.heap.size + 1) [] := fun o => by have := LiesMap.made (w.alloc o); simpa using this
  have hP : parseOp l = match opKind (nths l 0) with | none => none | some k => if k = 0 then (if l.length = 2 then some (0, nths l 1, 0, 0) else none) else if k = 2 then (if l.length = 4 then (parseN (nths l 2)).bind fun o => (parseN (nths l 3)).map fun v => (2, nths l 1, v, o) else none) else (if l.length = 3 then (parseN (nths l 2)).map fun v => (k, nths l 1, v, 0) else none) := rfl
  have HP := Lib.hid hP
  clear hcell hk hG hsz hl h hP
  go_enter Tryz.func55, Tryz.ntmps55
  go_wp2_with (first
    | (refine wpList_put _ rfl (.tmp 14) (.const (.string { data := #[103, 101, 116] })) (.const (.int .i64 0)) 90 (.inr rfl) 9 3 _ Tryz.underlying90 Tryz.underlying9 (w.heap.size + 1) _ rfl (hL0 _) (.string (bs [103, 101, 116])) (.int .i64 0) rfl rfl strKey (by simp [strKey, bs]) ?_; intro w1 hL1 hT1)
    | (refine wpList_put _ rfl (.tmp 14) (.const (.string { data := #[112, 117, 116] })) (.const (.int .i64 1)) 90 (.inr rfl) 9 3 _ Tryz.underlying90 Tryz.underlying9 (w.heap.size + 1) _ rfl (hL1) (.string (bs [112, 117, 116])) (.int .i64 1) rfl rfl strKey (by simp [strKey, bs]) ?_; intro w2 hL2 hT2)
    | (refine wpList_put _ rfl (.tmp 14) (.const (.string { data := #[99, 97, 115] })) (.const (.int .i64 2)) 90 (.inr rfl) 9 3 _ Tryz.underlying90 Tryz.underlying9 (w.heap.size + 1) _ rfl (hL2) (.string (bs [99, 97, 115])) (.int .i64 2) rfl rfl strKey (by simp [strKey, bs]) ?_; intro w3 hL3 hT3)
    | (refine wpList_put _ rfl (.tmp 14) (.const (.string { data := #[97, 100, 100] })) (.const (.int .i64 3)) 90 (.inr rfl) 9 3 _ Tryz.underlying90 Tryz.underlying9 (w.heap.size + 1) _ rfl (hL3) (.string (bs [97, 100, 100])) (.int .i64 3) rfl rfl strKey (by simp [strKey, bs]) ?_; intro w4 hL4 hT4
       have hT := hT1.trans (hT2.trans (hT3.trans hT4))
       have hL : LiesMap w4 (w.heap.size + 1) opMap := hL4
       have z4 : w4.heap.size = w.heap.size + 2 := by rw [hT.2.1]; simp
       have zz : w.heap.size < w4.heap.size := by omega
       have hB4 : Below w.heap.size w w4 := hT.1 _ _ (bal (bal (B0 w) _) _) (by omega)
       have zl : bl < w4.heap.size := by omega
       have zl2 : bl < w.heap.size + 2 := by omega
       have zl3 : ¬bl = w.heap.size + 2 := by omega
       have zn2 : ¬w.heap.size = w.heap.size + 2 := by omega
       have zz2 : w.heap.size < w.heap.size + 2 := by omega
       have zn : ¬w.heap.size = w4.heap.size := by omega
       have zm : ¬bl = w.heap.size := by omega
       have e0 : w4.cell? ⟨bl, ol, none⟩ = some (.string (nths l 0)) := (hB4.cell (p := ⟨bl, ol, none⟩) hbl).trans (HC.out 0 (by omega))
       have e1 : w4.cell? ⟨bl, ol + 1, none⟩ = some (.string (nths l 1)) := (hB4.cell (p := ⟨bl, ol + 1, none⟩) hbl).trans (HC.out 1 (by omega))
       have r4 : w4.heap[w.heap.size]? = some (.cells #[.int .i64 0, .string { data := #[] }, .int .i64 0, .int .i64 0] 23 (0, 0)) := by rw [hT.2.2 _ (by omega), (bal (B0 (w.alloc _)) _).block _ (by simp), heap_alloc_new]
       have d0 : w4.cell? ⟨w.heap.size, 0, none⟩ = some (.int .i64 0) := by simp [World.cell?, r4]
       have d1 : w4.cell? ⟨w.heap.size, 1, none⟩ = some (.string { data := #[] }) := by simp [World.cell?, r4]
       have d2 : w4.cell? ⟨w.heap.size, 2, none⟩ = some (.int .i64 0) := by simp [World.cell?, r4]
       have d3 : w4.cell? ⟨w.heap.size, 3, none⟩ = some (.int .i64 0) := by simp [World.cell?, r4]
       have f0 : w4.frozen? ⟨w.heap.size, 0, none⟩ = false := by simp [World.frozen?, r4]
       have f1 : w4.frozen? ⟨w.heap.size, 1, none⟩ = false := by simp [World.frozen?, r4]
       have f2 : w4.frozen? ⟨w.heap.size, 2, none⟩ = false := by simp [World.frozen?, r4]
       have f3 : w4.frozen? ⟨w.heap.size, 3, none⟩ = false := by simp [World.frozen?, r4]
       have e2 : w4.cell? ⟨bl, ol + 2, none⟩ = some (.string (nths l 2)) := (hB4.cell (p := ⟨bl, ol + 2, none⟩) hbl).trans (HC.out 2 (by omega))
       clear hL1 hL2 hL3 hL4 hT1 hT2 hT3 hT4 hL0)
    | (refine wpList_hit _ rfl (.tmp 15) (.tmp 18) 90 true rfl 9 3 _ Tryz.underlying90 Tryz.underlying9 (w.heap.size + 1) _ rfl hL (.string (nths l 0)) (.int .i64 (3)) rfl strKey opMap_keys (opMap_hit HK.out).1 (opMap_hit HK.out).2 ?_)
    | (go_at_call_of 61 (Value.string (nths l 2))
       refine (long_c (nths l 2) (w.heap.size + 2) 2 23 #[.int .i64 3, .string (nths l 1), .int .i64 0, .int .i64 0] _ (HG.out.step (bal hB4 _)) (HSZ.out _ (nths_mem (by rw [HN.out]; omega))) (by have := HG.out.size; omega) (by rw [← z4]; exact heap_alloc_new _ _) (by simp)).mono ?_
       rintro e w5 ⟨hg5, u5, hb5, he5, hu5⟩
       rw [HS2.out] at he5
       subst he5
       have hB5 : Below w.heap.size w w5 := (bal hB4 _).grown hg5 (by first | omega | (simp; omega)) (fun k hk => by injection hk with hk; omega)
       have y5 : w.heap.size < w5.heap.size := Nat.lt_of_lt_of_le (by first | omega | (simp; omega)) hg5.size
       have r5 : w5.heap[w.heap.size]? = some (.cells #[.int .i64 0, .string { data := #[] }, .int .i64 0, .int .i64 0] 23 (0, 0)) := (hg5.block _ (by first | omega | (simp; omega)) (by intro e; injection e with e; omega)).trans (by rw [(bal (B0 w4) _).block _ zz]; exact r4)
       have d50 : w5.cell? ⟨w.heap.size, 0, none⟩ = some (.int .i64 0) := by simp [World.cell?, r5]
       have f50 : w5.frozen? ⟨w.heap.size, 0, none⟩ = false := by simp [World.frozen?, r5]
       have d51 : w5.cell? ⟨w.heap.size, 1, none⟩ = some (.string { data := #[] }) := by simp [World.cell?, r5]
       have f51 : w5.frozen? ⟨w.heap.size, 1, none⟩ = false := by simp [World.frozen?, r5]
       have d52 : w5.cell? ⟨w.heap.size, 2, none⟩ = some (.int .i64 0) := by simp [World.cell?, r5]
       have f52 : w5.frozen? ⟨w.heap.size, 2, none⟩ = false := by simp [World.frozen?, r5]
       have d53 : w5.cell? ⟨w.heap.size, 3, none⟩ = some (.int .i64 0) := by simp [World.cell?, r5]
       have f53 : w5.frozen? ⟨w.heap.size, 3, none⟩ = false := by simp [World.frozen?, r5]
       have q50 : w5.cell? ⟨w.heap.size + 2, 0, none⟩ = some (.int .i64 3) := by simp [World.cell?, hb5]
       have q51 : w5.cell? ⟨w.heap.size + 2, 1, none⟩ = some (.string (nths l 1)) := by simp [World.cell?, hb5]
       have q52 : w5.cell? ⟨w.heap.size + 2, 2, none⟩ = some (.int .i64 u5) := by simp [World.cell?, hb5]
       have q53 : w5.cell? ⟨w.heap.size + 2, 3, none⟩ = some (.int .i64 0) := by simp [World.cell?, hb5])
    )
  refine bodyPost_ret (v := .tuple #[opV (3, nths l 1, u5, 0), .bool true]) (by simp [results, Tryz.results55, go_sem, opV, *]) rfl ?_
  have hx : parseOp l = (parseN (nths l 2)).map fun v => (3, nths l 1, v, 0) := by
    rw [HP.out, HK.out, HN.out]; rfl
  refine ⟨bst (bst (bst (bst hB5 (Nat.le_refl _) _) (Nat.le_refl _) _) (Nat.le_refl _) _) (Nat.le_refl _) _, (3, nths l 1, u5, 0), ?_, ?_⟩
  · rw [hx, Option.isSome_map, HS2.out]
  · rw [hx]; intro q hq
    obtain ⟨y, hy, rfl⟩ := Option.map_eq_some_iff.1 hq
    rw [hu5 _ hy]
set_option maxRecDepth 100000 in
set_option maxHeartbeats 8000000 in
theorem readOp_3_bad (v : Value) (l : List ByteArray) (w : World) (hG : Glob w) (h : SlS w w.heap.size v l) (hsz : ∀ s ∈ l, s.size ≤ 1000000) (hn2 : 2 ≤ l.length) (hn : l.length = 3) (hs : (parseN (nths l 2)).isSome = false) (hk : opKind (nths l 0) = some (3)) :
    Calls Tryz.prog 55 #[v] w (OpPost w (parseOp l)) := by
  obtain ⟨A, n, c, rfl, hl, hc, hm⟩ := h.form
  obtain ⟨bl, ol, rfl, hbl, hcell⟩ := h.at_ 0 (by omega)
  have HC := Lib.hid hcell; have HK := Lib.hid hk; have HG := Lib.hid hG; have HSZ := Lib.hid hsz; have HN := Lib.hid hl
  have g1 : ¬((n : Int) < 2) := by omega
  have i0 : (0 : Int) < n := by omega
  have i1 : (1 : Int) < n := by omega
  obtain rfl : n = 3 := by omega
  have HS2 := Lib.hid hs
  clear hs
  have hmm := fun (t : TypeId) (w : World) => run_makeMap (P := Tryz.prog) t w
  have hL0 : ∀ o, LiesMap ((w.alloc o).alloc (.map #[] 0)) (w.heap.size + 1) [] := fun o => by have := LiesMap.made (w.alloc o); simpa using this
  have hP : parseOp l = match opKind (nths l 0) with | none => none | some k => if k = 0 then (if l.length = 2 then some (0, nths l 1, 0, 0) else none) else if k = 2 then (if l.length = 4 then (parseN (nths l 2)).bind fun o => (parseN (nths l 3)).map fun v => (2, nths l 1, v, o) else none) else (if l.length = 3 then (parseN (nths l 2)).map fun v => (k, nths l 1, v, 0) else none) := rfl
  have HP := Lib.hid hP
  clear hcell hk hG hsz hl h hP
  go_enter Tryz.func55, Tryz.ntmps55
  go_wp2_with (first
    | (refine wpList_put _ rfl (.tmp 14) (.const (.string { data := #[103, 101, 116] })) (.const (.int .i64 0)) 90 (.inr rfl) 9 3 _ Tryz.underlying90 Tryz.underlying9 (w.heap.size + 1) _ rfl (hL0 _) (.string (bs [103, 101, 116])) (.int .i64 0) rfl rfl strKey (by simp [strKey, bs]) ?_; intro w1 hL1 hT1)
    | (refine wpList_put _ rfl (.tmp 14) (.const (.string { data := #[112, 117, 116] })) (.const (.int .i64 1)) 90 (.inr rfl) 9 3 _ Tryz.underlying90 Tryz.underlying9 (w.heap.size + 1) _ rfl (hL1) (.string (bs [112, 117, 116])) (.int .i64 1) rfl rfl strKey (by simp [strKey, bs]) ?_; intro w2 hL2 hT2)
    | (refine wpList_put _ rfl (.tmp 14) (.const (.string { data := #[99, 97, 115] })) (.const (.int .i64 2)) 90 (.inr rfl) 9 3 _ Tryz.underlying90 Tryz.underlying9 (w.heap.size + 1) _ rfl (hL2) (.string (bs [99, 97, 115])) (.int .i64 2) rfl rfl strKey (by simp [strKey, bs]) ?_; intro w3 hL3 hT3)
    | (refine wpList_put _ rfl (.tmp 14) (.const (.string { data := #[97, 100, 100] })) (.const (.int .i64 3)) 90 (.inr rfl) 9 3 _ Tryz.underlying90 Tryz.underlying9 (w.heap.size + 1) _ rfl (hL3) (.string (bs [97, 100, 100])) (.int .i64 3) rfl rfl strKey (by simp [strKey, bs]) ?_; intro w4 hL4 hT4
       have hT := hT1.trans (hT2.trans (hT3.trans hT4))
       have hL : LiesMap w4 (w.heap.size + 1) opMap := hL4
       have z4 : w4.heap.size = w.heap.size + 2 := by rw [hT.2.1]; simp
       have zz : w.heap.size < w4.heap.size := by omega
       have hB4 : Below w.heap.size w w4 := hT.1 _ _ (bal (bal (B0 w) _) _) (by omega)
       have zl : bl < w4.heap.size := by omega
       have zl2 : bl < w.heap.size + 2 := by omega
       have zl3 : ¬bl = w.heap.size + 2 := by omega
       have zn2 : ¬w.heap.size = w.heap.size + 2 := by omega
       have zz2 : w.heap.size < w.heap.size + 2 := by omega
       have zn : ¬w.heap.size = w4.heap.size := by omega
       have zm : ¬bl = w.heap.size := by omega
       have e0 : w4.cell? ⟨bl, ol, none⟩ = some (.string (nths l 0)) := (hB4.cell (p := ⟨bl, ol, none⟩) hbl).trans (HC.out 0 (by omega))
       have e1 : w4.cell? ⟨bl, ol + 1, none⟩ = some (.string (nths l 1)) := (hB4.cell (p := ⟨bl, ol + 1, none⟩) hbl).trans (HC.out 1 (by omega))
       have r4 : w4.heap[w.heap.size]? = some (.cells #[.int .i64 0, .string { data := #[] }, .int .i64 0, .int .i64 0] 23 (0, 0)) := by rw [hT.2.2 _ (by omega), (bal (B0 (w.alloc _)) _).block _ (by simp), heap_alloc_new]
       have d0 : w4.cell? ⟨w.heap.size, 0, none⟩ = some (.int .i64 0) := by simp [World.cell?, r4]
       have d1 : w4.cell? ⟨w.heap.size, 1, none⟩ = some (.string { data := #[] }) := by simp [World.cell?, r4]
       have d2 : w4.cell? ⟨w.heap.size, 2, none⟩ = some (.int .i64 0) := by simp [World.cell?, r4]
       have d3 : w4.cell? ⟨w.heap.size, 3, none⟩ = some (.int .i64 0) := by simp [World.cell?, r4]
       have f0 : w4.frozen? ⟨w.heap.size, 0, none⟩ = false := by simp [World.frozen?, r4]
       have f1 : w4.frozen? ⟨w.heap.size, 1, none⟩ = false := by simp [World.frozen?, r4]
       have f2 : w4.frozen? ⟨w.heap.size, 2, none⟩ = false := by simp [World.frozen?, r4]
       have f3 : w4.frozen? ⟨w.heap.size, 3, none⟩ = false := by simp [World.frozen?, r4]
       have e2 : w4.cell? ⟨bl, ol + 2, none⟩ = some (.string (nths l 2)) := (hB4.cell (p := ⟨bl, ol + 2, none⟩) hbl).trans (HC.out 2 (by omega))
       clear hL1 hL2 hL3 hL4 hT1 hT2 hT3 hT4 hL0)
    | (refine wpList_hit _ rfl (.tmp 15) (.tmp 18) 90 true rfl 9 3 _ Tryz.underlying90 Tryz.underlying9 (w.heap.size + 1) _ rfl hL (.string (nths l 0)) (.int .i64 (3)) rfl strKey opMap_keys (opMap_hit HK.out).1 (opMap_hit HK.out).2 ?_)
    | (go_at_call_of 61 (Value.string (nths l 2))
       refine (long_c (nths l 2) (w.heap.size + 2) 2 23 #[.int .i64 3, .string (nths l 1), .int .i64 0, .int .i64 0] _ (HG.out.step (bal hB4 _)) (HSZ.out _ (nths_mem (by rw [HN.out]; omega))) (by have := HG.out.size; omega) (by rw [← z4]; exact heap_alloc_new _ _) (by simp)).mono ?_
       rintro e w5 ⟨hg5, u5, hb5, he5, hu5⟩
       rw [HS2.out] at he5
       subst he5
       have hB5 : Below w.heap.size w w5 := (bal hB4 _).grown hg5 (by first | omega | (simp; omega)) (fun k hk => by injection hk with hk; omega)
       have y5 : w.heap.size < w5.heap.size := Nat.lt_of_lt_of_le (by first | omega | (simp; omega)) hg5.size
       have r5 : w5.heap[w.heap.size]? = some (.cells #[.int .i64 0, .string { data := #[] }, .int .i64 0, .int .i64 0] 23 (0, 0)) := (hg5.block _ (by first | omega | (simp; omega)) (by intro e; injection e with e; omega)).trans (by rw [(bal (B0 w4) _).block _ zz]; exact r4)
       have d50 : w5.cell? ⟨w.heap.size, 0, none⟩ = some (.int .i64 0) := by simp [World.cell?, r5]
       have f50 : w5.frozen? ⟨w.heap.size, 0, none⟩ = false := by simp [World.frozen?, r5]
       have d51 : w5.cell? ⟨w.heap.size, 1, none⟩ = some (.string { data := #[] }) := by simp [World.cell?, r5]
       have f51 : w5.frozen? ⟨w.heap.size, 1, none⟩ = false := by simp [World.frozen?, r5]
       have d52 : w5.cell? ⟨w.heap.size, 2, none⟩ = some (.int .i64 0) := by simp [World.cell?, r5]
       have f52 : w5.frozen? ⟨w.heap.size, 2, none⟩ = false := by simp [World.frozen?, r5]
       have d53 : w5.cell? ⟨w.heap.size, 3, none⟩ = some (.int .i64 0) := by simp [World.cell?, r5]
       have f53 : w5.frozen? ⟨w.heap.size, 3, none⟩ = false := by simp [World.frozen?, r5]
       have q50 : w5.cell? ⟨w.heap.size + 2, 0, none⟩ = some (.int .i64 3) := by simp [World.cell?, hb5]
       have q51 : w5.cell? ⟨w.heap.size + 2, 1, none⟩ = some (.string (nths l 1)) := by simp [World.cell?, hb5]
       have q52 : w5.cell? ⟨w.heap.size + 2, 2, none⟩ = some (.int .i64 u5) := by simp [World.cell?, hb5]
       have q53 : w5.cell? ⟨w.heap.size + 2, 3, none⟩ = some (.int .i64 0) := by simp [World.cell?, hb5])
    )
  refine bodyPost_ret (v := .tuple #[opV (3, nths l 1, u5, 0), .bool false]) (by simp [results, Tryz.results55, go_sem, opV, *]) rfl ?_
  have hx : parseOp l = (parseN (nths l 2)).map fun v => (3, nths l 1, v, 0) := by
    rw [HP.out, HK.out, HN.out]; rfl
  refine ⟨bst (bst (bst (bst hB5 (Nat.le_refl _) _) (Nat.le_refl _) _) (Nat.le_refl _) _) (Nat.le_refl _) _, (3, nths l 1, u5, 0), ?_, ?_⟩
  · rw [hx, Option.isSome_map, HS2.out]
  · rw [hx]; intro q hq
    obtain ⟨y, hy, rfl⟩ := Option.map_eq_some_iff.1 hq
    rw [hu5 _ hy]
set_option maxRecDepth 100000 in
set_option maxHeartbeats 8000000 in
theorem readOp_2_ok (v : Value) (l : List ByteArray) (w : World) (hG : Glob w) (h : SlS w w.heap.size v l) (hsz : ∀ s ∈ l, s.size ≤ 1000000) (hn2 : 2 ≤ l.length) (hn : l.length = 4) (hs2 : (parseN (nths l 2)).isSome = true) (hs3 : (parseN (nths l 3)).isSome = true) (hk : opKind (nths l 0) = some (2)) :
    Calls Tryz.prog 55 #[v] w (OpPost w (parseOp l)) := by
  obtain ⟨A, n, c, rfl, hl, hc, hm⟩ := h.form
  obtain ⟨bl, ol, rfl, hbl, hcell⟩ := h.at_ 0 (by omega)
  have HC := Lib.hid hcell; have HK := Lib.hid hk; have HG := Lib.hid hG; have HSZ := Lib.hid hsz; have HN := Lib.hid hl
  have g1 : ¬((n : Int) < 2) := by omega
  have i0 : (0 : Int) < n := by omega
  have i1 : (1 : Int) < n := by omega
  obtain rfl : n = 4 := by omega
  have HS2 := Lib.hid hs2
  clear hs2
  have HS3 := Lib.hid hs3
  clear hs3
  have hmm := fun (t : TypeId) (w : World) => run_makeMap (P := Tryz.prog) t w
  have hL0 : ∀ o, LiesMap ((w.alloc o).alloc (.map #[] 0)) (w.heap.size + 1) [] := fun o => by have := LiesMap.made (w.alloc o); simpa using this
  have hP : parseOp l = match opKind (nths l 0) with | none => none | some k => if k = 0 then (if l.length = 2 then some (0, nths l 1, 0, 0) else none) else if k = 2 then (if l.length = 4 then (parseN (nths l 2)).bind fun o => (parseN (nths l 3)).map fun v => (2, nths l 1, v, o) else none) else (if l.length = 3 then (parseN (nths l 2)).map fun v => (k, nths l 1, v, 0) else none) := rfl
  have HP := Lib.hid hP
  clear hcell hk hG hsz hl h hP
  go_enter Tryz.func55, Tryz.ntmps55
  go_wp2_with (first
    | (refine wpList_put _ rfl (.tmp 14) (.const (.string { data := #[103, 101, 116] })) (.const (.int .i64 0)) 90 (.inr rfl) 9 3 _ Tryz.underlying90 Tryz.underlying9 (w.heap.size + 1) _ rfl (hL0 _) (.string (bs [103, 101, 116])) (.int .i64 0) rfl rfl strKey (by simp [strKey, bs]) ?_; intro w1 hL1 hT1)
    | (refine wpList_put _ rfl (.tmp 14) (.const (.string { data := #[112, 117, 116] })) (.const (.int .i64 1)) 90 (.inr rfl) 9 3 _ Tryz.underlying90 Tryz.underlying9 (w.heap.size + 1) _ rfl (hL1) (.string (bs [112, 117, 116])) (.int .i64 1) rfl rfl strKey (by simp [strKey, bs]) ?_; intro w2 hL2 hT2)
    | (refine wpList_put _ rfl (.tmp 14) (.const (.string { data := #[99, 97, 115] })) (.const (.int .i64 2)) 90 (.inr rfl) 9 3 _ Tryz.underlying90 Tryz.underlying9 (w.heap.size + 1) _ rfl (hL2) (.string (bs [99, 97, 115])) (.int .i64 2) rfl rfl strKey (by simp [strKey, bs]) ?_; intro w3 hL3 hT3)
    | (refine wpList_put _ rfl (.tmp 14) (.const (.string { data := #[97, 100, 100] })) (.const (.int .i64 3)) 90 (.inr rfl) 9 3 _ Tryz.underlying90 Tryz.underlying9 (w.heap.size + 1) _ rfl (hL3) (.string (bs [97, 100, 100])) (.int .i64 3) rfl rfl strKey (by simp [strKey, bs]) ?_; intro w4 hL4 hT4
       have hT := hT1.trans (hT2.trans (hT3.trans hT4))
       have hL : LiesMap w4 (w.heap.size + 1) opMap := hL4
       have z4 : w4.heap.size = w.heap.size + 2 := by rw [hT.2.1]; simp
       have zz : w.heap.size < w4.heap.size := by omega
       have hB4 : Below w.heap.size w w4 := hT.1 _ _ (bal (bal (B0 w) _) _) (by omega)
       have zl : bl < w4.heap.size := by omega
       have zl2 : bl < w.heap.size + 2 := by omega
       have zl3 : ¬bl = w.heap.size + 2 := by omega
       have zn2 : ¬w.heap.size = w.heap.size + 2 := by omega
       have zz2 : w.heap.size < w.heap.size + 2 := by omega
       have zn : ¬w.heap.size = w4.heap.size := by omega
       have zm : ¬bl = w.heap.size := by omega
       have e0 : w4.cell? ⟨bl, ol, none⟩ = some (.string (nths l 0)) := (hB4.cell (p := ⟨bl, ol, none⟩) hbl).trans (HC.out 0 (by omega))
       have e1 : w4.cell? ⟨bl, ol + 1, none⟩ = some (.string (nths l 1)) := (hB4.cell (p := ⟨bl, ol + 1, none⟩) hbl).trans (HC.out 1 (by omega))
       have r4 : w4.heap[w.heap.size]? = some (.cells #[.int .i64 0, .string { data := #[] }, .int .i64 0, .int .i64 0] 23 (0, 0)) := by rw [hT.2.2 _ (by omega), (bal (B0 (w.alloc _)) _).block _ (by simp), heap_alloc_new]
       have d0 : w4.cell? ⟨w.heap.size, 0, none⟩ = some (.int .i64 0) := by simp [World.cell?, r4]
       have d1 : w4.cell? ⟨w.heap.size, 1, none⟩ = some (.string { data := #[] }) := by simp [World.cell?, r4]
       have d2 : w4.cell? ⟨w.heap.size, 2, none⟩ = some (.int .i64 0) := by simp [World.cell?, r4]
       have d3 : w4.cell? ⟨w.heap.size, 3, none⟩ = some (.int .i64 0) := by simp [World.cell?, r4]
       have f0 : w4.frozen? ⟨w.heap.size, 0, none⟩ = false := by simp [World.frozen?, r4]
       have f1 : w4.frozen? ⟨w.heap.size, 1, none⟩ = false := by simp [World.frozen?, r4]
       have f2 : w4.frozen? ⟨w.heap.size, 2, none⟩ = false := by simp [World.frozen?, r4]
       have f3 : w4.frozen? ⟨w.heap.size, 3, none⟩ = false := by simp [World.frozen?, r4]
       have e2 : w4.cell? ⟨bl, ol + 2, none⟩ = some (.string (nths l 2)) := (hB4.cell (p := ⟨bl, ol + 2, none⟩) hbl).trans (HC.out 2 (by omega))
       clear hL1 hL2 hL3 hL4 hT1 hT2 hT3 hT4 hL0)
    | (refine wpList_hit _ rfl (.tmp 15) (.tmp 18) 90 true rfl 9 3 _ Tryz.underlying90 Tryz.underlying9 (w.heap.size + 1) _ rfl hL (.string (nths l 0)) (.int .i64 (2)) rfl strKey opMap_keys (opMap_hit HK.out).1 (opMap_hit HK.out).2 ?_)
    | (go_at_call_of 61 (Value.string (nths l 2))
       refine (long_c (nths l 2) (w.heap.size + 2) 3 23 #[.int .i64 2, .string (nths l 1), .int .i64 0, .int .i64 0] _ (HG.out.step (bal hB4 _)) (HSZ.out _ (nths_mem (by rw [HN.out]; omega))) (by have := HG.out.size; omega) (by rw [← z4]; exact heap_alloc_new _ _) (by simp)).mono ?_
       rintro e w5 ⟨hg5, u5, hb5, he5, hu5⟩
       rw [HS2.out] at he5
       subst he5
       have hB5 : Below w.heap.size w w5 := (bal hB4 _).grown hg5 (by first | omega | (simp; omega)) (fun k hk => by injection hk with hk; omega)
       have y5 : w.heap.size < w5.heap.size := Nat.lt_of_lt_of_le (by first | omega | (simp; omega)) hg5.size
       have r5 : w5.heap[w.heap.size]? = some (.cells #[.int .i64 0, .string { data := #[] }, .int .i64 0, .int .i64 0] 23 (0, 0)) := (hg5.block _ (by first | omega | (simp; omega)) (by intro e; injection e with e; omega)).trans (by rw [(bal (B0 w4) _).block _ zz]; exact r4)
       have d50 : w5.cell? ⟨w.heap.size, 0, none⟩ = some (.int .i64 0) := by simp [World.cell?, r5]
       have f50 : w5.frozen? ⟨w.heap.size, 0, none⟩ = false := by simp [World.frozen?, r5]
       have d51 : w5.cell? ⟨w.heap.size, 1, none⟩ = some (.string { data := #[] }) := by simp [World.cell?, r5]
       have f51 : w5.frozen? ⟨w.heap.size, 1, none⟩ = false := by simp [World.frozen?, r5]
       have d52 : w5.cell? ⟨w.heap.size, 2, none⟩ = some (.int .i64 0) := by simp [World.cell?, r5]
       have f52 : w5.frozen? ⟨w.heap.size, 2, none⟩ = false := by simp [World.frozen?, r5]
       have d53 : w5.cell? ⟨w.heap.size, 3, none⟩ = some (.int .i64 0) := by simp [World.cell?, r5]
       have f53 : w5.frozen? ⟨w.heap.size, 3, none⟩ = false := by simp [World.frozen?, r5]
       have q50 : w5.cell? ⟨w.heap.size + 2, 0, none⟩ = some (.int .i64 2) := by simp [World.cell?, hb5]
       have q51 : w5.cell? ⟨w.heap.size + 2, 1, none⟩ = some (.string (nths l 1)) := by simp [World.cell?, hb5]
       have q52 : w5.cell? ⟨w.heap.size + 2, 2, none⟩ = some (.int .i64 0) := by simp [World.cell?, hb5]
       have q53 : w5.cell? ⟨w.heap.size + 2, 3, none⟩ = some (.int .i64 u5) := by simp [World.cell?, hb5]
       have e3 : w5.cell? ⟨bl, ol + 3, none⟩ = some (.string (nths l 3)) := (hB5.cell (p := ⟨bl, ol + 3, none⟩) hbl).trans (HC.out 3 (by omega)))
    | (go_at_call_of 61 (Value.string (nths l 3))
       refine (long_c (nths l 3) (w.heap.size + 2) 2 23 (#[.int .i64 2, .string (nths l 1), .int .i64 0, .int .i64 0].setIfInBounds 3 (.int .i64 u5)) _ (HG.out.step (hB5)) (HSZ.out _ (nths_mem (by rw [HN.out]; omega))) (by have := HG.out.size; omega) hb5 (by simp)).mono ?_
       rintro e w6 ⟨hg6, u6, hb6, he6, hu6⟩
       rw [HS3.out] at he6
       subst he6
       have hB6 : Below w.heap.size w w6 := (hB5).grown hg6 (by first | omega | (simp; omega)) (fun k hk => by injection hk with hk; omega)
       have y6 : w.heap.size < w6.heap.size := Nat.lt_of_lt_of_le (by first | omega | (simp; omega)) hg6.size
       have r6 : w6.heap[w.heap.size]? = some (.cells #[.int .i64 0, .string { data := #[] }, .int .i64 0, .int .i64 0] 23 (0, 0)) := (hg6.block _ (by first | omega | (simp; omega)) (by intro e; injection e with e; omega)).trans r5
       have d60 : w6.cell? ⟨w.heap.size, 0, none⟩ = some (.int .i64 0) := by simp [World.cell?, r6]
       have f60 : w6.frozen? ⟨w.heap.size, 0, none⟩ = false := by simp [World.frozen?, r6]
       have d61 : w6.cell? ⟨w.heap.size, 1, none⟩ = some (.string { data := #[] }) := by simp [World.cell?, r6]
       have f61 : w6.frozen? ⟨w.heap.size, 1, none⟩ = false := by simp [World.frozen?, r6]
       have d62 : w6.cell? ⟨w.heap.size, 2, none⟩ = some (.int .i64 0) := by simp [World.cell?, r6]
       have f62 : w6.frozen? ⟨w.heap.size, 2, none⟩ = false := by simp [World.frozen?, r6]
       have d63 : w6.cell? ⟨w.heap.size, 3, none⟩ = some (.int .i64 0) := by simp [World.cell?, r6]
       have f63 : w6.frozen? ⟨w.heap.size, 3, none⟩ = false := by simp [World.frozen?, r6]
       have q60 : w6.cell? ⟨w.heap.size + 2, 0, none⟩ = some (.int .i64 2) := by simp [World.cell?, hb6]
       have q61 : w6.cell? ⟨w.heap.size + 2, 1, none⟩ = some (.string (nths l 1)) := by simp [World.cell?, hb6]
       have q62 : w6.cell? ⟨w.heap.size + 2, 2, none⟩ = some (.int .i64 u6) := by simp [World.cell?, hb6]
       have q63 : w6.cell? ⟨w.heap.size + 2, 3, none⟩ = some (.int .i64 u5) := by simp [World.cell?, hb6])
    )
  refine bodyPost_ret (v := .tuple #[opV (2, nths l 1, u6, u5), .bool true]) (by simp [results, Tryz.results55, go_sem, opV, *]) rfl ?_
  have hx : parseOp l = (parseN (nths l 2)).bind fun o => (parseN (nths l 3)).map fun v => (2, nths l 1, v, o) := by
    rw [HP.out, HK.out, HN.out]; rfl
  refine ⟨bst (bst (bst (bst hB6 (Nat.le_refl _) _) (Nat.le_refl _) _) (Nat.le_refl _) _) (Nat.le_refl _) _, (2, nths l 1, u6, u5), ?_, ?_⟩
  · rw [hx]
    have h2 := HS2.out
    have h3 := HS3.out
    cases hp2 : parseN (nths l 2) <;> rw [hp2] at h2 <;> first | (cases h2; done) | rfl | (rw [Option.bind_some, Option.isSome_map]; rw [h3])
  · rw [hx]; intro q hq
    obtain ⟨o, ho, hq⟩ := Option.bind_eq_some_iff.1 hq
    obtain ⟨y, hy, rfl⟩ := Option.map_eq_some_iff.1 hq
    rw [hu5 _ ho, hu6 _ hy]
set_option maxRecDepth 100000 in
set_option maxHeartbeats 8000000 in
theorem readOp_2_bad3 (v : Value) (l : List ByteArray) (w : World) (hG : Glob w) (h : SlS w w.heap.size v l) (hsz : ∀ s ∈ l, s.size ≤ 1000000) (hn2 : 2 ≤ l.length) (hn : l.length = 4) (hs2 : (parseN (nths l 2)).isSome = true) (hs3 : (parseN (nths l 3)).isSome = false) (hk : opKind (nths l 0) = some (2)) :
    Calls Tryz.prog 55 #[v] w (OpPost w (parseOp l)) := by
  obtain ⟨A, n, c, rfl, hl, hc, hm⟩ := h.form
  obtain ⟨bl, ol, rfl, hbl, hcell⟩ := h.at_ 0 (by omega)
  have HC := Lib.hid hcell; have HK := Lib.hid hk; have HG := Lib.hid hG; have HSZ := Lib.hid hsz; have HN := Lib.hid hl
  have g1 : ¬((n : Int) < 2) := by omega
  have i0 : (0 : Int) < n := by omega
  have i1 : (1 : Int) < n := by omega
  obtain rfl : n = 4 := by omega
  have HS2 := Lib.hid hs2
  clear hs2
  have HS3 := Lib.hid hs3
  clear hs3
  have hmm := fun (t : TypeId) (w : World) => run_makeMap (P := Tryz.prog) t w
  have hL0 : ∀ o, LiesMap ((w.alloc o).alloc (.map #[] 0)) (w.heap.size + 1) [] := fun o => by have := LiesMap.made (w.alloc o); simpa using this
  have hP : parseOp l = match opKind (nths l 0) with | none => none | some k => if k = 0 then (if l.length = 2 then some (0, nths l 1, 0, 0) else none) else if k = 2 then (if l.length = 4 then (parseN (nths l 2)).bind fun o => (parseN (nths l 3)).map fun v => (2, nths l 1, v, o) else none) else (if l.length = 3 then (parseN (nths l 2)).map fun v => (k, nths l 1, v, 0) else none) := rfl
  have HP := Lib.hid hP
  clear hcell hk hG hsz hl h hP
  go_enter Tryz.func55, Tryz.ntmps55
  go_wp2_with (first
    | (refine wpList_put _ rfl (.tmp 14) (.const (.string { data := #[103, 101, 116] })) (.const (.int .i64 0)) 90 (.inr rfl) 9 3 _ Tryz.underlying90 Tryz.underlying9 (w.heap.size + 1) _ rfl (hL0 _) (.string (bs [103, 101, 116])) (.int .i64 0) rfl rfl strKey (by simp [strKey, bs]) ?_; intro w1 hL1 hT1)
    | (refine wpList_put _ rfl (.tmp 14) (.const (.string { data := #[112, 117, 116] })) (.const (.int .i64 1)) 90 (.inr rfl) 9 3 _ Tryz.underlying90 Tryz.underlying9 (w.heap.size + 1) _ rfl (hL1) (.string (bs [112, 117, 116])) (.int .i64 1) rfl rfl strKey (by simp [strKey, bs]) ?_; intro w2 hL2 hT2)
    | (refine wpList_put _ rfl (.tmp 14) (.const (.string { data := #[99, 97, 115] })) (.const (.int .i64 2)) 90 (.inr rfl) 9 3 _ Tryz.underlying90 Tryz.underlying9 (w.heap.size + 1) _ rfl (hL2) (.string (bs [99, 97, 115])) (.int .i64 2) rfl rfl strKey (by simp [strKey, bs]) ?_; intro w3 hL3 hT3)
    | (refine wpList_put _ rfl (.tmp 14) (.const (.string { data := #[97, 100, 100] })) (.const (.int .i64 3)) 90 (.inr rfl) 9 3 _ Tryz.underlying90 Tryz.underlying9 (w.heap.size + 1) _ rfl (hL3) (.string (bs [97, 100, 100])) (.int .i64 3) rfl rfl strKey (by simp [strKey, bs]) ?_; intro w4 hL4 hT4
       have hT := hT1.trans (hT2.trans (hT3.trans hT4))
       have hL : LiesMap w4 (w.heap.size + 1) opMap := hL4
       have z4 : w4.heap.size = w.heap.size + 2 := by rw [hT.2.1]; simp
       have zz : w.heap.size < w4.heap.size := by omega
       have hB4 : Below w.heap.size w w4 := hT.1 _ _ (bal (bal (B0 w) _) _) (by omega)
       have zl : bl < w4.heap.size := by omega
       have zl2 : bl < w.heap.size + 2 := by omega
       have zl3 : ¬bl = w.heap.size + 2 := by omega
       have zn2 : ¬w.heap.size = w.heap.size + 2 := by omega
       have zz2 : w.heap.size < w.heap.size + 2 := by omega
       have zn : ¬w.heap.size = w4.heap.size := by omega
       have zm : ¬bl = w.heap.size := by omega
       have e0 : w4.cell? ⟨bl, ol, none⟩ = some (.string (nths l 0)) := (hB4.cell (p := ⟨bl, ol, none⟩) hbl).trans (HC.out 0 (by omega))
       have e1 : w4.cell? ⟨bl, ol + 1, none⟩ = some (.string (nths l 1)) := (hB4.cell (p := ⟨bl, ol + 1, none⟩) hbl).trans (HC.out 1 (by omega))
       have r4 : w4.heap[w.heap.size]? = some (.cells #[.int .i64 0, .string { data := #[] }, .int .i64 0, .int .i64 0] 23 (0, 0)) := by rw [hT.2.2 _ (by omega), (bal (B0 (w.alloc _)) _).block _ (by simp), heap_alloc_new]
       have d0 : w4.cell? ⟨w.heap.size, 0, none⟩ = some (.int .i64 0) := by simp [World.cell?, r4]
       have d1 : w4.cell? ⟨w.heap.size, 1, none⟩ = some (.string { data := #[] }) := by simp [World.cell?, r4]
       have d2 : w4.cell? ⟨w.heap.size, 2, none⟩ = some (.int .i64 0) := by simp [World.cell?, r4]
       have d3 : w4.cell? ⟨w.heap.size, 3, none⟩ = some (.int .i64 0) := by simp [World.cell?, r4]
       have f0 : w4.frozen? ⟨w.heap.size, 0, none⟩ = false := by simp [World.frozen?, r4]
       have f1 : w4.frozen? ⟨w.heap.size, 1, none⟩ = false := by simp [World.frozen?, r4]
       have f2 : w4.frozen? ⟨w.heap.size, 2, none⟩ = false := by simp [World.frozen?, r4]
       have f3 : w4.frozen? ⟨w.heap.size, 3, none⟩ = false := by simp [World.frozen?, r4]
       have e2 : w4.cell? ⟨bl, ol + 2, none⟩ = some (.string (nths l 2)) := (hB4.cell (p := ⟨bl, ol + 2, none⟩) hbl).trans (HC.out 2 (by omega))
       clear hL1 hL2 hL3 hL4 hT1 hT2 hT3 hT4 hL0)
    | (refine wpList_hit _ rfl (.tmp 15) (.tmp 18) 90 true rfl 9 3 _ Tryz.underlying90 Tryz.underlying9 (w.heap.size + 1) _ rfl hL (.string (nths l 0)) (.int .i64 (2)) rfl strKey opMap_keys (opMap_hit HK.out).1 (opMap_hit HK.out).2 ?_)
    | (go_at_call_of 61 (Value.string (nths l 2))
       refine (long_c (nths l 2) (w.heap.size + 2) 3 23 #[.int .i64 2, .string (nths l 1), .int .i64 0, .int .i64 0] _ (HG.out.step (bal hB4 _)) (HSZ.out _ (nths_mem (by rw [HN.out]; omega))) (by have := HG.out.size; omega) (by rw [← z4]; exact heap_alloc_new _ _) (by simp)).mono ?_
       rintro e w5 ⟨hg5, u5, hb5, he5, hu5⟩
       rw [HS2.out] at he5
       subst he5
       have hB5 : Below w.heap.size w w5 := (bal hB4 _).grown hg5 (by first | omega | (simp; omega)) (fun k hk => by injection hk with hk; omega)
       have y5 : w.heap.size < w5.heap.size := Nat.lt_of_lt_of_le (by first | omega | (simp; omega)) hg5.size
       have r5 : w5.heap[w.heap.size]? = some (.cells #[.int .i64 0, .string { data := #[] }, .int .i64 0, .int .i64 0] 23 (0, 0)) := (hg5.block _ (by first | omega | (simp; omega)) (by intro e; injection e with e; omega)).trans (by rw [(bal (B0 w4) _).block _ zz]; exact r4)
       have d50 : w5.cell? ⟨w.heap.size, 0, none⟩ = some (.int .i64 0) := by simp [World.cell?, r5]
       have f50 : w5.frozen? ⟨w.heap.size, 0, none⟩ = false := by simp [World.frozen?, r5]
       have d51 : w5.cell? ⟨w.heap.size, 1, none⟩ = some (.string { data := #[] }) := by simp [World.cell?, r5]
       have f51 : w5.frozen? ⟨w.heap.size, 1, none⟩ = false := by simp [World.frozen?, r5]
       have d52 : w5.cell? ⟨w.heap.size, 2, none⟩ = some (.int .i64 0) := by simp [World.cell?, r5]
       have f52 : w5.frozen? ⟨w.heap.size, 2, none⟩ = false := by simp [World.frozen?, r5]
       have d53 : w5.cell? ⟨w.heap.size, 3, none⟩ = some (.int .i64 0) := by simp [World.cell?, r5]
       have f53 : w5.frozen? ⟨w.heap.size, 3, none⟩ = false := by simp [World.frozen?, r5]
       have q50 : w5.cell? ⟨w.heap.size + 2, 0, none⟩ = some (.int .i64 2) := by simp [World.cell?, hb5]
       have q51 : w5.cell? ⟨w.heap.size + 2, 1, none⟩ = some (.string (nths l 1)) := by simp [World.cell?, hb5]
       have q52 : w5.cell? ⟨w.heap.size + 2, 2, none⟩ = some (.int .i64 0) := by simp [World.cell?, hb5]
       have q53 : w5.cell? ⟨w.heap.size + 2, 3, none⟩ = some (.int .i64 u5) := by simp [World.cell?, hb5]
       have e3 : w5.cell? ⟨bl, ol + 3, none⟩ = some (.string (nths l 3)) := (hB5.cell (p := ⟨bl, ol + 3, none⟩) hbl).trans (HC.out 3 (by omega)))
    | (go_at_call_of 61 (Value.string (nths l 3))
       refine (long_c (nths l 3) (w.heap.size + 2) 2 23 (#[.int .i64 2, .string (nths l 1), .int .i64 0, .int .i64 0].setIfInBounds 3 (.int .i64 u5)) _ (HG.out.step (hB5)) (HSZ.out _ (nths_mem (by rw [HN.out]; omega))) (by have := HG.out.size; omega) hb5 (by simp)).mono ?_
       rintro e w6 ⟨hg6, u6, hb6, he6, hu6⟩
       rw [HS3.out] at he6
       subst he6
       have hB6 : Below w.heap.size w w6 := (hB5).grown hg6 (by first | omega | (simp; omega)) (fun k hk => by injection hk with hk; omega)
       have y6 : w.heap.size < w6.heap.size := Nat.lt_of_lt_of_le (by first | omega | (simp; omega)) hg6.size
       have r6 : w6.heap[w.heap.size]? = some (.cells #[.int .i64 0, .string { data := #[] }, .int .i64 0, .int .i64 0] 23 (0, 0)) := (hg6.block _ (by first | omega | (simp; omega)) (by intro e; injection e with e; omega)).trans r5
       have d60 : w6.cell? ⟨w.heap.size, 0, none⟩ = some (.int .i64 0) := by simp [World.cell?, r6]
       have f60 : w6.frozen? ⟨w.heap.size, 0, none⟩ = false := by simp [World.frozen?, r6]
       have d61 : w6.cell? ⟨w.heap.size, 1, none⟩ = some (.string { data := #[] }) := by simp [World.cell?, r6]
       have f61 : w6.frozen? ⟨w.heap.size, 1, none⟩ = false := by simp [World.frozen?, r6]
       have d62 : w6.cell? ⟨w.heap.size, 2, none⟩ = some (.int .i64 0) := by simp [World.cell?, r6]
       have f62 : w6.frozen? ⟨w.heap.size, 2, none⟩ = false := by simp [World.frozen?, r6]
       have d63 : w6.cell? ⟨w.heap.size, 3, none⟩ = some (.int .i64 0) := by simp [World.cell?, r6]
       have f63 : w6.frozen? ⟨w.heap.size, 3, none⟩ = false := by simp [World.frozen?, r6]
       have q60 : w6.cell? ⟨w.heap.size + 2, 0, none⟩ = some (.int .i64 2) := by simp [World.cell?, hb6]
       have q61 : w6.cell? ⟨w.heap.size + 2, 1, none⟩ = some (.string (nths l 1)) := by simp [World.cell?, hb6]
       have q62 : w6.cell? ⟨w.heap.size + 2, 2, none⟩ = some (.int .i64 u6) := by simp [World.cell?, hb6]
       have q63 : w6.cell? ⟨w.heap.size + 2, 3, none⟩ = some (.int .i64 u5) := by simp [World.cell?, hb6])
    )
  refine bodyPost_ret (v := .tuple #[opV (2, nths l 1, u6, u5), .bool false]) (by simp [results, Tryz.results55, go_sem, opV, *]) rfl ?_
  have hx : parseOp l = (parseN (nths l 2)).bind fun o => (parseN (nths l 3)).map fun v => (2, nths l 1, v, o) := by
    rw [HP.out, HK.out, HN.out]; rfl
  refine ⟨bst (bst (bst (bst hB6 (Nat.le_refl _) _) (Nat.le_refl _) _) (Nat.le_refl _) _) (Nat.le_refl _) _, (2, nths l 1, u6, u5), ?_, ?_⟩
  · rw [hx]
    have h2 := HS2.out
    have h3 := HS3.out
    cases hp2 : parseN (nths l 2) <;> rw [hp2] at h2 <;> first | (cases h2; done) | rfl | (rw [Option.bind_some, Option.isSome_map]; rw [h3])
  · rw [hx]; intro q hq
    obtain ⟨o, ho, hq⟩ := Option.bind_eq_some_iff.1 hq
    obtain ⟨y, hy, rfl⟩ := Option.map_eq_some_iff.1 hq
    rw [hu5 _ ho, hu6 _ hy]
set_option maxRecDepth 100000 in
set_option maxHeartbeats 8000000 in
theorem readOp_2_bad2 (v : Value) (l : List ByteArray) (w : World) (hG : Glob w) (h : SlS w w.heap.size v l) (hsz : ∀ s ∈ l, s.size ≤ 1000000) (hn2 : 2 ≤ l.length) (hn : l.length = 4) (hs2 : (parseN (nths l 2)).isSome = false) (hk : opKind (nths l 0) = some (2)) :
    Calls Tryz.prog 55 #[v] w (OpPost w (parseOp l)) := by
  obtain ⟨A, n, c, rfl, hl, hc, hm⟩ := h.form
  obtain ⟨bl, ol, rfl, hbl, hcell⟩ := h.at_ 0 (by omega)
  have HC := Lib.hid hcell; have HK := Lib.hid hk; have HG := Lib.hid hG; have HSZ := Lib.hid hsz; have HN := Lib.hid hl
  have g1 : ¬((n : Int) < 2) := by omega
  have i0 : (0 : Int) < n := by omega
  have i1 : (1 : Int) < n := by omega
  obtain rfl : n = 4 := by omega
  have HS2 := Lib.hid hs2
  clear hs2
  have hmm := fun (t : TypeId) (w : World) => run_makeMap (P := Tryz.prog) t w
  have hL0 : ∀ o, LiesMap ((w.alloc o).alloc (.map #[] 0)) (w.heap.size + 1) [] := fun o => by have := LiesMap.made (w.alloc o); simpa using this
  have hP : parseOp l = match opKind (nths l 0) with | none => none | some k => if k = 0 then (if l.length = 2 then some (0, nths l 1, 0, 0) else none) else if k = 2 then (if l.length = 4 then (parseN (nths l 2)).bind fun o => (parseN (nths l 3)).map fun v => (2, nths l 1, v, o) else none) else (if l.length = 3 then (parseN (nths l 2)).map fun v => (k, nths l 1, v, 0) else none) := rfl
  have HP := Lib.hid hP
  clear hcell hk hG hsz hl h hP
  go_enter Tryz.func55, Tryz.ntmps55
  go_wp2_with (first
    | (refine wpList_put _ rfl (.tmp 14) (.const (.string { data := #[103, 101, 116] })) (.const (.int .i64 0)) 90 (.inr rfl) 9 3 _ Tryz.underlying90 Tryz.underlying9 (w.heap.size + 1) _ rfl (hL0 _) (.string (bs [103, 101, 116])) (.int .i64 0) rfl rfl strKey (by simp [strKey, bs]) ?_; intro w1 hL1 hT1)
    | (refine wpList_put _ rfl (.tmp 14) (.const (.string { data := #[112, 117, 116] })) (.const (.int .i64 1)) 90 (.inr rfl) 9 3 _ Tryz.underlying90 Tryz.underlying9 (w.heap.size + 1) _ rfl (hL1) (.string (bs [112, 117, 116])) (.int .i64 1) rfl rfl strKey (by simp [strKey, bs]) ?_; intro w2 hL2 hT2)
    | (refine wpList_put _ rfl (.tmp 14) (.const (.string { data := #[99, 97, 115] })) (.const (.int .i64 2)) 90 (.inr rfl) 9 3 _ Tryz.underlying90 Tryz.underlying9 (w.heap.size + 1) _ rfl (hL2) (.string (bs [99, 97, 115])) (.int .i64 2) rfl rfl strKey (by simp [strKey, bs]) ?_; intro w3 hL3 hT3)
    | (refine wpList_put _ rfl (.tmp 14) (.const (.string { data := #[97, 100, 100] })) (.const (.int .i64 3)) 90 (.inr rfl) 9 3 _ Tryz.underlying90 Tryz.underlying9 (w.heap.size + 1) _ rfl (hL3) (.string (bs [97, 100, 100])) (.int .i64 3) rfl rfl strKey (by simp [strKey, bs]) ?_; intro w4 hL4 hT4
       have hT := hT1.trans (hT2.trans (hT3.trans hT4))
       have hL : LiesMap w4 (w.heap.size + 1) opMap := hL4
       have z4 : w4.heap.size = w.heap.size + 2 := by rw [hT.2.1]; simp
       have zz : w.heap.size < w4.heap.size := by omega
       have hB4 : Below w.heap.size w w4 := hT.1 _ _ (bal (bal (B0 w) _) _) (by omega)
       have zl : bl < w4.heap.size := by omega
       have zl2 : bl < w.heap.size + 2 := by omega
       have zl3 : ¬bl = w.heap.size + 2 := by omega
       have zn2 : ¬w.heap.size = w.heap.size + 2 := by omega
       have zz2 : w.heap.size < w.heap.size + 2 := by omega
       have zn : ¬w.heap.size = w4.heap.size := by omega
       have zm : ¬bl = w.heap.size := by omega
       have e0 : w4.cell? ⟨bl, ol, none⟩ = some (.string (nths l 0)) := (hB4.cell (p := ⟨bl, ol, none⟩) hbl).trans (HC.out 0 (by omega))
       have e1 : w4.cell? ⟨bl, ol + 1, none⟩ = some (.string (nths l 1)) := (hB4.cell (p := ⟨bl, ol + 1, none⟩) hbl).trans (HC.out 1 (by omega))
       have r4 : w4.heap[w.heap.size]? = some (.cells #[.int .i64 0, .string { data := #[] }, .int .i64 0, .int .i64 0] 23 (0, 0)) := by rw [hT.2.2 _ (by omega), (bal (B0 (w.alloc _)) _).block _ (by simp), heap_alloc_new]
       have d0 : w4.cell? ⟨w.heap.size, 0, none⟩ = some (.int .i64 0) := by simp [World.cell?, r4]
       have d1 : w4.cell? ⟨w.heap.size, 1, none⟩ = some (.string { data := #[] }) := by simp [World.cell?, r4]
       have d2 : w4.cell? ⟨w.heap.size, 2, none⟩ = some (.int .i64 0) := by simp [World.cell?, r4]
       have d3 : w4.cell? ⟨w.heap.size, 3, none⟩ = some (.int .i64 0) := by simp [World.cell?, r4]
       have f0 : w4.frozen? ⟨w.heap.size, 0, none⟩ = false := by simp [World.frozen?, r4]
       have f1 : w4.frozen? ⟨w.heap.size, 1, none⟩ = false := by simp [World.frozen?, r4]
       have f2 : w4.frozen? ⟨w.heap.size, 2, none⟩ = false := by simp [World.frozen?, r4]
       have f3 : w4.frozen? ⟨w.heap.size, 3, none⟩ = false := by simp [World.frozen?, r4]
       have e2 : w4.cell? ⟨bl, ol + 2, none⟩ = some (.string (nths l 2)) := (hB4.cell (p := ⟨bl, ol + 2, none⟩) hbl).trans (HC.out 2 (by omega))
       clear hL1 hL2 hL3 hL4 hT1 hT2 hT3 hT4 hL0)
    | (refine wpList_hit _ rfl (.tmp 15) (.tmp 18) 90 true rfl 9 3 _ Tryz.underlying90 Tryz.underlying9 (w.heap.size + 1) _ rfl hL (.string (nths l 0)) (.int .i64 (2)) rfl strKey opMap_keys (opMap_hit HK.out).1 (opMap_hit HK.out).2 ?_)
    | (go_at_call_of 61 (Value.string (nths l 2))
       refine (long_c (nths l 2) (w.heap.size + 2) 3 23 #[.int .i64 2, .string (nths l 1), .int .i64 0, .int .i64 0] _ (HG.out.step (bal hB4 _)) (HSZ.out _ (nths_mem (by rw [HN.out]; omega))) (by have := HG.out.size; omega) (by rw [← z4]; exact heap_alloc_new _ _) (by simp)).mono ?_
       rintro e w5 ⟨hg5, u5, hb5, he5, hu5⟩
       rw [HS2.out] at he5
       subst he5
       have hB5 : Below w.heap.size w w5 := (bal hB4 _).grown hg5 (by first | omega | (simp; omega)) (fun k hk => by injection hk with hk; omega)
       have y5 : w.heap.size < w5.heap.size := Nat.lt_of_lt_of_le (by first | omega | (simp; omega)) hg5.size
       have r5 : w5.heap[w.heap.size]? = some (.cells #[.int .i64 0, .string { data := #[] }, .int .i64 0, .int .i64 0] 23 (0, 0)) := (hg5.block _ (by first | omega | (simp; omega)) (by intro e; injection e with e; omega)).trans (by rw [(bal (B0 w4) _).block _ zz]; exact r4)
       have d50 : w5.cell? ⟨w.heap.size, 0, none⟩ = some (.int .i64 0) := by simp [World.cell?, r5]
       have f50 : w5.frozen? ⟨w.heap.size, 0, none⟩ = false := by simp [World.frozen?, r5]
       have d51 : w5.cell? ⟨w.heap.size, 1, none⟩ = some (.string { data := #[] }) := by simp [World.cell?, r5]
       have f51 : w5.frozen? ⟨w.heap.size, 1, none⟩ = false := by simp [World.frozen?, r5]
       have d52 : w5.cell? ⟨w.heap.size, 2, none⟩ = some (.int .i64 0) := by simp [World.cell?, r5]
       have f52 : w5.frozen? ⟨w.heap.size, 2, none⟩ = false := by simp [World.frozen?, r5]
       have d53 : w5.cell? ⟨w.heap.size, 3, none⟩ = some (.int .i64 0) := by simp [World.cell?, r5]
       have f53 : w5.frozen? ⟨w.heap.size, 3, none⟩ = false := by simp [World.frozen?, r5]
       have q50 : w5.cell? ⟨w.heap.size + 2, 0, none⟩ = some (.int .i64 2) := by simp [World.cell?, hb5]
       have q51 : w5.cell? ⟨w.heap.size + 2, 1, none⟩ = some (.string (nths l 1)) := by simp [World.cell?, hb5]
       have q52 : w5.cell? ⟨w.heap.size + 2, 2, none⟩ = some (.int .i64 0) := by simp [World.cell?, hb5]
       have q53 : w5.cell? ⟨w.heap.size + 2, 3, none⟩ = some (.int .i64 u5) := by simp [World.cell?, hb5]
       have e3 : w5.cell? ⟨bl, ol + 3, none⟩ = some (.string (nths l 3)) := (hB5.cell (p := ⟨bl, ol + 3, none⟩) hbl).trans (HC.out 3 (by omega)))
    )
  refine bodyPost_ret (v := .tuple #[opV (2, nths l 1, 0, u5), .bool false]) (by simp [results, Tryz.results55, go_sem, opV, *]) rfl ?_
  have hx : parseOp l = (parseN (nths l 2)).bind fun o => (parseN (nths l 3)).map fun v => (2, nths l 1, v, o) := by
    rw [HP.out, HK.out, HN.out]; rfl
  refine ⟨bst (bst (bst (bst hB5 (Nat.le_refl _) _) (Nat.le_refl _) _) (Nat.le_refl _) _) (Nat.le_refl _) _, (2, nths l 1, 0, u5), ?_, ?_⟩
  · rw [hx]
    have h2 := HS2.out
    cases hp2 : parseN (nths l 2) <;> rw [hp2] at h2 <;> first | (cases h2; done) | rfl | (rw [Option.bind_some, Option.isSome_map]; rw [h3])
  · rw [hx]; intro q hq
    obtain ⟨o, ho, hq⟩ := Option.bind_eq_some_iff.1 hq
    obtain ⟨y, hy, rfl⟩ := Option.map_eq_some_iff.1 hq
    have h2 := HS2.out
    rw [ho] at h2; cases h2
theorem readOp_c (v : Value) (l : List ByteArray) (w : World) (hG : Glob w) (h : SlS w w.heap.size v l) (hsz : ∀ s ∈ l, s.size ≤ 1000000) :
    Calls Tryz.prog 55 #[v] w (OpPost w (if l.length < 2 then none else parseOp l)) := by
  by_cases hn2 : l.length < 2
  · rw [if_pos hn2]
    exact (readOp_short v l w h hn2).mono fun e w' ⟨hb, r, he⟩ => ⟨hb, r, he, fun q hq => by cases hq⟩
  rw [if_neg hn2]
  have hn : 2 ≤ l.length := by omega
  cases hk : opKind (nths l 0) with
  | none => exact readOp_none v l w hG h hsz hn hk
  | some k =>
    have hk' : k = 0 ∨ k = 1 ∨ k = 2 ∨ k = 3 := by
      unfold opKind at hk
      repeat' split at hk
      all_goals first | (cases hk; done) | (injection hk with hk; omega)
    rcases hk' with rfl | rfl | rfl | rfl
    · exact readOp_get v l w hG h hsz hn hk
    · by_cases h3 : l.length = 3
      · cases hs : (parseN (nths l 2)).isSome with
        | true => exact readOp_1_ok v l w hG h hsz hn h3 hs hk
        | false => exact readOp_1_bad v l w hG h hsz hn h3 hs hk
      · exact readOp_1_no v l w hG h hsz hn h3 hk
    · by_cases h4 : l.length = 4
      · cases hs : (parseN (nths l 2)).isSome with
        | false => exact readOp_2_bad2 v l w hG h hsz hn h4 hs hk
        | true =>
          cases hs3 : (parseN (nths l 3)).isSome with
          | true => exact readOp_2_ok v l w hG h hsz hn h4 hs hs3 hk
          | false => exact readOp_2_bad3 v l w hG h hsz hn h4 hs hs3 hk
      · exact readOp_2_no v l w hG h hsz hn h4 hk
    · by_cases h3 : l.length = 3
      · cases hs : (parseN (nths l 2)).isSome with
        | true => exact readOp_3_ok v l w hG h hsz hn h3 hs hk
        | false => exact readOp_3_bad v l w hG h hsz hn h3 hs hk
      · exact readOp_3_no v l w hG h hsz hn h3 hk

end Go.Proofs.YtdgciagmcjdhhaaGreatDoor
