/-
  The program's operation, words and readOp.
-/
import Derived.Test.YtdgciagmcjdhhaaGreatDoorMaps
set_option linter.unusedVariables false
set_option linter.unusedSimpArgs false
namespace Go.Proofs.YtdgciagmcjdhhaaGreatDoor
open Go Go.RowKit Go.MapKept Go.ChangeMaps

def oddR (r : Nat) : Bool := decide (r < 33) || decide (126 < r)
theorem decode_ok {s : ByteArray} {i : Nat} (h : okByte (s.get! i) = true) : Utf8.decode s i = ((s.get! i).toNat, 1) := by
  have := (okByte_iff _).1 h
  unfold Utf8.decode
  simp only [Nat.add_zero]
  rw [if_pos (by omega)]
theorem decode_odd {s : ByteArray} {i : Nat} (h : okByte (s.get! i) = false) : oddR (Utf8.decode s i).1 = true := by
  have h' : ¬(33 ≤ (s.get! i).toNat ∧ (s.get! i).toNat ≤ 126) := by rw [← okByte_iff, h]; simp
  unfold Utf8.decode oddR
  simp only [Nat.add_zero, Utf8.runeError]
  split
  · simp; omega
  · split
    · split
      · simp; omega
      · simp
    · split
      · split
        · rename_i hc
          simp at hc ⊢; omega
        · simp
      · split
        · split
          · rename_i hc
            simp at hc ⊢; omega
          · simp
        · simp
theorem idx_odd (s : ByteArray) : ∀ (f pos : Nat), s.size ≤ pos + f → (0 ≤ Lib.idxFuncFrom oddR true s f pos ↔ ∃ k, pos ≤ k ∧ k < s.size ∧ okByte (s.get! k) = false)
  | 0, pos, h => by
    simp only [Lib.idxFuncFrom]
    exact ⟨fun h => absurd h (by decide), fun ⟨k, h1, h2, _⟩ => by omega⟩
  | f + 1, pos, h => by
    simp only [Lib.idxFuncFrom]
    by_cases hp : pos < s.size
    · rw [if_pos hp]
      cases ho : okByte (s.get! pos) with
      | true =>
        have hd := decode_ok ho
        have hn : oddR (s.get! pos).toNat = false := by have := (okByte_iff _).1 ho; simp [oddR]; omega
        rw [hd]
        simp only [hn, Bool.false_eq_true, if_false]
        rw [idx_odd s f (pos + 1) (by omega)]
        constructor
        · rintro ⟨k, h1, h2⟩; exact ⟨k, by omega, h2⟩
        · rintro ⟨k, h1, h2, h3⟩
          refine ⟨k, ?_, h2, h3⟩
          rcases Nat.lt_or_ge pos k with h | h
          · omega
          · have : k = pos := by omega
            subst this; rw [ho] at h3; cases h3
      | false =>
        rw [if_pos (decode_odd ho)]
        exact ⟨fun _ => ⟨pos, Nat.le_refl _, hp, ho⟩, fun _ => by omega⟩
    · rw [if_neg hp]
      exact ⟨fun h => absurd h (by decide), fun ⟨k, h1, h2, _⟩ => by omega⟩
theorem get!_eq (s : ByteArray) (k : Nat) (h : k < s.size) : s.get! k = s[k] := by
  rw [ByteArray.getElem_eq_getElem_data]
  exact getElem!_pos s.data k h
theorem odd_iff (s : ByteArray) : decide (0 ≤ Lib.idxFunc oddR true s) = !keyOk s := by
  have h := idx_odd s s.size 0 (by omega)
  cases hk : keyOk s with
  | true =>
    simp only [Bool.not_true, decide_eq_false_iff_not]
    rw [Lib.idxFunc, h]
    rintro ⟨k, _, h2, h3⟩
    rw [get!_eq s k h2] at h3
    rw [keyOk_false h2 (by simp [h3])] at hk; cases hk
  | false =>
    simp only [Bool.not_false, decide_eq_true_eq]
    rw [Lib.idxFunc, h]
    apply Classical.byContradiction
    intro hn
    rw [keyOk_true (fun k hk => by
      cases ho : okByte s[k] with
      | true => rfl
      | false => exact absurd ⟨k, Nat.zero_le _, hk, by rw [get!_eq s k hk]; exact ho⟩ hn)] at hk
    cases hk
theorem odd1_p (w : World) : PredAt Tryz.prog 88 #[] Go.Proofs.encR oddR w := by
  intro W r _
  show Calls _ _ _ _ _
  go_enter Tryz.func88, Tryz.ntmps88
  go_wp2
  · go_ret
    refine ⟨?_, 0, rfl⟩
    have e1 : decide ((r : Int) < 33) = decide (r < 33) := decide_eq_decide.2 (by omega)
    have e2 : decide ((126 : Int) < r) = decide (126 < r) := decide_eq_decide.2 (by omega)
    show Ending.returned (.bool (decide ((r : Int) < 33) || decide ((126 : Int) < r))) = _
    rw [e1, e2]; rfl
  · go_ret
    refine ⟨?_, 0, rfl⟩
    show Ending.returned (.bool true) = _
    simp only [oddR, Ending.returned.injEq, Value.bool.injEq]
    simp; omega
theorem key_nil {s : ByteArray} : s.toList = [] ↔ s.size = 0 := by
  rw [ba_toList]
  have e : s.size = s.data.toList.length := by rw [Array.length_toList]; rfl
  rw [e]
  exact List.length_eq_zero_iff.symm
set_option maxHeartbeats 1000000 in
theorem operation_c (x : ActD) (w : World) :
    Calls Tryz.prog 53 #[.agg (opCells x)] w fun e w' => e = .returned (.bool (validOpB x)) ∧ Below w.heap.size w w' := by
  have CF := fun W => Tryz.strings_ContainsFunc 88 #[] (enters_of Tryz.func88 (by kernel_rfl) rfl) oddR x.key W (odd1_p W)
  simp only [odd_iff] at CF
  have HCF := Lib.hid CF
  clear CF
  rw [opCells]
  go_enter Tryz.func53, Tryz.ntmps53
  go_wp2_with (go_at_call 89; refine (HCF.out _).mono ?_; rintro e w1 ⟨rfl, hb1⟩; have hB1 := bth (bal (B0 w) _) hb1; have hz1 : w.heap.size < w1.heap.size := blt hb1 (by simp); obtain ⟨hc1, hf1⟩ := bcell hb1)
  all_goals
    go_ret
    refine ⟨ret_bool ?_, by first | exact hB1 | exact bal (B0 w) _⟩
    clear HCF
    rw [Bool.eq_iff_iff]
    simp_all only [validOpB, key_nil, List.isEmpty_iff, Bool.and_eq_true, Bool.or_eq_true, decide_eq_true_eq, beq_iff_eq, Bool.not_eq_true', bne_iff_ne, beq_eq_false_iff_ne, not_or, Bool.false_eq_true, false_iff, ne_eq, true_iff, not_true, not_false_iff, Bool.not_eq_false, Bool.not_eq_true]
    try clear hb1
    try clear hc1
    try clear hf1
    try clear hB1
    try clear hz1
    try (cases hk : keyOk x.key <;> simp only [hk, false_and, or_self, List.isEmpty_eq_false_iff, key_nil, ne_eq, Bool.not_eq_false', Bool.not_true, Bool.not_false, Bool.false_eq_true, and_false, not_false_iff, and_true, or_true, or_false, Bool.true_eq_false, reduceCtorEq, false_or, true_and, not_true_eq_false, not_false_eq_true] at * <;> omega)

/-- The words of an operation. -/
def wordsL (x : ActD) : List ByteArray :=
  if x.ok = 0 then [bs [103, 101, 116], x.key] else if x.ok = 1 then [bs [112, 117, 116], x.key, bs (Lib.itoa x.val)] else
  if x.ok = 2 then [bs [99, 97, 115], x.key, bs (Lib.itoa x.old), bs (Lib.itoa x.val)] else [bs [97, 100, 100], x.key, bs (Lib.itoa x.val)]
theorem intKey {k : Int} : IsKey (.int .i64) (.int .i64 k) := rfl


/-- Block k holds the strings l. -/
def SlAt (W : World) (k : Nat) (l : List ByteArray) : Prop := k < W.heap.size ∧ ∀ j u, (l.map Value.string)[j]? = some u → W.cell? ⟨k, j, none⟩ = some u
theorem cell_put {W W' : World} {b k j : Nat} {o : Obj} (hT : TurnsOnly (W.alloc o) W' b) (hk : k < W.heap.size) (hne : k ≠ b) : W'.cell? ⟨k, j, none⟩ = W.cell? ⟨k, j, none⟩ :=
  (hT.cell (by simpa using hne)).trans ((bal (B0 W) o).cell (p := ⟨k, j, none⟩) hk)
theorem lt_put {W W' : World} {b k : Nat} {o : Obj} (hT : TurnsOnly (W.alloc o) W' b) (h : k < W.heap.size) : k < W'.heap.size := by
  rw [hT.2.1]; simp; omega
theorem SlAt.put {W W' : World} {b k : Nat} {o : Obj} {l : List ByteArray} (h : SlAt W k l) (hT : TurnsOnly (W.alloc o) W' b) (hne : k ≠ b) : SlAt W' k l :=
  ⟨lt_put hT h.1, fun j u hu => (cell_put hT h.1 hne).trans (h.2 j u hu)⟩
theorem SlAt.new_ {W W' : World} {b t : Nat} {C : Array Value} {l : List ByteArray} (hT : TurnsOnly (W.alloc (.cells C t)) W' b) (hb : b < W.heap.size) (hC : C = (l.map Value.string).toArray) : SlAt W' W.heap.size l :=
  ⟨by rw [hT.2.1]; simp, fun j u hu => by
    rw [hT.cell (by simp; omega), hC]
    simp only [World.cell?, heap_alloc_new]
    simpa using hu⟩
theorem SlAt.slS {W : World} {k n : Nat} {l : List ByteArray} (h : SlAt W k l) (hn : n = l.length) (hl : l.length ≤ 100) : SlS W W.heap.size (.slice (some ⟨k, 0, none⟩) n n) l := by
  subst hn
  exact ⟨_, l.length, by simp, by simp, by simp [maxLen]; omega, fun _ => ⟨k, 0, rfl, h.1, fun j u hu => by rw [Nat.zero_add]; exact h.2 j u hu⟩⟩

set_option maxRecDepth 100000 in
set_option maxHeartbeats 4000000 in
theorem words_c (x : ActD) (w : World) (hG : Glob w) (h0 : 0 ≤ x.ok) (h3 : x.ok ≤ 3) (hv : I64 x.val) (ho : I64 x.old) :
    Calls Tryz.prog 57 #[.agg (opCells x)] w fun e w' => ∃ u, e = .returned u ∧ SlS w' w'.heap.size u (wordsL x) ∧ Below w.heap.size w w' := by
  have H0 := Lib.hid h0; have H3 := Lib.hid h3
  have HF1 := Lib.hid (fun W (hg : Glob W) => FormatInt_c x.val hv W hg)
  have HF2 := Lib.hid (fun W (hg : Glob W) => FormatInt_c x.old ho W hg)
  have HG := Lib.hid hG
  have hmm := fun (t : TypeId) (w : World) => run_makeMap (P := Tryz.prog) t w
  clear h0 h3 hG hv ho
  rw [opCells]
  go_enter Tryz.func57, Tryz.ntmps57
  go_wp2_with fail
  go_region_held3 (fun w' => w'.cell? ⟨w.heap.size, 2, none⟩ = some (.int .i64 x.val) ∧ w'.cell? ⟨w.heap.size, 3, none⟩ = some (.int .i64 x.old)) (go_simp)
    (first
      | (go_at_call_of 63 (Value.int IntKind.i64 x.val); refine (HF1.out _ (HG.out.step (bdr (bal (B0 w) _)))).mono ?_; rintro e w1 ⟨rfl, hb1⟩; have hB1 := bth (bdr (bal (B0 w) _)) hb1; have hz1 : w.heap.size < w1.heap.size := blt hb1 (by simp); obtain ⟨hc1, hf1⟩ := bcellD hb1)
      | (go_at_call_of 63 (Value.int IntKind.i64 x.old); refine (HF2.out _ (HG.out.step hB1)).mono ?_; rintro e w2 ⟨rfl, hb2⟩; have hB2 := bth hB1 hb2; have hz2 : w.heap.size < w2.heap.size := blt hb2 hz1; obtain ⟨hc2, hf2⟩ := bcell hb2))
  have hL0 := LiesMap.made w2
  have hne : ¬w.heap.size = w2.heap.size := by omega
  have hz2a : w.heap.size < w2.heap.size + 1 := by omega
  have hz2b : w.heap.size < w2.heap.size + 1 + 1 := by omega
  have k1 : w2.cell? ⟨w.heap.size, 1, none⟩ = some (.string x.key) := by go_simp
  have k0 : w2.cell? ⟨w.heap.size, 0, none⟩ = some (.int .i64 x.ok) := by go_simp
  have hB2' := bal hB2 (.map #[] 0)
  clear hc1 hf1 hc2 hf2 hb1 hb2 hB1 hB2
  go_wp2_with (first
    | (refine wpList_put _ rfl (.tmp 11) (.const (.int .i64 0)) (.tmp 14) 91 (.inr rfl) 3 43 _ Tryz.underlying91 Tryz.underlying3 w2.heap.size _ rfl (hL0.later (bal (B0 _) _)) (.int .i64 0) (.slice (some ⟨w2.heap.size + 1, 0, none⟩) 2 2) rfl rfl intKey (by simp) ?_; intro w3 hL1 hT1
       have m3 : w2.heap.size < w3.heap.size := lt_put hT1 (by simp)
       have z3 : w.heap.size < w3.heap.size := lt_put hT1 (by simp; omega)
       have z3a : w.heap.size < w3.heap.size + 1 := by omega
       have k3 : w3.cell? ⟨w.heap.size, 1, none⟩ = some (.string x.key) := (cell_put hT1 (by simp; omega) hne).trans (by go_simp)
       have o3 : w3.cell? ⟨w.heap.size, 0, none⟩ = some (.int .i64 x.ok) := (cell_put hT1 (by simp; omega) hne).trans (by go_simp)
       have s3 := SlAt.new_ (l := [bs [103, 101, 116], x.key]) hT1 (by simp) rfl
       have hB3 := hT1.1 w.heap.size w (bal hB2' _) (by omega))
    | (refine wpList_put _ rfl (.tmp 11) (.const (.int .i64 1)) (.tmp 18) 91 (.inr rfl) 3 43 _ Tryz.underlying91 Tryz.underlying3 w2.heap.size _ rfl (hL1.later (bal (B0 _) _)) (.int .i64 1) (.slice (some ⟨w3.heap.size, 0, none⟩) 3 3) rfl rfl intKey (by simp [intKey]) ?_; intro w4 hL2 hT2
       have m4 : w2.heap.size < w4.heap.size := lt_put hT2 m3
       have z4 : w.heap.size < w4.heap.size := lt_put hT2 z3
       have z4a : w.heap.size < w4.heap.size + 1 := by omega
       have k4 : w4.cell? ⟨w.heap.size, 1, none⟩ = some (.string x.key) := (cell_put hT2 z3 hne).trans k3
       have o4 : w4.cell? ⟨w.heap.size, 0, none⟩ = some (.int .i64 x.ok) := (cell_put hT2 z3 hne).trans o3
       have s4 := SlAt.new_ (l := [bs [112, 117, 116], x.key, bs (Lib.itoa x.val)]) hT2 m3 rfl
       have s34 := s3.put hT2 (by simp)
       have hB4 := hT2.1 w.heap.size w (bal hB3 _) (by omega))
    | (refine wpList_put _ rfl (.tmp 11) (.const (.int .i64 2)) (.tmp 23) 91 (.inr rfl) 3 43 _ Tryz.underlying91 Tryz.underlying3 w2.heap.size _ rfl (hL2.later (bal (B0 _) _)) (.int .i64 2) (.slice (some ⟨w4.heap.size, 0, none⟩) 4 4) rfl rfl intKey (by simp [intKey]) ?_; intro w5 hL3 hT3
       have m5 : w2.heap.size < w5.heap.size := lt_put hT3 m4
       have z5 : w.heap.size < w5.heap.size := lt_put hT3 z4
       have z5a : w.heap.size < w5.heap.size + 1 := by omega
       have k5 : w5.cell? ⟨w.heap.size, 1, none⟩ = some (.string x.key) := (cell_put hT3 z4 hne).trans k4
       have o5 : w5.cell? ⟨w.heap.size, 0, none⟩ = some (.int .i64 x.ok) := (cell_put hT3 z4 hne).trans o4
       have s5 := SlAt.new_ (l := [bs [99, 97, 115], x.key, bs (Lib.itoa x.old), bs (Lib.itoa x.val)]) hT3 m4 rfl
       have s35 := s34.put hT3 (by simp)
       have s45 := s4.put hT3 (by omega)
       have hB5 := hT3.1 w.heap.size w (bal hB4 _) (by omega))
    | (refine wpList_put _ rfl (.tmp 11) (.const (.int .i64 3)) (.tmp 27) 91 (.inr rfl) 3 43 _ Tryz.underlying91 Tryz.underlying3 w2.heap.size _ rfl (hL3.later (bal (B0 _) _)) (.int .i64 3) (.slice (some ⟨w5.heap.size, 0, none⟩) 3 3) rfl rfl intKey (by simp [intKey]) ?_; intro w6 hL4 hT4
       have m6 : w2.heap.size < w6.heap.size := lt_put hT4 m5
       have z6 : w.heap.size < w6.heap.size := lt_put hT4 z5
       have o6 : w6.cell? ⟨w.heap.size, 0, none⟩ = some (.int .i64 x.ok) := (cell_put hT4 z5 hne).trans o5
       have s6 := SlAt.new_ (l := [bs [97, 100, 100], x.key, bs (Lib.itoa x.val)]) hT4 m5 rfl
       have s36 := s35.put hT4 (by simp)
       have s46 := s45.put hT4 (by omega)
       have s56 := s5.put hT4 (by omega)
       have hB6 := hT4.1 w.heap.size w (bal hB5 _) (by omega))
    | (refine wpList_hit _ rfl (.tmp 28) (.tmp 30) 91 false rfl 3 43 _ Tryz.underlying91 Tryz.underlying3 w2.heap.size _ rfl hL4 (.int .i64 x.ok)
        (if x.ok = 0 then .slice (some ⟨w2.heap.size + 1, 0, none⟩) 2 2 else if x.ok = 1 then .slice (some ⟨w3.heap.size, 0, none⟩) 3 3 else if x.ok = 2 then .slice (some ⟨w4.heap.size, 0, none⟩) 4 4 else .slice (some ⟨w5.heap.size, 0, none⟩) 3 3) rfl intKey (by simp [intKey])
        (fun p hp he => by simp only [List.nil_append, List.cons_append, List.mem_cons, List.not_mem_nil, or_false] at hp; rcases hp with rfl | rfl | rfl | rfl <;> simp only [Value.int.injEq, true_and] at he <;> simp [← he])
        (by have h0 := H0.out; have h3 := H3.out; rcases (show x.ok = 0 ∨ x.ok = 1 ∨ x.ok = 2 ∨ x.ok = 3 by omega) with h | h | h | h <;> simp [h]) ?_))
  · go_ret
    refine ⟨_, rfl, ?_, hB6⟩
    rw [wordsL, if_pos (by assumption)]
    have h := s36.slS (n := 2) rfl (by simp)
    rw [show (w2.alloc (Obj.map #[] 0)).heap.size = w2.heap.size + 1 by simp] at h
    exact h
  · go_ret
    refine ⟨_, rfl, ?_, hB6⟩
    rw [wordsL, if_neg (by assumption), if_pos (by assumption)]
    exact s46.slS rfl (by simp)
  · go_ret
    refine ⟨_, rfl, ?_, hB6⟩
    rw [wordsL, if_neg (by assumption), if_neg (by assumption), if_pos (by assumption)]
    exact s56.slS rfl (by simp)
  · go_ret
    refine ⟨_, rfl, ?_, hB6⟩
    rw [wordsL, if_neg (by assumption), if_neg (by assumption), if_neg (by assumption)]
    exact s6.slS rfl (by simp)
end Go.Proofs.YtdgciagmcjdhhaaGreatDoor
