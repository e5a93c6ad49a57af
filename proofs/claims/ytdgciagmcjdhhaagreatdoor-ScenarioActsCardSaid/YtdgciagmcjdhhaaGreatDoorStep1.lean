/-
  The program's small range tests, and the closures that test numbers.
-/
import Derived.Test.YtdgciagmcjdhhaaGreatDoorTxt
set_option linter.unusedVariables false
set_option linter.unusedSimpArgs false
namespace Go.Proofs.YtdgciagmcjdhhaaGreatDoor
open Go Go.RowKit

theorem inR_t {n a b : Int} (h : a ≤ n ∧ n ≤ b) : inR n a b = true := by simp [inR, h.1, h.2]
theorem inR_f1 {n a b : Int} (h : n < a) : inR n a b = false := by simp [inR]; omega
theorem inR_iff {n a b : Int} : inR n a b = true ↔ a ≤ n ∧ n ≤ b := by simp [inR]

theorem machine_c (n : Int) (w : World) : Calls Tryz.prog 31 #[.int .i64 n] w fun e w' => e = .returned (.bool (inR n 1 16)) ∧ w' = w := by
  go_enter Tryz.func31, Tryz.ntmps31
  go_wp2
  all_goals (go_ret; exact ⟨ret_bool (by simp [inR]; try omega), rfl⟩)
theorem client_c (n : Int) (w : World) : Calls Tryz.prog 32 #[.int .i64 n] w fun e w' => e = .returned (.bool (inR n 1 8)) ∧ w' = w := by
  go_enter Tryz.func32, Tryz.ntmps32
  go_wp2
  all_goals (go_ret; exact ⟨ret_bool (by simp [inR]; try omega), rfl⟩)
theorem group_c (n : Int) (w : World) : Calls Tryz.prog 52 #[.int .i64 n] w fun e w' => e = .returned (.bool (inR n 0 8)) ∧ w' = w := by
  go_enter Tryz.func52, Tryz.ntmps52
  go_wp2
  all_goals (go_ret; exact ⟨ret_bool (by simp [inR]; try omega), rfl⟩)
theorem count_c (n : Int) (w : World) : Calls Tryz.prog 34 #[.int .i64 n] w fun e w' => e = .returned (.bool (inR n 0 1048576)) ∧ w' = w := by
  go_enter Tryz.func34, Tryz.ntmps34
  go_wp2
  all_goals (go_ret; exact ⟨ret_bool (by simp [inR]; try omega), rfl⟩)
theorem calm_c (n : Int) (w : World) : Calls Tryz.prog 36 #[.int .i64 n] w fun e w' => e = .returned (.bool (inR n 1 200)) ∧ w' = w := by
  go_enter Tryz.func36, Tryz.ntmps36
  go_wp2
  all_goals (go_ret; exact ⟨ret_bool (by simp [inR]; try omega), rfl⟩)
theorem odd_c (n : Int) (w : World) : Calls Tryz.prog 39 #[.int .i64 n] w fun e w' => e = .returned (.bool (!inR n 0 128)) ∧ w' = w := by
  go_enter Tryz.func39, Tryz.ntmps39
  go_wp2
  all_goals (go_ret; exact ⟨ret_bool (by rw [Bool.eq_iff_iff]; simp [inR]; try omega), rfl⟩)
theorem endpoint_c (n : Int) (hn : I64 n) (w : World) : Calls Tryz.prog 30 #[.int .i64 n] w fun e w' => e = .returned (.bool (inR n 1 16 || inR n 101 108)) ∧ w' = w := by
  have hcl : inR (n - 100) 1 8 = inR n 101 108 := by simp only [inR]; congr 1 <;> exact decide_eq_decide.2 (by omega)
  obtain ⟨h1, h2⟩ := hn
  by_cases hm : inR n 1 16 = true
  · go_enter Tryz.func30, Tryz.ntmps30
    go_wp2_with (go_at_call 31; refine (machine_c _ _).mono ?_; rintro e w1 ⟨rfl, rfl⟩)
    go_ret
    exact ⟨ret_bool (by simp [hm]), rfl⟩
  · have hm' : inR n 1 16 = false := by simpa using hm
    clear hm
    by_cases hs : -9223372036854775808 ≤ n - 100
    · go_enter Tryz.func30, Tryz.ntmps30
      go_wp2_with (first | (go_at_call 31; refine (machine_c _ _).mono ?_; rintro e w1 ⟨rfl, rfl⟩) | (go_at_call 32; refine (client_c _ _).mono ?_; rintro e w2 ⟨rfl, rfl⟩))
      go_ret
      exact ⟨ret_bool (by simp [hm', hcl]), rfl⟩
    · have hf : inR (n - 100) 1 8 = false := inR_f1 (by omega)
      have hf2 : inR (wrap64 (n - 100)) 1 8 = false := by
        have : wrap64 (n - 100) = n - 100 + 18446744073709551616 := by unfold wrap64; omega
        rw [this]; simp [inR]; omega
      go_enter Tryz.func30, Tryz.ntmps30
      go_wp2_with (first | (go_at_call 31; refine (machine_c _ _).mono ?_; rintro e w1 ⟨rfl, rfl⟩) | (go_at_call 32; refine (client_c _ _).mono ?_; rintro e w2 ⟨rfl, rfl⟩))
      go_ret
      exact ⟨ret_bool (by simp [hm', ← hcl, hf, hf2]), rfl⟩

theorem own_below {w w' : World} {base : Nat} {e : TypeId} {sz : Nat} {v : Value} {n : Nat} {xs : List Value} (h : w.ownsRow base e sz v n xs) (hb : Below w.heap.size w w') : w'.ownsRow base e sz v n xs := by
  obtain ⟨hl, h⟩ := h
  refine ⟨hl, ?_⟩
  rcases h with h | ⟨g, cap, cur, hv, hg, hh, hrest⟩
  · exact .inl h
  · refine .inr ⟨g, cap, cur, hv, hg, ?_, hrest⟩
    have hlt : g < w.heap.size := by
      rcases Nat.lt_or_ge g w.heap.size with h | h
      · exact h
      · rw [Array.getElem?_eq_none h] at hh; cases hh
    rw [hb.block g hlt]; exact hh
theorem strInfo : (Tryz.prog.info? 9).map (fun i => (i.zero, i.size, i.bytes)) = some (some (.string ⟨#[]⟩), 1, 16) := by kernel_rfl
/-- v owns the strings l, in a row that is no older than block base. -/
def OwnS (w : World) (base : Nat) (v : Value) (l : List ByteArray) : Prop := w.ownsRow base 9 1 v l.length (l.map Value.string)
theorem OwnS.below {w w' : World} {base : Nat} {v : Value} {l : List ByteArray} (h : OwnS w base v l) (hb : Below w.heap.size w w') : OwnS w' base v l := own_below h hb
theorem OwnS.slS {w : World} {base : Nat} {v : Value} {l : List ByteArray} (h : OwnS w base v l) : SlS w w.heap.size v l := Sl.of_own h
theorem OwnS.nil_ (w : World) (base : Nat) : OwnS w base (.slice none 0 0) [] := ⟨rfl, .inl ⟨rfl, rfl⟩⟩
theorem OwnS.alloc {w : World} {base : Nat} {v : Value} {l : List ByteArray} (h : OwnS w base v l) (o : Obj) : (w.alloc o).ownsRow base 9 1 v l.length (l.map Value.string) := World.ownsRow.alloc h o
theorem OwnS.snoc {w : World} {base : Nat} {v : Value} {l : List ByteArray} {x : ByteArray} (h : w.ownsRow base 9 1 v (l.length + 1) (l.map Value.string ++ [Value.string x])) : OwnS w base v (l ++ [x]) := by
  unfold OwnS; rw [List.length_append, List.map_append]; exact h
/-- What an append onto a row of the call's own leaves. -/
theorem OwnS.grown {a w w' : World} {v : Value} {l : List ByteArray} (h : OwnS w a.heap.size v l) (hb : Below a.heap.size a w) (hg : w.grownBy w' v.ownBlock) : Below a.heap.size a w' :=
  hb.grown hg hb.size fun k hk => (World.ownsRow.lt h k hk).1
theorem one_str (x : ByteArray) : ∀ u ∈ [Value.string x], u.oneCell' = true := by simp [Value.oneCell']
def itoaB (n : Int) : ByteArray := bs (Lib.itoa n)

set_option maxRecDepth 100000 in
set_option maxHeartbeats 1000000 in
theorem texts_c (v : Value) (l : List Int) (w : World) (hG : Glob w) (h : SlI w w.heap.size v l) (hl : l.length ≤ 100000) :
    Calls Tryz.prog 45 #[v] w fun e w' => ∃ u, e = .returned u ∧ OwnS w' w.heap.size u (l.map itoaB) ∧ Below w.heap.size w w' := by
  obtain ⟨A, n, c, rfl, hn, hc, hm⟩ := h.form
  obtain ⟨i0, hi, hz0, hz1, hz2⟩ := info_parts strInfo
  have HL := Lib.hid hn
  have H := Lib.hid h
  have HG := Lib.hid hG
  have hn' : n ≤ 100000 := by omega
  clear h hn hl hG
  go_enter Tryz.func45, Tryz.ntmps45
  go_wp2_with fail
  go_loopw [3, 8] (fun s i wr => ∃ k : Nat, k ≤ n ∧ i = .int .i64 k ∧ OwnS wr w.heap.size s ((l.take k).map itoaB) ∧ Below w.heap.size w wr) (fun _ i _ => n - (intOf i).toNat)
  case atStart => exact ⟨0, Nat.zero_le _, rfl, OwnS.nil_ _ _, B0 w⟩
  case round =>
    obtain ⟨k, hk, rfl, hown, hb⟩ := hrel
    have HO := Lib.hid hown
    clear hown
    by_cases hlt : k < n
    · obtain ⟨b, o, rfl, hbB, hcell⟩ := (H.out.below hb (Nat.le_refl _)).at_ k hlt
      have h1 := hcell k hlt
      clear hcell
      have hI : I64 (nth l k) := H.out.2 _ (nth_mem (by rw [HL.out]; exact hlt))
      go_wp2_with (first
        | (go_at_call 87; refine (Itoa_c _ hI _ (HG.out.step hb)).mono ?_; rintro e w1 ⟨rfl, hb1⟩; have hO1 := HO.out.below hb1)
        | (at_builtin; refine wpList_append_own _ rfl (.tmp 12) (.tmp 15) _ rfl w.heap.size 9 i0 _ 1 16 Tryz.underlying43 hi hz0 hz1 hz2 rfl (by decide) _ _ _ rfl (hO1.alloc _) ⟨w1.heap.size, 0, none⟩ 1 1 [.string (bs (Lib.itoa (nth l k)))] rfl rfl (cell_one_new _ _ _) (one_str _) (by simp [maxLen]; omega) (by simp; omega) (Nat.le_trans hb.size (by have := hb1.size; simp; omega)) ?_; intro v' w2 hown' hgrow _))
      refine ⟨⟨k + 1, by omega, by go_num, ?_, (hO1.below (bal (B0 _) _)).grown (bal (bth hb hb1) _) hgrow⟩, by simp [intOf]; omega⟩
      rw [take_snoc_nth l k (by rw [HL.out]; exact hlt), List.map_append]
      exact OwnS.snoc hown'
    · go_wp2_with fail
      go_ret
      exact ⟨_, rfl, by rw [List.take_of_length_le (by rw [HL.out]; omega)] at HO; exact HO.out, hb⟩
end Go.Proofs.YtdgciagmcjdhhaaGreatDoor
