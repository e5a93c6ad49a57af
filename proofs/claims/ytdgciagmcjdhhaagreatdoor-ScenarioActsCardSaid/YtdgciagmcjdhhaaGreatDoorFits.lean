/-
  The closures that look whether an act's numbers fit. (Printed by gen_fits.py.)
-/
import Derived.Test.YtdgciagmcjdhhaaGreatDoorOps
set_option linter.unusedVariables false
set_option linter.unusedSimpArgs false
namespace Go.Proofs.YtdgciagmcjdhhaaGreatDoor
open Go Go.RowKit Go.MapKept Go.ChangeMaps

/-- What the closure 'fits' of kind k says of an act. -/
def fitK (k : Int) (x : ActD) : Bool :=
  if k = 5 then inR x.a 1 16 && decide (x.ss.length ≤ 20) && ssOk x.ss else if k = 15 then msOk x.ms else kindOk { x with kind := k }
/-- The word of the range test that a kind of one number has. -/
def oneK (k : Int) (n : Int) : Bool :=
  if k = 0 ∨ k = 1 ∨ k = 2 then inR n 0 1048576 else if k = 3 ∨ k = 6 ∨ k = 13 then inR n 1 16 else if k = 8 ∨ k = 9 then inR n 1 16 || inR n 101 108 else if k = 11 then inR n 1 8 else inR n 1 200
theorem ssGood_iff {n : Int} : ssGood n ↔ inR n 0 128 = true := by simp [ssGood, inR]

set_option maxHeartbeats 1000000 in
theorem index_c (v : Value) (l : List Int) (w : World) (h : SlI w w.heap.size v l) (hl : l.length ≤ 1000000) :
    Calls Tryz.prog 85 #[v, .func (.func 39) #[] #[]] w fun e w' => ∃ r, e = .returned (.int .i64 r) ∧ decide (0 ≤ r) = !ssOk l ∧ Below w.heap.size w w' := by
  obtain ⟨A, n, c, rfl, hn, hc, hm⟩ := h.form
  have HL := Lib.hid hn
  have H := Lib.hid h
  have eg := enters_of Tryz.func39 (by kernel_rfl) rfl
  have hn' : n ≤ 1000000 := by omega
  clear h hn hl
  go_enter Tryz.func85, Tryz.ntmps85
  go_wp2_with fail
  go_loopw [8] (fun i wr => ∃ k : Nat, k ≤ n ∧ i = .int .i64 k ∧ Below w.heap.size w wr ∧ ∀ j, j < k → ssGood (nth l j)) (fun i _ => n - (intOf i).toNat)
  case atStart => exact ⟨0, Nat.zero_le _, rfl, B0 w, by omega⟩
  case round =>
    obtain ⟨k, hk, rfl, hb, hgood⟩ := hrel
    have HGd := Lib.hid hgood
    clear hgood
    by_cases hlt : k < n
    · obtain ⟨b, o, rfl, hbB, hcell⟩ := (H.out.below hb (Nat.le_refl _)).at_ k hlt
      have h1 := hcell k hlt
      clear hcell
      have i3 : IntKind.i64.wrap ((k : Int) + 1) = (k : Int) + 1 := IntWalk.i64_in _ (by omega)
      have oc := fun W => odd_c (nth l k) W
      cases hg : inR (nth l k) 0 128 with
      | true =>
        rw [hg] at oc
        have HO := Lib.hid oc
        clear oc
        go_wp2_with (go_at_call 39; refine (HO.out _).mono ?_; rintro e w1 ⟨rfl, rfl⟩)
        exact ⟨⟨k + 1, by omega, by go_num, hb, fun j hj => by
          by_cases e : j = k
          · subst e; exact ssGood_iff.2 hg
          · exact HGd.out j (by omega)⟩, by simp [intOf]; omega⟩
      | false =>
        rw [hg] at oc
        have HO := Lib.hid oc
        clear oc
        go_wp2_with (go_at_call 39; refine (HO.out _).mono ?_; rintro e w1 ⟨rfl, rfl⟩)
        go_ret
        refine ⟨_, rfl, ?_, hb⟩
        rw [ssOk_false (k := k) (by rw [HL.out]; exact hlt) (fun h => by rw [ssGood_iff, hg] at h; cases h)]
        simp
    · go_wp2_with fail
      go_ret
      refine ⟨_, rfl, ?_, hb⟩
      rw [ssOk_true (fun j hj => HGd.out j (by rw [HL.out] at hj; omega))]
      rfl
set_option maxHeartbeats 1000000 in
theorem idxOdd_c (v : Value) (l : List Int) (w : World) (h : SlI w w.heap.size v l) (hl : l.length ≤ 1000000) :
    Calls Tryz.prog 40 #[v, .func (.func 39) #[] #[]] w fun e w' => e = .returned (.bool (!ssOk l)) ∧ Below w.heap.size w w' := by
  obtain ⟨A, n, c, rfl, hn, hc, hm⟩ := h.form
  have HI := Lib.hid (index_c _ l w h hl)
  clear h hn hl
  go_enter Tryz.func40, Tryz.ntmps40
  go_wp2_with (go_at_call 85; refine HI.out.mono ?_; rintro e w1 ⟨r, rfl, hr, hb1⟩)
  go_ret
  exact ⟨rfl, hb1⟩
set_option maxHeartbeats 1000000 in
theorem fits_plain (x : ActD) (m s : Value) (w : World) :
    Calls Tryz.prog 82 #[.agg (x.cells m s)] w fun e w' => e = .returned (.bool true) ∧ Below w.heap.size w w' := by
  rw [ActD.cells_def]
  go_enter Tryz.func82, Tryz.ntmps82
  go_wp2_with fail
  go_ret
  exact ⟨rfl, bal (B0 w) _⟩
set_option maxHeartbeats 1000000 in
theorem fits_single (x : ActD) (m s : Value) (w : World) (g box : Nat) (p : Bool) (eg : ∀ args w, (callFunc g args).run Tryz.prog w = .ok (.enter g args) w)
    (hg : ∀ W, Calls Tryz.prog g #[.int .i64 x.a] W fun e w' => e = .returned (.bool p) ∧ w' = W) (hb : w.cell? ⟨box, 0, none⟩ = some (.func (.func g) #[] #[])) (hbox : box < w.heap.size) :
    Calls Tryz.prog 78 #[.agg (x.cells m s), .pointer (some ⟨box, 0, none⟩)] w fun e w' => e = .returned (.bool p) ∧ Below w.heap.size w w' := by
  have HG := Lib.hid hg
  clear hg
  have hne : ¬box = w.heap.size := by omega
  rw [ActD.cells_def]
  go_enter Tryz.func78, Tryz.ntmps78
  go_wp2_with (go_at_fn g; refine (HG.out _).mono ?_; rintro e w1 ⟨rfl, rfl⟩)
  go_ret
  exact ⟨rfl, bal (B0 w) _⟩
set_option maxHeartbeats 1000000 in
theorem fits_fail (x : ActD) (m s : Value) (w : World) :
    Calls Tryz.prog 47 #[.agg (x.cells m s)] w fun e w' => e = .returned (.bool (inR x.a 1 16 && inR x.b 0 1048576)) ∧ Below w.heap.size w w' := by
  rw [ActD.cells_def]
  go_enter Tryz.func47, Tryz.ntmps47
  go_wp2_with (first
    | (go_at_call 31; refine (machine_c x.a _).mono ?_; rintro e w1 ⟨rfl, rfl⟩)
    | (go_at_call 34; refine (count_c x.b _).mono ?_; rintro e w2 ⟨rfl, rfl⟩)
)
  all_goals
    go_ret
    refine ⟨ret_bool ?_, by first | exact hB | exact bal (B0 w) _⟩
    simp_all
set_option maxHeartbeats 1000000 in
theorem fits_call (x : ActD) (m s : Value) (w : World) :
    Calls Tryz.prog 59 #[.agg (x.cells m s)] w fun e w' => e = .returned (.bool (inR x.a 1 8 && inR x.b 1 8)) ∧ Below w.heap.size w w' := by
  rw [ActD.cells_def]
  go_enter Tryz.func59, Tryz.ntmps59
  go_wp2_with (first
    | (go_at_call 32; refine (client_c x.a _).mono ?_; rintro e w1 ⟨rfl, rfl⟩)
    | (go_at_call 52; refine (group_c x.b _).mono ?_; rintro e w2 ⟨rfl, rfl⟩)
)
  all_goals
    go_ret
    refine ⟨ret_bool ?_, by first | exact hB | exact bal (B0 w) _⟩
    simp_all [inR]
    try omega
set_option maxHeartbeats 1000000 in
theorem fits_transfer (x : ActD) (m s : Value) (w : World) :
    Calls Tryz.prog 65 #[.agg (x.cells m s)] w fun e w' => e = .returned (.bool (inR x.a 1 16 && inR x.c 1 16 && inR x.b 0 8)) ∧ Below w.heap.size w w' := by
  rw [ActD.cells_def]
  go_enter Tryz.func65, Tryz.ntmps65
  go_wp2_with (first
    | (go_at_call_of 31 (Value.int IntKind.i64 x.a); refine (machine_c x.a _).mono ?_; rintro e w1 ⟨rfl, rfl⟩)
    | (go_at_call 52; refine (group_c x.b _).mono ?_; rintro e w2 ⟨rfl, rfl⟩)
    | (go_at_call_of 31 (Value.int IntKind.i64 x.c); refine (machine_c x.c _).mono ?_; rintro e w3 ⟨rfl, rfl⟩)
)
  all_goals
    go_ret
    refine ⟨ret_bool ?_, by first | exact hB | exact bal (B0 w) _⟩
    simp_all
set_option maxHeartbeats 1000000 in
theorem fits_request (x : ActD) (m s : Value) (w : World) :
    Calls Tryz.prog 51 #[.agg (x.cells m s)] w fun e w' => e = .returned (.bool (inR x.a 1 8 && inR x.b 0 8 && validOpB x)) ∧ Below w.heap.size w w' := by
  rw [ActD.cells_def]
  go_enter Tryz.func51, Tryz.ntmps51
  go_wp2_with (first
    | (go_at_call 32; refine (client_c x.a _).mono ?_; rintro e w1 ⟨rfl, rfl⟩)
    | (go_at_call 52; refine (group_c x.b _).mono ?_; rintro e w2 ⟨rfl, rfl⟩)
    | (go_at_call 53; refine (operation_c x _).mono ?_; rintro e w3 ⟨rfl, hb3⟩; have hB := bth (bal (B0 w) _) hb3)
)
  all_goals
    go_ret
    refine ⟨ret_bool ?_, by first | exact hB | exact bal (B0 w) _⟩
    simp_all
set_option maxHeartbeats 1000000 in
theorem fits_crash (x : ActD) (m s : Value) (w : World) (hs : SlI w w.heap.size s x.ss) (hl : x.ss.length ≤ 1000000) :
    Calls Tryz.prog 38 #[.agg (x.cells m s)] w fun e w' => e = .returned (.bool (inR x.a 1 16 && decide (x.ss.length ≤ 20) && ssOk x.ss)) ∧ Below w.heap.size w w' := by
  obtain ⟨As, ns, cs, rfl, hns, hcs, hms⟩ := hs.form
  have HS := Lib.hid hs
  have HN := Lib.hid hns
  have HLs := Lib.hid hl
  clear hs hns hl
  rw [ActD.cells_def]
  go_enter Tryz.func38, Tryz.ntmps38
  go_wp2_with (first
    | (go_at_call 31; refine (machine_c x.a _).mono ?_; rintro e w1 ⟨rfl, rfl⟩)
    | (go_at_call 40; go_loud (refine (idxOdd_c _ x.ss _ ((HS.out.below (bal (B0 w) _) (Nat.le_refl _)).more (Below.size (bal (B0 w) _))) (by have := HLs.out; omega)).mono ?_; rintro e w3 ⟨rfl, hb3⟩; have hB := bth (bal (B0 w) _) hb3))
)
  all_goals
    go_ret
    refine ⟨ret_bool ?_, by first | exact hB | exact bal (B0 w) _⟩
    have hn := HN.out
    clear HS
    cases h1 : inR x.a 1 16 <;> by_cases h2 : x.ss.length ≤ 20 <;> first | (simp [h2] at *; done) | (simp_all; done) | (exfalso; omega)

end Go.Proofs.YtdgciagmcjdhhaaGreatDoor
