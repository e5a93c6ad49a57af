/-
  The program's find: the pattern of a kind.
-/
import Derived.Test.YtdgciagmcjdhhaaGreatDoorFns
set_option linter.unusedVariables false
set_option linter.unusedSimpArgs false
namespace Go.Proofs.YtdgciagmcjdhhaaGreatDoor
open Go Go.RowKit Go.MapKept Go.ChangeMaps

/-- The pattern of no kind. -/
def zeroPat : Value := .agg #[.string ⟨#[]⟩, .int .i64 0, .nilFunc, .nilFunc, .nilFunc, .nilFunc]
/-- What 'find' hands back. -/
def FindPost (w : World) (k : Int) (e : Ending) (w' : World) : Prop :=
  Below w.heap.size w w' ∧ ((∃ (n : Nat) (x : Item), k = n ∧ FnsOk w' n x ∧ e = .returned (.tuple #[x.val, .bool true])) ∨
    ((k < 0 ∨ 17 < k) ∧ e = .returned (.tuple #[zeroPat, .bool false])))
theorem BoxAt.later {w w' : World} {b : Nat → Nat} (h : BoxAt w b) (hb : Below w.heap.size w w') : BoxAt w' b := fun i hi =>
  ⟨Nat.lt_of_lt_of_le (h i hi).1 hb.size, (hb.cell (p := ⟨b i, 0, none⟩) (h i hi).1).trans (h i hi).2⟩
theorem kinds_out {k : Int} {seen : Array Nat} {b : Nat → Nat} (hall : ∀ i, i < (items b).length → i ∈ seen) (hS : ∀ i, i ∈ seen → ∀ kk : Nat, itemKinds[i]? = some kk → ¬k = kk) : k < 0 ∨ 17 < k := by
  apply Classical.byContradiction
  intro h
  obtain ⟨n, rfl⟩ : ∃ n : Nat, k = n := ⟨k.toNat, by omega⟩
  obtain ⟨j, hj⟩ := List.mem_iff_getElem?.1 (kinds_all n (by omega))
  have hl : j < 18 := (List.getElem?_eq_some_iff.1 hj).1
  exact hS j (hall j (by rw [items_len]; exact hl)) n hj rfl
/-- The block of a pattern that has been found, or of none yet. -/
theorem blk6 {w : World} {r : Nat} {a b c d e f : Value} {t : TypeId} (h : w.heap[r]? = some (.cells #[a, b, c, d, e, f] t (0, 0))) :
    (w.cell? ⟨r, 0, none⟩ = some a ∧ w.cell? ⟨r, 1, none⟩ = some b ∧ w.cell? ⟨r, 2, none⟩ = some c ∧ w.cell? ⟨r, 3, none⟩ = some d ∧ w.cell? ⟨r, 4, none⟩ = some e ∧ w.cell? ⟨r, 5, none⟩ = some f) ∧
    ∀ o, w.frozen? ⟨r, o, none⟩ = false :=
  ⟨⟨blk_cell h (by show _ < 6; decide), blk_cell h (by show _ < 6; decide), blk_cell h (by show _ < 6; decide), blk_cell h (by show _ < 6; decide), blk_cell h (by show _ < 6; decide), blk_cell h (by show _ < 6; decide)⟩, fun o => blk_frozen h o⟩
theorem BoxAt.set {w : World} {b : Nat → Nat} {r : Nat} (h : BoxAt w b) (hn : ∀ i, i < 10 → ¬b i = r) (o : Nat) (v : Value) : BoxAt (w.setCell ⟨r, o, none⟩ v) b := fun i hi =>
  ⟨by simpa [World.setCell] using (h i hi).1, (cell_of_set (hn i hi)).trans (h i hi).2⟩
theorem BoxAt.alloc {w : World} {b : Nat → Nat} (h : BoxAt w b) (o : Obj) : BoxAt (w.alloc o) b := h.later (bal (B0 w) o)
theorem fns_same {w : World} {b : Nat → Nat} {i k : Nat} {x : Item} (hx : (items b)[i]? = some x) (hk : itemKinds[i]? = some k) (hB : BoxAt w b) : FnsOk w k x := by
  obtain ⟨k', h1, h2⟩ := fns_at w b hB i x hx
  rw [hk] at h1
  injection h1 with h1
  subst h1
  exact h2
set_option maxRecDepth 100000 in
set_option maxHeartbeats 8000000 in
theorem find_c (k : Int) (w : World) : Calls Tryz.prog 12 #[.int .i64 k] w (FindPost w k) := by
  have HP := Lib.hid (fun W => patterns_c W)
  go_enter Tryz.func12, Tryz.ntmps12
  go_wp2_with (first
    | (go_at_call 22
       refine (HP.out _).mono ?_
       rintro e w1 ⟨M, b, rfl, hL, hX, hfr, hM, hb1⟩
       have HB1 := Lib.hid (bth (bal (B0 w) _) hb1)
       have HL := Lib.hid hL; have HX := Lib.hid hX
       have hz1 : w.heap.size < w1.heap.size := blt hb1 (by simp)
       obtain ⟨hc1, hf1⟩ := bcell hb1
       clear hL hX)
    | (refine wpList_ranges _ rfl (.tmp 6) 52 rfl 9 39 Tryz.underlying52 M _ rfl HL.out ?_
       intro w2 hI hb2 hs2))
  have HR := Lib.hid (show w1.heap[w.heap.size]? = some (.cells #[.string ⟨#[]⟩, .int .i64 0, .nilFunc, .nilFunc, .nilFunc, .nilFunc] 39 (0, 0)) from (hb1.block w.heap.size (by simp)).trans (heap_alloc_new w _))
  have hMl := HL.out.lt
  have hMne : ¬w.heap.size = M := by have : w.heap.size + 1 ≤ M := by simpa using hM
                                     omega
  have HI := Lib.hid hI
  have HFr := Lib.hid (show ∀ i, i < 10 → ¬b i = w.heap.size from fun i hi => by have := hfr i hi; simp at this; omega)
  clear hc1 hf1 hb1 hfr hM hI HP
  go_frame
  go_loopw [8] (fun _ wr => ∃ seen : Array Nat, Iter wr M w1.heap.size ((items b).map Item.kv) seen ∧ Below w1.heap.size w1 wr ∧ ∀ i, i ∈ seen → ∀ kk : Nat, itemKinds[i]? = some kk → ¬k = kk) (fun _ wr => wr.rangeLeft M w1.heap.size)
  case atStart => exact ⟨#[], HI.out, hb2, by simp⟩
  case round =>
    obtain ⟨seen, hI, hB, hS⟩ := hrel
    have HI := Lib.hid hI; have HS := Lib.hid hS
    have hR := (hB.block w.heap.size hz1).trans HR.out
    clear hI hS
    have HRr := Lib.hid hR
    clear hR
    go_wp2_with (first
      | (at_next; refine wpList_step _ rfl (.tmp 7) rfl M w1.heap.size _ seen rfl HI.out ?_ ?_))
    · intro hall
      have HO := Lib.hid (kinds_out hall HS.out)
      clear hall
      obtain ⟨⟨d0, d1, d2, d3, d4, d5⟩, fr⟩ := blk6 HRr.out
      have f0 := fr 0
      have f1 := fr 1
      have f2 := fr 2
      have f3 := fr 3
      have f4 := fr 4
      have f5 := fr 5
      clear fr
      go_wp2_with fail
      refine bodyPost_ret (v := .tuple #[zeroPat, .bool false]) (by simp [results, Tryz.results12, go_sem, zeroPat, d0, d1, d2, d3, d4, d5]) rfl ?_
      refine ⟨?_, .inr ⟨HO.out, rfl⟩⟩
      have hb := (HB1.out).trans (hB.mono HB1.out.size)
      repeat' first | with_reducible exact hb | with_reducible refine bst ?_ (Nat.le_refl _) _
    · intro i key v w' x hx hkv hns hI' hlt hT hen
      obtain ⟨rfl, rfl⟩ := Prod.mk.inj hkv
      have hB' := hT.1 w1.heap.size w1 hB (Nat.le_refl _)
      obtain ⟨kk, hkk, hF⟩ := fns_at w' b (HX.out.later hB') i x hx
      have hkind : x.kind = kk := hF.kind
      have HF := Lib.hid hF; have HI' := Lib.hid hI'; have Hlt := Lib.hid hlt; have HT := Lib.hid hT
      have hz : w.heap.size < w'.heap.size := Nat.lt_of_lt_of_le hz1 hB'.size
      have hn1 : ¬w.heap.size = w'.heap.size := by omega
      have hn2 : ¬w'.heap.size = w.heap.size := by omega
      have hRw := (HT.out.2.2 w.heap.size (by omega)).trans HRr.out
      obtain ⟨⟨d0, d1, d2, d3, d4, d5⟩, fr⟩ := blk6 hRw
      have f0 := fr 0
      have f1 := fr 1
      have f2 := fr 2
      have f3 := fr 3
      have f4 := fr 4
      have f5 := fr 5
      have HRw := Lib.hid hRw
      simp only [Item.val, patV, fnV] at hen ⊢
      by_cases he : k = kk
      · have e1 : (x.kind == k) = true := by simp [hkind, he]
        have HE := Lib.hid he
        have HK := Lib.hid hkk
        have HXx := Lib.hid hx
        clear he hkind hkv hx hkk hns hI' hlt hT fr hF hRw
        go_wp2_with fail
        refine bodyPost_ret (v := .tuple #[x.val, .bool true]) (by simp [results, Tryz.results12, go_sem, Item.val, patV, fnV, d0, d1, d2, d3, d4, d5, hz, hn1, hn2]) rfl ?_
        have hb := (HB1.out).trans (hB'.mono HB1.out.size)
        refine ⟨?_, .inl ⟨kk, x, HE.out, fns_same HXx.out HK.out ?_, rfl⟩⟩
        · repeat' first | with_reducible exact hb | with_reducible refine bst ?_ (Nat.le_refl _) _ | with_reducible refine bal ?_ _
        · have hbx := HX.out.later hB'
          repeat' first | with_reducible exact hbx | with_reducible refine BoxAt.set ?_ HFr.out _ _ | with_reducible refine BoxAt.alloc ?_ _
      · have e1 : (x.kind == k) = false := by simp [hkind]; omega
        have HN := Lib.hid he
        have HK := Lib.hid hkk
        clear he hkind hkv hx hkk hns hI' hlt hT fr hF hRw d0 d1 d2 d3 d4 d5 f0 f1 f2 f3 f4 f5
        go_wp2_with fail
        have hIa := HI'.out.below (bal (B0 w') (.cells #[.string (bs x.word), .int .i64 x.kind, .func (.func x.gu) #[] #[], .func (.func x.gf) #[] x.caps, .func (.func x.gr) #[] #[], .func (.func x.gt) #[] #[]] 39)) HI'.out.lt.1 HI'.out.lt.2
        refine ⟨⟨seen.push i, hIa, bal hB' _, fun j hj => ?_⟩, ?_⟩
        · rcases Array.mem_push.1 hj with h | h
          · exact HS.out j h
          · subst h
            intro kk' hkk'
            rw [HK.out] at hkk'
            injection hkk' with hkk'
            subst hkk'
            exact HN.out
        · rw [hIa.left, ← HI'.out.left]
          exact Hlt.out
end Go.Proofs.YtdgciagmcjdhhaaGreatDoor
