/-
  An argument that reads as an act: its value, and what the contracts want of it.
-/
import Derived.Test.YtdgciagmcjdhhaaGreatDoorRow
set_option linter.unusedVariables false
set_option linter.unusedSimpArgs false
namespace Go.Proofs.YtdgciagmcjdhhaaGreatDoor
open Go Go.RowKit Go.ChangeShapes Go.WideShapes Go.ChangeAt
open Go.ChangeMaps (open_string shut_string)

theorem cellsInt : Tryz.prog.cellsOf 3 = 1 := by kernel_rfl
theorem cellsI64 : Tryz.prog.cellsOf 2 = 1 := by kernel_rfl
theorem cellsInts : Tryz.prog.cellsOf 24 = 1 := by kernel_rfl
theorem cellsOp : Tryz.prog.cellsOf 23 = 4 := by kernel_rfl
theorem cellsAct : Tryz.prog.cellsOf 26 = 10 := by kernel_rfl
theorem list4 {α : Type} {l : List α} (h : l.length = 4) : ∃ a b c d, l = [a, b, c, d] := by
  match l, h with
  | [a, b, c, d], _ => exact ⟨a, b, c, d, rfl⟩
theorem list7 {α : Type} {l : List α} (h : l.length = 7) : ∃ a b c d e f g, l = [a, b, c, d, e, f, g] := by
  match l, h with
  | [a, b, c, d, e, f, g], _ => exact ⟨a, b, c, d, e, f, g, rfl⟩
theorem array10 {α : Type} {cs : Array α} (h : cs.size = 10) : ∃ c0 c1 c2 c3 c4 c5 c6 c7 c8 c9, cs = #[c0, c1, c2, c3, c4, c5, c6, c7, c8, c9] := by
  obtain ⟨l⟩ := cs
  match l, h with
  | [c0, c1, c2, c3, c4, c5, c6, c7, c8, c9], _ => exact ⟨c0, c1, c2, c3, c4, c5, c6, c7, c8, c9, rfl⟩
section
variable {H : Type} {enc : TypeId × Value → H} {w : World} {base : Nat} {spare : Nat → Bool} {held : Bool}
theorem int_at {t : TypeId} {fuel : Nat} {c : Value} {x : DataW H × List MemPlace} (ht : Tryz.prog.underlying t = some (.int .i64)) (h : DataW.trod enc Tryz.prog w base spare held fuel t [c] = some x) : ∃ n, c = .int .i64 n ∧ I64 n := by
  obtain ⟨n, h1, _, hw⟩ := DataW.trod_int ht h
  injection h1 with h1
  exact ⟨n, h1, bounds_i64 hw⟩
theorem ints_sl {fuel : Nat} {c : Value} {x : DataW H × List MemPlace} (h : DataW.trod enc Tryz.prog w base spare held fuel 24 [c] = some x) : ∃ A n cap l, c = .slice A n cap ∧ l.length = n ∧ SlI w w.heap.size (.slice A n cap) l := by
  rcases open_ints Tryz.underlying24 Tryz.underlying3 cellsInt h with ⟨h1, _⟩ | ⟨a, len, cap, zs, h1, _, hl, hm, hz, _, hc, hw⟩
  · injection h1 with h1
    exact ⟨none, 0, 0, [], h1, rfl, SlI.nil_ _ _⟩
  · injection h1 with h1
    have hlz : len ≤ zs.length := by rw [hz]; split <;> omega
    have hlen : (zs.take len).length = len := by rw [List.length_take]; omega
    refine ⟨some a, len, cap, zs.take len, h1, hlen, ⟨some a, cap, by rw [List.length_map, hlen], by rw [List.length_map, hlen]; exact hl, hm, fun hne => ?_⟩, fun n hn => bounds_i64 (hw n (List.mem_of_mem_take hn))⟩
    have hpos : 0 < zs.length := by
      rcases Nat.eq_zero_or_pos zs.length with h0 | h0
      · have : zs = [] := List.eq_nil_of_length_eq_zero h0
        subst this; simp at hne
      · exact h0
    obtain ⟨b, o, rfl, hc'⟩ := ints_at hc hpos
    refine ⟨b, o, rfl, World.block_lt_of_cell? w ⟨b, o + 0, none⟩ (hc' 0 hpos), fun j u hj => ?_⟩
    rw [List.getElem?_map, List.getElem?_take] at hj
    split at hj
    · rename_i hjl
      have hjz : j < zs.length := by omega
      rw [List.getElem?_eq_getElem hjz] at hj
      simp only [Option.map_some, Option.some.injEq] at hj
      rw [hc' j hjz, ← hj, List.getD, List.getElem?_eq_getElem hjz]; rfl
    · cases hj
set_option maxRecDepth 100000 in
/-- An act as an argument. -/
theorem open_act {base0 : Nat} {v : Value} {d : DataW H} {p : List MemPlace} (hv : Value.okWide Tryz.prog w .any base0 26 v) (h : DataW.Trod enc Tryz.prog w base spare held 26 v d p) :
    ∃ (x : ActD) (Am As : Option Addr) (nm cm ns cs : Nat), v = .agg (x.cells (.slice Am nm cm) (.slice As ns cs)) ∧ x.ms.length = nm ∧ x.ss.length = ns ∧ (x.key.size ≤ 1000000 → x.In w w.heap.size (.slice Am nm cm) (.slice As ns cs)) := by
  obtain ⟨cs, rfl, hsz⟩ := okWide_struct Tryz.underlying26 hv
  obtain ⟨c0, c1, c2, c3, c4, c5, c6, c7, c8, c9, rfl⟩ := array10 (hsz.trans cellsAct)
  obtain ⟨fuel, hf⟩ := h
  obtain ⟨xs, n, _, _, _, hlen, hg⟩ := DataW.trod_struct Tryz.underlying26 hf
  obtain ⟨y0, y1, y2, y3, y4, y5, y6, rfl⟩ := list7 hlen
  have g0 : DataW.trod enc Tryz.prog w base spare held n 3 [c0] = some y0 := by simpa [Value.cells, cellsInt] using hg 0 _ rfl
  have g1 : DataW.trod enc Tryz.prog w base spare held n 3 [c1] = some y1 := by simpa [Value.cells, cellsInt] using hg 1 _ rfl
  have g2 : DataW.trod enc Tryz.prog w base spare held n 3 [c2] = some y2 := by simpa [Value.cells, cellsInt] using hg 2 _ rfl
  have g3 : DataW.trod enc Tryz.prog w base spare held n 3 [c3] = some y3 := by simpa [Value.cells, cellsInt] using hg 3 _ rfl
  have g4 : DataW.trod enc Tryz.prog w base spare held n 23 [c4, c5, c6, c7] = some y4 := by simpa [Value.cells, cellsOp] using hg 4 _ rfl
  have g5 : DataW.trod enc Tryz.prog w base spare held n 24 [c8] = some y5 := by simpa [Value.cells, cellsInts] using hg 5 _ rfl
  have g6 : DataW.trod enc Tryz.prog w base spare held n 24 [c9] = some y6 := by simpa [Value.cells, cellsInts] using hg 6 _ rfl
  obtain ⟨ys, n', _, _, _, hlen', hk⟩ := DataW.trod_struct Tryz.underlying23 g4
  obtain ⟨z0, z1, z2, z3, rfl⟩ := list4 hlen'
  have k0 : DataW.trod enc Tryz.prog w base spare held n' 3 [c4] = some z0 := by simpa [cellsInt] using hk 0 _ rfl
  have k1 : DataW.trod enc Tryz.prog w base spare held n' 9 [c5] = some z1 := by simpa [cellsStr] using hk 1 _ rfl
  have k2 : DataW.trod enc Tryz.prog w base spare held n' 2 [c6] = some z2 := by simpa [cellsI64] using hk 2 _ rfl
  have k3 : DataW.trod enc Tryz.prog w base spare held n' 2 [c7] = some z3 := by simpa [cellsI64] using hk 3 _ rfl
  obtain ⟨a0, rfl, i0⟩ := int_at Tryz.underlying3 g0
  obtain ⟨a1, rfl, i1⟩ := int_at Tryz.underlying3 g1
  obtain ⟨a2, rfl, i2⟩ := int_at Tryz.underlying3 g2
  obtain ⟨a3, rfl, i3⟩ := int_at Tryz.underlying3 g3
  obtain ⟨a4, rfl, i4⟩ := int_at Tryz.underlying3 k0
  obtain ⟨s5, h5, _, _⟩ := DataW.trod_string Tryz.underlying9 k1
  injection h5 with h5
  subst h5
  obtain ⟨a6, rfl, i6⟩ := int_at Tryz.underlying2 k2
  obtain ⟨a7, rfl, i7⟩ := int_at Tryz.underlying2 k3
  obtain ⟨Am, nm, cm, lm, rfl, hlm, hsm⟩ := ints_sl g5
  obtain ⟨As, ns, cs, ls, rfl, hls, hss⟩ := ints_sl g6
  exact ⟨⟨a0, a1, a2, a3, a4, s5, a6, a7, lm, ls⟩, Am, As, nm, cm, ns, cs, rfl, hlm, hls, fun hkey => ⟨i0, i1, i2, i3, i4, hkey, i6, i7, hsm, hss⟩⟩
end
end Go.Proofs.YtdgciagmcjdhhaaGreatDoor
