/-
  Acts as data, and the two functions that compare acts: both say whether the acts are equal.
-/
import Derived.Test.YtdgciagmcjdhhaaGreatDoorLib
set_option linter.unusedVariables false
set_option linter.unusedSimpArgs false
namespace Go.Proofs.YtdgciagmcjdhhaaGreatDoor
open Go Go.RowKit

theorem Sl.form {w : World} {B : Nat} {v : Value} {xs : List Value} (h : Sl w B v xs) : ∃ A n c, v = .slice A n c ∧ xs.length = n ∧ n ≤ c ∧ c ≤ maxLen := by
  obtain ⟨A, c, rfl, h1, h2, _⟩ := h
  exact ⟨A, _, c, rfl, rfl, h1, h2⟩
theorem SlI.form {w : World} {B : Nat} {v : Value} {l : List Int} (h : SlI w B v l) : ∃ A n c, v = .slice A n c ∧ l.length = n ∧ n ≤ c ∧ c ≤ 9223372036854775807 := by
  obtain ⟨A, n, c, h1, h2, h3, h4⟩ := h.1.form
  exact ⟨A, n, c, h1, by simpa using h2, h3, h4⟩
theorem SlI.nil_ (w : World) (B : Nat) : SlI w B (.slice none 0 0) [] := ⟨Sl.nil_ w B, by simp⟩
theorem I64.zero : I64 0 := ⟨by decide, by decide⟩
theorem SlS.form {w : World} {B : Nat} {v : Value} {l : List ByteArray} (h : SlS w B v l) : ∃ A n c, v = .slice A n c ∧ l.length = n ∧ n ≤ c ∧ c ≤ 9223372036854775807 := by
  obtain ⟨A, n, c, h1, h2, h3, h4⟩ := Sl.form h
  exact ⟨A, n, c, h1, by simpa using h2, h3, h4⟩
def nth (l : List Int) (k : Nat) : Int := l.getD k 0
def nths (l : List ByteArray) (k : Nat) : ByteArray := l.getD k ByteArray.empty
theorem nth_eq {l : List Int} {k : Nat} (h : k < l.length) : nth l k = l[k] := by simp [nth, List.getD, List.getElem?_eq_getElem h]
theorem nths_eq {l : List ByteArray} {k : Nat} (h : k < l.length) : nths l k = l[k] := by simp [nths, List.getD, List.getElem?_eq_getElem h]
theorem ext_nth {l l' : List Int} (h : l.length = l'.length) (hk : ∀ k, k < l.length → nth l k = nth l' k) : l = l' :=
  List.ext_getElem h fun j h1 h2 => by rw [← nth_eq h1, ← nth_eq h2]; exact hk j h1
/-- The cell of the k-th element. -/
theorem SlI.at_ {w : World} {B : Nat} {A : Option Addr} {n c : Nat} {l : List Int} (h : SlI w B (.slice A n c) l) (k : Nat) (hk : k < n) :
    ∃ b o, A = some ⟨b, o, none⟩ ∧ b < B ∧ (∀ j, j < n → w.cell? ⟨b, o + j, none⟩ = some (.int .i64 (nth l j))) := by
  obtain ⟨A', c', he, h1, h2, h3⟩ := h.1
  injection he with e1 e2 e3
  subst e1
  have hl : l.length = n := by simpa using e2.symm
  obtain ⟨b, o, hA, hb, hc⟩ := h3 (fun e => by have : l = [] := by simpa using e
                                               subst this; simp at hl; omega)
  exact ⟨b, o, hA, hb, fun j hj => hc j _ (by rw [List.getElem?_map]; simp [nth, nths, List.getElem?_eq_getElem (show j < l.length by omega)])⟩
theorem SlS.at_ {w : World} {B : Nat} {A : Option Addr} {n c : Nat} {l : List ByteArray} (h : SlS w B (.slice A n c) l) (k : Nat) (hk : k < n) :
    ∃ b o, A = some ⟨b, o, none⟩ ∧ b < B ∧ (∀ j, j < n → w.cell? ⟨b, o + j, none⟩ = some (.string (nths l j))) := by
  obtain ⟨A', c', he, h1, h2, h3⟩ := id h
  injection he with e1 e2 e3
  subst e1
  have hl : l.length = n := by simpa using e2.symm
  obtain ⟨b, o, hA, hb, hc⟩ := h3 (fun e => by have : l = [] := by simpa using e
                                               subst this; simp at hl; omega)
  exact ⟨b, o, hA, hb, fun j hj => hc j _ (by rw [List.getElem?_map]; simp [nth, nths, List.getElem?_eq_getElem (show j < l.length by omega)])⟩

set_option maxHeartbeats 400000 in
theorem Ints_c (v u : Value) (xs ys : List Int) (w : World) (B : Nat) (hx : SlI w B v xs) (hy : SlI w B u ys) :
    Calls Tryz.prog 23 #[v, u] w fun e w' => e = .returned (.bool (xs == ys)) ∧ Below w.heap.size w w' := by
  obtain ⟨A, n, c, rfl, hl, hc, hm⟩ := hx.form
  obtain ⟨A', n', c', rfl, hl', hc', hm'⟩ := hy.form
  by_cases hnn : n = n'
  · obtain rfl : n = n' := hnn
    have HX := Lib.hid hx; have HY := Lib.hid hy; have HL := Lib.hid hl; have HL' := Lib.hid hl'
    clear hx hy hl hl'
    go_enter Tryz.func23, Tryz.ntmps23
    go_wp2
    go_loopw [5] (fun i wr => ∃ k : Nat, k ≤ n ∧ i = .int .i64 k ∧ (∀ j, j < k → nth xs j = nth ys j) ∧ ∃ q, wr = w.drewN q) (fun i _ => n - (intOf i).toNat)
    case atStart => exact ⟨0, Nat.zero_le _, rfl, by omega, 0, rfl⟩
    case round =>
      obtain ⟨k, hk, rfl, heq, q, rfl⟩ := hrel
      have HE := Lib.hid heq
      clear heq
      by_cases hlt : k < n
      · obtain ⟨b, o, rfl, hb, hcell⟩ := HX.out.at_ k hlt
        obtain ⟨b', o', rfl, hb', hcell'⟩ := HY.out.at_ k hlt
        have h1 := hcell k hlt
        have h2 := hcell' k hlt
        clear hcell hcell'
        have hI1 : (0 : Int) ≤ k := by omega
        have hI2 : (k : Int) < n := by omega
        by_cases hv : nth xs k = nth ys k
        · have hb1 : (nth xs k != nth ys k) = false := by simp [hv]
          have hstep : ∀ j, j < k + 1 → nth xs j = nth ys j := fun j hj => by
            by_cases e : j = k
            · rw [e]; exact hv
            · exact HE.out j (by omega)
          have HS := Lib.hid hstep
          clear hv hstep
          generalize nth xs k = x at *
          generalize nth ys k = y at *
          go_wp2_with fail
          go_quiet (fail)
          go_wp2
          exact ⟨⟨k + 1, by omega, by go_num, HS.out, _, rfl⟩, by simp [intOf]; omega⟩
        · have hb1 : (nth xs k != nth ys k) = true := by simp [hv]
          have HN : Hid (xs ≠ ys) := fun h => hv (by rw [h])
          clear hv
          generalize nth xs k = x at *
          generalize nth ys k = y at *
          go_wp2_with fail
          go_quiet (fail)
          go_wp2
          go_ret
          exact ⟨ret_bool (by simpa using HN.out), by first | exact below_drewN (Below.refl _ _) _ | exact below_drewN (below_drewN (Below.refl _ _) _) _⟩
      · go_wp2
        go_ret
        refine ⟨ret_bool ?_, below_drewN (Below.refl _ _) q⟩
        have hkn : k = n := by omega
        have : xs = ys := ext_nth (by rw [HL.out, HL'.out]) (fun j h1 => HE.out j (by rw [HL.out] at h1; omega))
        simp [this]
  · have hne : ((n : Int) != n') = true := by simp; omega
    go_enter Tryz.func23, Tryz.ntmps23
    go_wp2
    go_ret
    refine ⟨ret_bool ?_, Below.refl _ _⟩
    simp; intro h; subst h; omega

/-- An act as data. -/
structure ActD where
  kind : Int
  a : Int
  b : Int
  c : Int
  ok : Int
  key : ByteArray
  val : Int
  old : Int
  ms : List Int
  ss : List Int
/-- An act as a value: m and s are the values of its two slices. -/
def ActD.cells (x : ActD) (m s : Value) : Array Value := #[.int .i64 x.kind, .int .i64 x.a, .int .i64 x.b, .int .i64 x.c, .int .i64 x.ok, .string x.key, .int .i64 x.val, .int .i64 x.old, m, s]
theorem ActD.cells_def (x : ActD) (m s : Value) : x.cells m s = #[.int .i64 x.kind, .int .i64 x.a, .int .i64 x.b, .int .i64 x.c, .int .i64 x.ok, .string x.key, .int .i64 x.val, .int .i64 x.old, m, s] := rfl
structure ActD.In (x : ActD) (w : World) (B : Nat) (m s : Value) : Prop where
  kind : I64 x.kind
  a : I64 x.a
  b : I64 x.b
  c : I64 x.c
  ok : I64 x.ok
  key : x.key.size ≤ 1000000
  val : I64 x.val
  old : I64 x.old
  ms : SlI w B m x.ms
  ss : SlI w B s x.ss
theorem ActD.In.below {x : ActD} {w w' : World} {B B' : Nat} {m s : Value} (h : x.In w B m s) (hb : Below B' w w') (hB : B ≤ B') : x.In w' B m s :=
  ⟨h.kind, h.a, h.b, h.c, h.ok, h.key, h.val, h.old, h.ms.below hb hB, h.ss.below hb hB⟩
theorem ActD.In.more {x : ActD} {w : World} {B B' : Nat} {m s : Value} (h : x.In w B m s) (hB : B ≤ B') : x.In w B' m s :=
  ⟨h.kind, h.a, h.b, h.c, h.ok, h.key, h.val, h.old, h.ms.more hB, h.ss.more hB⟩
/-- A call that hands back an act. -/
def RetAct (w : World) (y : ActD) (e : Ending) (w' : World) : Prop := ∃ m s, e = .returned (.agg (y.cells m s)) ∧ y.In w' w'.heap.size m s ∧ Below w.heap.size w w'
def sameB (x y : ActD) : Bool :=
  (x.kind == y.kind) && (x.a == y.a) && (x.b == y.b) && (x.c == y.c) && ((x.ok == y.ok) && (x.key.data.toList == y.key.data.toList) && (x.val == y.val) && (x.old == y.old)) && (x.ms == y.ms) && (x.ss == y.ss)

set_option maxHeartbeats 1000000 in
theorem Same_c (x y : ActD) (m s m' s' : Value) (w : World) (hx : x.In w w.heap.size m s) (hy : y.In w w.heap.size m' s') :
    Calls Tryz.prog 11 #[.agg (x.cells m s), .agg (y.cells m' s')] w fun e w' => e = .returned (.bool (sameB x y)) ∧ Below w.heap.size w w' := by
  obtain ⟨Am, nm, cm, rfl, _, _, _⟩ := hx.ms.form
  obtain ⟨As, ns, cs, rfl, _, _, _⟩ := hx.ss.form
  obtain ⟨Am', nm', cm', rfl, _, _, _⟩ := hy.ms.form
  obtain ⟨As', ns', cs', rfl, _, _, _⟩ := hy.ss.form
  have HX := Lib.hid hx; have HY := Lib.hid hy
  clear hx hy
  unfold ActD.cells
  go_enter Tryz.func11, Tryz.ntmps11
  have hB0 : Below w.heap.size w w := B0 w
  go_wp2_with (first
    | (go_at_call_of 23 (Value.slice Am nm cm); refine (Ints_c _ _ x.ms y.ms _ w.heap.size (HX.out.ms.below (bal (bal (B0 w) _) _) (Nat.le_refl _)) (HY.out.ms.below (bal (bal (B0 w) _) _) (Nat.le_refl _))).mono ?_; rintro e w1 ⟨rfl, hb1⟩; have hB1 := bth (bal (bal (B0 w) _) _) hb1; obtain ⟨hc1, hf1⟩ := bcell hb1)
    | (go_at_call_of 23 (Value.slice As ns cs); refine (Ints_c _ _ x.ss y.ss _ w.heap.size (HX.out.ss.below hB1 (Nat.le_refl _)) (HY.out.ss.below hB1 (Nat.le_refl _))).mono ?_; rintro e w2 ⟨rfl, hb2⟩; have hB2 := bth hB1 hb2))
  all_goals go_ret
  all_goals refine ⟨ret_bool ?_, ?_⟩
  all_goals first
    | exact hB2
    | exact hB1
    | exact bal (bal (B0 w) _) _
    | (simp only [sameB, ← ba_toList]; simp [*])

set_option maxHeartbeats 1000000 in
theorem same_c (x y : ActD) (m s m' s' : Value) (w : World) (hx : x.In w w.heap.size m s) (hy : y.In w w.heap.size m' s') :
    Calls Tryz.prog 14 #[.agg (x.cells m s), .agg (y.cells m' s')] w fun e w' => e = .returned (.bool (sameB x y)) ∧ Below w.heap.size w w' := by
  obtain ⟨Am, nm, cm, rfl, _, _, _⟩ := hx.ms.form
  obtain ⟨As, ns, cs, rfl, _, _, _⟩ := hx.ss.form
  obtain ⟨Am', nm', cm', rfl, _, _, _⟩ := hy.ms.form
  obtain ⟨As', ns', cs', rfl, _, _, _⟩ := hy.ss.form
  have HX := Lib.hid hx; have HY := Lib.hid hy
  clear hx hy
  unfold ActD.cells
  go_enter Tryz.func14, Tryz.ntmps14
  have hB0 : Below w.heap.size w w := B0 w
  go_wp2_with (first
    | (go_at_call_of 27 (Value.slice Am nm cm); refine (Equal_c _ _ x.ms y.ms _ w.heap.size (HX.out.ms.below (bal (bal (B0 w) _) _) (Nat.le_refl _)) (HY.out.ms.below (bal (bal (B0 w) _) _) (Nat.le_refl _))).mono ?_; rintro e w1 ⟨rfl, hb1⟩; have hB1 := bth (bal (bal (B0 w) _) _) hb1; obtain ⟨hc1, hf1⟩ := bcell hb1)
    | (go_at_call_of 27 (Value.slice As ns cs); refine (Equal_c _ _ x.ss y.ss _ w.heap.size (HX.out.ss.below hB1 (Nat.le_refl _)) (HY.out.ss.below hB1 (Nat.le_refl _))).mono ?_; rintro e w2 ⟨rfl, hb2⟩; have hB2 := bth hB1 hb2))
  all_goals go_ret
  all_goals refine ⟨ret_bool ?_, ?_⟩
  all_goals first
    | exact hB2
    | exact hB1
    | exact bal (bal (B0 w) _) _
    | (simp only [sameB, ← ba_toList]; simp [*])

end Go.Proofs.YtdgciagmcjdhhaaGreatDoor
