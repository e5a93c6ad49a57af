/-
  Words for memory, used by all walks of this claim: a slice value that reads as a list of cells; what a later world keeps. No program in sight.
  The shapes of 'Reads' follow the guide's sheet of words (extra-words), turned to addresses of the form block, offset.
-/
import Derived.WalkKit
import Derived.WalkSpells
import Derived.BigQuiet
import Derived.Deep.QuietTactic
import Derived.Deep.Draws
import Derived.Laws.OwnMore
import Derived.Deep.AppendLies
import Derived.Lib.Hide
set_option linter.unusedVariables false
set_option linter.unusedSimpArgs false
namespace Go.Proofs.YtdgciagmcjdhhaaGreatDoor
open Go Go.RowKit

/-- The slice value v reads as the cells xs (one cell an element), and lies below block B. -/
def Sl (w : World) (B : Nat) (v : Value) (xs : List Value) : Prop :=
  ∃ A c, v = .slice A xs.length c ∧ xs.length ≤ c ∧ c ≤ maxLen ∧ (xs ≠ [] → ∃ b o, A = some ⟨b, o, none⟩ ∧ b < B ∧ ∀ (j : Nat) u, xs[j]? = some u → w.cell? ⟨b, o + j, none⟩ = some u)

section
variable {w w' : World} {B B' : Nat} {v : Value} {xs : List Value}
theorem Sl.keep (h : Sl w B v xs) (hk : ∀ b o, b < B → w'.cell? ⟨b, o, none⟩ = w.cell? ⟨b, o, none⟩) : Sl w' B v xs := by
  obtain ⟨A, c, rfl, h1, h2, h3⟩ := h
  refine ⟨A, c, rfl, h1, h2, fun hn => ?_⟩
  obtain ⟨b, o, rfl, hb, hc⟩ := h3 hn
  exact ⟨b, o, rfl, hb, fun j u hu => (hk _ _ hb).trans (hc j u hu)⟩
theorem Sl.more (h : Sl w B v xs) (hB : B ≤ B') : Sl w B' v xs := by
  obtain ⟨A, c, rfl, h1, h2, h3⟩ := h
  refine ⟨A, c, rfl, h1, h2, fun hn => ?_⟩
  obtain ⟨b, o, rfl, hb, hc⟩ := h3 hn
  exact ⟨b, o, rfl, by omega, hc⟩
theorem Sl.below (h : Sl w B v xs) (hb : Below B w w') : Sl w' B v xs := h.keep fun b o hp => hb.cell (p := ⟨b, o, none⟩) hp
theorem Sl.belowM {B₂ : Nat} (h : Sl w B v xs) (hb : Below B₂ w w') (hB : B ≤ B₂) : Sl w' B v xs := h.keep fun b o hp => hb.cell (p := ⟨b, o, none⟩) (Nat.lt_of_lt_of_le hp hB)
theorem Sl.nil_ (w : World) (B : Nat) : Sl w B (.slice none 0 0) [] := ⟨none, 0, rfl, by simp, by simp, fun h => absurd rfl h⟩
/-- The slice's shape, where it holds something and where it is empty. -/
theorem Sl.cases_ (h : Sl w B v xs) : (xs = [] ∧ ∃ A c, v = .slice A 0 c ∧ c ≤ maxLen) ∨
    (0 < xs.length ∧ ∃ b o c, v = .slice (some ⟨b, o, none⟩) xs.length c ∧ xs.length ≤ c ∧ c ≤ maxLen ∧ b < B ∧ ∀ (j : Nat) u, xs[j]? = some u → w.cell? ⟨b, o + j, none⟩ = some u) := by
  obtain ⟨A, c, rfl, h1, h2, h3⟩ := h
  by_cases hn : xs = []
  · subst hn; exact .inl ⟨rfl, A, c, rfl, h2⟩
  · obtain ⟨b, o, rfl, hb, hc⟩ := h3 hn
    exact .inr ⟨List.length_pos_iff.2 hn, b, o, c, rfl, h1, h2, hb, hc⟩
theorem Sl.of_own {base : Nat} {e : TypeId} {n : Nat} (h : w.ownsRow base e 1 v n xs) : Sl w w.heap.size v xs := by
  have hl : xs.length = n := by simpa using h.1
  by_cases hn : 0 < n
  · obtain ⟨g, cap, hv, _, hlt⟩ := h.form hn
    have hc : n ≤ cap ∧ cap ≤ maxLen := by
      rcases h.2 with ⟨hv', _⟩ | ⟨g', cap', _, hv', _, _, h1, h2, _⟩
      · rw [hv] at hv'; cases hv'
      · rw [hv] at hv'; injection hv' with _ _ h3; subst h3; exact ⟨h1, h2⟩
    subst hv
    refine ⟨_, cap, by rw [hl], by omega, hc.2, fun _ => ⟨g, 0, rfl, hlt, fun j u hu => ?_⟩⟩
    have := h.cells (g := g) rfl j u hu
    by_cases hj : j = 0
    · subst hj; simpa [Addr.add] using this
    · simpa [Addr.add, hj] using this
  · have h0 : n = 0 := by omega
    subst h0
    have hx : xs = [] := List.eq_nil_of_length_eq_zero hl
    subst hx
    rcases h.2 with ⟨rfl, _⟩ | ⟨g, cap, _, rfl, _, _, h1, h2, _⟩
    · exact Sl.nil_ _ _
    · exact ⟨_, cap, rfl, by simp, h2, fun h => absurd rfl h⟩
end

/-- What every later world keeps of an older one: the cells and marks of the old blocks. -/
theorem bcell {W w1 : World} (hb : Below W.heap.size W w1) : (∀ b o, b < W.heap.size → w1.cell? ⟨b, o, none⟩ = W.cell? ⟨b, o, none⟩) ∧ (∀ b o, b < W.heap.size → w1.frozen? ⟨b, o, none⟩ = W.frozen? ⟨b, o, none⟩) :=
  ⟨fun b o h => hb.cell (p := ⟨b, o, none⟩) h, fun b o h => hb.frozen (p := ⟨b, o, none⟩) h⟩
theorem below_drewN {B : Nat} {a w : World} (h : Below B a w) (n : Nat) : Below B a (w.drewN n) := ⟨h.os, h.tape, h.output, h.size, h.block⟩
theorem below_drew {B : Nat} {a w : World} (h : Below B a w) : Below B a w.drew := ⟨h.os, h.tape, h.output, h.size, h.block⟩

theorem B0 (w : World) : Below w.heap.size w w := Below.refl _ _
theorem bal {a w : World} (h : Below a.heap.size a w) (o : Obj) : Below a.heap.size a (w.alloc o) := h.alloc h.size o
theorem bst {a w : World} (h : Below a.heap.size a w) {p : Addr} (hp : a.heap.size ≤ p.block) (u : Value) : Below a.heap.size a (w.setCell p u) := h.setCell hp u
theorem bdr {a w : World} (h : Below a.heap.size a w) : Below a.heap.size a w.drew := ⟨h.os, h.tape, h.output, h.size, h.block⟩
theorem bdrN {a w : World} (h : Below a.heap.size a w) (n : Nat) : Below a.heap.size a (w.drewN n) := below_drewN h n
theorem bth {a w w' : World} (h : Below a.heap.size a w) (k : Below w.heap.size w w') : Below a.heap.size a w' := h.trans (k.mono h.size)

theorem blt {W W' : World} {n : Nat} (hb : Below W.heap.size W W') (h : n < W.heap.size) : n < W'.heap.size := Nat.lt_of_lt_of_le h hb.size

def I64 (n : Int) : Prop := -9223372036854775808 ≤ n ∧ n ≤ 9223372036854775807
/-- v reads as the integers l. -/
def SlI (w : World) (B : Nat) (v : Value) (l : List Int) : Prop := Sl w B v (l.map (Value.int .i64)) ∧ ∀ x ∈ l, I64 x
/-- v reads as the strings l. -/
def SlS (w : World) (B : Nat) (v : Value) (l : List ByteArray) : Prop := Sl w B v (l.map Value.string)
theorem SlI.below {w w' : World} {B B₂ : Nat} {v : Value} {l : List Int} (h : SlI w B v l) (hb : Below B₂ w w') (hB : B ≤ B₂) : SlI w' B v l := ⟨h.1.belowM hb hB, h.2⟩
theorem SlI.more {w : World} {B B' : Nat} {v : Value} {l : List Int} (h : SlI w B v l) (hB : B ≤ B') : SlI w B' v l := ⟨h.1.more hB, h.2⟩
theorem SlS.below {w w' : World} {B B₂ : Nat} {v : Value} {l : List ByteArray} (h : SlS w B v l) (hb : Below B₂ w w') (hB : B ≤ B₂) : SlS w' B v l := Sl.belowM h hb hB
theorem SlS.more {w : World} {B B' : Nat} {v : Value} {l : List ByteArray} (h : SlS w B v l) (hB : B ≤ B') : SlS w B' v l := Sl.more h hB

/-- A quiet call in a region whose world is already some draws on (after the guide's sheet of small lemmas). -/
theorem quiet_add_same {P : Program} {f : FuncId} {args : Array Value} {w : World} {a n : Nat} {v : Value}
    (h : Calls P f args (w.drewN (a + n)) fun e w' => e = .returned v ∧ w' = w.drewN (a + n)) :
    Calls P f args (w.drewN (a + n)) fun e w'' => e = .returned v ∧ ∃ m, w'' = w.drewN (a + m) :=
  h.mono fun _ _ ⟨he, hm⟩ => ⟨he, n, hm⟩
theorem quiet_add {P : Program} {f : FuncId} {args : Array Value} {w : World} {a n : Nat} {v : Value}
    (h : Calls P f args (w.drewN (a + n)) fun e w' => e = .returned v ∧ ∃ m, w' = (w.drewN (a + n)).drewN m) :
    Calls P f args (w.drewN (a + n)) fun e w'' => e = .returned v ∧ ∃ m, w'' = w.drewN (a + m) :=
  h.mono fun _ _ ⟨he, m, hm⟩ => ⟨he, n + m, by rw [hm, World.drewN_drewN, Nat.add_assoc]⟩

end Go.Proofs.YtdgciagmcjdhhaaGreatDoor
