/-
  A made map that reads as a list of pairs, laid one behind the other: stores of new keys, lookups, ranges.
-/
import Derived.Test.YtdgciagmcjdhhaaGreatDoorStep3
import Derived.Maps.RangeWalk
import Derived.ChangeMaps5
set_option linter.unusedVariables false
set_option linter.unusedSimpArgs false
namespace Go.Proofs.YtdgciagmcjdhhaaGreatDoor
open Go Go.RowKit Go.MapKept Go.ChangeMaps

/-- A map's entries, laid one behind the other from the stamp i on. -/
def ents : Nat → List (Value × Value) → List MapEntry
  | _, [] => []
  | i, p :: r => ⟨p.1, p.2, i⟩ :: ents (i + 1) r
theorem ents_append (p : Value × Value) : ∀ (l : List (Value × Value)) (i : Nat), ents i (l ++ [p]) = ents i l ++ [⟨p.1, p.2, i + l.length⟩]
  | [], i => by simp [ents]
  | a :: l, i => by simp [ents, ents_append p l (i + 1)]; omega
theorem ents_mem {x : MapEntry} : ∀ {l : List (Value × Value)} {i : Nat}, x ∈ ents i l → ∃ j, l[j]? = some (x.key, x.val) ∧ x.born = i + j
  | [], _, h => by simp [ents] at h
  | a :: l, i, h => by
    simp only [ents, List.mem_cons] at h
    rcases h with rfl | h
    · exact ⟨0, by simp⟩
    · obtain ⟨j, h1, h2⟩ := ents_mem h
      exact ⟨j + 1, by simpa using h1, by omega⟩
theorem ents_get : ∀ (l : List (Value × Value)) (i j : Nat) (p : Value × Value), l[j]? = some p → ⟨p.1, p.2, i + j⟩ ∈ ents i l
  | [], _, _, _, h => by simp at h
  | a :: l, i, 0, p, h => by simp at h; subst h; simp [ents]
  | a :: l, i, j + 1, p, h => by
    have := ents_get l (i + 1) j p (by simpa using h)
    simp only [ents, List.mem_cons]
    right
    have e : i + 1 + j = i + (j + 1) := by omega
    rwa [e] at this
theorem ents_at : ∀ (l : List (Value × Value)) (i j : Nat), (ents i l)[j]? = (l[j]?).map fun p => ⟨p.1, p.2, i + j⟩
  | [], _, _ => by simp [ents]
  | a :: l, i, 0 => by simp [ents]
  | a :: l, i, j + 1 => by
    simp only [ents, List.getElem?_cons_succ, ents_at l (i + 1) j]
    have e : i + 1 + j = i + (j + 1) := by omega
    rw [e]
theorem ents_length : ∀ (l : List (Value × Value)) (i : Nat), (ents i l).length = l.length
  | [], _ => rfl
  | _ :: l, i => by simp [ents, ents_length l]
theorem ents_born : ∀ (l : List (Value × Value)) (i : Nat), ((ents i l).map (·.born)).Nodup
  | [], _ => by simp [ents]
  | a :: l, i => by
    simp only [ents, List.map_cons, List.nodup_cons]
    refine ⟨fun h => ?_, ents_born l (i + 1)⟩
    obtain ⟨x, hx, e⟩ := List.mem_map.1 h
    obtain ⟨j, _, hj⟩ := ents_mem hx
    omega
/-- Block b is a map that reads as l. -/
def LiesMap (w : World) (b : Nat) (l : List (Value × Value)) : Prop := w.heap[b]? = some (.map (ents 0 l).toArray l.length)
theorem LiesMap.lt {w : World} {b : Nat} {l : List (Value × Value)} (h : LiesMap w b l) : b < w.heap.size := (Array.getElem?_eq_some_iff.1 h).1
theorem LiesMap.below {B b : Nat} {w w' : World} {l : List (Value × Value)} (h : LiesMap w b l) (hb : Below B w w') (hB : b < B) : LiesMap w' b l := (hb.block b hB).trans h
theorem LiesMap.later {b : Nat} {w w' : World} {l : List (Value × Value)} (h : LiesMap w b l) (hb : Below w.heap.size w w') : LiesMap w' b l := h.below hb h.lt
theorem LiesMap.made (w : World) : LiesMap (w.alloc (.map #[] 0)) w.heap.size [] := (heap_alloc w _).1
theorem below_setBlock {B b : Nat} {w0 w : World} (h : Below B w0 w) (hB : B ≤ b) {o : Obj} : Below B w0 (setBlock w b o) :=
  ⟨h.os, h.tape, h.output, by simpa [setBlock] using h.size, fun i hi => by
    show (w.heap.setIfInBounds b o)[i]? = _
    rw [Array.getElem?_setIfInBounds_ne (by omega)]
    exact h.block i hi⟩
/-- Nothing but block b has turned, and nothing new is there. -/
def TurnsOnly (w w' : World) (b : Nat) : Prop := (∀ B w0, Below B w0 w → B ≤ b → Below B w0 w') ∧ w'.heap.size = w.heap.size ∧ ∀ i, i ≠ b → w'.heap[i]? = w.heap[i]?
theorem turns_setBlock (w : World) (b : Nat) (o : Obj) : TurnsOnly w (setBlock w b o) b :=
  ⟨fun _ _ h hB => below_setBlock h hB, by simp [setBlock], fun i hi => by
    show (w.heap.setIfInBounds b o)[i]? = _
    rw [Array.getElem?_setIfInBounds_ne (by omega)]⟩
theorem TurnsOnly.cell {w w' : World} {b : Nat} (h : TurnsOnly w w' b) {a : Addr} (ha : a.block ≠ b) : w'.cell? a = w.cell? a := by unfold World.cell?; rw [h.2.2 _ ha]
section
variable {P : Program} (w : World) {ops : Array Oper} {rest : List Oper} {o : Oper} {a : Act} {Q : Exit → Act → World → Prop}
theorem run_put {P : Program} {w : World} {t k e : TypeId} {d : TypeDesc} {b : Nat} {l : List (Value × Value)} (ht : P.underlying t = some (.map k e)) (hk : P.underlying k = some d) (hb : LiesMap w b l)
    {key : Value} (val : Value) (hkey : IsKey d key) (hkeys : ∀ p ∈ l, IsKey d p.1 ∧ p.1 ≠ key) :
    (Instr.mapUpdate t (.map (some b)) key val).run P w = .ok () (setBlock w b (.map (ents 0 (l ++ [(key, val)])).toArray (l ++ [(key, val)]).length)) := by
  have hk' : ∀ x ∈ ents 0 l, IsKey d x.key ∧ x.key ≠ key := fun x hx => by
    obtain ⟨j, hj, _⟩ := ents_mem hx
    exact hkeys _ (List.mem_of_getElem? hj)
  rcases findNow_spec hkey (ents 0 l) 0 (fun x hx => (hk' x hx).1) with ⟨h1, _⟩ | ⟨j, x, _, h2, h3⟩
  · have hb' : w.heap[b]? = some (.map (ents 0 l).toArray l.length) := hb
    have h1' : Instr.findNow d key (ents 0 l).toArray.toList 0 = some none := h1
    simp only [Instr.mapUpdate, run_underlying ht, MapKept.run_getObj_map hb', MapKept.run_checkKey hk hkey, MapKept.run_findKey hk h1', MapKept.run_setObj_map _ hb', Result.andThen, Sem.run_bind, setBlock, ents_append, List.length_append, List.length_singleton, Nat.zero_add]
    simp
  · exact absurd h3 (hk' x (List.mem_of_getElem? h2)).2
/-- 'm[k] = v' at a key that is not there. -/
theorem wpList_put (hg : o.guard = none) (m x v : Operand) (t : TypeId) (hop : o.op = Op.mapUpdate t m x v ∨ o.op = Op.insert t m x v)
    (k e : TypeId) (d : TypeDesc) (ht : P.underlying t = some (.map k e)) (hk : P.underlying k = some d) (b : Nat) (l : List (Value × Value)) (hm : a.eval m = .map (some b)) (hb : LiesMap w b l)
    (key val : Value) (hx : a.eval x = key) (hv : a.eval v = val) (hkey : IsKey d key) (hkeys : ∀ p ∈ l, IsKey d p.1 ∧ p.1 ≠ key)
    (hK : ∀ w', LiesMap w' b (l ++ [(key, val)]) → TurnsOnly w w' b → wpList P ops Q rest (a.put o.dst undef) w') :
    wpList P ops Q (o :: rest) a w := by
  refine wpList_plain hg fun K' hK' => ?_
  have hrun := run_put ht hk hb val hkey hkeys
  have h2 : LiesMap (setBlock w b (.map (ents 0 (l ++ [(key, val)])).toArray (l ++ [(key, val)]).length)) b (l ++ [(key, val)]) := heap_setBlock_same hb _
  unfold Oper.wp
  have h3 := hK _ h2 (turns_setBlock _ _ _)
  have h4 := hK' _ _ h3
  clear h2 h3 hK hK'
  generalize setBlock w b (.map (ents 0 (l ++ [(key, val)])).toArray (l ++ [(key, val)]).length) = W at hrun h4
  rcases hop with hop | hop <;>
  · simp [execOp, hop, hm, hx, hv, hrun, Result.andThen]
    exact h4
theorem run_look_hit {P : Program} {w : World} {t k e : TypeId} {d : TypeDesc} {b : Nat} {l : List (Value × Value)} (ht : P.underlying t = some (.map k e)) (hk : P.underlying k = some d) (hb : LiesMap w b l)
    {key v : Value} (c : Bool) (hkey : IsKey d key) (hkeys : ∀ p ∈ l, IsKey d p.1) (hone : ∀ p ∈ l, p.1 = key → p.2 = v) (hin : ∃ p ∈ l, p.1 = key) :
    (Instr.lookup t (.map (some b)) key c).run P w = .ok (if c then .tuple #[v, .bool true] else v) w := by
  have hk' : ∀ x ∈ ents 0 l, IsKey d x.key ∧ (x.key = key → x.val = v) := fun x hx => by
    obtain ⟨j, hj, _⟩ := ents_mem hx
    exact ⟨hkeys _ (List.mem_of_getElem? hj), hone _ (List.mem_of_getElem? hj)⟩
  have hb' : w.heap[b]? = some (.map (ents 0 l).toArray l.length) := hb
  rcases findNow_spec hkey (ents 0 l) 0 (fun x hx => (hk' x hx).1) with ⟨_, h1⟩ | ⟨j, x, h1, h2, h3⟩
  · obtain ⟨p, hp, he⟩ := hin
    obtain ⟨j, hj⟩ := List.mem_iff_getElem?.1 hp
    exact absurd he (h1 _ (ents_get l 0 j p hj))
  · have h1' : Instr.findNow d key (ents 0 l).toArray.toList 0 = some (some (0 + j, x.val)) := h1
    rw [(hk' x (List.mem_of_getElem? h2)).2 h3] at h1'
    simp only [Instr.lookup, run_underlying ht, MapKept.run_getObj_map hb', MapKept.run_checkKey hk hkey, MapKept.run_findKey hk h1', Result.andThen, Sem.run_bind]
    rw [(hk' x (List.mem_of_getElem? h2)).2 h3] at h1
    cases c <;> simp [MapKept.run_findKey hk h1]
theorem run_look_miss {P : Program} {w : World} {t k e : TypeId} {d : TypeDesc} {b : Nat} {l : List (Value × Value)} (ht : P.underlying t = some (.map k e)) (hk : P.underlying k = some d) (hb : LiesMap w b l)
    {key z : Value} (c : Bool) (hkey : IsKey d key) (hkeys : ∀ p ∈ l, IsKey d p.1 ∧ p.1 ≠ key) (hz : (zeroValue e).run P w = .ok z w) :
    (Instr.lookup t (.map (some b)) key c).run P w = .ok (if c then .tuple #[z, .bool false] else z) w := by
  have hk' : ∀ x ∈ ents 0 l, IsKey d x.key ∧ x.key ≠ key := fun x hx => by
    obtain ⟨j, hj, _⟩ := ents_mem hx
    exact hkeys _ (List.mem_of_getElem? hj)
  have hb' : w.heap[b]? = some (.map (ents 0 l).toArray l.length) := hb
  rcases findNow_spec hkey (ents 0 l) 0 (fun x hx => (hk' x hx).1) with ⟨h1, _⟩ | ⟨j, x, _, h2, h3⟩
  · have h1' : Instr.findNow d key (ents 0 l).toArray.toList 0 = some none := h1
    simp only [Instr.lookup, run_underlying ht, MapKept.run_getObj_map hb', MapKept.run_checkKey hk hkey, MapKept.run_findKey hk h1', Result.andThen, Sem.run_bind, hz]
    cases c <;> simp [MapKept.run_findKey hk h1, hz]
  · exact absurd h3 (hk' x (List.mem_of_getElem? h2)).2
/-- 'm[k]' at a key that is there. -/
theorem wpList_hit (hg : o.guard = none) (m x : Operand) (t : TypeId) (c : Bool) (hop : o.op = Op.lookup t m x c)
    (k e : TypeId) (d : TypeDesc) (ht : P.underlying t = some (.map k e)) (hk : P.underlying k = some d) (b : Nat) (l : List (Value × Value)) (hm : a.eval m = .map (some b)) (hb : LiesMap w b l)
    (key v : Value) (hx : a.eval x = key) (hkey : IsKey d key) (hkeys : ∀ p ∈ l, IsKey d p.1) (hone : ∀ p ∈ l, p.1 = key → p.2 = v) (hin : ∃ p ∈ l, p.1 = key)
    (hK : wpList P ops Q rest (a.put o.dst (if c then .tuple #[v, .bool true] else v)) w) :
    wpList P ops Q (o :: rest) a w := by
  refine wpList_plain hg fun K' hK' => ?_
  have hrun := run_look_hit ht hk hb c hkey hkeys hone hin
  unfold Oper.wp
  simp [execOp, hop, hm, hx, hrun, Result.andThen]
  exact hK' _ _ hK
/-- 'm[k]' at a key that is not there. -/
theorem wpList_miss (hg : o.guard = none) (m x : Operand) (t : TypeId) (c : Bool) (hop : o.op = Op.lookup t m x c)
    (k e : TypeId) (d : TypeDesc) (ht : P.underlying t = some (.map k e)) (hk : P.underlying k = some d) (b : Nat) (l : List (Value × Value)) (hm : a.eval m = .map (some b)) (hb : LiesMap w b l)
    (key z : Value) (hx : a.eval x = key) (hkey : IsKey d key) (hkeys : ∀ p ∈ l, IsKey d p.1 ∧ p.1 ≠ key) (hz : (zeroValue e).run P w = .ok z w)
    (hK : wpList P ops Q rest (a.put o.dst (if c then .tuple #[z, .bool false] else z)) w) :
    wpList P ops Q (o :: rest) a w := by
  refine wpList_plain hg fun K' hK' => ?_
  have hrun := run_look_miss ht hk hb c hkey hkeys hz
  unfold Oper.wp
  simp [execOp, hop, hm, hx, hrun, Result.andThen]
  exact hK' _ _ hK
/-- Block r is an iterator over the map b; the entries whose numbers are in 'seen' have come. -/
def Iter (w : World) (b r : Nat) (l : List (Value × Value)) (seen : Array Nat) : Prop :=
  ∃ c0, LiesMap w b l ∧ w.heap[r]? = some (.mapIter (some b) l.length seen c0) ∧ l.length ≤ c0
theorem Iter.below {B b r : Nat} {w w' : World} {l : List (Value × Value)} {seen : Array Nat} (h : Iter w b r l seen) (hb : Below B w w') (h1 : b < B) (h2 : r < B) : Iter w' b r l seen := by
  obtain ⟨c0, hm, hr, hc⟩ := h
  exact ⟨c0, hm.below hb h1, (hb.block r h2).trans hr, hc⟩
theorem Iter.lt {w : World} {b r : Nat} {l : List (Value × Value)} {seen : Array Nat} (h : Iter w b r l seen) : b < w.heap.size ∧ r < w.heap.size := by
  obtain ⟨c0, hm, hr, _⟩ := h
  exact ⟨hm.lt, (Array.getElem?_eq_some_iff.1 hr).1⟩
theorem Iter.left {w : World} {b r : Nat} {l : List (Value × Value)} {seen : Array Nat} (h : Iter w b r l seen) : w.rangeLeft b r = (leftOf (ents 0 l).toArray seen).size := by
  obtain ⟨c0, hm, hr, _⟩ := h
  have hm' : w.heap[b]? = some (.map (ents 0 l).toArray l.length) := hm
  simp only [World.rangeLeft, hm', hr]
/-- 'range m'. -/
theorem wpList_ranges (hg : o.guard = none) (m : Operand) (t : TypeId) (hop : o.op = Op.range t m) (k e : TypeId) (ht : P.underlying t = some (.map k e)) (b : Nat) (l : List (Value × Value))
    (hm : a.eval m = .map (some b)) (hb : LiesMap w b l)
    (hK : ∀ w', Iter w' b w.heap.size l #[] → Below w.heap.size w w' → w'.heap.size = w.heap.size + 1 → wpList P ops Q rest (a.put o.dst (.pointer (some ⟨w.heap.size, 0, none⟩))) w') :
    wpList P ops Q (o :: rest) a w := by
  refine wpList_plain hg fun K' hK' => ?_
  have hrun := run_range_map w t k e b _ _ ht hb
  unfold Oper.wp
  simp [execOp, hop, hm, hrun, Result.andThen]
  refine hK' _ _ (hK _ ⟨l.length, hb.later (bal (B0 w) _), (heap_alloc w _).1, Nat.le_refl _⟩ (bal (B0 w) _) (by simp))
/-- The step. -/
theorem wpList_step (hg : o.guard = none) (it : Operand) (hop : o.op = Op.next it false) (b r : Nat) (l : List (Value × Value)) (seen : Array Nat)
    (hit : a.eval it = .pointer (some ⟨r, 0, none⟩)) (h : Iter w b r l seen)
    (hDone : (∀ i, i < l.length → seen.contains i = true) → wpList P ops Q rest (a.put o.dst (.tuple #[.bool false])) w)
    (hMore : ∀ (i : Nat) (k v : Value) (w' : World), l[i]? = some (k, v) → seen.contains i = false → Iter w' b r l (seen.push i) → w'.rangeLeft b r < w.rangeLeft b r → TurnsOnly w w' r →
      (Instr.entry (.pointer (some ⟨r, 0, none⟩))).run P w' = .ok (.tuple #[k, v]) w' → wpList P ops Q rest (a.put o.dst (.tuple #[.bool true, k, v])) w') :
    wpList P ops Q (o :: rest) a w := by
  refine wpList_plain hg fun K' hK' => ?_
  have hleft := h.left
  have h' := h
  obtain ⟨c0, hm, hr, hc⟩ := h
  have hold : ∀ x ∈ (ents 0 l).toArray.toList, x.born < l.length := fun x hx => by
    obtain ⟨j, hj, e⟩ := ents_mem hx
    have := (List.getElem?_eq_some_iff.1 hj).1
    omega
  have hne : b ≠ r := by
    intro e
    subst e
    have hm' : w.heap[b]? = some (.map (ents 0 l).toArray l.length) := hm
    rw [hm'] at hr
    cases hr
  unfold Oper.wp
  rcases run_next_at (P := P) w o.type r b l.length c0 seen _ _ hr hm hold hc with ⟨h0, hrun⟩ | ⟨x, hx, w1, hal, hrun⟩
  · simp [execOp, hop, hit, hrun, Result.andThen]
    refine hK' _ _ (hDone fun i hi => ?_)
    have := all_seen _ seen h0 _ (ents_get l 0 i l[i] (List.getElem?_eq_getElem hi))
    simpa using this
  · obtain ⟨hxm, hxs⟩ := mem_left hx
    obtain ⟨j, hj, hb⟩ := ents_mem hxm
    rw [Nat.zero_add] at hb
    have hsh := left_shrinks _ seen x hx
    have hm1 : w1.heap[b]? = some (.map (ents 0 l).toArray l.length) := by rcases hal with rfl | rfl <;> exact hm
    have hr1 : w1.heap[r]? = some (.mapIter (some b) l.length seen c0) := by rcases hal with rfl | rfl <;> exact hr
    have hset := heap_set (o' := .mapIter (some b) l.length (seen.push x.born) l.length) hr1
    have hb2 : (setBlock w1 r (.mapIter (some b) l.length (seen.push x.born) l.length)).heap[b]? = some (.map (ents 0 l).toArray l.length) := (hset.2 b hne).trans hm1
    have hI : Iter (setBlock w1 r (.mapIter (some b) l.length (seen.push x.born) l.length)) b r l (seen.push x.born) := ⟨l.length, hb2, hset.1, Nat.le_refl _⟩
    have hlt : (setBlock w1 r (.mapIter (some b) l.length (seen.push x.born) l.length)).rangeLeft b r < w.rangeLeft b r := by rw [hI.left, hleft]; exact hsh
    have hT1 := turns_setBlock w1 r (.mapIter (some b) l.length (seen.push x.born) l.length)
    have hT : TurnsOnly w (setBlock w1 r (.mapIter (some b) l.length (seen.push x.born) l.length)) r := by
      rcases hal with rfl | rfl
      · exact hT1
      · exact ⟨fun B w0 hB hle => hT1.1 B w0 ⟨hB.os, hB.tape, hB.output, hB.size, hB.block⟩ hle, hT1.2.1, hT1.2.2⟩
    have hen := run_entry_at (P := P) (setBlock w1 r (.mapIter (some b) l.length (seen.push x.born) l.length)) r b l.length seen _ _ x hset.1 hb2 hxm (ents_born l 0)
    simp [execOp, hop, hit, hrun, Result.andThen]
    rw [hb] at hxs hI hlt hT hen ⊢
    exact hK' _ _ (hMore j x.key x.val _ hj hxs hI hlt hT hen)
end
end Go.Proofs.YtdgciagmcjdhhaaGreatDoor
