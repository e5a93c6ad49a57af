/-
  The closures that read an act's words. (Printed by gen_reads.py.)
-/
import Derived.Test.YtdgciagmcjdhhaaGreatDoorTexts
import Derived.Test.YtdgciagmcjdhhaaGreatDoorReadOp
set_option linter.unusedVariables false
set_option linter.unusedSimpArgs false
namespace Go.Proofs.YtdgciagmcjdhhaaGreatDoor
open Go Go.RowKit Go.MapKept Go.ChangeMaps

/-- v is nil, or lies in no block older than B. -/
def Fresh (B : Nat) (v : Value) : Prop := ∀ a n c, v = .slice (some a) n c → B ≤ a.block
theorem Fresh.nil (B : Nat) : Fresh B nilS := fun a n c h => by unfold nilS at h; cases h
theorem Fresh.mk_ {B b n c : Nat} (h : B ≤ b) : Fresh B (.slice (some ⟨b, 0, none⟩) n c) := fun a n' c' e => by injection e with e; injection e with e; subst e; exact h
def ReadPost (W : World) (pa : Nat) (r : Option ActD) (e : Ending) (w' : World) : Prop :=
  W.grownBy w' (some pa) ∧ e = .returned (.bool r.isSome) ∧ ∀ y, r = some y → ∃ m s, Blk w' pa y m s ∧ SlI w' w'.heap.size m y.ms ∧ SlI w' w'.heap.size s y.ss ∧ Fresh W.heap.size m ∧ Fresh W.heap.size s
/-- The numbers that words stand for, if they are j words. -/
def numsQ (l : List ByteArray) (j : Nat) : Option (List Int) := if l.length = j then parseAll l else none
def NumsPostQ (w : World) (b : Nat) (t : TypeId) (cs : Array Value) (offs : List Nat) (l : List ByteArray) (e : Ending) (w' : World) : Prop :=
  w.grownBy w' (some b) ∧ match numsQ l offs.length with
    | some vs => e = .returned (.bool true) ∧ w'.heap[b]? = some (.cells (setAll cs offs vs) t (0, 0))
    | none => e = .returned (.bool false) ∧ ∃ cs', w'.heap[b]? = some (.cells cs' t (0, 0)) ∧ cs'.size = cs.size
theorem NumsPostQ.ret {w w' : World} {b : Nat} {t : TypeId} {cs : Array Value} {offs : List Nat} {l : List ByteArray} {e : Ending} (h : NumsPostQ w b t cs offs l e w') : e = .returned (.bool (numsQ l offs.length).isSome) := by
  obtain ⟨_, h⟩ := h
  cases hq : numsQ l offs.length <;> rw [hq] at h <;> exact h.1
theorem Fresh.less {B B' : Nat} {v : Value} (h : Fresh B v) (hB : B' ≤ B) : Fresh B' v := fun a n c e => Nat.le_trans hB (h a n c e)
theorem grown_from {W W1 w' : World} {b : Nat} (hb : Below W.heap.size W W1) (hg : W1.grownBy w' (some b)) : W.grownBy w' (some b) :=
  ⟨hg.os.trans hb.os, hg.tape.trans hb.tape, hg.output.trans hb.output, Nat.le_trans hb.size hg.size, fun i hi hne => (hg.block i (Nat.lt_of_lt_of_le hi hb.size) hne).trans (hb.block i hi)⟩
theorem ReadPost.from_ {W W1 w' : World} {pa : Nat} {r : Option ActD} {e : Ending} (h : ReadPost W1 pa r e w') (hb : Below W.heap.size W W1) : ReadPost W pa r e w' :=
  ⟨grown_from hb h.1, h.2.1, fun y hy => by
    obtain ⟨m, s, h1, h2, h3, h4, h5⟩ := h.2.2 y hy
    exact ⟨m, s, h1, h2, h3, h4.less hb.size, h5.less hb.size⟩⟩
theorem SlI.grown' {w w' : World} {b n c pa : Nat} {vs : List Int} (h : SlI w w.heap.size (.slice (some ⟨b, 0, none⟩) n c) vs) (hg : w.grownBy w' (some pa)) (hne : ¬b = pa) : SlI w' w'.heap.size (.slice (some ⟨b, 0, none⟩) n c) vs := by
  obtain ⟨⟨A, c', he, h1, h2, h3⟩, hI⟩ := h
  injection he with e1 e2 e3
  subst e1 e2 e3
  refine ⟨⟨_, _, rfl, h1, h2, fun hn => ?_⟩, hI⟩
  obtain ⟨b', o', hA, hb, hc⟩ := h3 hn
  injection hA with hA
  injection hA with hb' ho'
  subst hb' ho'
  exact ⟨_, _, rfl, Nat.lt_of_lt_of_le hb hg.size, fun j u' hu => (World.grownBy.cell_far hg ⟨_, _, none⟩ hb (fun e => hne (by injection e))).trans (hc j u' hu)⟩
theorem grown_two {W w w' : World} {b : Nat} (h : W.grownBy w (some b)) (k : w.grownBy w' (some b)) : W.grownBy w' (some b) :=
  ⟨k.os.trans h.os, k.tape.trans h.tape, k.output.trans h.output, Nat.le_trans h.size k.size, fun i hi hne => (k.block i (Nat.lt_of_lt_of_le hi h.size) hne).trans (h.block i hi hne)⟩
theorem grown_drew {W w : World} {b : Nat} (h : W.grownBy w (some b)) : W.grownBy w.drew (some b) := ⟨h.os, h.tape, h.output, h.size, h.block⟩
theorem cell_of_set {w : World} {b j pa o : Nat} {u : Value} (hne : ¬b = pa) : (w.setCell ⟨pa, o, none⟩ u).cell? ⟨b, j, none⟩ = w.cell? ⟨b, j, none⟩ :=
  World.cell?_of_block (Below.heap_setCell w ⟨pa, o, none⟩ u b (by intro e; exact hne (by rw [e])))
theorem SlI.set {w : World} {b n c pa o : Nat} {u : Value} {vs : List Int} (h : SlI w w.heap.size (.slice (some ⟨b, 0, none⟩) n c) vs) (hne : ¬b = pa) : SlI (w.setCell ⟨pa, o, none⟩ u) (w.setCell ⟨pa, o, none⟩ u).heap.size (.slice (some ⟨b, 0, none⟩) n c) vs := by
  obtain ⟨⟨A, c', he, h1, h2, h3⟩, hI⟩ := h
  injection he with e1 e2 e3
  subst e1 e2 e3
  refine ⟨⟨_, _, rfl, h1, h2, fun hn => ?_⟩, hI⟩
  obtain ⟨b', o', hA, hb, hc⟩ := h3 hn
  injection hA with hA
  injection hA with hb' ho'
  subst hb' ho'
  refine ⟨_, _, rfl, by simpa [World.setCell] using hb, fun j u' hu => (cell_of_set hne).trans (hc j u' hu)⟩
set_option maxHeartbeats 1000000 in
theorem numsNo_c (A B : Option Addr) (n m c c' : Nat) (h : n ≠ m) (w : World) :
    Calls Tryz.prog 43 #[.slice A n c, .slice B m c'] w fun e w' => e = .returned (.bool false) ∧ w' = w := by
  have h1 : ¬((n : Int) = m) := by omega
  go_enter Tryz.func43, Tryz.ntmps43
  go_wp2_with fail
  go_ret
  exact ⟨rfl, rfl⟩
theorem numsQ_c (v : Value) (l : List ByteArray) (offs : List Nat) (n bu cu b : Nat) (t : TypeId) (cs : Array Value) (w : World) (hG : Glob w) (B : Nat) (ho : n = offs.length)
    (h : SlS w B v l) (hB : B ≤ b) (hBw : B ≤ w.heap.size) (hsz : ∀ s ∈ l, s.size ≤ 1000000) (hn : l.length ≤ 100000)
    (hu : ∀ j, j < offs.length → w.cell? ⟨bu, j, none⟩ = some (.pointer (some ⟨b, nthN offs j, none⟩))) (hbu : bu ≠ b) (hbw : bu < w.heap.size) (hb8 : 8 ≤ b)
    (hblk : w.heap[b]? = some (.cells cs t (0, 0))) (hint : ∀ j, j < offs.length → nthN offs j < cs.size) :
    Calls Tryz.prog 43 #[v, .slice (some ⟨bu, 0, none⟩) n cu] w (NumsPostQ w b t cs offs l) := by
  subst ho
  by_cases hl : l.length = offs.length
  · refine (numsP_c v l offs bu cu b t cs w hG B h hB hBw hsz hl hn hu hbu hbw hb8 hblk hint).mono fun e w' hp => ?_
    unfold NumsPostQ numsQ
    rw [if_pos hl]; exact hp
  · obtain ⟨A, n, c, rfl, hn', _, _⟩ := h.form
    refine (numsNo_c A _ n offs.length c cu (by omega) w).mono ?_
    rintro e w' ⟨rfl, rfl⟩
    unfold NumsPostQ numsQ
    rw [if_neg hl]
    exact ⟨World.grownBy.refl _ _, rfl, cs, hblk, rfl⟩
/-- The act that one, two or three numbers stand for. -/
def readNs (k : Int) (j : Nat) (l : List ByteArray) : Option ActD := (numsQ l j).map fun vs => { actZ k with a := nth vs 0, b := nth vs 1, c := nth vs 2 }
theorem numsQ_len {l : List ByteArray} {j : Nat} {vs : List Int} (h : numsQ l j = some vs) : vs.length = j := by
  unfold numsQ at h
  split at h
  · rename_i e; rw [parseAll_len h, e]
  · cases h
theorem readNs_post {W w' : World} {pa : Nat} {k : Int} {l : List ByteArray} {offs : List Nat} {j : Nat} {e : Ending} (hj : offs = [1] ∧ j = 1 ∨ offs = [1, 2] ∧ j = 2 ∨ offs = [1, 2, 3] ∧ j = 3)
    (h : NumsPostQ W pa 26 ((actZ k).cells nilS nilS) offs l e w') : ReadPost W pa (readNs k j l) e w' := by
  obtain ⟨hg, h⟩ := h
  have hj' : offs.length = j := by rcases hj with ⟨rfl, rfl⟩ | ⟨rfl, rfl⟩ | ⟨rfl, rfl⟩ <;> rfl
  rw [hj'] at h
  cases hq : numsQ l j with
  | none =>
    rw [hq] at h
    refine ⟨hg, ?_, ?_⟩
    · rw [h.1]; simp [readNs, hq]
    · intro y hy; simp [readNs, hq] at hy
  | some vs =>
    rw [hq] at h
    have hl := numsQ_len hq
    refine ⟨hg, ?_, ?_⟩
    · rw [h.1]; simp [readNs, hq]
    · intro y hy
      simp only [readNs, hq, Option.map_some, Option.some.injEq] at hy
      subst hy
      refine ⟨nilS, nilS, ?_, SlI.nil_ _ _, SlI.nil_ _ _, Fresh.nil _, Fresh.nil _⟩
      have h2 := h.2
      unfold Blk
      rw [h2]
      rcases hj with ⟨rfl, rfl⟩ | ⟨rfl, rfl⟩ | ⟨rfl, rfl⟩
      · match vs, hl with
        | [a], _ => rfl
      · match vs, hl with
        | [a, b], _ => rfl
      · match vs, hl with
        | [a, b, c], _ => rfl
set_option maxRecDepth 100000 in
set_option maxHeartbeats 4000000 in
theorem read_single (k : Int) (v : Value) (l : List ByteArray) (W : World) (pa : Nat) (hG : Glob W) (hb : Blk W pa (actZ k) nilS nilS) (h8 : 8 ≤ pa) (h : SlS W pa v l) (hsz : ∀ s ∈ l, s.size ≤ 1000000) (hn : l.length ≤ 100000) :
    Calls Tryz.prog 79 #[ptr pa, v] W (ReadPost W pa (readNs k 1 l)) := by
  obtain ⟨A, n, c, rfl, hl, hc, hm⟩ := h.form
  have hlt := hb.lt
  have HG := Lib.hid hG; have HB := Lib.hid hb; have H := Lib.hid h; have HSZ := Lib.hid hsz; have HN := Lib.hid hn
  have hne : ¬pa = W.heap.size := by omega
  have hne2 : ¬W.heap.size = pa := by omega
  clear hG hb h hsz hn
  simp only [ptr]
  go_enter Tryz.func79, Tryz.ntmps79
  go_wp2_with (go_at_call 43; refine (numsQ_c _ l [1] 1 W.heap.size _ pa 26 _ _ (HG.out.step (bal (B0 W) _)) pa rfl (Sl.below H.out ((bal (B0 W) _).mono (Nat.le_of_lt hlt))) (Nat.le_refl _) (by simp; omega) HSZ.out HN.out (fun j hj => by
      match j, hj with
      | 0, _ => go_simp; try rfl) hne2 (by simp) h8 (by exact ((bal (B0 W) _).block _ hlt |>.trans HB.out)) (fun j hj => by
      match j, hj with
      | 0, _ => show _ < 10; decide)).mono ?_; rintro e w1 hp; have he := hp.ret; subst he)
  all_goals
    go_ret
    have hp' := readNs_post (offs := [1]) (j := 1) (by simp) hp
    exact hp'.from_ (bal (B0 W) _)
set_option maxRecDepth 100000 in
set_option maxHeartbeats 4000000 in
theorem read_fail (k : Int) (v : Value) (l : List ByteArray) (W : World) (pa : Nat) (hG : Glob W) (hb : Blk W pa (actZ k) nilS nilS) (h8 : 8 ≤ pa) (h : SlS W pa v l) (hsz : ∀ s ∈ l, s.size ≤ 1000000) (hn : l.length ≤ 100000) :
    Calls Tryz.prog 48 #[ptr pa, v] W (ReadPost W pa (readNs k 2 l)) := by
  obtain ⟨A, n, c, rfl, hl, hc, hm⟩ := h.form
  have hlt := hb.lt
  have HG := Lib.hid hG; have HB := Lib.hid hb; have H := Lib.hid h; have HSZ := Lib.hid hsz; have HN := Lib.hid hn
  have hne : ¬pa = W.heap.size := by omega
  have hne2 : ¬W.heap.size = pa := by omega
  clear hG hb h hsz hn
  simp only [ptr]
  go_enter Tryz.func48, Tryz.ntmps48
  go_wp2_with fail
  go_region_with (go_at_call 43; refine (numsQ_c _ l [1, 2] 2 W.heap.size _ pa 26 _ _ (HG.out.step (bdr (bal (B0 W) _))) pa rfl (Sl.below H.out ((bdr (bal (B0 W) _)).mono (Nat.le_of_lt hlt))) (Nat.le_refl _) (by simp; omega) HSZ.out HN.out (fun j hj => by
      match j, hj with
      | 0, _ => go_simp; try rfl
      | 1, _ => go_simp; try rfl) hne2 (by simp) h8 (by exact ((bdr (bal (B0 W) _)).block _ hlt |>.trans HB.out)) (fun j hj => by
      match j, hj with
      | 0, _ => show _ < 10; decide
      | 1, _ => show _ < 10; decide)).mono ?_; rintro e w1 hp; have he := hp.ret; subst he)
  all_goals (go_wp2_with fail)
  all_goals
    go_ret
    have hp' := readNs_post (offs := [1, 2]) (j := 2) (by simp) hp
    exact hp'.from_ (bdr (bal (B0 W) _))
set_option maxRecDepth 100000 in
set_option maxHeartbeats 4000000 in
theorem read_transfer (k : Int) (v : Value) (l : List ByteArray) (W : World) (pa : Nat) (hG : Glob W) (hb : Blk W pa (actZ k) nilS nilS) (h8 : 8 ≤ pa) (h : SlS W pa v l) (hsz : ∀ s ∈ l, s.size ≤ 1000000) (hn : l.length ≤ 100000) :
    Calls Tryz.prog 66 #[ptr pa, v] W (ReadPost W pa (readNs k 3 l)) := by
  obtain ⟨A, n, c, rfl, hl, hc, hm⟩ := h.form
  have hlt := hb.lt
  have HG := Lib.hid hG; have HB := Lib.hid hb; have H := Lib.hid h; have HSZ := Lib.hid hsz; have HN := Lib.hid hn
  have hne : ¬pa = W.heap.size := by omega
  have hne2 : ¬W.heap.size = pa := by omega
  clear hG hb h hsz hn
  simp only [ptr]
  go_enter Tryz.func66, Tryz.ntmps66
  go_wp2_with fail
  go_region_with (go_at_call 43; refine (numsQ_c _ l [1, 2, 3] 3 W.heap.size _ pa 26 _ _ (HG.out.step (bdr (bal (B0 W) _))) pa rfl (Sl.below H.out ((bdr (bal (B0 W) _)).mono (Nat.le_of_lt hlt))) (Nat.le_refl _) (by simp; omega) HSZ.out HN.out (fun j hj => by
      match j, hj with
      | 0, _ => go_simp; try rfl
      | 1, _ => go_simp; try rfl
      | 2, _ => go_simp; try rfl) hne2 (by simp) h8 (by exact ((bdr (bal (B0 W) _)).block _ hlt |>.trans HB.out)) (fun j hj => by
      match j, hj with
      | 0, _ => show _ < 10; decide
      | 1, _ => show _ < 10; decide
      | 2, _ => show _ < 10; decide)).mono ?_; rintro e w1 hp; have he := hp.ret; subst he)
  all_goals (go_wp2_with fail)
  all_goals
    go_ret
    have hp' := readNs_post (offs := [1, 2, 3]) (j := 3) (by simp) hp
    exact hp'.from_ (bdr (bal (B0 W) _))
def readPl (k : Int) (l : List ByteArray) : Option ActD := if l.length = 0 then some (actZ k) else none
set_option maxHeartbeats 1000000 in
theorem read_plain (k : Int) (v : Value) (l : List ByteArray) (W : World) (pa : Nat) (hb : Blk W pa (actZ k) nilS nilS) (h : SlS W pa v l) :
    Calls Tryz.prog 83 #[ptr pa, v] W (ReadPost W pa (readPl k l)) := by
  obtain ⟨A, n, c, rfl, hl, hc, hm⟩ := h.form
  have HB := Lib.hid hb
  clear hb h
  simp only [ptr]
  go_enter Tryz.func83, Tryz.ntmps83
  go_wp2_with fail
  go_ret
  refine ⟨World.grownBy.refl _ _, ?_, fun y hy => ?_⟩
  · unfold readPl
    rw [hl]
    by_cases e : n = 0
    · subst e; rfl
    · rw [if_neg e]; refine ret_bool ?_; simp; omega
  · unfold readPl at hy
    split at hy
    · injection hy with hy; subst hy
      exact ⟨nilS, nilS, HB.out, SlI.nil_ _ _, SlI.nil_ _ _, Fresh.nil _, Fresh.nil _⟩
    · cases hy
set_option maxRecDepth 100000 in
set_option maxHeartbeats 4000000 in
theorem read_replan (k : Int) (v : Value) (l : List ByteArray) (W : World) (pa : Nat) (hG : Glob W) (hb : Blk W pa (actZ k) nilS nilS) (h8 : 8 ≤ pa) (h : SlS W pa v l) (hsz : ∀ s ∈ l, s.size ≤ 1000000) (hn : l.length ≤ 100000) :
    Calls Tryz.prog 70 #[ptr pa, v] W (ReadPost W pa ((parseAll l).map fun vs => { actZ k with ms := vs })) := by
  have hlt := hb.lt
  have hL := list_c v l W hG (h.more (Nat.le_of_lt hlt)) hsz hn
  obtain ⟨A, n, c, rfl, hl, hc, hm⟩ := h.form
  have HL := Lib.hid hL
  have HB := Lib.hid hb
  clear hG hb h hsz hn hL
  simp only [ptr]
  go_enter Tryz.func70, Tryz.ntmps70
  cases hq : parseAll l with
  | none =>
    unfold ListPost at HL
    rw [hq] at HL
    go_wp2_with (first
    | (go_at_call 42
       refine HL.out.mono ?_
       rintro e w1 ⟨hb1, rfl⟩
       have r1 : w1.heap[pa]? = _ := (hb1.block _ hlt).trans HB.out
       rw [cells_z] at r1
       have d8 : w1.cell? ⟨pa, 8, none⟩ = some (.slice none 0 0) := by simp [World.cell?, r1, nilS]
       have f8 : w1.frozen? ⟨pa, 8, none⟩ = false := by simp [World.frozen?, r1]))
    go_ret
    exact ⟨grown_set (grown_from hb1 (World.grownBy.refl _ _)) _ _, rfl, fun y hy => by simp at hy⟩
  | some vs =>
    unfold ListPost at HL
    rw [hq] at HL
    go_wp2_with (first
    | (go_at_call 42
       refine HL.out.mono ?_
       rintro e w1 ⟨hb1, bu, nu, cu, rfl, hu, hfr⟩
       have hfar : ¬bu = pa := by omega
       have HU := Lib.hid hu
       clear hu
       have r1 : w1.heap[pa]? = _ := (hb1.block _ hlt).trans HB.out
       rw [cells_z] at r1
       have d8 : w1.cell? ⟨pa, 8, none⟩ = some (.slice none 0 0) := by simp [World.cell?, r1, nilS]
       have f8 : w1.frozen? ⟨pa, 8, none⟩ = false := by simp [World.frozen?, r1]))
    go_ret
    refine ⟨grown_set (grown_from hb1 (World.grownBy.refl _ _)) _ _, rfl, fun y hy => ?_⟩
    simp only [Option.map_some, Option.some.injEq] at hy
    subst hy
    exact ⟨_, nilS, (set_blk r1 _ _).trans rfl, SlI.set HU.out hfar, SlI.nil_ _ _, Fresh.mk_ hfr, Fresh.nil _⟩
theorem SlS.drop {W : World} {B b o n c : Nat} {l : List ByteArray} (h : SlS W B (.slice (some ⟨b, o, none⟩) n c) l) (k : Nat) (hk : k ≤ n) : SlS W B (.slice (some ⟨b, o + k, none⟩) (n - k) (c - k)) (l.drop k) := by
  obtain ⟨A, c', he, h1, h2, h3⟩ := h
  injection he with e1 e2 e3
  subst e1 e2 e3
  simp only [List.length_map] at h1 hk h3 ⊢
  refine ⟨some ⟨b, o + k, none⟩, c - k, by simp, by simp; omega, by simp only [maxLen] at *; omega, fun hn => ?_⟩
  have hne : l ≠ [] := by intro e; subst e; simp at hn
  obtain ⟨b', o', hA, hb, hc⟩ := h3 (by simpa using hne)
  injection hA with hA
  injection hA with hb' ho'
  subst hb' ho'
  refine ⟨_, _, rfl, hb, fun j u hu => ?_⟩
  rw [Nat.add_assoc]
  refine hc (k + j) u ?_
  rw [List.map_drop, List.getElem?_drop] at hu
  exact hu
theorem SlS.take_ {W : World} {B b o n c : Nat} {l : List ByteArray} (h : SlS W B (.slice (some ⟨b, o, none⟩) n c) l) (k : Nat) (hk : k ≤ n) : SlS W B (.slice (some ⟨b, o, none⟩) k c) (l.take k) := by
  obtain ⟨A, c', he, h1, h2, h3⟩ := h
  injection he with e1 e2 e3
  subst e1 e2 e3
  simp only [List.length_map] at h1 hk h3 ⊢
  refine ⟨some ⟨b, o, none⟩, c, by simp [hk], by simp; omega, h2, fun hn => ?_⟩
  have hne : l ≠ [] := by intro e; subst e; simp at hn
  obtain ⟨b', o', hA, hb, hc⟩ := h3 (by simpa using hne)
  injection hA with hA
  injection hA with hb' ho'
  subst hb' ho'
  refine ⟨_, _, rfl, hb, fun j u hu => hc j u ?_⟩
  rw [List.map_take, List.getElem?_take] at hu
  split at hu
  · exact hu
  · cases hu
theorem SlS.none_ {W : World} {B c : Nat} {A : Option Addr} (hc : c ≤ maxLen) : SlS W B (.slice A 0 c) [] := ⟨A, c, rfl, by simp, hc, fun h => absurd rfl h⟩
def readCrash (k : Int) (l : List ByteArray) : Option ActD :=
  if l.length = 0 then none else (parseAll (l.drop 1)).bind fun vs => (parseN (nths l 0)).map fun a => { actZ k with a := a, ss := vs }
set_option maxRecDepth 100000 in
set_option maxHeartbeats 4000000 in
theorem read_crash0 (k : Int) (v : Value) (l : List ByteArray) (W : World) (pa : Nat) (h : SlS W pa v l) (h0 : l.length = 0) :
    Calls Tryz.prog 41 #[ptr pa, v] W (ReadPost W pa (readCrash k l)) := by
  obtain ⟨A, n, c, rfl, hl, hc, hm⟩ := h.form
  have hr : readCrash k l = none := by unfold readCrash; rw [if_pos h0]
  rw [hr]
  obtain rfl : n = 0 := by omega
  clear h
  simp only [ptr]
  go_enter Tryz.func41, Tryz.ntmps41
  go_wp2_with fail
  go_ret
  exact ⟨World.grownBy.refl _ _, rfl, fun y hy => by cases hy⟩
set_option maxRecDepth 100000 in
set_option maxHeartbeats 4000000 in
theorem read_crash1 (k : Int) (v : Value) (l : List ByteArray) (W : World) (pa : Nat) (hG : Glob W) (hb : Blk W pa (actZ k) nilS nilS) (h8 : 8 ≤ pa) (h : SlS W pa v l) (hsz : ∀ s ∈ l, s.size ≤ 1000000) (hn : l.length ≤ 100000) (h0 : 0 < l.length) (hq : parseAll (l.drop 1) = none) :
    Calls Tryz.prog 41 #[ptr pa, v] W (ReadPost W pa (readCrash k l)) := by
  have hlt := hb.lt
  have hr : readCrash k l = none := by unfold readCrash; rw [if_neg (by omega), hq]; rfl
  rw [hr]
  obtain ⟨A, n, c, rfl, hl, hc, hm⟩ := h.form
  obtain ⟨bl, ol, rfl, hbl, hcell⟩ := h.at_ 0 (by omega)
  have hsz' : ∀ s ∈ l.drop 1, s.size ≤ 1000000 := fun s hs => hsz s (List.mem_of_mem_drop hs)
  have hn' : (l.drop 1).length ≤ 100000 := by simp; omega
  have L1 := list_c _ (l.drop 1) W hG ((h.drop 1 (by omega)).more (Nat.le_of_lt hlt)) hsz' hn'
  have hd : c = 1 → l.drop 1 = [] := fun e => by rw [List.drop_eq_nil_iff]; omega
  unfold ListPost at L1
  rw [hq] at L1
  have HL := Lib.hid L1
  have HB := Lib.hid hb
  have hc1 : ¬c = 1 := fun e => by rw [hd e] at hq; cases hq
  have i1 : (1 : Int) ≤ n := by omega
  have g0 : ¬((n : Int) = 0) := by omega
  have i2 : (n : Int) ≤ c := by omega
  have n1 : 1 ≤ n := by omega
  clear hG hb h hsz hn L1 hcell
  simp only [ptr]
  go_enter Tryz.func41, Tryz.ntmps41
  go_wp2_with (first
    | (go_at_call 42
       refine HL.out.mono ?_
       rintro e w1 ⟨hb1, rfl⟩
       have r1 : w1.heap[pa]? = _ := (hb1.block _ hlt).trans HB.out
       rw [cells_z] at r1
       have d9 : w1.cell? ⟨pa, 9, none⟩ = some (.slice none 0 0) := by simp [World.cell?, r1, nilS]
       have f9 : w1.frozen? ⟨pa, 9, none⟩ = false := by simp [World.frozen?, r1]))
  first | (go_region_with (first | fail)) | fail
  all_goals go_wp2_with fail
  all_goals
    go_ret
    exact ⟨grown_drew (grown_set (grown_from hb1 (World.grownBy.refl _ _)) _ _), rfl, fun y hy => by cases hy⟩
theorem nth1 {l : List ByteArray} (h : 0 < l.length) : l.take 1 = [nths l 0] := by
  match l, h with
  | a :: r, _ => rfl
theorem numsQ1 (s : ByteArray) : numsQ [s] 1 = (parseN s).map fun a => [a] := by
  have e : numsQ [s] 1 = parseAll [s] := if_pos rfl
  rw [e]
  cases hs : parseN s with
  | none => simp [parseAll, hs]
  | some u => simp [parseAll, hs]
set_option maxRecDepth 100000 in
set_option maxHeartbeats 4000000 in
theorem read_crash2 (k : Int) (v : Value) (l : List ByteArray) (W : World) (pa : Nat) (hG : Glob W) (hb : Blk W pa (actZ k) nilS nilS) (h8 : 8 ≤ pa) (h : SlS W pa v l) (hsz : ∀ s ∈ l, s.size ≤ 1000000) (hn : l.length ≤ 100000) (h0 : 0 < l.length) (vs : List Int) (hq : parseAll (l.drop 1) = some vs) (hc1 : ∀ A n c, v = .slice A n c → ¬c = 1) :
    Calls Tryz.prog 41 #[ptr pa, v] W (ReadPost W pa (readCrash k l)) := by
  have hlt := hb.lt
  have hr : readCrash k l = (parseN (nths l 0)).map fun a => { actZ k with a := a, ss := vs } := by unfold readCrash; rw [if_neg (by omega), hq]; rfl
  rw [hr]
  obtain ⟨A, n, c, rfl, hl, hc, hm⟩ := h.form
  obtain ⟨bl, ol, rfl, hbl, hcell⟩ := h.at_ 0 (by omega)
  have hsz' : ∀ s ∈ l.drop 1, s.size ≤ 1000000 := fun s hs => hsz s (List.mem_of_mem_drop hs)
  have hn' : (l.drop 1).length ≤ 100000 := by simp; omega
  have L1 := list_c _ (l.drop 1) W hG ((h.drop 1 (by omega)).more (Nat.le_of_lt hlt)) hsz' hn'
  unfold ListPost at L1
  rw [hq] at L1
  have HL := Lib.hid L1
  have HB := Lib.hid hb
  have hc1' : ¬c = 1 := hc1 _ _ _ rfl
  have HT := Lib.hid (h.take_ 1 (by omega))
  rw [nth1 h0] at HT
  have HZ := Lib.hid (hsz _ (nths_mem h0))
  have HG := Lib.hid hG
  have i1 : (1 : Int) ≤ n := by omega
  have g0 : ¬((n : Int) = 0) := by omega
  have i2 : (n : Int) ≤ c := by omega
  have i3 : (1 : Int) ≤ c := by omega
  have n1 : 1 ≤ n := by omega
  have n2 : 1 ≤ c := by omega
  clear hG hb h hsz hn L1 hcell hc1 hsz' hn'
  simp only [ptr]
  go_enter Tryz.func41, Tryz.ntmps41
  go_wp2_with (first
    | (go_at_call 42
       refine HL.out.mono ?_
       rintro e w1 ⟨hb1, bu, nu, cu, rfl, hu, hfr⟩
       have r1 : w1.heap[pa]? = _ := (hb1.block _ hlt).trans HB.out
       rw [cells_z] at r1
       have d9 : w1.cell? ⟨pa, 9, none⟩ = some (.slice none 0 0) := by simp [World.cell?, r1, nilS]
       have f9 : w1.frozen? ⟨pa, 9, none⟩ = false := by simp [World.frozen?, r1]))
  have hg1 := grown_set (grown_from hb1 (World.grownBy.refl w1 (some pa))) 9 (.slice (some ⟨bu, 0, none⟩) nu cu)
  have r2 := set_blk r1 9 (.slice (some ⟨bu, 0, none⟩) nu cu)
  have hu2 := SlI.set (o := 9) (u := .slice (some ⟨bu, 0, none⟩) nu cu) hu (show ¬bu = pa by omega)
  have hbb : Below pa W (w1.setCell ⟨pa, 9, none⟩ (.slice (some ⟨bu, 0, none⟩) nu cu)) := (hb1.mono (Nat.le_of_lt hlt)).setCell (Nat.le_refl _) _
  generalize hw2 : w1.setCell ⟨pa, 9, none⟩ (.slice (some ⟨bu, 0, none⟩) nu cu) = w2 at hg1 r2 hu2 hbb ⊢
  have hlt2 : pa < w2.heap.size := Nat.lt_of_lt_of_le hlt hg1.size
  have hne : ¬pa = w2.heap.size := by omega
  have hne2 : ¬w2.heap.size = pa := by omega
  have hG2 : Glob w2 := HG.out.grown hg1 h8
  clear hw2 hu hb1
  go_region_with (go_at_call 43; refine (numsQ_c _ [nths l 0] [1] 1 w2.heap.size _ pa 26 _ _ (hG2.step (bdr (bal (B0 w2) _))) pa rfl (Sl.below HT.out (below_drew (hbb.alloc (Nat.le_of_lt hlt2) _))) (Nat.le_refl _) (by simp; omega) (by simpa using HZ.out) (by simp) (fun j hj => by
      match j, hj with
      | 0, _ => go_simp; try rfl) hne2 (by simp) h8 (((bdr (bal (B0 w2) _)).block _ hlt2).trans r2) (fun j hj => by
      match j, hj with
      | 0, _ => show _ < 10; decide)).mono ?_; rintro e w3 hp; have he := hp.ret; subst he)
  all_goals (go_wp2_with fail)
  all_goals
    go_ret
    have hg3 := grown_from (bdr (bal (B0 w2) _)) hp.1
    have hp2 := hp.2
    refine ⟨grown_two hg1 hg3, ?_, fun y hy => ?_⟩
    · show Ending.returned (.bool (numsQ [nths l 0] 1).isSome) = _
      rw [numsQ1, Option.isSome_map, Option.isSome_map]
    · obtain ⟨a, ha, rfl⟩ := Option.map_eq_some_iff.1 hy
      have e1 : numsQ [nths l 0] [1].length = some [a] := by show numsQ [nths l 0] 1 = _; rw [numsQ1, ha]; rfl
      rw [e1] at hp2
      exact ⟨nilS, _, hp2.2.trans rfl, SlI.nil_ _ _, SlI.grown' hu2 hg3 (show ¬bu = pa by omega), Fresh.nil _, Fresh.mk_ hfr⟩
set_option maxRecDepth 100000 in
set_option maxHeartbeats 4000000 in
theorem read_crash3 (k : Int) (v : Value) (l : List ByteArray) (W : World) (pa : Nat) (hG : Glob W) (hb : Blk W pa (actZ k) nilS nilS) (h8 : 8 ≤ pa) (h : SlS W pa v l) (hsz : ∀ s ∈ l, s.size ≤ 1000000) (hn : l.length ≤ 100000) (h0 : 0 < l.length) (vs : List Int) (hq : parseAll (l.drop 1) = some vs) (hc1 : ∀ A n c, v = .slice A n c → c = 1) :
    Calls Tryz.prog 41 #[ptr pa, v] W (ReadPost W pa (readCrash k l)) := by
  have hlt := hb.lt
  have hr : readCrash k l = (parseN (nths l 0)).map fun a => { actZ k with a := a, ss := vs } := by unfold readCrash; rw [if_neg (by omega), hq]; rfl
  rw [hr]
  obtain ⟨A, n, c, rfl, hl, hc, hm⟩ := h.form
  obtain ⟨bl, ol, rfl, hbl, hcell⟩ := h.at_ 0 (by omega)
  have hsz' : ∀ s ∈ l.drop 1, s.size ≤ 1000000 := fun s hs => hsz s (List.mem_of_mem_drop hs)
  have hn' : (l.drop 1).length ≤ 100000 := by simp; omega
  obtain rfl : c = 1 := hc1 _ _ _ rfl
  obtain rfl : n = 1 := by omega
  have hd : l.drop 1 = [] := by rw [List.drop_eq_nil_iff]; omega
  have L0 := fun A => list_c (.slice A 0 0) (l.drop 1) W hG (by rw [hd]; exact SlS.none_ (by simp)) hsz' hn'
  have L1 := fun A => (L0 A).mono fun e w' h => h
  unfold ListPost at L1
  rw [hq] at L1
  clear L0
  have HL := Lib.hid L1
  have HB := Lib.hid hb
  have HT := Lib.hid (h.take_ 1 (by omega))
  rw [nth1 h0] at HT
  have HZ := Lib.hid (hsz _ (nths_mem h0))
  have HG := Lib.hid hG
  clear hG hb h hsz hn L1 hcell hc1 hsz' hn'
  simp only [ptr]
  go_enter Tryz.func41, Tryz.ntmps41
  go_wp2_with (first
    | (go_at_call 42
       refine (HL.out _).mono ?_
       rintro e w1 ⟨hb1, bu, nu, cu, rfl, hu, hfr⟩
       have r1 : w1.heap[pa]? = _ := (hb1.block _ hlt).trans HB.out
       rw [cells_z] at r1
       have d9 : w1.cell? ⟨pa, 9, none⟩ = some (.slice none 0 0) := by simp [World.cell?, r1, nilS]
       have f9 : w1.frozen? ⟨pa, 9, none⟩ = false := by simp [World.frozen?, r1]))
  have hg1 := grown_set (grown_from hb1 (World.grownBy.refl w1 (some pa))) 9 (.slice (some ⟨bu, 0, none⟩) nu cu)
  have r2 := set_blk r1 9 (.slice (some ⟨bu, 0, none⟩) nu cu)
  have hu2 := SlI.set (o := 9) (u := .slice (some ⟨bu, 0, none⟩) nu cu) hu (show ¬bu = pa by omega)
  have hbb : Below pa W (w1.setCell ⟨pa, 9, none⟩ (.slice (some ⟨bu, 0, none⟩) nu cu)) := (hb1.mono (Nat.le_of_lt hlt)).setCell (Nat.le_refl _) _
  generalize hw2 : w1.setCell ⟨pa, 9, none⟩ (.slice (some ⟨bu, 0, none⟩) nu cu) = w2 at hg1 r2 hu2 hbb ⊢
  have hlt2 : pa < w2.heap.size := Nat.lt_of_lt_of_le hlt hg1.size
  have hne : ¬pa = w2.heap.size := by omega
  have hne2 : ¬w2.heap.size = pa := by omega
  have hG2 : Glob w2 := HG.out.grown hg1 h8
  clear hw2 hu hb1
  go_region_with (go_at_call 43; refine (numsQ_c _ [nths l 0] [1] 1 w2.heap.size _ pa 26 _ _ (hG2.step (bdr (bal (B0 w2) _))) pa rfl (Sl.below HT.out (below_drew (hbb.alloc (Nat.le_of_lt hlt2) _))) (Nat.le_refl _) (by simp; omega) (by simpa using HZ.out) (by simp) (fun j hj => by
      match j, hj with
      | 0, _ => go_simp; try rfl) hne2 (by simp) h8 (((bdr (bal (B0 w2) _)).block _ hlt2).trans r2) (fun j hj => by
      match j, hj with
      | 0, _ => show _ < 10; decide)).mono ?_; rintro e w3 hp; have he := hp.ret; subst he)
  all_goals (go_wp2_with fail)
  all_goals
    go_ret
    have hg3 := grown_from (bdr (bal (B0 w2) _)) hp.1
    have hp2 := hp.2
    refine ⟨grown_two hg1 hg3, ?_, fun y hy => ?_⟩
    · show Ending.returned (.bool (numsQ [nths l 0] 1).isSome) = _
      rw [numsQ1, Option.isSome_map, Option.isSome_map]
    · obtain ⟨a, ha, rfl⟩ := Option.map_eq_some_iff.1 hy
      have e1 : numsQ [nths l 0] [1].length = some [a] := by show numsQ [nths l 0] 1 = _; rw [numsQ1, ha]; rfl
      rw [e1] at hp2
      exact ⟨nilS, _, hp2.2.trans rfl, SlI.nil_ _ _, SlI.grown' hu2 hg3 (show ¬bu = pa by omega), Fresh.nil _, Fresh.mk_ hfr⟩
theorem read_crash (k : Int) (v : Value) (l : List ByteArray) (W : World) (pa : Nat) (hG : Glob W) (hb : Blk W pa (actZ k) nilS nilS) (h8 : 8 ≤ pa) (h : SlS W pa v l) (hsz : ∀ s ∈ l, s.size ≤ 1000000) (hn : l.length ≤ 100000) :
    Calls Tryz.prog 41 #[ptr pa, v] W (ReadPost W pa (readCrash k l)) := by
  by_cases h0 : l.length = 0
  · exact read_crash0 k v l W pa h h0
  cases hq : parseAll (l.drop 1) with
  | none => exact read_crash1 k v l W pa hG hb h8 h hsz hn (by omega) hq
  | some vs =>
    obtain ⟨A, n, c, rfl, hl, hc, hm⟩ := h.form
    by_cases hc1 : c = 1
    · exact read_crash3 k _ l W pa hG hb h8 h hsz hn (by omega) vs hq (fun A' n' c' e => by injection e with _ _ e; omega)
    · exact read_crash2 k _ l W pa hG hb h8 h hsz hn (by omega) vs hq (fun A' n' c' e => by injection e with _ _ e; omega)

end Go.Proofs.YtdgciagmcjdhhaaGreatDoor
