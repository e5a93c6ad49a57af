/-
  The program's numbers: reads integers into cells of one block.
-/
import Derived.Test.YtdgciagmcjdhhaaGreatDoorStep1
set_option linter.unusedVariables false
set_option linter.unusedSimpArgs false
namespace Go.Proofs.YtdgciagmcjdhhaaGreatDoor
open Go Go.RowKit

/-- The integer of which the string is the canonical text. -/
def parseN (s : ByteArray) : Option Int :=
  match Lib.atoiAll s.data.toList with
  | .ok v => if bs (Lib.itoa v) = s then some v else none
  | _ => none
def parseAll : List ByteArray → Option (List Int)
  | [] => some []
  | s :: r => match parseN s with
    | none => none
    | some v => (parseAll r).map (v :: ·)
def setAll (cs : Array Value) : List Nat → List Int → Array Value
  | o :: os, v :: vs => setAll (cs.setIfInBounds o (.int .i64 v)) os vs
  | _, _ => cs
theorem setAll_size : ∀ (os : List Nat) (vs : List Int) (cs : Array Value), (setAll cs os vs).size = cs.size
  | [], _, cs => by simp [setAll]
  | _ :: _, [], cs => by simp [setAll]
  | o :: os, v :: vs, cs => by rw [setAll, setAll_size os vs]; simp
theorem setAll_snoc : ∀ (os : List Nat) (vs : List Int) (cs : Array Value) (o : Nat) (v : Int), os.length = vs.length → setAll cs (os ++ [o]) (vs ++ [v]) = (setAll cs os vs).setIfInBounds o (.int .i64 v)
  | [], [], cs, o, v, _ => rfl
  | [], _ :: _, _, _, _, h => by simp at h
  | _ :: _, [], _, _, _, h => by simp at h
  | o' :: os, v' :: vs, cs, o, v, h => by
    show setAll (cs.setIfInBounds o' (.int .i64 v')) (os ++ [o]) (vs ++ [v]) = _
    rw [setAll_snoc os vs _ o v (by simpa using h)]; rfl
theorem parseAll_len : ∀ {l : List ByteArray} {vs : List Int}, parseAll l = some vs → vs.length = l.length
  | [], vs, h => by simp [parseAll] at h; subst h; rfl
  | s :: r, vs, h => by
    rw [parseAll] at h
    split at h
    · cases h
    · obtain ⟨us, hu, rfl⟩ := Option.map_eq_some_iff.1 h
      simp [parseAll_len hu]
theorem parseAll_snoc : ∀ (l : List ByteArray) (s : ByteArray), parseAll (l ++ [s]) = (parseAll l).bind fun vs => (parseN s).map fun v => vs ++ [v]
  | [], s => by cases h : parseN s <;> simp [parseAll, h]
  | x :: r, s => by
    rw [List.cons_append, parseAll, parseAll]
    cases hx : parseN x with
    | none => rfl
    | some v =>
      rw [parseAll_snoc r s]
      cases parseAll r with
      | none => rfl
      | some vs => cases parseN s <;> simp
theorem parseAll_append_none : ∀ (l r : List ByteArray), parseAll l = none → parseAll (l ++ r) = none
  | [], _, h => by simp [parseAll] at h
  | x :: l, r, h => by
    rw [List.cons_append, parseAll]
    rw [parseAll] at h
    cases hx : parseN x with
    | none => rfl
    | some v =>
      rw [hx] at h
      have : parseAll l = none := by simpa using h
      simp [parseAll_append_none l r this]
theorem parseN_I64 {s : ByteArray} {v : Int} (h : parseN s = some v) : I64 v := by
  unfold parseN at h
  split at h
  · rename_i v' hv
    split at h
    · injection h with h
      subst h
      have h64 : Lib.parseIntB 64 s.data.toList = .ok v' := by rw [Lib.parseIntB_64]; exact hv
      have := Lib.parseIntB_bounds h64
      exact ⟨by omega, by omega⟩
    · cases h
  · cases h

/-- What the program's numbers does to block b. -/
def NumsPost (w : World) (b : Nat) (t : TypeId) (cs : Array Value) (offs : List Nat) (l : List ByteArray) (e : Ending) (w' : World) : Prop :=
  w.grownBy w' (some b) ∧ match parseAll l with
    | some vs => e = .returned (.bool true) ∧ w'.heap[b]? = some (.cells (setAll cs offs vs) t (0, 0))
    | none => e = .returned (.bool false) ∧ ∃ cs', w'.heap[b]? = some (.cells cs' t (0, 0)) ∧ cs'.size = cs.size

theorem grown_below {a w w' : World} {row : Option Nat} (h : a.grownBy w row) (hb : Below w.heap.size w w') : a.grownBy w' row :=
  ⟨hb.os.trans h.os, hb.tape.trans h.tape, hb.output.trans h.output, Nat.le_trans h.size hb.size, fun i hi hne => (hb.block i (Nat.lt_of_lt_of_le hi h.size)).trans (h.block i hi hne)⟩
theorem grown_refl (w : World) (row : Option Nat) : w.grownBy w row := World.grownBy.refl w row
theorem SlS.grown {w w' : World} {B b : Nat} {v : Value} {l : List ByteArray} (h : SlS w B v l) (hg : w.grownBy w' (some b)) (hB : B ≤ b) (hw : B ≤ w.heap.size) : SlS w' B v l :=
  Sl.keep h fun b' o hb' => World.cell?_of_block (hg.block b' (by omega) (by intro e; injection e with e; omega))
theorem Glob.grown {w w' : World} {b : Nat} (h : Glob w) (hg : w.grownBy w' (some b)) (hb : 8 ≤ b) : Glob w' :=
  h.below (B := 8) ⟨hg.os, hg.tape, hg.output, hg.size, fun k hk => hg.block k (by have := h.size; omega) (by intro e; injection e with e; omega)⟩ (Nat.le_refl _)

theorem set_blk {w : World} {b : Nat} {C : Array Value} {t : TypeId} (h : w.heap[b]? = some (.cells C t (0, 0))) (o : Nat) (u : Value) : (w.setCell ⟨b, o, none⟩ u).heap[b]? = some (.cells (C.setIfInBounds o u) t (0, 0)) := by
  simp [World.setCell, Array.getElem?_modify, h]
theorem grown_set {a w : World} {b : Nat} (h : a.grownBy w (some b)) (o : Nat) (u : Value) : a.grownBy (w.setCell ⟨b, o, none⟩ u) (some b) :=
  ⟨h.os, h.tape, h.output, by simpa [World.setCell] using h.size, fun i hi hne => (Below.heap_setCell w ⟨b, o, none⟩ u i (by intro e; exact hne (by rw [e]))).trans (h.block i hi hne)⟩
theorem blk_cell {w : World} {b : Nat} {C : Array Value} {t : TypeId} (h : w.heap[b]? = some (.cells C t (0, 0))) {o : Nat} (ho : o < C.size) : w.cell? ⟨b, o, none⟩ = some C[o] := by
  simp [World.cell?, h, ho]
theorem blk_frozen {w : World} {b : Nat} {C : Array Value} {t : TypeId} (h : w.heap[b]? = some (.cells C t (0, 0))) (o : Nat) : w.frozen? ⟨b, o, none⟩ = false := by
  simp [World.frozen?, h]
def nthN (l : List Nat) (k : Nat) : Nat := l.getD k 0
theorem take_snoc_nths (l : List ByteArray) (k : Nat) (h : k < l.length) : l.take (k + 1) = l.take k ++ [nths l k] := by
  rw [List.take_succ_eq_append_getElem h, nths_eq h]
theorem take_snoc_nthN (l : List Nat) (k : Nat) (h : k < l.length) : l.take (k + 1) = l.take k ++ [nthN l k] := by
  rw [List.take_succ_eq_append_getElem h]; simp [nthN, List.getD, List.getElem?_eq_getElem h]
theorem nths_mem {l : List ByteArray} {k : Nat} (h : k < l.length) : nths l k ∈ l := by rw [nths_eq h]; exact List.getElem_mem h
theorem take_drop_nths (l : List ByteArray) (k : Nat) (h : k < l.length) : l = l.take k ++ (nths l k :: l.drop (k + 1)) := by
  rw [nths_eq h, ← List.drop_eq_getElem_cons h, List.take_append_drop]

set_option maxRecDepth 100000 in
set_option maxHeartbeats 2000000 in
theorem numsP_len (A A' : Option Addr) (n c n' c' : Nat) (w : World) (h : n ≠ n') :
    Calls Tryz.prog 43 #[.slice A n c, .slice A' n' c'] w fun e w' => e = .returned (.bool false) ∧ w' = w := by
  have hne : ((n : Int) != n') = true := by simp; omega
  go_enter Tryz.func43, Tryz.ntmps43
  go_wp2
  go_ret
  exact ⟨rfl, rfl⟩

set_option maxRecDepth 100000 in
set_option maxHeartbeats 4000000 in
theorem numsP_c (v : Value) (l : List ByteArray) (offs : List Nat) (bu cu b : Nat) (t : TypeId) (cs : Array Value) (w : World) (hG : Glob w) (B : Nat)
    (h : SlS w B v l) (hB : B ≤ b) (hBw : B ≤ w.heap.size) (hsz : ∀ s ∈ l, s.size ≤ 1000000) (hlen : l.length = offs.length) (hn : l.length ≤ 100000)
    (hu : ∀ j, j < offs.length → w.cell? ⟨bu, j, none⟩ = some (.pointer (some ⟨b, nthN offs j, none⟩))) (hbu : bu ≠ b) (hbw : bu < w.heap.size) (hb8 : 8 ≤ b)
    (hblk : w.heap[b]? = some (.cells cs t (0, 0))) (hint : ∀ j, j < offs.length → nthN offs j < cs.size) :
    Calls Tryz.prog 43 #[v, .slice (some ⟨bu, 0, none⟩) offs.length cu] w (NumsPost w b t cs offs l) := by
  obtain ⟨A, n, c, rfl, hl, hc, hm⟩ := h.form
  have hbw' : b < w.heap.size := by
    rcases Nat.lt_or_ge b w.heap.size with h | h
    · exact h
    · rw [Array.getElem?_eq_none h] at hblk; cases hblk
  rw [← hlen, hl]
  have HLn := Lib.hid hl; have HLo := Lib.hid (hlen.symm.trans hl)
  have H := Lib.hid h; have HG := Lib.hid hG; have HSZ := Lib.hid hsz; have HU := Lib.hid hu; have HB := Lib.hid hblk; have HI := Lib.hid hint
  have hn' : n ≤ 100000 := by omega
  have HBU := Lib.hid hbu
  clear hl hlen h hG hsz hu hblk hint hn hbu
  go_enter Tryz.func43, Tryz.ntmps43
  go_wp2_with fail
  go_loopw [16] (fun i wr => ∃ (k : Nat) (vs : List Int), k ≤ n ∧ i = .int .i64 k ∧ parseAll (l.take k) = some vs ∧ w.grownBy wr (some b) ∧ wr.heap[b]? = some (.cells (setAll cs (offs.take k) vs) t (0, 0))) (fun i _ => n - (intOf i).toNat)
  case atStart => exact ⟨0, [], Nat.zero_le _, rfl, rfl, grown_refl _ _, HB.out⟩
  case round =>
    obtain ⟨k, vs, hk, rfl, hvs, hg, hblk⟩ := hrel
    have HV := Lib.hid hvs; have HGr := Lib.hid hg; have HBk := Lib.hid hblk
    clear hvs hg hblk
    by_cases hlt : k < n
    · obtain ⟨bl, ol, rfl, hbl, hcell⟩ := (H.out.grown HGr.out hB hBw).at_ k hlt
      have h1 := hcell k hlt
      have h2 : wr.cell? ⟨bu, k, none⟩ = some (.pointer (some ⟨b, nthN offs k, none⟩)) := by
        rw [World.cell?_of_block (HGr.out.block bu hbw (by intro e; injection e with e; exact HBU.out e))]
        exact HU.out k (by rw [HLo.out]; exact hlt)
      clear hcell
      have hz : (nths l k).size ≤ 1000000 := HSZ.out _ (nths_mem (by rw [HLn.out]; exact hlt))
      have i1 : (0 : Int) ≤ (k : Int) := by omega
      have i2 : (k : Int) < (n : Int) := by omega
      have hlo : nthN offs k < (setAll cs (offs.take k) vs).size := by rw [setAll_size]; exact HI.out k (by rw [HLo.out]; exact hlt)
      have hbr : b < wr.heap.size := Nat.lt_of_lt_of_le hbw' HGr.out.size
      have hbur : bu < wr.heap.size := Nat.lt_of_lt_of_le hbw HGr.out.size
      have stop : parseN (nths l k) = none → parseAll l = none := fun h => by
        rw [take_drop_nths l k (by rw [HLn.out]; exact hlt), ← List.singleton_append, ← List.append_assoc]
        refine parseAll_append_none _ _ ?_
        rw [parseAll_snoc, HV.out, h]; rfl
      have STOP := Lib.hid stop
      clear stop
      cases hp : Lib.atoiAll (nths l k).data.toList with
      | ok v =>
        have hv64 : I64 v := by
          have h64 : Lib.parseIntB 64 (nths l k).data.toList = .ok v := by rw [Lib.parseIntB_64]; exact hp
          have := Lib.parseIntB_bounds h64
          exact ⟨by omega, by omega⟩
        have hat := fun W => Atoi_ok_c (nths l k) (by omega) v hp W
        have HAt := Lib.hid hat
        have HP := Lib.hid hp
        clear hat hp
        by_cases he : bs (Lib.itoa v) = nths l k
        · have hcmp : ((bs (Lib.itoa v)).toList == (nths l k).toList) = true := by rw [he]; simp
          have HE := Lib.hid he
          clear he
          go_wp2_with (first
            | (go_at_call 86; refine (HAt.out _).mono ?_; rintro e w1 ⟨rfl, hb1⟩; have hg1 := grown_below HGr.out hb1)
            | (go_at_call 87; refine (Itoa_c _ hv64 _ (HG.out.grown hg1 hb8)).mono ?_; rintro e w2 ⟨rfl, hb2⟩; have hg2 := grown_below hg1 hb2; have hbk2 : w2.heap[b]? = some (.cells (setAll cs (offs.take k) vs) t (0, 0)) := ((hb2.block b (Nat.lt_of_lt_of_le hbr hb1.size)).trans (hb1.block b hbr)).trans HBk.out; have h22 : w2.cell? ⟨bu, k, none⟩ = some (.pointer (some ⟨b, nthN offs k, none⟩)) := ((hb2.cell (Nat.lt_of_lt_of_le hbur hb1.size)).trans (hb1.cell hbur)).trans h2; have hcl2 := blk_cell hbk2 hlo; have hfz2 := blk_frozen hbk2 (nthN offs k)))
          have hstep : parseAll (l.take (k + 1)) = some (vs ++ [v]) := by
            rw [take_snoc_nths l k (by rw [HLn.out]; exact hlt), parseAll_snoc, HV.out]
            simp [parseN, HP.out, HE.out]
          exact ⟨⟨k + 1, vs ++ [v], by omega, by go_num, hstep, grown_set hg2 _ _, by
            rw [take_snoc_nthN offs k (by rw [HLo.out]; exact hlt), setAll_snoc _ _ _ _ _ (by rw [parseAll_len HV.out, List.length_take, List.length_take, HLn.out, HLo.out])]
            exact set_blk hbk2 _ _⟩, by simp [intOf]; omega⟩
        · have hcmp : ((bs (Lib.itoa v)).toList == (nths l k).toList) = false := by
            rw [beq_eq_false_iff_ne]; intro h; exact he (by rw [← bs_toList (nths l k), ← ba_toList, ← h, ba_toList, bs_data])
          have HE := Lib.hid he
          clear he
          go_wp2_with (first
            | (go_at_call 86; refine (HAt.out _).mono ?_; rintro e w1 ⟨rfl, hb1⟩; have hg1 := grown_below HGr.out hb1)
            | (go_at_call 87; refine (Itoa_c _ hv64 _ (HG.out.grown hg1 hb8)).mono ?_; rintro e w2 ⟨rfl, hb2⟩; have hg2 := grown_below hg1 hb2; have hbk2 : w2.heap[b]? = some (.cells (setAll cs (offs.take k) vs) t (0, 0)) := ((hb2.block b (Nat.lt_of_lt_of_le hbr hb1.size)).trans (hb1.block b hbr)).trans HBk.out; have h22 : w2.cell? ⟨bu, k, none⟩ = some (.pointer (some ⟨b, nthN offs k, none⟩)) := ((hb2.cell (Nat.lt_of_lt_of_le hbur hb1.size)).trans (hb1.cell hbur)).trans h2; have hcl2 := blk_cell hbk2 hlo; have hfz2 := blk_frozen hbk2 (nthN offs k)))
          go_ret
          refine ⟨hg2, ?_⟩
          rw [STOP.out (by simp [parseN, HP.out, HE.out])]
          exact ⟨rfl, _, hbk2, setAll_size _ _ _⟩
      | _ =>
        have hat := fun W => Atoi_err_c (nths l k) (by omega) (by intro v h; rw [hp] at h; cases h) W
        have HAt := Lib.hid hat
        have HP := Lib.hid hp
        clear hat hp
        go_wp2_with (first
          | (go_at_call 86; refine (HAt.out _ (HG.out.grown HGr.out hb8)).mono ?_; rintro e w1 ⟨v1, t1, p1, rfl, hb1⟩; have hg1 := grown_below HGr.out hb1))
        go_ret
        refine ⟨hg1, ?_⟩
        rw [STOP.out (by simp [parseN, HP.out])]
        exact ⟨rfl, _, (hb1.block b hbr).trans HBk.out, setAll_size _ _ _⟩
    · go_wp2_with fail
      go_ret
      have hkn : k = n := by omega
      have hl : parseAll l = some vs := by have := HV.out; rwa [List.take_of_length_le (by rw [HLn.out]; omega)] at this
      refine ⟨HGr.out, ?_⟩
      rw [hl]
      refine ⟨rfl, ?_⟩
      have := HBk.out
      rwa [List.take_of_length_le (by rw [HLo.out]; omega)] at this
end Go.Proofs.YtdgciagmcjdhhaaGreatDoor
