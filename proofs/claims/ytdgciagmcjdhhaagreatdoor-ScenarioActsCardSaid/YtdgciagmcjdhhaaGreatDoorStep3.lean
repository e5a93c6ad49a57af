/-
  The program's long and list.
-/
import Derived.Test.YtdgciagmcjdhhaaGreatDoorStep2
set_option linter.unusedVariables false
set_option linter.unusedSimpArgs false
namespace Go.Proofs.YtdgciagmcjdhhaaGreatDoor
open Go Go.RowKit

theorem parseN_ok {s : ByteArray} {v : Int} (h : Lib.parseIntB 64 s.data.toList = .ok v) : parseN s = if bs (Lib.itoa v) = s then some v else none := by
  have : Lib.atoiAll s.data.toList = .ok v := by rw [← Lib.parseIntB_64]; exact h
  simp [parseN, this]
theorem parseN_no {s : ByteArray} (h : ∀ v, Lib.parseIntB 64 s.data.toList ≠ .ok v) : parseN s = none := by
  have : ∀ v, Lib.atoiAll s.data.toList ≠ .ok v := fun v => by rw [← Lib.parseIntB_64]; exact h v
  unfold parseN
  split
  · rename_i v hv; exact absurd hv (this v)
  · rfl
/-- What the program's long does to the cell o of block b. -/
def LongPost (w : World) (b : Nat) (t : TypeId) (cs : Array Value) (o : Nat) (s : ByteArray) (e : Ending) (w' : World) : Prop :=
  w.grownBy w' (some b) ∧ ∃ v : Int, w'.heap[b]? = some (.cells (cs.setIfInBounds o (.int .i64 v)) t (0, 0)) ∧ e = .returned (.bool (parseN s).isSome) ∧ ∀ u, parseN s = some u → v = u

set_option maxRecDepth 100000 in
set_option maxHeartbeats 2000000 in
theorem long_c (s : ByteArray) (b o : Nat) (t : TypeId) (cs : Array Value) (w : World) (hG : Glob w) (hs : s.size ≤ 1000000) (hb8 : 8 ≤ b)
    (hblk : w.heap[b]? = some (.cells cs t (0, 0))) (ho : o < cs.size) :
    Calls Tryz.prog 61 #[.string s, .pointer (some ⟨b, o, none⟩)] w (LongPost w b t cs o s) := by
  have hbw : b < w.heap.size := by
    rcases Nat.lt_or_ge b w.heap.size with h | h
    · exact h
    · rw [Array.getElem?_eq_none h] at hblk; cases hblk
  have HB := Lib.hid hblk
  have HG := Lib.hid hG
  clear hblk hG
  cases hp : Lib.parseIntB 64 s.data.toList with
  | ok v =>
    have hv64 : I64 v := by have := Lib.parseIntB_bounds hp; exact ⟨by omega, by omega⟩
    have hat := fun W => ParseInt_ok_c s (by omega) v hp W
    have HAt := Lib.hid hat
    have HP := Lib.hid (parseN_ok hp)
    clear hat hp
    have key : ∀ r : Bool, ((bs (Lib.itoa v)).toList == s.toList) = r → (parseN s).isSome = r ∧ ∀ u, parseN s = some u → v = u := fun r hr => by
      rw [HP.out]
      by_cases he : bs (Lib.itoa v) = s
      · rw [if_pos he]
        refine ⟨?_, fun u h => by injection h⟩
        rw [← hr, he]; simp
      · rw [if_neg he]
        refine ⟨?_, fun u h => by cases h⟩
        rw [← hr]; symm
        show _ = false
        rw [beq_eq_false_iff_ne]; intro h; exact he (by rw [← bs_toList s, ← ba_toList, ← h, ba_toList, bs_data])
    have KEY := Lib.hid key
    clear key
    go_enter Tryz.func61, Tryz.ntmps61
    go_wp2_with (first
      | (go_at_call 90; refine (HAt.out _).mono ?_; rintro e w1 ⟨rfl, hb1⟩; have hbk1 := (hb1.block b hbw).trans HB.out; have hcl1 := blk_cell hbk1 ho; have hfz1 := blk_frozen hbk1 o; have hg1 := grown_set (grown_below (grown_refl w (some b)) hb1) o (.int .i64 v))
      | (go_at_call 63; refine (FormatInt_c _ hv64 _ (HG.out.grown hg1 hb8)).mono ?_; rintro e w2 ⟨rfl, hb2⟩))
    go_ret
    exact ⟨grown_below hg1 hb2, v, (hb2.block b (by simp [World.setCell]; have := hb1.size; omega)).trans (set_blk hbk1 _ _), (ret_bool (KEY.out _ rfl).1.symm), (KEY.out _ rfl).2⟩
  | _ =>
    have hno : ∀ v, Lib.parseIntB 64 s.data.toList ≠ .ok v := by intro v h; rw [hp] at h; cases h
    have hat := fun W => ParseInt_err_c s (by omega) hno W
    have HAt := Lib.hid hat
    have HP := Lib.hid (parseN_no hno)
    clear hat hp hno
    go_enter Tryz.func61, Tryz.ntmps61
    go_wp2_with (first
      | (go_at_call 90; refine (HAt.out _ HG.out).mono ?_; rintro e w1 ⟨v1, t1, p1, rfl, hb1⟩; have hbk1 := (hb1.block b hbw).trans HB.out; have hcl1 := blk_cell hbk1 ho; have hfz1 := blk_frozen hbk1 o; have hg1 := grown_set (grown_below (grown_refl w (some b)) hb1) o (.int .i64 v1)))
    go_ret
    exact ⟨hg1, _, set_blk hbk1 _ _, by rw [HP.out]; rfl, by rw [HP.out]; intro u h; cases h⟩

set_option maxRecDepth 100000 in
theorem run_make_ints (n : Nat) (hn : n ≤ 1000000) (W : World) :
    (Instr.makeSlice 24 (.int .i64 (n : Int)) (.int .i64 (n : Int))).run Tryz.prog W = .ok (.slice (some ⟨W.heap.size, 0, none⟩) n n) (W.alloc (.cells (Array.replicate n (.int .i64 0)) 3)) := by
  obtain ⟨i0, hi, hz0, hz1, hz2⟩ := info_parts (show (Tryz.prog.info? 3).map (fun i => (i.zero, i.size, i.bytes)) = some (some (.int .i64 0), 1, 8) by kernel_rfl)
  have hb : (i0.bytes : Int) * (n : Int) ≤ 281474976710656 := by rw [hz2]; omega
  have hr := run_make (P := Tryz.prog) W 24 3 i0 _ Tryz.underlying24 hi hz0 .i64 .i64 n n (by omega) (by omega) hb (by omega)
  simp only [Int.toNat_natCast] at hr
  rw [hr, hz1]
  congr 3
  apply Array.ext <;> simp [madeCells, Value.cells, Nat.mod_one]
/-- What the program's list hands back. -/
def ListPost (w : World) (l : List ByteArray) (e : Ending) (w' : World) : Prop :=
  Below w.heap.size w w' ∧ match parseAll l with
    | some vs => ∃ b n c, e = .returned (.tuple #[.slice (some ⟨b, 0, none⟩) n c, .bool true]) ∧ SlI w' w'.heap.size (.slice (some ⟨b, 0, none⟩) n c) vs ∧ w.heap.size ≤ b
    | none => e = .returned (.tuple #[.slice none 0 0, .bool false])
theorem parseAll_I64 : ∀ {l : List ByteArray} {vs : List Int}, parseAll l = some vs → ∀ x ∈ vs, I64 x
  | [], vs, h => by simp [parseAll] at h; subst h; simp
  | s :: r, vs, h => by
    rw [parseAll] at h
    split at h
    · cases h
    · rename_i v hv
      obtain ⟨us, hu, rfl⟩ := Option.map_eq_some_iff.1 h
      intro x hx
      rcases List.mem_cons.1 hx with rfl | hx
      · exact parseN_I64 hv
      · exact parseAll_I64 hu x hx
theorem SlS.cut1 {w : World} {B : Nat} {b o n c : Nat} {l : List ByteArray} (h : SlS w B (.slice (some ⟨b, o, none⟩) n c) l) (k : Nat) (hk : k < n) :
    SlS w B (.slice (some ⟨b, o + k, none⟩) 1 (c - k)) [nths l k] := by
  obtain ⟨A, n', c', he, hl, hnc, hm⟩ := h.form
  injection he with e1 e2 e3
  subst e1 e2 e3
  obtain ⟨b', o', hA, hb, hcell⟩ := h.at_ k hk
  injection hA with hA
  injection hA with e1 e2
  subst e1 e2
  refine ⟨_, c - k, rfl, by simp; omega, by simp [maxLen]; omega, fun _ => ⟨b, o + k, rfl, hb, fun j u hj => ?_⟩⟩
  match j, hj with
  | 0, hj => exact (hcell k hk).trans (by simpa using hj)

/-- The program's numbers at one word. -/
theorem numsP1 (v : Value) (s : ByteArray) (o bu cu b : Nat) (t : TypeId) (cs : Array Value) (w : World) (hG : Glob w) (B : Nat)
    (h : SlS w B v [s]) (hB : B ≤ b) (hBw : B ≤ w.heap.size) (hsz : s.size ≤ 1000000)
    (hu : w.cell? ⟨bu, 0, none⟩ = some (.pointer (some ⟨b, o, none⟩))) (hbu : bu ≠ b) (hbw : bu < w.heap.size) (hb8 : 8 ≤ b)
    (hblk : w.heap[b]? = some (.cells cs t (0, 0))) (hint : o < cs.size) :
    Calls Tryz.prog 43 #[v, .slice (some ⟨bu, 0, none⟩) 1 cu] w fun e w' => e = .returned (.bool (parseN s).isSome) ∧ w.grownBy w' (some b) ∧ ∃ cs', w'.heap[b]? = some (.cells cs' t (0, 0)) ∧ cs'.size = cs.size ∧ ∀ u, parseN s = some u → cs' = cs.setIfInBounds o (.int .i64 u) := by
  refine (numsP_c v [s] [o] bu cu b t cs w hG B h hB hBw (by simpa using hsz) rfl (by simp) (fun j hj => ?_) hbu hbw hb8 hblk (fun j hj => ?_)).mono fun e w' ⟨hg, hp⟩ => ?_
  · have : j = 0 := by simpa using hj
    subst this; exact hu
  · have : j = 0 := by simpa using hj
    subst this; exact hint
  · cases hs : parseN s with
    | some u =>
      have e1 : parseAll [s] = some [u] := by simp [parseAll, hs]
      rw [e1] at hp
      exact ⟨hp.1, hg, _, hp.2, by simp [setAll], fun u' h => by injection h with h; subst h; rfl⟩
    | none =>
      have e1 : parseAll [s] = none := by simp [parseAll, hs]
      rw [e1] at hp
      obtain ⟨he, cs', h1, h2⟩ := hp
      exact ⟨he, hg, cs', h1, h2, fun u' h => by cases h⟩
theorem nth_lt {vs : List Int} {u : Int} {j : Nat} (h : j < vs.length) : nth (vs ++ [u]) j = nth vs j := by simp [nth, List.getElem?_append_left h]
theorem nth_len {vs : List Int} {u : Int} : nth (vs ++ [u]) vs.length = u := by simp [nth]
theorem grown_to_below {a w w' : World} {B : Nat} (h : Below B a w) (hg : w.grownBy w' (some B)) (hB : B ≤ w.heap.size) : Below B a w' :=
  h.grown hg hB (fun k hk => by injection hk with hk; omega)

set_option maxRecDepth 100000 in
set_option maxHeartbeats 4000000 in
theorem list_c (v : Value) (l : List ByteArray) (w : World) (hG : Glob w) (h : SlS w w.heap.size v l) (hsz : ∀ s ∈ l, s.size ≤ 1000000) (hn : l.length ≤ 100000) :
    Calls Tryz.prog 42 #[v] w (ListPost w l) := by
  obtain ⟨A, n, c, rfl, hl, hc, hm⟩ := h.form
  have HLn := Lib.hid hl
  have H := Lib.hid h; have HG := Lib.hid hG; have HSZ := Lib.hid hsz
  have hn' : n ≤ 100000 := by omega
  have hmk := run_make_ints n (by omega)
  clear hl h hG hsz hn
  go_enter Tryz.func42, Tryz.ntmps42
  go_wp2_with fail
  clear hmk
  go_loopw [11] (fun i wr => ∃ (k : Nat) (vs : List Int) (C : Array Value), k ≤ n ∧ i = .int .i64 k ∧ parseAll (l.take k) = some vs ∧ Below w.heap.size w wr ∧ wr.heap[w.heap.size]? = some (.cells C 3 (0, 0)) ∧ C.size = n ∧ ∀ j, j < k → C[j]? = some (.int .i64 (nth vs j))) (fun i _ => n - (intOf i).toNat)
  case atStart => exact ⟨0, [], _, Nat.zero_le _, rfl, rfl, bal (B0 w) _, by rw [heap_alloc_new], by simp, by omega⟩
  case round =>
    obtain ⟨k, vs, C, hk, rfl, hvs, hb, hblk, hC, hcs⟩ := hrel
    have HV := Lib.hid hvs; have HBk := Lib.hid hblk; have HC := Lib.hid hC; have HCs := Lib.hid hcs
    clear hvs hblk hC hcs
    by_cases hlt : k < n
    · obtain ⟨bl, ol, rfl, hbl, hcell⟩ := (H.out.below hb (Nat.le_refl _)).at_ k hlt
      have hcut := (H.out.below hb (Nat.le_refl _)).cut1 k hlt
      have HCu := Lib.hid hcut
      clear hcell hcut
      have i1 : (0 : Int) ≤ (k : Int) := by omega
      have i2 : (k : Int) < (n : Int) := by omega
      have i3 : IntKind.i64.wrap ((k : Int) + 1) = (k : Int) + 1 := IntWalk.i64_in _ (by omega)
      have i4 : ((k : Int) + 1).toNat = k + 1 := by omega
      have i5 : (0 : Int) ≤ (k : Int) + 1 := by omega
      have i6 : (k : Int) + 1 ≤ (c : Int) := by omega
      have i7 : k + 1 ≤ c := by omega
      have hck : ¬c = k := by omega
      have hbB := hb
      have hbw : w.heap.size < wr.heap.size := by
        rcases Nat.lt_or_ge w.heap.size wr.heap.size with h | h
        · exact h
        · have := HBk.out; rw [Array.getElem?_eq_none h] at this; cases this
      have HB0 := bdr (bal hb (.cells #[.pointer (some ⟨w.heap.size, k, none⟩)] 73))
      have call := numsP1 (.slice (some ⟨bl, ol + k, none⟩) 1 (c - k)) (nths l k) k wr.heap.size 1 w.heap.size 3 C (wr.alloc (.cells #[.pointer (some ⟨w.heap.size, k, none⟩)] 73)).drew
        (HG.out.step HB0) w.heap.size (Sl.belowM HCu.out (bdr (bal (B0 wr) _)) (by omega)) (Nat.le_refl _) (by simp; omega) (HSZ.out _ (nths_mem (by rw [HLn.out]; exact hlt)))
        (by go_simp) (by omega) (by simp) HG.out.size ((Below.heap_alloc wr _ _ hbw).trans HBk.out) (by rw [HC.out]; exact hlt)
      have HCall := Lib.hid call
      have stop : parseN (nths l k) = none → parseAll l = none := fun h => by
        rw [take_drop_nths l k (by rw [HLn.out]; exact hlt), ← List.singleton_append, ← List.append_assoc]
        refine parseAll_append_none _ _ ?_
        rw [parseAll_snoc, HV.out, h]; rfl
      have STOP := Lib.hid stop
      clear call stop hbB
      cases hp : parseN (nths l k) with
      | some u =>
        have HP := Lib.hid hp
        rw [hp] at HCall
        clear hp
        go_wp2_with fail
        go_region_with (go_at_call 43; refine HCall.out.mono ?_; rintro e w1 ⟨rfl, hg1, C1, hbk1, hC1, hset⟩)
        all_goals go_wp2_with fail
        all_goals
          have hvl : vs.length = k := by rw [parseAll_len HV.out, List.length_take, HLn.out]; omega
          have hset' := hset u rfl
          have hstep : parseAll (l.take (k + 1)) = some (vs ++ [u]) := by
            rw [take_snoc_nths l k (by rw [HLn.out]; exact hlt), parseAll_snoc, HV.out, HP.out]; rfl
          exact ⟨⟨k + 1, vs ++ [u], C1, by omega, by go_num, hstep, grown_to_below HB0 hg1 HB0.size, hbk1, by rw [hC1, HC.out], fun j hj => by
            rw [hset']
            by_cases e : j = k
            · subst e
              rw [Array.getElem?_setIfInBounds_self_of_lt (by rw [HC.out]; exact hlt), ← hvl, nth_len]
            · rw [Array.getElem?_setIfInBounds_ne (by omega), HCs.out j (by omega), nth_lt (by omega)]⟩, by simp [intOf]; omega⟩
      | none =>
        have HP := Lib.hid hp
        rw [hp] at HCall
        clear hp
        go_wp2_with fail
        go_region_with (go_at_call 43; refine HCall.out.mono ?_; rintro e w1 ⟨rfl, hg1, C1, hbk1, hC1, hset⟩)
        all_goals go_wp2_with fail
        all_goals go_ret2
        all_goals
          refine ⟨grown_to_below HB0 hg1 HB0.size, ?_⟩
          rw [STOP.out HP.out]
          rfl
    · go_wp2_with fail
      go_ret2
      have hkn : k = n := by omega
      have hl : parseAll l = some vs := by have := HV.out; rwa [List.take_of_length_le (by rw [HLn.out]; omega)] at this
      refine ⟨hb, ?_⟩
      rw [hl]
      have hvl : vs.length = n := by rw [parseAll_len hl, HLn.out]
      refine ⟨w.heap.size, n, n, rfl, ⟨⟨_, n, by rw [List.length_map, hvl], by rw [List.length_map, hvl]; exact Nat.le_refl _, by simp [maxLen]; omega, fun hne => ⟨w.heap.size, 0, rfl, ?_, fun j u hj => ?_⟩⟩, parseAll_I64 hl⟩, Nat.le_refl _⟩
      · rcases Nat.lt_or_ge w.heap.size wr.heap.size with h | h
        · exact h
        · have := HBk.out; rw [Array.getElem?_eq_none h] at this; cases this
      · have hj' : j < vs.length := by
          rcases Nat.lt_or_ge j vs.length with h | h
          · exact h
          · rw [List.getElem?_eq_none (by simpa using h)] at hj; cases hj
        have := HCs.out j (by omega)
        simp only [World.cell?, HBk.out, Nat.zero_add]
        simp only [Option.isSome_none, Bool.false_eq_true, if_false]
        rw [this, ← hj, List.getElem?_map, List.getElem?_eq_getElem hj', nth_eq hj']; rfl
end Go.Proofs.YtdgciagmcjdhhaaGreatDoor
