/-
  The library's contracts in this claim's own words: slices read by SlI and SlS, the world behind a call is Below; what the library's variables hold is Glob.
-/
import Derived.Test.YtdgciagmcjdhhaaGreatDoorNum
import Derived.Test.YtdgciagmcjdhhaaGreatDoorLays
import Derived.Lib.AppendIntMem
import Derived.Lib.AtoiErrMem
set_option linter.unusedVariables false
set_option linter.unusedSimpArgs false
namespace Go.Proofs.YtdgciagmcjdhhaaGreatDoor
open Go Go.RowKit

/-- What the library's variables hold. -/
structure Glob (w : World) : Prop where
  tab : Lib.TabIs Tryz.prog w "internal/strconv.uint64pow10" .u64 Lib.pow10Tab
  most : ∃ m, w.cell? ⟨0, 0, none⟩ = some (.int .i64 m)
  esyn : ∃ tp p, w.cell? ⟨4, 0, none⟩ = some (.iface tp p)
  erng : ∃ tp p, w.cell? ⟨5, 0, none⟩ = some (.iface tp p)
  size : 8 ≤ w.heap.size

theorem Glob.below {w w' : World} {B : Nat} (h : Glob w) (hb : Below B w w') (hB : 8 ≤ B) : Glob w' where
  tab := by
    have e : w'.var? Tryz.prog "internal/strconv.uint64pow10" = w.var? Tryz.prog "internal/strconv.uint64pow10" := by
      have hg : Tryz.prog.globalNamed "internal/strconv.uint64pow10" = some 1 := by kernel_rfl
      unfold World.var?
      rw [hg]
      simp only [Option.bind_some]
      rw [hb.block _ (by omega)]
    exact e.trans h.tab
  most := by obtain ⟨m, hm⟩ := h.most; exact ⟨m, (hb.cell (Nat.lt_of_lt_of_le (by decide) hB)).trans hm⟩
  esyn := by obtain ⟨t, p, hm⟩ := h.esyn; exact ⟨t, p, (hb.cell (Nat.lt_of_lt_of_le (by decide) hB)).trans hm⟩
  erng := by obtain ⟨t, p, hm⟩ := h.erng; exact ⟨t, p, (hb.cell (Nat.lt_of_lt_of_le (by decide) hB)).trans hm⟩
  size := Nat.le_trans h.size hb.size
theorem Glob.step {w w' : World} (h : Glob w) (hb : Below w.heap.size w w') : Glob w' := h.below hb h.size

theorem Itoa_c (n : Int) (hn : I64 n) (w : World) (hG : Glob w) :
    Calls Tryz.prog 87 #[.int .i64 n] w fun e w' => e = .returned (.string (bs (Lib.itoa n))) ∧ Below w.heap.size w w' :=
  (Tryz.strconv_Itoa n hn.1 hn.2 w hG.tab).mono fun e w' ⟨he, k, os, hw⟩ => ⟨he, hw ▸ Lib.below_grow _ _ (Nat.le_refl _) _ _⟩

theorem FormatInt_c (n : Int) (hn : I64 n) (w : World) (hG : Glob w) :
    Calls Tryz.prog 63 #[.int .i64 n, .int .i64 10] w fun e w' => e = .returned (.string (bs (Lib.itoa n))) ∧ Below w.heap.size w w' :=
  (Tryz.strconv_FormatInt_10 n hn.1 hn.2 w hG.tab).mono fun e w' ⟨he, k, os, hw⟩ => ⟨he, hw ▸ Lib.below_grow _ _ (Nat.le_refl _) _ _⟩

/-- What Atoi hands back: the number and nil, or some number and an error. -/
theorem Atoi_ok_c (s : ByteArray) (hs : s.size ≤ 281474976710656) (v : Int) (h : Lib.atoiAll s.data.toList = .ok v) (w : World) :
    Calls Tryz.prog 86 #[.string s] w fun e w' => e = .returned (.tuple #[.int .i64 v, .nilIface]) ∧ Below w.heap.size w w' :=
  (Tryz.strconv_Atoi_ok s (by omega) v h w).mono fun e w' ⟨he, hw⟩ => ⟨he, by
    rcases hw with rfl | ⟨t, rfl⟩
    · exact Below.refl _ _
    · exact Lib.bytesWorld_below _ _ _⟩
theorem Atoi_err_c (s : ByteArray) (hs : s.size ≤ 281474976710656) (h : ∀ v, Lib.atoiAll s.data.toList ≠ .ok v) (w : World) (hG : Glob w) :
    Calls Tryz.prog 86 #[.string s] w fun e w' => ∃ (v : Int) (t : TypeId) (p : Value), e = .returned (.tuple #[.int .i64 v, .iface t p]) ∧ Below w.heap.size w w' := by
  obtain ⟨t1, p1, h1⟩ := hG.esyn
  obtain ⟨t2, p2, h2⟩ := hG.erng
  cases hr : Lib.atoiAll s.data.toList with
  | ok v => exact absurd hr (h v)
  | range => exact (Tryz.strconv_Atoi_range s hs hr _ w h2 (.inr ⟨_, _, rfl⟩)).mono fun e w' ⟨N, he, _, _, hb⟩ => ⟨_, _, _, he, hb⟩
  | _ => exact (Tryz.strconv_Atoi_syntax s hs hr _ w h1 (.inr ⟨_, _, rfl⟩)).mono fun e w' ⟨N, he, _, _, hb⟩ => ⟨_, _, _, he, hb⟩
theorem ParseInt_ok_c (s : ByteArray) (hs : s.size ≤ 281474976710656) (v : Int) (h : Lib.parseIntB 64 s.data.toList = .ok v) (w : World) :
    Calls Tryz.prog 90 #[.string s, .int .i64 10, .int .i64 64] w fun e w' => e = .returned (.tuple #[.int .i64 v, .nilIface]) ∧ Below w.heap.size w w' :=
  (Tryz.strconv_ParseInt_10_at64_ok s (by omega) v h w).mono fun e w' ⟨he, hw⟩ => ⟨he, by
    rcases hw with rfl | ⟨t, rfl⟩
    · exact Below.refl _ _
    · exact Lib.bytesWorld_below _ _ _⟩
theorem ParseInt_err_c (s : ByteArray) (hs : s.size ≤ 281474976710656) (h : ∀ v, Lib.parseIntB 64 s.data.toList ≠ .ok v) (w : World) (hG : Glob w) :
    Calls Tryz.prog 90 #[.string s, .int .i64 10, .int .i64 64] w fun e w' => ∃ (v : Int) (t : TypeId) (p : Value), e = .returned (.tuple #[.int .i64 v, .iface t p]) ∧ Below w.heap.size w w' := by
  obtain ⟨t1, p1, h1⟩ := hG.esyn
  obtain ⟨t2, p2, h2⟩ := hG.erng
  cases hr : Lib.parseIntB 64 s.data.toList with
  | ok v => exact absurd hr (h v)
  | range => exact (Tryz.strconv_ParseInt_10_at64_range s hs hr _ w h2 (.inr ⟨_, _, rfl⟩)).mono fun e w' ⟨N, he, _, _, hb⟩ => ⟨_, _, _, he, hb⟩
  | _ => exact (Tryz.strconv_ParseInt_10_at64_syntax s hs hr _ w h1 (.inr ⟨_, _, rfl⟩)).mono fun e w' ⟨N, he, _, _, hb⟩ => ⟨_, _, _, he, hb⟩

theorem Split_c (s : ByteArray) (w : World) (hG : Glob w) (hs : s.size < 4294967281) :
    Calls Tryz.prog 21 #[.string s, .string (bs [32])] w fun e w' => ∃ v, e = .returned v ∧ SlS w' w'.heap.size v (Lib.splitB (bs [32]) 0 (Lib.countB s (bs [32])) s) ∧ (Lib.splitB (bs [32]) 0 (Lib.countB s (bs [32])) s).length = Lib.countB s (bs [32]) + 1 ∧ Below w.heap.size w w' := by
  obtain ⟨m, hm⟩ := hG.most
  refine (Tryz.strings_Split s (bs [32]) m w hs hm (by decide)).mono fun e w' ⟨he, hw⟩ => ?_
  have hlen : (Lib.splitB (bs [32]) 0 (Lib.countB s (bs [32])) s).length = Lib.countB s (bs [32]) + 1 := Lib.splitB_all (bs [32]) (by decide) 0 _ s rfl
  have hle := Lib.countB_le (bs [32]) (by decide) s.size s (Nat.le_refl _)
  subst hw
  refine ⟨_, he, ⟨_, _, by rw [List.length_map, hlen], by simp [hlen], by simp [maxLen]; omega, fun _ => ⟨w.heap.size, 0, rfl, by simp, fun j u hj => ?_⟩⟩, hlen, (Below.refl _ _).alloc (Nat.le_refl _) _⟩
  rw [World.cell?_alloc_new]
  simpa using hj

theorem Join_c (v : Value) (xs : List ByteArray) (w : World) (h : SlS w w.heap.size v xs) (hN : xs.length ≤ 140737488355328)
    (hlen : (Lib.join (xs.map (·.data.toList)) [32]).length ≤ 140737488355328) :
    Calls Tryz.prog 13 #[v, .string (bs [32])] w fun e w' => e = .returned (.string (bs (Lib.join (xs.map (·.data.toList)) [32]))) ∧ Below w.heap.size w w' := by
  rcases Sl.cases_ h with ⟨h0, A, c, rfl, _⟩ | ⟨hpos, b, o, c, rfl, h1, h2, hb, hc⟩
  · have : xs = [] := by simpa using h0
    subst this
    exact (Tryz.strings_Join_none A c _ w).mono fun e w' ⟨he, hw⟩ => ⟨he, hw ▸ Below.refl _ _⟩
  · rw [List.length_map] at h1 ⊢
    exact Tryz.strings_Join b o c xs (bs [32]) w (fun j x hj => hc j _ (by simp [hj])) hb hN h1 hlen

theorem Equal_c (v u : Value) (xs ys : List Int) (w : World) (B : Nat) (hx : SlI w B v xs) (hy : SlI w B u ys) :
    Calls Tryz.prog 27 #[v, u] w fun e w' => e = .returned (.bool (xs == ys)) ∧ Below w.heap.size w w' := by
  by_cases hnm : xs.length = ys.length
  · rcases Sl.cases_ hx.1 with ⟨h0, A, c, rfl, _⟩ | ⟨hpos, b, o, c, rfl, h1, h2, hb, hc⟩
    · have : xs = [] := by simpa using h0
      subst this
      obtain ⟨A2, c2, rfl, _, _⟩ := hy.1
      have hy0 : ys = [] := List.eq_nil_of_length_eq_zero (by simpa using hnm.symm)
      subst hy0
      exact (Tryz.slices_Equal_int_empty A A2 c 0 c2 w (by omega)).mono fun e w' ⟨he, hw⟩ => ⟨he, hw ▸ Below.refl _ _⟩
    · rcases Sl.cases_ hy.1 with ⟨h0, _⟩ | ⟨hpos', b', o', c', rfl, h1', h2', hb', hc'⟩
      · simp at h0 hpos; simp [h0] at hnm; simp [hnm] at hpos
      · rw [List.length_map] at h1 h1' ⊢
        rw [List.length_map]
        refine (Tryz.slices_Equal_int b o xs.length c b' o' ys.length c' xs ys w (Nat.le_refl _) (Nat.le_refl _) (by simp [maxLen] at h2; omega) (by simp [maxLen] at h2'; omega) (fun j hj => hc j _ (by simp [hj])) (fun j hj => hc' j _ (by simp [hj]))).mono fun e w' ⟨he, q, hw⟩ => ⟨?_, hw ▸ below_drewN (Below.refl _ _) q⟩
        rw [he]; simp
  · obtain ⟨A, c, rfl, _, _⟩ := hx.1
    obtain ⟨A2, c2, rfl, _, _⟩ := hy.1
    refine (Tryz.slices_Equal_int_lens A A2 _ c _ c2 w (by simpa using hnm)).mono fun e w' ⟨he, hw⟩ => ⟨?_, hw ▸ Below.refl _ _⟩
    rw [he]
    exact ret_bool (by simp; intro h; exact hnm (by rw [h]))
end Go.Proofs.YtdgciagmcjdhhaaGreatDoor
