/-
  The closures that give an act's words.
-/
import Derived.Test.YtdgciagmcjdhhaaGreatDoorFits
import Derived.Test.YtdgciagmcjdhhaaGreatDoorUsed
import Derived.Deep.RegionHeld3
import Derived.Deep.AppendLies
import Derived.Laws.AppendOwnNone
set_option linter.unusedVariables false
set_option linter.unusedSimpArgs false
namespace Go.Proofs.YtdgciagmcjdhhaaGreatDoor
open Go Go.RowKit Go.MapKept Go.ChangeMaps

/-- u is a slice value that reads as the strings l, and can be appended. -/
def Src (w : World) (u : Value) (l : List ByteArray) : Prop :=
  (u = .slice none 0 0 ∧ l = []) ∨ ∃ b o c, u = .slice (some ⟨b, o, none⟩) l.length c ∧ ∀ (j : Nat) s, l[j]? = some s → w.cell? ⟨b, o + j, none⟩ = some (.string s)
theorem OwnS.src {w : World} {base : Nat} {v : Value} {l : List ByteArray} (h : OwnS w base v l) : Src w v l := by
  by_cases hl : l = []
  · subst hl
    rcases h.2 with ⟨hv, _⟩ | ⟨g, cap, cur, hv, _⟩
    · exact .inl ⟨hv, rfl⟩
    · exact .inr ⟨g, 0, cap, hv, fun j s hs => by simp at hs⟩
  · obtain ⟨b, o, c, hv, hc⟩ : ∃ b o c, v = .slice (some ⟨b, o, none⟩) l.length c ∧ ∀ (j : Nat) u, (l.map Value.string)[j]? = some u → w.cell? ⟨b, o + j, none⟩ = some u := by
      rcases Sl.cases_ h.slS with ⟨h0, _⟩ | ⟨_, b, o, c, hv, _, _, _, hc⟩
      · exact absurd (List.map_eq_nil_iff.1 h0) hl
      · exact ⟨b, o, c, by simpa using hv, hc⟩
    exact .inr ⟨b, o, c, hv, fun j s hs => hc j _ (by rw [List.getElem?_map, hs]; rfl)⟩
theorem SlS.src {w : World} {B : Nat} {v : Value} {l : List ByteArray} (h : SlS w B v l) (hl : l ≠ []) : Src w v l := by
  rcases Sl.cases_ h with ⟨h0, _⟩ | ⟨_, b, o, c, hv, _, _, _, hc⟩
  · exact absurd (List.map_eq_nil_iff.1 h0) hl
  · exact .inr ⟨b, o, c, by simpa using hv, fun j s hs => hc j _ (by rw [List.getElem?_map, hs]; rfl)⟩
theorem one_strs (l : List ByteArray) : ∀ u ∈ l.map Value.string, u.oneCell' = true := by
  intro u hu
  obtain ⟨s, _, rfl⟩ := List.mem_map.1 hu
  rfl
theorem wp_append_S {w : World} {o : Oper} {a : Act} {K : Act → World → Prop} {Q : Exit → Act → World → Prop} (s x : Operand)
    (ho : o.op = .call { callee := .builtin .append, args := #[s, x], argTypes := #[43, 43] }) (base : Nat) (v u : Value) (l l' : List ByteArray)
    (hs : a.eval s = v) (hx : a.eval x = u) (hown : OwnS w base v l) (hsrc : Src w u l') (hlen : l.length + l'.length ≤ 1000000) (hbase : base ≤ w.heap.size)
    (h : ∀ v' w', OwnS w' base v' (l ++ l') → w.grownBy w' v.ownBlock → K (a.put o.dst v') w') : o.wp Tryz.prog a w K Q := by
  obtain ⟨i0, hi, hz0, hz1, hz2⟩ := info_parts strInfo
  rcases hsrc with ⟨rfl, rfl⟩ | ⟨b, off, c, rfl, hc⟩
  · have hrun := run_append_owned_none (P := Tryz.prog) (w := w) base 43 o.type 9 i0 1 Tryz.underlying43 hi v _ _ hown
    unfold Oper.wp
    simp [execOp, ho, resolve, invoke, builtin, hs, hx, hrun, Result.andThen]
    exact h v w (by rw [List.append_nil]; exact hown) (World.grownBy.refl w _)
  · refine wp_append_own w s x 43 ho base 9 i0 _ 1 16 Tryz.underlying43 hi hz0 hz1 hz2 rfl (by decide) v l.length _ hs hown ⟨b, off, none⟩ l'.length c (l'.map Value.string) hx (by simp) (fun j y hy => ?_) (one_strs l') (by simp [maxLen]; omega) (by omega) hbase (fun v' w' h1 h2 _ => h v' w' ?_ h2)
    · rw [List.getElem?_map] at hy
      obtain ⟨s', hs', rfl⟩ := Option.map_eq_some_iff.1 hy
      have := hc j s' hs'
      unfold Addr.add
      split
      · rename_i e; have : j = 0 := by simpa using e
        subst this; exact hc 0 s' hs'
      · exact this
    · show w'.ownsRow _ _ _ _ _ _
      rw [List.length_append, List.map_append]; exact h1
theorem wpList_append_S {w : World} {ops : Array Oper} {rest : List Oper} {o : Oper} {a : Act} {Q : Exit → Act → World → Prop} (hgd : o.guard = none) (s x : Operand)
    (ho : o.op = .call { callee := .builtin .append, args := #[s, x], argTypes := #[43, 43] }) (base : Nat) (v u : Value) (l l' : List ByteArray)
    (hs : a.eval s = v) (hx : a.eval x = u) (hown : OwnS w base v l) (hsrc : Src w u l') (hlen : l.length + l'.length ≤ 1000000) (hbase : base ≤ w.heap.size)
    (h : ∀ v' w', OwnS w' base v' (l ++ l') → w.grownBy w' v.ownBlock → wpList Tryz.prog ops Q rest (a.put o.dst v') w') : wpList Tryz.prog ops Q (o :: rest) a w :=
  wpList_plain hgd fun _ hK => wp_append_S s x ho base v u l l' hs hx hown hsrc hlen hbase fun v' w' h2 h3 => hK _ _ (h v' w' h2 h3)
theorem step_append_S {w : World} {ops : Array Oper} {o : Oper} {a : Act} {K : Act → World → Prop} {Q : Exit → Act → World → Prop} {E : Prop} (hgd : o.guard = none) (s x : Operand)
    (ho : o.op = .call { callee := .builtin .append, args := #[s, x], argTypes := #[43, 43] }) (base : Nat) (v u : Value) (l l' : List ByteArray)
    (hs : a.eval s = v) (hx : a.eval x = u) (hown : OwnS w base v l) (hsrc : Src w u l') (hlen : l.length + l'.length ≤ 1000000) (hbase : base ≤ w.heap.size)
    (h : ∀ v' w', OwnS w' base v' (l ++ l') → w.grownBy w' v.ownBlock → K (a.put o.dst v') w') :
    if Region.wanted o (yielded ops a.tmps) = true then Oper.wp Tryz.prog o a w K Q else E := by
  have hw : Region.wanted o (yielded ops a.tmps) = true := by simp [Region.wanted, hgd]
  rw [if_pos hw]
  exact wp_append_S s x ho base v u l l' hs hx hown hsrc hlen hbase h
/-- What a closure 'text' hands back. -/
def TextPost (w : World) (l : List ByteArray) (e : Ending) (w' : World) : Prop := ∃ u, e = .returned u ∧ OwnS w' w.heap.size u l ∧ Below w.heap.size w w'

set_option maxHeartbeats 1000000 in
theorem text_plain (x : ActD) (m s : Value) (w : World) :
    Calls Tryz.prog 84 #[.agg (x.cells m s)] w (TextPost w []) := by
  rw [ActD.cells_def]
  go_enter Tryz.func84, Tryz.ntmps84
  go_wp2_with fail
  go_ret
  exact ⟨_, rfl, OwnS.nil_ _ _, bal (B0 w) _⟩
theorem ownS_base {w : World} {a b : Nat} {v : Value} {l : List ByteArray} (h : OwnS w a v l) (hab : b ≤ a) : OwnS w b v l := by
  obtain ⟨h1, h2⟩ := h
  refine ⟨h1, ?_⟩
  rcases h2 with h2 | ⟨g, cap, cur, hv, hg, hrest⟩
  · exact .inl h2
  · exact .inr ⟨g, cap, cur, hv, Nat.le_trans hab hg, hrest⟩
set_option maxRecDepth 100000 in
set_option maxHeartbeats 1000000 in
theorem text_single (x : ActD) (m s : Value) (w : World) (hG : Glob w) (ha : I64 x.a) :
    Calls Tryz.prog 80 #[.agg (x.cells m s)] w (TextPost w [itoaB x.a]) := by
  have HG := Lib.hid hG
  clear hG
  rw [ActD.cells_def]
  go_enter Tryz.func80, Tryz.ntmps80
  go_wp2_with (go_at_call 45; refine (texts_c _ [x.a] _ (HG.out.step (bal (bal (B0 w) _) _)) (SlI.of1 (by go_simp) (by simp) ha) (by simp)).mono ?_; rintro e w1 ⟨u, rfl, hu, hb1⟩)
  go_ret
  exact ⟨_, rfl, ownS_base hu (by simp; omega), bth (bal (bal (B0 w) _) _) hb1⟩
set_option maxRecDepth 100000 in
set_option maxHeartbeats 1000000 in
theorem text_fail (x : ActD) (m s : Value) (w : World) (hG : Glob w) (ha : I64 x.a) (hb : I64 x.b) :
    Calls Tryz.prog 49 #[.agg (x.cells m s)] w (TextPost w [itoaB x.a, itoaB x.b]) := by
  have HG := Lib.hid hG
  clear hG
  rw [ActD.cells_def]
  go_enter Tryz.func49, Tryz.ntmps49
  go_wp2_with (go_at_call 45; refine (texts_c _ [x.a, x.b] _ (HG.out.step (bal (bal (B0 w) _) _)) (SlI.of2 (by go_simp) (by go_simp) (by simp) ha hb) (by simp)).mono ?_; rintro e w1 ⟨u, rfl, hu, hb1⟩)
  go_ret
  exact ⟨_, rfl, ownS_base hu (by simp; omega), bth (bal (bal (B0 w) _) _) hb1⟩
theorem SlI.of3 {W : World} {h : Nat} {a b c : Int} (hc : W.cell? ⟨h, 0, none⟩ = some (.int .i64 a)) (hc1 : W.cell? ⟨h, 1, none⟩ = some (.int .i64 b)) (hc2 : W.cell? ⟨h, 2, none⟩ = some (.int .i64 c)) (hh : h < W.heap.size) (ha : I64 a) (hb : I64 b) (hcc : I64 c) : SlI W W.heap.size (.slice (some ⟨h, 0, none⟩) 3 3) [a, b, c] :=
  ⟨⟨_, 3, rfl, by simp, by simp [maxLen], fun _ => ⟨h, 0, rfl, hh, fun j u hu => by
    rw [Nat.zero_add]
    match j, hu with
    | 0, hu => simp at hu; subst hu; exact hc
    | 1, hu => simp at hu; subst hu; exact hc1
    | 2, hu => simp at hu; subst hu; exact hc2
    | j + 3, hu => simp at hu⟩⟩, by
    intro y hy
    simp at hy
    rcases hy with rfl | rfl | rfl <;> assumption⟩
set_option maxRecDepth 100000 in
set_option maxHeartbeats 1000000 in
theorem text_transfer (x : ActD) (m s : Value) (w : World) (hG : Glob w) (ha : I64 x.a) (hb : I64 x.b) (hc : I64 x.c) :
    Calls Tryz.prog 67 #[.agg (x.cells m s)] w (TextPost w [itoaB x.a, itoaB x.b, itoaB x.c]) := by
  have HG := Lib.hid hG
  clear hG
  rw [ActD.cells_def]
  go_enter Tryz.func67, Tryz.ntmps67
  go_wp2_with (go_at_call 45; refine (texts_c _ [x.a, x.b, x.c] _ (HG.out.step (bal (bal (B0 w) _) _)) (SlI.of3 (by go_simp) (by go_simp) (by go_simp) (by simp) ha hb hc) (by simp)).mono ?_; rintro e w1 ⟨u, rfl, hu, hb1⟩)
  go_ret
  exact ⟨_, rfl, ownS_base hu (by simp; omega), bth (bal (bal (B0 w) _) _) hb1⟩
set_option maxRecDepth 100000 in
set_option maxHeartbeats 1000000 in
theorem text_replan (x : ActD) (m s : Value) (w : World) (hG : Glob w) (hm : SlI w w.heap.size m x.ms) (hl : x.ms.length ≤ 100000) :
    Calls Tryz.prog 71 #[.agg (x.cells m s)] w (TextPost w (x.ms.map itoaB)) := by
  obtain ⟨Am, nm, cm, rfl, hnm, hcm, hmm⟩ := hm.form
  have HG := Lib.hid hG; have HM := Lib.hid hm; have HL := Lib.hid hl
  clear hG hm hl hnm
  rw [ActD.cells_def]
  go_enter Tryz.func71, Tryz.ntmps71
  go_wp2_with (go_at_call 45; refine (texts_c _ x.ms _ (HG.out.step (bal (B0 w) _)) ((HM.out.below (bal (B0 w) _) (Nat.le_refl _)).more (Below.size (bal (B0 w) _))) HL.out).mono ?_; rintro e w1 ⟨u, rfl, hu, hb1⟩)
  go_ret
  exact ⟨_, rfl, ownS_base hu (by simp), bth (bal (B0 w) _) hb1⟩
set_option maxRecDepth 100000 in
set_option maxHeartbeats 4000000 in
theorem text_crash (x : ActD) (m s : Value) (w : World) (hG : Glob w) (ha : I64 x.a) (hs : SlI w w.heap.size s x.ss) (hl : x.ss.length ≤ 100000) :
    Calls Tryz.prog 44 #[.agg (x.cells m s)] w (TextPost w (itoaB x.a :: x.ss.map itoaB)) := by
  obtain ⟨As, ns, cs, rfl, hns, hcs, hms⟩ := hs.form
  have HG := Lib.hid hG; have HS := Lib.hid hs; have HL := Lib.hid hl
  clear hG hs hl hns
  rw [ActD.cells_def]
  go_enter Tryz.func44, Tryz.ntmps44
  go_wp2_with fail
  go_region_held3 (fun w' => w'.cell? ⟨w.heap.size, 1, none⟩ = some (.int .i64 x.a) ∧ w'.cell? ⟨w.heap.size, 9, none⟩ = some (.slice As ns cs)) (go_simp)
    (first
      | (go_at_call_of 45 (Value.slice As ns cs); refine (texts_c _ x.ss _ (HG.out.step hB1) ((HS.out.below hB1 (Nat.le_refl _)).more (Below.size hB1)) HL.out).mono ?_; rintro e w2 ⟨u2, rfl, hu2, hb2⟩; have hB2 := bth hB1 hb2; have hz2 : w.heap.size < w2.heap.size := blt hb2 hz1; have hu12 := hu1.below hb2; obtain ⟨hc2, hf2⟩ := bcell hb2)
      | (go_at_call 45; refine (texts_c _ [x.a] _ (HG.out.step (bdr (bal (bal (B0 w) _) _))) (SlI.of1 (by go_simp) (by simp) ha) (by simp)).mono ?_; rintro e w1 ⟨u1, rfl, hu1, hb1⟩; have hB1 := bth (bdr (bal (bal (B0 w) _) _)) hb1; have hz1 : w.heap.size < w1.heap.size := blt hb1 (by simp; omega); obtain ⟨hc1, hf1⟩ := bcell hb1)
      | (refine step_append_S rfl (.tmp 6) (.tmp 9) rfl w.heap.size u1 u2 _ _ rfl rfl (ownS_base hu12 (by simp; omega)) (hu2.src) (by have := HL.out; simp; omega) hB2.size ?_; intro v' w3 hown hgr; have hB3 := (ownS_base hu12 (by simp; omega)).grown hB2 hgr; have hc3 : ∀ o, w3.cell? ⟨w.heap.size, o, none⟩ = w2.cell? ⟨w.heap.size, o, none⟩ := fun o => World.grownBy.cell_far hgr ⟨w.heap.size, o, none⟩ hz2 (fun e => by have := (World.ownsRow.lt hu12 _ e.symm).1; simp at this; omega)))
  go_wp2_with fail
  go_ret
  exact ⟨_, rfl, hown, hB3⟩
set_option maxRecDepth 100000 in
set_option maxHeartbeats 4000000 in
theorem text_call (x : ActD) (m s : Value) (w : World) (hG : Glob w) (ha : I64 x.a) (hb : I64 x.b) (hv : I64 x.val) :
    Calls Tryz.prog 62 #[.agg (x.cells m s)] w (TextPost w [itoaB x.a, itoaB x.b, itoaB x.val]) := by
  have HG := Lib.hid hG
  have HF := Lib.hid (fun W (hg : Glob W) => FormatInt_c x.val hv W hg)
  clear hG
  rw [ActD.cells_def]
  go_enter Tryz.func62, Tryz.ntmps62
  go_wp2_with fail
  go_region_held3 (fun w' => w'.cell? ⟨w.heap.size, 1, none⟩ = some (.int .i64 x.a) ∧ w'.cell? ⟨w.heap.size, 2, none⟩ = some (.int .i64 x.b) ∧ w'.cell? ⟨w.heap.size, 6, none⟩ = some (.int .i64 x.val)) (go_simp)
    (first
      | (go_at_call 63; refine (HF.out _ (HG.out.step hB1)).mono ?_; rintro e w2 ⟨rfl, hb2⟩; have hB2 := bth hB1 hb2; have hz2 : w.heap.size < w2.heap.size := blt hb2 hz1; have hu12 := hu1.below hb2; obtain ⟨hc2, hf2⟩ := bcell hb2)
      | (go_at_call 45; refine (texts_c _ [x.a, x.b] _ (HG.out.step (bdr (bal (bal (B0 w) _) _))) (SlI.of2 (by go_simp) (by go_simp) (by simp) ha hb) (by simp)).mono ?_; rintro e w1 ⟨u1, rfl, hu1, hb1⟩; have hB1 := bth (bdr (bal (bal (B0 w) _) _)) hb1; have hz1 : w.heap.size < w1.heap.size := blt hb1 (by simp; omega); obtain ⟨hc1, hf1⟩ := bcell hb1)
      | (refine step_append_S rfl (.tmp 8) (.tmp 13) rfl w.heap.size u1 _ _ [bs (Lib.itoa x.val)] rfl rfl (ownS_base (hu12.alloc _) (by simp; omega)) (.inr ⟨w2.heap.size, 0, 1, rfl, fun j s hs => by
            match j, hs with
            | 0, hs => simp at hs; subst hs; go_simp⟩) (by simp) (bal hB2 _).size ?_; intro v' w3 hown hgr; have hB3 := OwnS.grown (ownS_base (hu12.alloc _) (by simp; omega)) (bal hB2 _) hgr; have hc3 : ∀ o, w3.cell? ⟨w.heap.size, o, none⟩ = w2.cell? ⟨w.heap.size, o, none⟩ := fun o => (World.grownBy.cell_far hgr ⟨w.heap.size, o, none⟩ (by simp; omega) (fun e => by have := (World.ownsRow.lt hu12 _ e.symm).1; simp at this; omega)).trans (by go_simp)))
  go_wp2_with fail
  go_ret
  exact ⟨_, rfl, hown, hB3⟩
set_option maxRecDepth 100000 in
set_option maxHeartbeats 4000000 in
theorem text_request (x : ActD) (m s : Value) (w : World) (hG : Glob w) (ha : I64 x.a) (hb : I64 x.b) (hv : I64 x.val) (ho : I64 x.old) (h0 : 0 ≤ x.ok) (h3 : x.ok ≤ 3) :
    Calls Tryz.prog 56 #[.agg (x.cells m s)] w (TextPost w ([itoaB x.a, itoaB x.b] ++ wordsL x)) := by
  have HG := Lib.hid hG
  have HF := Lib.hid (fun W (hg : Glob W) => words_c x W hg h0 h3 hv ho)
  have hwl : wordsL x ≠ [] ∧ (wordsL x).length ≤ 4 := by
    unfold wordsL
    repeat' split
    all_goals simp
  have HW := Lib.hid hwl
  simp only [opCells] at HF
  clear hG hwl h0 h3
  rw [ActD.cells_def]
  go_enter Tryz.func56, Tryz.ntmps56
  go_wp2_with fail
  go_region_held3 (fun w' => w'.cell? ⟨w.heap.size, 1, none⟩ = some (.int .i64 x.a) ∧ w'.cell? ⟨w.heap.size, 2, none⟩ = some (.int .i64 x.b) ∧ w'.cell? ⟨w.heap.size, 4, none⟩ = some (.int .i64 x.ok) ∧ w'.cell? ⟨w.heap.size, 5, none⟩ = some (.string x.key) ∧ w'.cell? ⟨w.heap.size, 6, none⟩ = some (.int .i64 x.val) ∧ w'.cell? ⟨w.heap.size, 7, none⟩ = some (.int .i64 x.old)) (go_simp)
    (first
      | (go_at_call 57; refine (HF.out _ (HG.out.step hB1)).mono ?_; rintro e w2 ⟨u2, rfl, hu2, hb2⟩; have hB2 := bth hB1 hb2; have hz2 : w.heap.size < w2.heap.size := blt hb2 hz1; have hu12 := hu1.below hb2; obtain ⟨hc2, hf2⟩ := bcell hb2)
      | (go_at_call 45; refine (texts_c _ [x.a, x.b] _ (HG.out.step (bdr (bal (bal (B0 w) _) _))) (SlI.of2 (by go_simp) (by go_simp) (by simp) ha hb) (by simp)).mono ?_; rintro e w1 ⟨u1, rfl, hu1, hb1⟩; have hB1 := bth (bdr (bal (bal (B0 w) _) _)) hb1; have hz1 : w.heap.size < w1.heap.size := blt hb1 (by simp; omega); obtain ⟨hc1, hf1⟩ := bcell hb1)
      | (refine step_append_S rfl (.tmp 8) (.tmp 11) rfl w.heap.size u1 u2 _ (wordsL x) rfl rfl (ownS_base hu12 (by simp; omega)) (hu2.src HW.out.1) (by have := HW.out.2; simp; omega) hB2.size ?_; intro v' w3 hown hgr; have hB3 := (ownS_base hu12 (by simp; omega)).grown hB2 hgr; have hc3 : ∀ o, w3.cell? ⟨w.heap.size, o, none⟩ = w2.cell? ⟨w.heap.size, o, none⟩ := fun o => World.grownBy.cell_far hgr ⟨w.heap.size, o, none⟩ hz2 (fun e => by have := (World.ownsRow.lt hu12 _ e.symm).1; simp at this; omega)))
  go_wp2_with fail
  go_ret
  exact ⟨_, rfl, hown, hB3⟩
end Go.Proofs.YtdgciagmcjdhhaaGreatDoor
