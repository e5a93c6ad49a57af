/-
  The program's Act.
-/
import Derived.Test.YtdgciagmcjdhhaaGreatDoorValid
set_option linter.unusedVariables false
set_option linter.unusedSimpArgs false
namespace Go.Proofs.YtdgciagmcjdhhaaGreatDoor
open Go Go.RowKit Go.MapKept Go.ChangeMaps

theorem OwnS.lit (w : World) (base : Nat) (s : ByteArray) (hb : base ≤ w.heap.size) : OwnS (w.alloc (.cells #[.string s] 9)) base (.slice (some ⟨w.heap.size, 0, none⟩) 1 1) [s] :=
  ⟨rfl, .inr ⟨w.heap.size, 1, #[.string s], rfl, hb, heap_alloc_new w _, by simp, by simp [maxLen], rfl, rfl⟩⟩
set_option maxRecDepth 100000 in
set_option maxHeartbeats 4000000 in
theorem act_no (x : ActD) (m s : Value) (w : World) (hx : x.In w w.heap.size m s) (hms : x.ms.length ≤ 1000000) (hss : x.ss.length ≤ 1000000) (hv : validB x = false) :
    Calls Tryz.prog 6 #[.agg (x.cells m s)] w fun e w' => e = .returned (.string (bs [])) ∧ Below w.heap.size w w' := by
  have HV := fun W (h : Below w.heap.size w W) => validAct_c x m s W ((hx.below h (Nat.le_refl _)).more h.size) hms hss
  rw [hv] at HV
  obtain ⟨Am, nm, cm, rfl, _, _, _⟩ := hx.ms.form
  obtain ⟨As, ns, cs, rfl, _, _, _⟩ := hx.ss.form
  rw [ActD.cells_def] at HV ⊢
  have HV := Lib.hid HV
  clear hx hv
  go_enter Tryz.func6, Tryz.ntmps6
  go_wp2_with (go_at_call 7; refine (HV.out _ (bal (B0 w) _)).mono ?_; rintro e w1 ⟨rfl, hb1⟩)
  go_ret
  exact ⟨rfl, bth (bal (B0 w) _) hb1⟩
theorem lens_le : ∀ (l : List (List UInt8)) (B : Nat), (∀ w ∈ l, w.length ≤ B) → Lib.lens l ≤ l.length * B
  | [], _, _ => by simp [Lib.lens]
  | a :: r, B, h => by
    have h1 := h a (by simp)
    have h2 := lens_le r B fun w hw => h w (by simp [hw])
    rw [List.length_cons, Nat.add_mul, Nat.one_mul]
    simp only [Lib.lens, List.map_cons, List.sum_cons] at h2 ⊢
    omega
theorem args_size (x : ActD) (hx : x.Num) (K : Nat) (hK : 21 ≤ K) (hk : x.key.size ≤ K) : (∀ w ∈ argsL x, w.length ≤ K) ∧ (argsL x).length ≤ x.ms.length + x.ss.length + 10 := by
  have ms : ∀ l : List Int, (∀ n ∈ l, I64 n) → ∀ w ∈ l.map Lib.itoa, w.length ≤ K := fun l hl w h => by
    obtain ⟨n, hn, rfl⟩ := List.mem_map.1 h
    have := Lib.itoa_length_le n (hl n hn).1 (hl n hn).2
    omega
  have key : x.key.data.toList.length ≤ K := by
    have : x.key.data.toList.length = x.key.size := by rw [Array.length_toList]; rfl
    omega
  have hop : (∀ w ∈ opWords x, w.length ≤ K) ∧ (opWords x).length ≤ 4 := by
    have h1 := Lib.itoa_length_le x.val hx.val.1 hx.val.2
    have h2 := Lib.itoa_length_le x.old hx.old.1 hx.old.2
    unfold opWords
    repeat' split
    all_goals
      refine ⟨fun w hw => ?_, by simp⟩
      simp only [List.mem_cons, List.not_mem_nil, or_false] at hw
      first
        | (rcases hw with rfl | rfl | rfl | rfl <;> first | exact key | omega | (simp; omega))
        | (rcases hw with rfl | rfl | rfl <;> first | exact key | omega | (simp; omega))
        | (rcases hw with rfl | rfl <;> first | exact key | (simp; omega))
  unfold argsL
  split
  · simp
  split
  · exact ⟨ms _ hx.ms, by simp; omega⟩
  split
  · exact ⟨ms (x.a :: x.ss) (by simp only [List.mem_cons, forall_eq_or_imp]; exact ⟨hx.a, hx.ss⟩), by simp; omega⟩
  split
  · exact ⟨ms [x.a, x.b] (by simpa using ⟨hx.a, hx.b⟩), by simp⟩
  split
  · exact ⟨ms [x.a, x.b, x.c] (by simpa using ⟨hx.a, hx.b, hx.c⟩), by simp⟩
  split
  · exact ⟨ms [x.a, x.b, x.val] (by simpa using ⟨hx.a, hx.b, hx.val⟩), by simp⟩
  split
  · refine ⟨fun w hw => ?_, by simp only [List.length_append, List.length_cons, List.length_nil]; omega⟩
    rcases List.mem_append.1 hw with h | h
    · exact ms [x.a, x.b] (by simpa using ⟨hx.a, hx.b⟩) w h
    · exact hop.1 w h
  · exact ⟨ms [x.a] (by simpa using hx.a), by simp⟩
theorem text_size (x : ActD) (hx : x.Num) (hk : x.key.size ≤ 1000000) (hms : x.ms.length ≤ 100) (hss : x.ss.length ≤ 100) : (textL x).length ≤ 1000000000 := by
  obtain ⟨h1, h2⟩ := args_size x hx 1000000 (by omega) hk
  unfold textL
  rw [Lib.join_length]
  have h3 := lens_le (argsL x) 1000000 h1
  have h4 : (wordL x.kind.toNat).length ≤ 8 := by
    generalize x.kind.toNat = k
    unfold wordL
    split <;> simp
  have h5 : Lib.lens (wordL x.kind.toNat :: argsL x) = (wordL x.kind.toNat).length + Lib.lens (argsL x) := by simp [Lib.lens]
  rw [h5]
  have h6 : (argsL x).length * 1000000 ≤ 210 * 1000000 := Nat.mul_le_mul_right _ (by omega)
  simp only [List.length_singleton]
  omega
theorem text_short (x : ActD) (hx : x.Num) (hk : x.key.size ≤ 100) (hms : x.ms.length ≤ 100) (hss : x.ss.length ≤ 100) : (bs (textL x)).size ≤ 100000 := by
  rw [bs_size]
  obtain ⟨h1, h2⟩ := args_size x hx 100 (by omega) hk
  unfold textL
  rw [Lib.join_length]
  have h3 := lens_le (argsL x) 100 h1
  have h4 : (wordL x.kind.toNat).length ≤ 8 := by
    generalize x.kind.toNat = k
    unfold wordL
    split <;> simp
  have h5 : Lib.lens (wordL x.kind.toNat :: argsL x) = (wordL x.kind.toNat).length + Lib.lens (argsL x) := by simp [Lib.lens]
  rw [h5]
  have h6 : (argsL x).length * 100 ≤ 210 * 100 := Nat.mul_le_mul_right _ (by omega)
  simp only [List.length_singleton]
  omega
/-- What stands when the text is put together. -/
structure TextAt (x : ActD) (m s : Value) (w : World) (p : Nat) (word : List UInt8) (gt : Nat) (W : World) : Prop where
  below : Below w.heap.size w W
  p0 : W.cell? ⟨p, 0, none⟩ = some (.string (bs word))
  p5 : W.cell? ⟨p, 5, none⟩ = some (.func (.func gt) #[] #[])
  lies : Lies W w.heap.size x m s
  lp : p < W.heap.size
  la : w.heap.size < W.heap.size
set_option maxRecDepth 100000 in
set_option maxHeartbeats 8000000 in
theorem act_yes (x : ActD) (m s : Value) (w : World) (hG : Glob w) (hx : x.In w w.heap.size m s) (hms : x.ms.length ≤ 100) (hss : x.ss.length ≤ 100) (hv : validB x = true) :
    Calls Tryz.prog 6 #[.agg (x.cells m s)] w fun e w' => e = .returned (.string (bs (textL x))) ∧ Below w.heap.size w w' := by
  have HV := fun W (h : Below w.heap.size w W) => validAct_c x m s W ((hx.below h (Nat.le_refl _)).more h.size) (by omega) (by omega)
  rw [hv] at HV
  obtain ⟨h0, h17⟩ := kindOk_range (validB_kind hv)
  obtain ⟨k, hk⟩ : ∃ k : Nat, x.kind = k := ⟨x.kind.toNat, by omega⟩
  have ek : x.kind.toNat = k := by omega
  have HF := fun W => find_yes x.kind h0 h17 W
  rw [ek] at HF
  have HFi := Lib.hid HF
  have HX := Lib.hid hx
  have HK := Lib.hid hk
  have HG := Lib.hid hG
  have HVal := Lib.hid hv
  clear hk ek h0 h17 HF hG hv
  obtain ⟨Am, nm, cm, rfl, _, _, _⟩ := hx.ms.form
  obtain ⟨As, ns, cs, rfl, _, _, _⟩ := hx.ss.form
  rw [ActD.cells_def] at HV ⊢
  have HVa := Lib.hid HV
  clear hx HV
  go_enter Tryz.func6, Tryz.ntmps6
  go_wp2_with (first
    | (go_at_call 7
       refine (HVa.out _ (bal (B0 w) _)).mono ?_
       rintro e w1 ⟨rfl, hb1⟩
       have HB1 := Lib.hid (bth (bal (B0 w) _) hb1)
       have HL1 := Lib.hid ((Lies.new w 26 x (.slice Am nm cm) (.slice As ns cs)).below hb1 (by simp))
       have hz1 : w.heap.size < w1.heap.size := blt hb1 (by simp)
       obtain ⟨hc1, hf1⟩ := bcell hb1
       clear hb1)
    | (go_at_call 12
       refine (HFi.out _).mono ?_
       rintro e w2 ⟨⟨word, kind, gu, gf, caps, gr, gt⟩, hF, rfl, hb2⟩
       have HFn := Lib.hid hF
       have et := hF.et
       unfold Enters at et
       simp only at et
       have HB2 := Lib.hid (bth HB1.out hb2)
       have HL2 := Lib.hid (HL1.out.below hb2 hz1)
       have hz2 : w.heap.size < w2.heap.size := blt hb2 hz1
       clear hF hb2 hc1 hf1 hz1))
  refine abs_world (TextAt x (.slice Am nm cm) (.slice As ns cs) w w2.heap.size word gt) ⟨bal HB2.out _, by go_simp, by go_simp, HL2.out.below (bal (B0 w2) _) hz2, by simp, by simp; omega⟩ ?_
  intro W hW
  have hw : word = wordL k := HFn.out.word
  have HText : Hid (∀ W', Below W.heap.size W W' → Calls Tryz.prog gt #[.agg #[.int .i64 x.kind, .int .i64 x.a, .int .i64 x.b, .int .i64 x.c, .int .i64 x.ok, .string x.key, .int .i64 x.val, .int .i64 x.old, .slice Am nm cm, .slice As ns cs]] W' (TextPost W' ((argsL x).map bs))) := fun W' hb => by
    have hbb := bth hW.below hb
    have h := HFn.out.text x (.slice Am nm cm) (.slice As ns cs) W' (HG.out.step hbb) ((HX.out.below hbb (Nat.le_refl _)).more hbb.size) (by omega) (by omega) (fun e => by
      have := valid_op HVal.out (by rw [HK.out, e]; rfl)
      simp only [validOpB, Bool.and_eq_true, decide_eq_true_eq] at this
      exact ⟨this.1.1.1.1.1.1, this.1.1.1.1.1.2⟩)
    have e : ({ x with kind := (k : Int) } : ActD) = x := by rw [← HK.out]
    rw [e] at h
    exact h
  have HJ : Hid ((Lib.join ((bs word :: (argsL x).map bs).map (·.data.toList)) [32]) = textL x) := by
    show _ = _
    have e1 : ((argsL x).map bs).map (·.data.toList) = argsL x := by
      rw [List.map_map]
      conv => rhs; rw [← List.map_id (argsL x)]
      exact List.map_congr_left fun l _ => bs_data l
    unfold textL
    rw [List.map_cons, bs_data, e1, hw, HK.out]; rfl
  have HSz := Lib.hid (text_size x HX.out.num HX.out.key hms hss)
  have HCnt := Lib.hid (args_size x HX.out.num 1000000 (by omega) HX.out.key).2
  have HW := Lib.hid hW.below
  obtain ⟨_, p0, p5, ⟨l0, l1, l2, l3, l4, l5, l6, l7, l8, l9⟩, hlp, hla⟩ := hW
  have hle := HW.out.size
  clear hw HB2 HL2 hz2
  go_region_held3 (fun w' => w'.cell? ⟨w2.heap.size, 0, none⟩ = some (.string (bs word)) ∧ w'.cell? ⟨w2.heap.size, 5, none⟩ = some (.func (.func gt) #[] #[]) ∧ w'.cell? ⟨w.heap.size, 0, none⟩ = some (.int .i64 x.kind) ∧ w'.cell? ⟨w.heap.size, 1, none⟩ = some (.int .i64 x.a) ∧ w'.cell? ⟨w.heap.size, 2, none⟩ = some (.int .i64 x.b) ∧ w'.cell? ⟨w.heap.size, 3, none⟩ = some (.int .i64 x.c) ∧ w'.cell? ⟨w.heap.size, 4, none⟩ = some (.int .i64 x.ok) ∧ w'.cell? ⟨w.heap.size, 5, none⟩ = some (.string x.key) ∧ w'.cell? ⟨w.heap.size, 6, none⟩ = some (.int .i64 x.val) ∧ w'.cell? ⟨w.heap.size, 7, none⟩ = some (.int .i64 x.old) ∧ w'.cell? ⟨w.heap.size, 8, none⟩ = some (.slice Am nm cm) ∧ w'.cell? ⟨w.heap.size, 9, none⟩ = some (.slice As ns cs)) (go_simp)
    (first
      | (go_at_fn gt
         refine (HText.out _ (by first | exact bdr (B0 W) | exact bdr (bal (B0 W) _))).mono ?_
         rintro e w3 ⟨u, rfl, hu, hb3⟩
         have hB3 : Below W.heap.size W w3 := by first | exact bth (bdr (B0 W)) hb3 | exact bth (bdr (bal (B0 W) _)) hb3
         have hz3 : W.heap.size ≤ w3.heap.size := hB3.size
         have hc3 : ∀ b o, b < W.heap.size → w3.cell? ⟨b, o, none⟩ = W.cell? ⟨b, o, none⟩ := fun b o h => hB3.cell (p := ⟨b, o, none⟩) h
         have hlp3 : w2.heap.size < w3.heap.size := by omega
         have hla3 : w.heap.size < w3.heap.size := by omega)
      | (go_at_call 13
         refine (Join_c v' (bs word :: (argsL x).map bs) _ (show OwnS w4 w.heap.size v' (bs word :: (argsL x).map bs) from hown).slS (by have := HCnt.out; simp; omega) (by rw [HJ.out]; have := HSz.out; omega)).mono ?_
         rintro e w5 ⟨rfl, hb5⟩
         have hB5 := bth hB4 hb5
         have hc5 : ∀ b o, b < W.heap.size → w5.cell? ⟨b, o, none⟩ = W.cell? ⟨b, o, none⟩ := fun b o h => (hb5.cell (p := ⟨b, o, none⟩) (Nat.lt_of_lt_of_le h hz4)).trans (hc4 b o h))
      | (refine step_append_S rfl (.tmp 16) (.tmp 20) rfl w.heap.size _ u [bs word] ((argsL x).map bs) (by rfl) (by rfl) (by first | exact OwnS.below (show OwnS (W.alloc (.cells #[.string (bs word)] 9)).drew w.heap.size _ [bs word] from OwnS.lit W w.heap.size (bs word) hle) hb3 | exact OwnS.lit w3 w.heap.size (bs word) (by omega)) (by first | exact hu.src | exact OwnS.src (hu.alloc _)) (by have := HCnt.out; simp; omega) (by first | omega | (simp; omega)) ?_
         intro v' w4 hown hgr
         have hB4 : Below w.heap.size w w4 := by
           first
             | exact OwnS.grown (OwnS.below (show OwnS (W.alloc (.cells #[.string (bs word)] 9)).drew w.heap.size _ [bs word] from OwnS.lit W w.heap.size (bs word) hle) hb3) (bth HW.out hB3) hgr
             | exact OwnS.grown (OwnS.lit w3 w.heap.size (bs word) (by omega)) (bal (bth HW.out hB3) _) hgr
         have hz4 : W.heap.size ≤ w4.heap.size := Nat.le_trans (by first | exact hz3 | (simp; omega)) hgr.size
         have hc4 : ∀ b o, b < W.heap.size → w4.cell? ⟨b, o, none⟩ = W.cell? ⟨b, o, none⟩ := fun b o h => by
           first
             | exact (World.grownBy.cell_far hgr ⟨b, o, none⟩ (Nat.lt_of_lt_of_le h hz3) (fun e => absurd (show b = W.heap.size by injection (show some b = some W.heap.size from e)) (by omega))).trans (hc3 b o h)
             | exact (World.grownBy.cell_far hgr ⟨b, o, none⟩ (by simp; omega) (fun e => absurd (show b = w3.heap.size by injection (show some b = some w3.heap.size from e)) (by omega))).trans ((World.cell?_alloc_lt w3 _ _ (Nat.lt_of_lt_of_le h hz3)).trans (hc3 b o h))))
  all_goals
    go_wp2_with fail
    go_ret
    exact ⟨ret_string (congrArg bs (by have h := HJ.out; simp only [List.map_cons, List.map_map] at h; exact h)), hB5⟩
theorem act_c (x : ActD) (m s : Value) (w : World) (hG : Glob w) (hx : x.In w w.heap.size m s) (hms : x.ms.length ≤ 100) (hss : x.ss.length ≤ 100) :
    Calls Tryz.prog 6 #[.agg (x.cells m s)] w fun e w' => e = .returned (.string (bs (actText x))) ∧ Below w.heap.size w w' := by
  unfold actText
  cases hv : validB x with
  | false => exact act_no x m s w hx (by omega) (by omega) hv
  | true => exact act_yes x m s w hG hx hms hss hv
end Go.Proofs.YtdgciagmcjdhhaaGreatDoor
