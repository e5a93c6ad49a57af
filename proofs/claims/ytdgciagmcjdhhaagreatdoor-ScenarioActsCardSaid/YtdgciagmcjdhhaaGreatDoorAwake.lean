/-
  The examples that every statement of the chapter checks.
-/
import Derived.Test.YtdgciagmcjdhhaaGreatDoorParse
set_option linter.unusedVariables false
set_option linter.unusedSimpArgs false
namespace Go.Proofs.YtdgciagmcjdhhaaGreatDoor
open Go Go.RowKit Go.MapKept Go.ChangeMaps

theorem dec_small {u : Nat} (h : u < 10) : Lib.decDigits u = [UInt8.ofNat (48 + u)] := Lib.decDigits_one h
theorem dec_big {u : Nat} (h : ¬u < 10) : Lib.decDigits u = Lib.decDigits (u / 10) ++ [UInt8.ofNat (48 + u % 10)] := by
  conv => lhs; rw [Lib.decDigits]
  rw [dif_neg h]
theorem itoa0 : Lib.itoa 0 = [48] := by rw [Lib.itoa, if_neg (by decide)]; exact dec_small (by decide)
theorem itoa1 : Lib.itoa 1 = [49] := by rw [Lib.itoa, if_neg (by decide)]; exact dec_small (by decide)
theorem itoa2 : Lib.itoa 2 = [50] := by rw [Lib.itoa, if_neg (by decide)]; exact dec_small (by decide)
theorem itoa5 : Lib.itoa 5 = [53] := by rw [Lib.itoa, if_neg (by decide)]; exact dec_small (by decide)
theorem itoam1 : Lib.itoa (-1) = [45, 49] := by rw [Lib.itoa, if_pos (by decide)]; exact congrArg (45 :: ·) (dec_small (by decide))
theorem itoa128 : Lib.itoa 128 = [49, 50, 56] := by
  rw [Lib.itoa, if_neg (by decide)]
  show Lib.decDigits 128 = _
  rw [dec_big (by decide), show 128 / 10 = 12 from rfl, dec_big (u := 12) (by decide), show 12 / 10 = 1 from rfl, dec_small (by decide)]
  rfl
/-- The acts of the examples. -/
def exA : ActD := { actZ 5 with a := 2, ss := [128, 0] }
def exB : ActD := { actZ 10 with a := 1, b := 2, ok := 2, key := bs [107], val := 5, old := -1 }
def txtA : List UInt8 := [99, 114, 97, 115, 104, 32, 50, 32, 49, 50, 56, 32, 48]
def txtB : List UInt8 := [114, 101, 113, 117, 101, 115, 116, 32, 49, 32, 50, 32, 99, 97, 115, 32, 107, 32, 45, 49, 32, 53]
def txtC : List UInt8 := [116, 105, 99, 107, 32, 48, 50]
theorem validA : validB exA = true := by decide
theorem validBB : validB exB = true := by decide
theorem textA : textL exA = txtA := by
  have hA : argsL exA = [Lib.itoa 2, Lib.itoa 128, Lib.itoa 0] := rfl
  rw [textL, hA, itoa2, itoa128, itoa0]; rfl
theorem textB : textL exB = txtB := by
  have hA : argsL exB = [Lib.itoa 1, Lib.itoa 2, [99, 97, 115], [107], Lib.itoa (-1), Lib.itoa 5] := rfl
  rw [textL, hA, itoa1, itoa2, itoa5, itoam1]; rfl
theorem numA : exA.Num := ⟨⟨by decide, by decide⟩, I64.zero, I64.zero, I64.zero, I64.zero, by simp [exA, actZ], by
  intro y hy
  simp only [exA, List.mem_cons, List.not_mem_nil, or_false] at hy
  rcases hy with rfl | rfl
  · exact ⟨by decide, by decide⟩
  · exact I64.zero⟩
theorem numB : exB.Num := ⟨⟨by decide, by decide⟩, ⟨by decide, by decide⟩, I64.zero, ⟨by decide, by decide⟩, ⟨by decide, by decide⟩, by simp [exB, actZ], by simp [exB, actZ]⟩
theorem parseB : parseActD (splitS (bs txtB)) = some exB := by rw [← textB]; exact parse_text exB numB validBB
theorem parseC : parseActD (splitS (bs txtC)) = none := by
  have h1 : splitS (bs txtC) = [wordL 3, [48, 50]].map bs := by
    have := splitS_join (wordL 3) [[48, 50]] (by
      intro x hx
      simp only [List.mem_cons, List.not_mem_nil, or_false] at hx
      rcases hx with rfl | rfl
      · exact wordL_word 3 (by decide)
      · intro c hc
        simp only [List.mem_cons, List.not_mem_nil, or_false] at hc
        rcases hc with rfl | rfl <;> decide)
    exact this
  rw [h1]
  have h2 : parseN (bs [48, 50]) = none := by
    have e : Lib.atoiAll (bs [48, 50]).data.toList = .ok 2 := by decide
    unfold parseN
    rw [e]
    simp only
    rw [itoa2, if_neg (by decide)]
  have h3 : readK 3 [bs [48, 50]] = none := by
    unfold readK
    repeat rw [if_neg (by decide)]
    unfold readNs numsQ
    rw [if_pos (by simp)]
    simp [parseAll, h2]
  simp only [List.map_cons, List.map_nil, parseActD, kindOf_word 3 (by decide), Option.bind_some, h3]
  rfl
theorem parse_some_c {s : ByteArray} {y : ActD} (h : parseActD (splitS s) = some y) (hs : s.size ≤ 100000) (w : World) (hG : Glob w) :
    Calls Tryz.prog 10 #[.string s] w fun e w' => ∃ Am nm cm At nt ct, e = .returned (.tuple #[.agg (y.cells (.slice Am nm cm) (.slice At nt ct)), .int .i64 0]) ∧ y.In w' w'.heap.size (.slice Am nm cm) (.slice At nt ct) ∧ Below w.heap.size w w' :=
  (parse_c s w hG hs).mono fun e w' ⟨hb, hp⟩ => by
    rw [h] at hp
    obtain ⟨m, t, he, hI⟩ := hp
    obtain ⟨Am, nm, cm, rfl, _, _, _⟩ := hI.ms.form
    obtain ⟨At, nt, ct, rfl, _, _, _⟩ := hI.ss.form
    exact ⟨_, _, _, _, _, _, he, hI, hb⟩
theorem parse_none_c {s : ByteArray} (h : parseActD (splitS s) = none) (hs : s.size ≤ 100000) (w : World) (hG : Glob w) :
    Calls Tryz.prog 10 #[.string s] w fun e w' => e = .returned (.tuple #[.agg #[.int .i64 0, .int .i64 0, .int .i64 0, .int .i64 0, .int .i64 0, .string ⟨#[]⟩, .int .i64 0, .int .i64 0, .slice none 0 0, .slice none 0 0], .int .i64 3]) ∧ Below w.heap.size w w' :=
  (parse_c s w hG hs).mono fun e w' ⟨hb, hp⟩ => by
    rw [h] at hp
    exact ⟨hp, hb⟩
theorem inA {W : World} {h : Nat} (h0 : W.cell? ⟨h, 0, none⟩ = some (.int .i64 128)) (h1 : W.cell? ⟨h, 1, none⟩ = some (.int .i64 0)) (hh : h < W.heap.size) : exA.In W W.heap.size (.slice none 0 0) (.slice (some ⟨h, 0, none⟩) 2 2) :=
  ⟨⟨by decide, by decide⟩, ⟨by decide, by decide⟩, I64.zero, I64.zero, I64.zero, Nat.zero_le _, I64.zero, I64.zero, SlI.nil_ _ _, SlI.of2 h0 h1 hh ⟨by decide, by decide⟩ I64.zero⟩
theorem inB (W : World) : exB.In W W.heap.size (.slice none 0 0) (.slice none 0 0) :=
  ⟨⟨by decide, by decide⟩, ⟨by decide, by decide⟩, ⟨by decide, by decide⟩, I64.zero, ⟨by decide, by decide⟩, by decide, ⟨by decide, by decide⟩, ⟨by decide, by decide⟩, SlI.nil_ _ _, SlI.nil_ _ _⟩
theorem act_exA (h : Nat) (W : World) (hG : Glob W) (h0 : W.cell? ⟨h, 0, none⟩ = some (.int .i64 128)) (h1 : W.cell? ⟨h, 1, none⟩ = some (.int .i64 0)) (hh : h < W.heap.size) :
    Calls Tryz.prog 6 #[.agg #[.int .i64 5, .int .i64 2, .int .i64 0, .int .i64 0, .int .i64 0, .string ⟨#[]⟩, .int .i64 0, .int .i64 0, .slice none 0 0, .slice (some ⟨h, 0, none⟩) 2 2]] W fun e w' => e = .returned (.string ⟨#[99, 114, 97, 115, 104, 32, 50, 32, 49, 50, 56, 32, 48]⟩) ∧ Below W.heap.size W w' := by
  have c := act_c exA (.slice none 0 0) (.slice (some ⟨h, 0, none⟩) 2 2) W hG (inA h0 h1 hh) (by decide) (by decide)
  have e : actText exA = txtA := by unfold actText; rw [if_pos validA, textA]
  rw [e] at c
  exact c
theorem same_exB (Am At : Option Addr) (nm cm nt ct : Nat) (W : World) (hI : exB.In W W.heap.size (.slice Am nm cm) (.slice At nt ct)) :
    Calls Tryz.prog 11 #[.agg #[.int .i64 10, .int .i64 1, .int .i64 2, .int .i64 0, .int .i64 2, .string ⟨#[107]⟩, .int .i64 5, .int .i64 (-1), .slice Am nm cm, .slice At nt ct], .agg #[.int .i64 10, .int .i64 1, .int .i64 2, .int .i64 0, .int .i64 2, .string ⟨#[107]⟩, .int .i64 5, .int .i64 (-1), .slice none 0 0, .slice none 0 0]] W fun e w' => e = .returned (.bool true) ∧ Below W.heap.size W w' := by
  have c := Same_c exB exB (.slice Am nm cm) (.slice At nt ct) (.slice none 0 0) (.slice none 0 0) W hI (inB W)
  rw [same_refl] at c
  exact c
set_option maxRecDepth 100000 in
set_option maxHeartbeats 4000000 in
theorem awake_c (w : World) (hG : Glob w) : Calls Tryz.prog 5 #[] w fun e w' => e = .returned (.bool true) ∧ Below w.heap.size w w' := by
  have HG := Lib.hid hG
  have HPB : Hid (∀ W, Glob W → Calls Tryz.prog 10 #[.string ⟨#[114, 101, 113, 117, 101, 115, 116, 32, 49, 32, 50, 32, 99, 97, 115, 32, 107, 32, 45, 49, 32, 53]⟩] W fun e w' => ∃ Am nm cm At nt ct, e = .returned (.tuple #[.agg #[.int .i64 10, .int .i64 1, .int .i64 2, .int .i64 0, .int .i64 2, .string ⟨#[107]⟩, .int .i64 5, .int .i64 (-1), .slice Am nm cm, .slice At nt ct], .int .i64 0]) ∧ exB.In w' w'.heap.size (.slice Am nm cm) (.slice At nt ct) ∧ Below W.heap.size W w') := fun W h => parse_some_c parseB (by decide) W h
  have HPC := Lib.hid (fun W (h : Glob W) => parse_none_c parseC (by decide) W h)
  clear hG
  go_enter Tryz.func5, Tryz.ntmps5
  go_wp2_with fail
  refine (HPB.out _ (HG.out.step (bal (bal (B0 w) _) _))).mono ?_
  rintro e w1 ⟨Am, nm, cm, At, nt, ct, rfl, hI1, hb1⟩
  have HB1 := Lib.hid (bth (bal (bal (B0 w) _) _) hb1)
  have hz1 : w.heap.size + 1 < w1.heap.size := by have h := hb1.size; simp at h; omega
  have hz0 : w.heap.size < w1.heap.size := by omega
  have HI1 := Lib.hid hI1
  obtain ⟨hc1, hf1⟩ := bcell hb1
  clear hI1 hb1
  go_wp2_with fail
  refine (HPC.out _ (HG.out.step (bal HB1.out _))).mono ?_
  rintro e w2 ⟨rfl, hb2⟩
  have HB2 := Lib.hid (bth (bal HB1.out _) hb2)
  have hy1 : w1.heap.size < w2.heap.size := by have h := hb2.size; simp at h; omega
  have hz2 : w.heap.size + 1 < w2.heap.size := by omega
  have hz3 : w.heap.size < w2.heap.size := by omega
  have HI2 := Lib.hid ((HI1.out.below (bth (bal (B0 w1) _) hb2) (Nat.le_refl _)).more (bth (bal (B0 w1) _) hb2).size)
  obtain ⟨hc2, hf2⟩ := bcell hb2
  clear hb2
  go_wp2_with fail
  refine (act_exA _ _ (HG.out.step (bal HB2.out _)) (by go_simp) (by go_simp) (by simp; omega)).mono ?_
  rintro e w3 ⟨rfl, hb3⟩
  have HB3 := Lib.hid (bth (bal HB2.out _) hb3)
  have hy3 : w1.heap.size < w3.heap.size := by have h := hb3.size; simp at h; omega
  have HI3 := Lib.hid ((HI2.out.below (bth (bal (B0 w2) _) hb3) (Nat.le_refl _)).more (bth (bal (B0 w2) _) hb3).size)
  obtain ⟨hc3, hf3⟩ := bcell hb3
  clear hb3
  go_wp2_with fail
  refine (same_exB Am At nm cm nt ct w3 HI3.out).mono ?_
  rintro e w4 ⟨rfl, hb4⟩
  go_wp2_with fail
  go_ret
  exact ⟨rfl, bth HB3.out hb4⟩
end Go.Proofs.YtdgciagmcjdhhaaGreatDoor
