/-
  Each pattern's four functions do what its kind wants. (Printed by gen_fns.py.)
-/
import Derived.Test.YtdgciagmcjdhhaaGreatDoorPats2
import Derived.Test.YtdgciagmcjdhhaaGreatDoorReads3
import Derived.Test.YtdgciagmcjdhhaaGreatDoorLaw
set_option linter.unusedVariables false
set_option linter.unusedSimpArgs false
namespace Go.Proofs.YtdgciagmcjdhhaaGreatDoor
open Go Go.RowKit Go.MapKept Go.ChangeMaps

def Enters (g : Nat) : Prop := ∀ args w, (callFunc g args).run Tryz.prog w = .ok (.enter g args) w
/-- The four functions of a pattern of kind k, in the world w and in every later one. -/
structure FnsOk (w : World) (k : Nat) (x : Item) : Prop where
  kind : x.kind = k
  word : x.word = wordL k
  lt : k < 18
  eu : Enters x.gu
  ef : Enters x.gf
  er : Enters x.gr
  et : Enters x.gt
  caps : x.caps = #[] ∨ ∃ b, x.caps = #[ptr b]
  used : ∀ (y : ActD) (m s : Value) (W : World) (px pa : Nat), (∃ A n c, m = .slice A n c) → (∃ A n c, s = .slice A n c) → Blk W px (actZ k) nilS nilS → Lies W pa y m s → px ≠ pa →
    Calls Tryz.prog x.gu #[ptr px, ptr pa] W (UsedPost W px (usedD { y with kind := k }) (if k = 15 then m else nilS) (if k = 5 then s else nilS))
  fits : ∀ (y : ActD) (m s : Value) (W : World), Below w.heap.size w W → I64 y.a → SlI W W.heap.size m y.ms → SlI W W.heap.size s y.ss → y.ms.length ≤ 1000000 → y.ss.length ≤ 1000000 →
    Calls Tryz.prog x.gf (#[.agg (y.cells m s)] ++ x.caps) W fun e w' => e = .returned (.bool (fitK k y)) ∧ Below W.heap.size W w'
  read : ∀ (v : Value) (l : List ByteArray) (W : World) (pa : Nat), Glob W → Blk W pa (actZ k) nilS nilS → 8 ≤ pa → SlS W pa v l → (∀ s ∈ l, s.size ≤ 1000000) → l.length ≤ 100000 →
    Calls Tryz.prog x.gr #[ptr pa, v] W (ReadPost W pa (readK k l))
  text : ∀ (y : ActD) (m s : Value) (W : World), Glob W → y.In W W.heap.size m s → y.ms.length ≤ 100000 → y.ss.length ≤ 100000 → (k = 10 → 0 ≤ y.ok ∧ y.ok ≤ 3) →
    Calls Tryz.prog x.gt #[.agg (y.cells m s)] W (TextPost W ((argsL { y with kind := k }).map bs))
theorem map_itoaB (l : List Int) : (l.map Lib.itoa).map bs = l.map itoaB := by rw [List.map_map]; rfl
theorem words_eq (y : ActD) : (opWords y).map bs = wordsL y := by
  unfold opWords wordsL
  have e := bs_toList y.key
  repeat' split
  all_goals simp [e]
theorem opWords_kind (y : ActD) (k : Int) : opWords { y with kind := k } = opWords y := rfl
set_option maxHeartbeats 1000000 in
theorem fns_0 (w : World) (b : Nat) (hb : w.cell? ⟨b, 0, none⟩ = some (fnV 34 #[])) (hlt : b < w.heap.size) :
    FnsOk w 0 ⟨wordL 0, 0, 77, 78, #[ptr b], 79, 80⟩ where
  kind := rfl
  word := rfl
  lt := by omega
  eu := enters_of Tryz.func77 (by kernel_rfl) rfl
  ef := enters_of Tryz.func78 (by kernel_rfl) rfl
  er := enters_of Tryz.func79 (by kernel_rfl) rfl
  et := enters_of Tryz.func80 (by kernel_rfl) rfl
  caps := .inr ⟨b, rfl⟩
  used := fun y m s W px pa hm hs hp ha hne => (used_single 0 y m s W px pa hm hs hp ha hne)
  fits := fun y m s W hB ha _ _ _ _ => fits_single y m s W 34 b _ (enters_of Tryz.func34 (by kernel_rfl) rfl) (fun W => count_c y.a W) ((hB.cell (p := ⟨b, 0, none⟩) hlt).trans hb) (Nat.lt_of_lt_of_le hlt hB.size)
  read := fun v l W pa hG hb h8 h hsz hn => read_single 0 v l W pa hG hb h8 h hsz hn
  text := fun y m s W hG hy _ _ _ => text_single y m s W hG hy.a
set_option maxHeartbeats 1000000 in
theorem fns_1 (w : World) (b : Nat) (hb : w.cell? ⟨b, 0, none⟩ = some (fnV 34 #[])) (hlt : b < w.heap.size) :
    FnsOk w 1 ⟨wordL 1, 1, 77, 78, #[ptr b], 79, 80⟩ where
  kind := rfl
  word := rfl
  lt := by omega
  eu := enters_of Tryz.func77 (by kernel_rfl) rfl
  ef := enters_of Tryz.func78 (by kernel_rfl) rfl
  er := enters_of Tryz.func79 (by kernel_rfl) rfl
  et := enters_of Tryz.func80 (by kernel_rfl) rfl
  caps := .inr ⟨b, rfl⟩
  used := fun y m s W px pa hm hs hp ha hne => (used_single 1 y m s W px pa hm hs hp ha hne)
  fits := fun y m s W hB ha _ _ _ _ => fits_single y m s W 34 b _ (enters_of Tryz.func34 (by kernel_rfl) rfl) (fun W => count_c y.a W) ((hB.cell (p := ⟨b, 0, none⟩) hlt).trans hb) (Nat.lt_of_lt_of_le hlt hB.size)
  read := fun v l W pa hG hb h8 h hsz hn => read_single 1 v l W pa hG hb h8 h hsz hn
  text := fun y m s W hG hy _ _ _ => text_single y m s W hG hy.a
set_option maxHeartbeats 1000000 in
theorem fns_2 (w : World) (b : Nat) (hb : w.cell? ⟨b, 0, none⟩ = some (fnV 34 #[])) (hlt : b < w.heap.size) :
    FnsOk w 2 ⟨wordL 2, 2, 77, 78, #[ptr b], 79, 80⟩ where
  kind := rfl
  word := rfl
  lt := by omega
  eu := enters_of Tryz.func77 (by kernel_rfl) rfl
  ef := enters_of Tryz.func78 (by kernel_rfl) rfl
  er := enters_of Tryz.func79 (by kernel_rfl) rfl
  et := enters_of Tryz.func80 (by kernel_rfl) rfl
  caps := .inr ⟨b, rfl⟩
  used := fun y m s W px pa hm hs hp ha hne => (used_single 2 y m s W px pa hm hs hp ha hne)
  fits := fun y m s W hB ha _ _ _ _ => fits_single y m s W 34 b _ (enters_of Tryz.func34 (by kernel_rfl) rfl) (fun W => count_c y.a W) ((hB.cell (p := ⟨b, 0, none⟩) hlt).trans hb) (Nat.lt_of_lt_of_le hlt hB.size)
  read := fun v l W pa hG hb h8 h hsz hn => read_single 2 v l W pa hG hb h8 h hsz hn
  text := fun y m s W hG hy _ _ _ => text_single y m s W hG hy.a
set_option maxHeartbeats 1000000 in
theorem fns_3 (w : World) (b : Nat) (hb : w.cell? ⟨b, 0, none⟩ = some (fnV 31 #[])) (hlt : b < w.heap.size) :
    FnsOk w 3 ⟨wordL 3, 3, 77, 78, #[ptr b], 79, 80⟩ where
  kind := rfl
  word := rfl
  lt := by omega
  eu := enters_of Tryz.func77 (by kernel_rfl) rfl
  ef := enters_of Tryz.func78 (by kernel_rfl) rfl
  er := enters_of Tryz.func79 (by kernel_rfl) rfl
  et := enters_of Tryz.func80 (by kernel_rfl) rfl
  caps := .inr ⟨b, rfl⟩
  used := fun y m s W px pa hm hs hp ha hne => (used_single 3 y m s W px pa hm hs hp ha hne)
  fits := fun y m s W hB ha _ _ _ _ => fits_single y m s W 31 b _ (enters_of Tryz.func31 (by kernel_rfl) rfl) (fun W => machine_c y.a W) ((hB.cell (p := ⟨b, 0, none⟩) hlt).trans hb) (Nat.lt_of_lt_of_le hlt hB.size)
  read := fun v l W pa hG hb h8 h hsz hn => read_single 3 v l W pa hG hb h8 h hsz hn
  text := fun y m s W hG hy _ _ _ => text_single y m s W hG hy.a
set_option maxHeartbeats 1000000 in
theorem fns_6 (w : World) (b : Nat) (hb : w.cell? ⟨b, 0, none⟩ = some (fnV 31 #[])) (hlt : b < w.heap.size) :
    FnsOk w 6 ⟨wordL 6, 6, 77, 78, #[ptr b], 79, 80⟩ where
  kind := rfl
  word := rfl
  lt := by omega
  eu := enters_of Tryz.func77 (by kernel_rfl) rfl
  ef := enters_of Tryz.func78 (by kernel_rfl) rfl
  er := enters_of Tryz.func79 (by kernel_rfl) rfl
  et := enters_of Tryz.func80 (by kernel_rfl) rfl
  caps := .inr ⟨b, rfl⟩
  used := fun y m s W px pa hm hs hp ha hne => (used_single 6 y m s W px pa hm hs hp ha hne)
  fits := fun y m s W hB ha _ _ _ _ => fits_single y m s W 31 b _ (enters_of Tryz.func31 (by kernel_rfl) rfl) (fun W => machine_c y.a W) ((hB.cell (p := ⟨b, 0, none⟩) hlt).trans hb) (Nat.lt_of_lt_of_le hlt hB.size)
  read := fun v l W pa hG hb h8 h hsz hn => read_single 6 v l W pa hG hb h8 h hsz hn
  text := fun y m s W hG hy _ _ _ => text_single y m s W hG hy.a
set_option maxHeartbeats 1000000 in
theorem fns_13 (w : World) (b : Nat) (hb : w.cell? ⟨b, 0, none⟩ = some (fnV 31 #[])) (hlt : b < w.heap.size) :
    FnsOk w 13 ⟨wordL 13, 13, 77, 78, #[ptr b], 79, 80⟩ where
  kind := rfl
  word := rfl
  lt := by omega
  eu := enters_of Tryz.func77 (by kernel_rfl) rfl
  ef := enters_of Tryz.func78 (by kernel_rfl) rfl
  er := enters_of Tryz.func79 (by kernel_rfl) rfl
  et := enters_of Tryz.func80 (by kernel_rfl) rfl
  caps := .inr ⟨b, rfl⟩
  used := fun y m s W px pa hm hs hp ha hne => (used_single 13 y m s W px pa hm hs hp ha hne)
  fits := fun y m s W hB ha _ _ _ _ => fits_single y m s W 31 b _ (enters_of Tryz.func31 (by kernel_rfl) rfl) (fun W => machine_c y.a W) ((hB.cell (p := ⟨b, 0, none⟩) hlt).trans hb) (Nat.lt_of_lt_of_le hlt hB.size)
  read := fun v l W pa hG hb h8 h hsz hn => read_single 13 v l W pa hG hb h8 h hsz hn
  text := fun y m s W hG hy _ _ _ => text_single y m s W hG hy.a
set_option maxHeartbeats 1000000 in
theorem fns_8 (w : World) (b : Nat) (hb : w.cell? ⟨b, 0, none⟩ = some (fnV 30 #[])) (hlt : b < w.heap.size) :
    FnsOk w 8 ⟨wordL 8, 8, 77, 78, #[ptr b], 79, 80⟩ where
  kind := rfl
  word := rfl
  lt := by omega
  eu := enters_of Tryz.func77 (by kernel_rfl) rfl
  ef := enters_of Tryz.func78 (by kernel_rfl) rfl
  er := enters_of Tryz.func79 (by kernel_rfl) rfl
  et := enters_of Tryz.func80 (by kernel_rfl) rfl
  caps := .inr ⟨b, rfl⟩
  used := fun y m s W px pa hm hs hp ha hne => (used_single 8 y m s W px pa hm hs hp ha hne)
  fits := fun y m s W hB ha _ _ _ _ => fits_single y m s W 30 b _ (enters_of Tryz.func30 (by kernel_rfl) rfl) (fun W => endpoint_c y.a ha W) ((hB.cell (p := ⟨b, 0, none⟩) hlt).trans hb) (Nat.lt_of_lt_of_le hlt hB.size)
  read := fun v l W pa hG hb h8 h hsz hn => read_single 8 v l W pa hG hb h8 h hsz hn
  text := fun y m s W hG hy _ _ _ => text_single y m s W hG hy.a
set_option maxHeartbeats 1000000 in
theorem fns_9 (w : World) (b : Nat) (hb : w.cell? ⟨b, 0, none⟩ = some (fnV 30 #[])) (hlt : b < w.heap.size) :
    FnsOk w 9 ⟨wordL 9, 9, 77, 78, #[ptr b], 79, 80⟩ where
  kind := rfl
  word := rfl
  lt := by omega
  eu := enters_of Tryz.func77 (by kernel_rfl) rfl
  ef := enters_of Tryz.func78 (by kernel_rfl) rfl
  er := enters_of Tryz.func79 (by kernel_rfl) rfl
  et := enters_of Tryz.func80 (by kernel_rfl) rfl
  caps := .inr ⟨b, rfl⟩
  used := fun y m s W px pa hm hs hp ha hne => (used_single 9 y m s W px pa hm hs hp ha hne)
  fits := fun y m s W hB ha _ _ _ _ => fits_single y m s W 30 b _ (enters_of Tryz.func30 (by kernel_rfl) rfl) (fun W => endpoint_c y.a ha W) ((hB.cell (p := ⟨b, 0, none⟩) hlt).trans hb) (Nat.lt_of_lt_of_le hlt hB.size)
  read := fun v l W pa hG hb h8 h hsz hn => read_single 9 v l W pa hG hb h8 h hsz hn
  text := fun y m s W hG hy _ _ _ => text_single y m s W hG hy.a
set_option maxHeartbeats 1000000 in
theorem fns_11 (w : World) (b : Nat) (hb : w.cell? ⟨b, 0, none⟩ = some (fnV 32 #[])) (hlt : b < w.heap.size) :
    FnsOk w 11 ⟨wordL 11, 11, 77, 78, #[ptr b], 79, 80⟩ where
  kind := rfl
  word := rfl
  lt := by omega
  eu := enters_of Tryz.func77 (by kernel_rfl) rfl
  ef := enters_of Tryz.func78 (by kernel_rfl) rfl
  er := enters_of Tryz.func79 (by kernel_rfl) rfl
  et := enters_of Tryz.func80 (by kernel_rfl) rfl
  caps := .inr ⟨b, rfl⟩
  used := fun y m s W px pa hm hs hp ha hne => (used_single 11 y m s W px pa hm hs hp ha hne)
  fits := fun y m s W hB ha _ _ _ _ => fits_single y m s W 32 b _ (enters_of Tryz.func32 (by kernel_rfl) rfl) (fun W => client_c y.a W) ((hB.cell (p := ⟨b, 0, none⟩) hlt).trans hb) (Nat.lt_of_lt_of_le hlt hB.size)
  read := fun v l W pa hG hb h8 h hsz hn => read_single 11 v l W pa hG hb h8 h hsz hn
  text := fun y m s W hG hy _ _ _ => text_single y m s W hG hy.a
set_option maxHeartbeats 1000000 in
theorem fns_17 (w : World) (b : Nat) (hb : w.cell? ⟨b, 0, none⟩ = some (fnV 36 #[])) (hlt : b < w.heap.size) :
    FnsOk w 17 ⟨wordL 17, 17, 77, 78, #[ptr b], 79, 80⟩ where
  kind := rfl
  word := rfl
  lt := by omega
  eu := enters_of Tryz.func77 (by kernel_rfl) rfl
  ef := enters_of Tryz.func78 (by kernel_rfl) rfl
  er := enters_of Tryz.func79 (by kernel_rfl) rfl
  et := enters_of Tryz.func80 (by kernel_rfl) rfl
  caps := .inr ⟨b, rfl⟩
  used := fun y m s W px pa hm hs hp ha hne => (used_single 17 y m s W px pa hm hs hp ha hne)
  fits := fun y m s W hB ha _ _ _ _ => fits_single y m s W 36 b _ (enters_of Tryz.func36 (by kernel_rfl) rfl) (fun W => calm_c y.a W) ((hB.cell (p := ⟨b, 0, none⟩) hlt).trans hb) (Nat.lt_of_lt_of_le hlt hB.size)
  read := fun v l W pa hG hb h8 h hsz hn => read_single 17 v l W pa hG hb h8 h hsz hn
  text := fun y m s W hG hy _ _ _ => text_single y m s W hG hy.a
set_option maxHeartbeats 1000000 in
theorem fns_4 (w : World) : FnsOk w 4 ⟨wordL 4, 4, 81, 82, #[], 83, 84⟩ where
  kind := rfl
  word := rfl
  lt := by omega
  eu := enters_of Tryz.func81 (by kernel_rfl) rfl
  ef := enters_of Tryz.func82 (by kernel_rfl) rfl
  er := enters_of Tryz.func83 (by kernel_rfl) rfl
  et := enters_of Tryz.func84 (by kernel_rfl) rfl
  caps := .inl rfl
  used := fun y m s W px pa hm hs hp ha hne => (used_plain 4 y m s W px pa hm hs hp ha hne)
  fits := fun y m s W hB ha hms hss hlm hls => (fits_plain y m s W)
  read := fun v l W pa hG hb h8 h hsz hn => read_plain 4 v l W pa hb h
  text := fun y m s W hG hy hlm hls hop => (text_plain y m s W)
set_option maxHeartbeats 1000000 in
theorem fns_16 (w : World) : FnsOk w 16 ⟨wordL 16, 16, 81, 82, #[], 83, 84⟩ where
  kind := rfl
  word := rfl
  lt := by omega
  eu := enters_of Tryz.func81 (by kernel_rfl) rfl
  ef := enters_of Tryz.func82 (by kernel_rfl) rfl
  er := enters_of Tryz.func83 (by kernel_rfl) rfl
  et := enters_of Tryz.func84 (by kernel_rfl) rfl
  caps := .inl rfl
  used := fun y m s W px pa hm hs hp ha hne => (used_plain 16 y m s W px pa hm hs hp ha hne)
  fits := fun y m s W hB ha hms hss hlm hls => (fits_plain y m s W)
  read := fun v l W pa hG hb h8 h hsz hn => read_plain 16 v l W pa hb h
  text := fun y m s W hG hy hlm hls hop => (text_plain y m s W)
set_option maxHeartbeats 1000000 in
theorem fns_5 (w : World) : FnsOk w 5 ⟨wordL 5, 5, 37, 38, #[], 41, 44⟩ where
  kind := rfl
  word := rfl
  lt := by omega
  eu := enters_of Tryz.func37 (by kernel_rfl) rfl
  ef := enters_of Tryz.func38 (by kernel_rfl) rfl
  er := enters_of Tryz.func41 (by kernel_rfl) rfl
  et := enters_of Tryz.func44 (by kernel_rfl) rfl
  caps := .inl rfl
  used := fun y m s W px pa hm hs hp ha hne => (used_crash 5 y m s W px pa hm hs hp ha hne)
  fits := fun y m s W hB ha hms hss hlm hls => (fits_crash y m s W hss hls)
  read := fun v l W pa hG hb h8 h hsz hn => read_crash 5 v l W pa hG hb h8 h hsz hn
  text := fun y m s W hG hy hlm hls hop => by
    have := text_crash y m s W hG hy.a hy.ss hls
    rw [← map_itoaB] at this
    exact this
set_option maxHeartbeats 1000000 in
theorem fns_7 (w : World) : FnsOk w 7 ⟨wordL 7, 7, 46, 47, #[], 48, 49⟩ where
  kind := rfl
  word := rfl
  lt := by omega
  eu := enters_of Tryz.func46 (by kernel_rfl) rfl
  ef := enters_of Tryz.func47 (by kernel_rfl) rfl
  er := enters_of Tryz.func48 (by kernel_rfl) rfl
  et := enters_of Tryz.func49 (by kernel_rfl) rfl
  caps := .inl rfl
  used := fun y m s W px pa hm hs hp ha hne => (used_fail 7 y m s W px pa hm hs hp ha hne)
  fits := fun y m s W hB ha hms hss hlm hls => (fits_fail y m s W)
  read := fun v l W pa hG hb h8 h hsz hn => read_fail 7 v l W pa hG hb h8 h hsz hn
  text := fun y m s W hG hy hlm hls hop => (text_fail y m s W hG hy.a hy.b)
set_option maxHeartbeats 1000000 in
theorem fns_10 (w : World) : FnsOk w 10 ⟨wordL 10, 10, 50, 51, #[], 54, 56⟩ where
  kind := rfl
  word := rfl
  lt := by omega
  eu := enters_of Tryz.func50 (by kernel_rfl) rfl
  ef := enters_of Tryz.func51 (by kernel_rfl) rfl
  er := enters_of Tryz.func54 (by kernel_rfl) rfl
  et := enters_of Tryz.func56 (by kernel_rfl) rfl
  caps := .inl rfl
  used := fun y m s W px pa hm hs hp ha hne => (used_request 10 y m s W px pa hm hs hp ha hne)
  fits := fun y m s W hB ha hms hss hlm hls => (fits_request y m s W)
  read := fun v l W pa hG hb h8 h hsz hn => read_req 10 v l W pa hG hb h8 h hsz hn
  text := fun y m s W hG hy hlm hls hop => by
    have := text_request y m s W hG hy.a hy.b hy.val hy.old (hop rfl).1 (hop rfl).2
    rw [← words_eq] at this
    exact this
set_option maxHeartbeats 1000000 in
theorem fns_12 (w : World) : FnsOk w 12 ⟨wordL 12, 12, 58, 59, #[], 60, 62⟩ where
  kind := rfl
  word := rfl
  lt := by omega
  eu := enters_of Tryz.func58 (by kernel_rfl) rfl
  ef := enters_of Tryz.func59 (by kernel_rfl) rfl
  er := enters_of Tryz.func60 (by kernel_rfl) rfl
  et := enters_of Tryz.func62 (by kernel_rfl) rfl
  caps := .inl rfl
  used := fun y m s W px pa hm hs hp ha hne => (used_call 12 y m s W px pa hm hs hp ha hne)
  fits := fun y m s W hB ha hms hss hlm hls => (fits_call y m s W)
  read := fun v l W pa hG hb h8 h hsz hn => read_call 12 v l W pa hG hb h8 h hsz
  text := fun y m s W hG hy hlm hls hop => (text_call y m s W hG hy.a hy.b hy.val)
set_option maxHeartbeats 1000000 in
theorem fns_14 (w : World) : FnsOk w 14 ⟨wordL 14, 14, 64, 65, #[], 66, 67⟩ where
  kind := rfl
  word := rfl
  lt := by omega
  eu := enters_of Tryz.func64 (by kernel_rfl) rfl
  ef := enters_of Tryz.func65 (by kernel_rfl) rfl
  er := enters_of Tryz.func66 (by kernel_rfl) rfl
  et := enters_of Tryz.func67 (by kernel_rfl) rfl
  caps := .inl rfl
  used := fun y m s W px pa hm hs hp ha hne => (used_transfer 14 y m s W px pa hm hs hp ha hne)
  fits := fun y m s W hB ha hms hss hlm hls => (fits_transfer y m s W)
  read := fun v l W pa hG hb h8 h hsz hn => read_transfer 14 v l W pa hG hb h8 h hsz hn
  text := fun y m s W hG hy hlm hls hop => (text_transfer y m s W hG hy.a hy.b hy.c)
set_option maxHeartbeats 1000000 in
theorem fns_15 (w : World) : FnsOk w 15 ⟨wordL 15, 15, 68, 69, #[], 70, 71⟩ where
  kind := rfl
  word := rfl
  lt := by omega
  eu := enters_of Tryz.func68 (by kernel_rfl) rfl
  ef := enters_of Tryz.func69 (by kernel_rfl) rfl
  er := enters_of Tryz.func70 (by kernel_rfl) rfl
  et := enters_of Tryz.func71 (by kernel_rfl) rfl
  caps := .inl rfl
  used := fun y m s W px pa hm hs hp ha hne => (used_replan 15 y m s W px pa hm hs hp ha hne)
  fits := fun y m s W hB ha hms hss hlm hls => (fits_replan y m s W hms hlm)
  read := fun v l W pa hG hb h8 h hsz hn => read_replan 15 v l W pa hG hb h8 h hsz hn
  text := fun y m s W hG hy hlm hls hop => by
    have := text_replan y m s W hG hy.ms hlm
    rw [← map_itoaB] at this
    exact this
theorem FnsOk.later {w w' : World} {k : Nat} {x : Item} (h : FnsOk w k x) (hb : Below w.heap.size w w') : FnsOk w' k x :=
  ⟨h.kind, h.word, h.lt, h.eu, h.ef, h.er, h.et, h.caps, h.used, fun y m s W hB => h.fits y m s W (bth hb hB), h.read, h.text⟩
/-- The j-th pattern is that of its kind. -/
theorem fns_at (w : World) (b : Nat → Nat) (hB : BoxAt w b) (j : Nat) (x : Item) (hj : (items b)[j]? = some x) : ∃ k, itemKinds[j]? = some k ∧ FnsOk w k x := by
  match j, hj with
  | 0, hj => injection hj with hj; subst hj; exact ⟨0, rfl, fns_0 w _ (hB 0 (by omega)).2 (hB 0 (by omega)).1⟩
  | 1, hj => injection hj with hj; subst hj; exact ⟨1, rfl, fns_1 w _ (hB 1 (by omega)).2 (hB 1 (by omega)).1⟩
  | 2, hj => injection hj with hj; subst hj; exact ⟨2, rfl, fns_2 w _ (hB 2 (by omega)).2 (hB 2 (by omega)).1⟩
  | 3, hj => injection hj with hj; subst hj; exact ⟨3, rfl, fns_3 w _ (hB 3 (by omega)).2 (hB 3 (by omega)).1⟩
  | 4, hj => injection hj with hj; subst hj; exact ⟨6, rfl, fns_6 w _ (hB 4 (by omega)).2 (hB 4 (by omega)).1⟩
  | 5, hj => injection hj with hj; subst hj; exact ⟨13, rfl, fns_13 w _ (hB 5 (by omega)).2 (hB 5 (by omega)).1⟩
  | 6, hj => injection hj with hj; subst hj; exact ⟨4, rfl, fns_4 w⟩
  | 7, hj => injection hj with hj; subst hj; exact ⟨16, rfl, fns_16 w⟩
  | 8, hj => injection hj with hj; subst hj; exact ⟨8, rfl, fns_8 w _ (hB 6 (by omega)).2 (hB 6 (by omega)).1⟩
  | 9, hj => injection hj with hj; subst hj; exact ⟨9, rfl, fns_9 w _ (hB 7 (by omega)).2 (hB 7 (by omega)).1⟩
  | 10, hj => injection hj with hj; subst hj; exact ⟨11, rfl, fns_11 w _ (hB 8 (by omega)).2 (hB 8 (by omega)).1⟩
  | 11, hj => injection hj with hj; subst hj; exact ⟨17, rfl, fns_17 w _ (hB 9 (by omega)).2 (hB 9 (by omega)).1⟩
  | 12, hj => injection hj with hj; subst hj; exact ⟨5, rfl, fns_5 w⟩
  | 13, hj => injection hj with hj; subst hj; exact ⟨7, rfl, fns_7 w⟩
  | 14, hj => injection hj with hj; subst hj; exact ⟨10, rfl, fns_10 w⟩
  | 15, hj => injection hj with hj; subst hj; exact ⟨12, rfl, fns_12 w⟩
  | 16, hj => injection hj with hj; subst hj; exact ⟨14, rfl, fns_14 w⟩
  | 17, hj => injection hj with hj; subst hj; exact ⟨15, rfl, fns_15 w⟩
  | j + 18, hj => simp [items] at hj
theorem kinds_all : ∀ k, k < 18 → k ∈ itemKinds := by decide
end Go.Proofs.YtdgciagmcjdhhaaGreatDoor
