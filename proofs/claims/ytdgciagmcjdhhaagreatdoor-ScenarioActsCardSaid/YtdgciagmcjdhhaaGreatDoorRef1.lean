/-
  The reference's 'used': the act with the fields that its kind uses.
-/
import Derived.Test.YtdgciagmcjdhhaaGreatDoorAct
set_option linter.unusedVariables false
set_option linter.unusedSimpArgs false
namespace Go.Proofs.YtdgciagmcjdhhaaGreatDoor
open Go Go.RowKit

def usedD (x : ActD) : ActD :=
  { kind := x.kind
    a := if x.kind = 4 ∨ x.kind = 16 ∨ x.kind = 15 then 0 else x.a
    b := if x.kind = 7 ∨ x.kind = 10 ∨ x.kind = 12 ∨ x.kind = 14 then x.b else 0
    c := if x.kind = 14 then x.c else 0
    ok := if x.kind = 10 then x.ok else 0
    key := if x.kind = 10 then x.key else ⟨#[]⟩
    val := if x.kind = 10 ∨ x.kind = 12 then x.val else 0
    old := if x.kind = 10 then x.old else 0
    ms := if x.kind = 15 then x.ms else []
    ss := if x.kind = 5 then x.ss else [] }

theorem used_in {x : ActD} {w : World} {B : Nat} {m s : Value} (h : x.In w B m s) :
    (usedD x).In w B (if x.kind = 15 then m else .slice none 0 0) (if x.kind = 5 then s else .slice none 0 0) := by
  refine ⟨h.kind, ?_, ?_, ?_, ?_, ?_, ?_, ?_, ?_, ?_⟩ <;> simp only [usedD] <;> split <;> first | exact I64.zero | exact h.a | exact h.b | exact h.c | exact h.ok | exact h.key | exact h.val | exact h.old | exact h.ms | exact h.ss | exact SlI.nil_ _ _ | exact Nat.zero_le _
theorem ret_used {x : ActD} {w w' : World} {m s v : Value} (h : x.In w w.heap.size m s) (hb : Below w.heap.size w w')
    (he : v = .agg ((usedD x).cells (if x.kind = 15 then m else .slice none 0 0) (if x.kind = 5 then s else .slice none 0 0))) : RetAct w (usedD x) (.returned v) w' :=
  ⟨_, _, congrArg _ he, ((used_in h).below hb (Nat.le_refl _)).more hb.size, hb⟩

set_option maxHeartbeats 1000000 in
theorem used_5 (a b c ok : Int) (key : ByteArray) (val old : Int) (ms ss : List Int) (Am As : Option Addr) (nm cm ns cs : Nat) (w : World)
    (HX : Hid ((⟨5, a, b, c, ok, key, val, old, ms, ss⟩ : ActD).In w w.heap.size (.slice Am nm cm) (.slice As ns cs))) :
    Calls Tryz.prog 15 #[.agg #[.int .i64 5, .int .i64 a, .int .i64 b, .int .i64 c, .int .i64 ok, .string key, .int .i64 val, .int .i64 old, .slice Am nm cm, .slice As ns cs]] w (RetAct w (usedD ⟨5, a, b, c, ok, key, val, old, ms, ss⟩)) := by
  go_enter Tryz.func15, Tryz.ntmps15
  go_wp2_with fail
  all_goals refine bodyPost_ret (v := .agg #[.int .i64 5, .int .i64 a, .int .i64 0, .int .i64 0, .int .i64 0, .string ⟨#[]⟩, .int .i64 0, .int .i64 0, .slice none 0 0, .slice As ns cs]) (by simp [results, Tryz.results15, go_sem]) rfl ?_
  all_goals exact ret_used HX.out (by first | exact (bal (bal (bal (B0 w) _) _) _) | exact bdr (bal (bal (bal (B0 w) _) _) _)) (by simp [usedD, ActD.cells])
set_option maxHeartbeats 1000000 in
theorem used_7 (a b c ok : Int) (key : ByteArray) (val old : Int) (ms ss : List Int) (Am As : Option Addr) (nm cm ns cs : Nat) (w : World)
    (HX : Hid ((⟨7, a, b, c, ok, key, val, old, ms, ss⟩ : ActD).In w w.heap.size (.slice Am nm cm) (.slice As ns cs))) :
    Calls Tryz.prog 15 #[.agg #[.int .i64 7, .int .i64 a, .int .i64 b, .int .i64 c, .int .i64 ok, .string key, .int .i64 val, .int .i64 old, .slice Am nm cm, .slice As ns cs]] w (RetAct w (usedD ⟨7, a, b, c, ok, key, val, old, ms, ss⟩)) := by
  go_enter Tryz.func15, Tryz.ntmps15
  go_wp2_with fail
  all_goals refine bodyPost_ret (v := .agg #[.int .i64 7, .int .i64 a, .int .i64 b, .int .i64 0, .int .i64 0, .string ⟨#[]⟩, .int .i64 0, .int .i64 0, .slice none 0 0, .slice none 0 0]) (by simp [results, Tryz.results15, go_sem]) rfl ?_
  all_goals exact ret_used HX.out (by first | exact (bal (bal (bal (B0 w) _) _) _) | exact bdr (bal (bal (bal (B0 w) _) _) _)) (by simp [usedD, ActD.cells])
set_option maxHeartbeats 1000000 in
theorem used_10 (a b c ok : Int) (key : ByteArray) (val old : Int) (ms ss : List Int) (Am As : Option Addr) (nm cm ns cs : Nat) (w : World)
    (HX : Hid ((⟨10, a, b, c, ok, key, val, old, ms, ss⟩ : ActD).In w w.heap.size (.slice Am nm cm) (.slice As ns cs))) :
    Calls Tryz.prog 15 #[.agg #[.int .i64 10, .int .i64 a, .int .i64 b, .int .i64 c, .int .i64 ok, .string key, .int .i64 val, .int .i64 old, .slice Am nm cm, .slice As ns cs]] w (RetAct w (usedD ⟨10, a, b, c, ok, key, val, old, ms, ss⟩)) := by
  go_enter Tryz.func15, Tryz.ntmps15
  go_wp2_with fail
  go_region
  all_goals go_wp2_with fail
  all_goals refine bodyPost_ret (v := .agg #[.int .i64 10, .int .i64 a, .int .i64 b, .int .i64 0, .int .i64 ok, .string key, .int .i64 val, .int .i64 old, .slice none 0 0, .slice none 0 0]) (by simp [results, Tryz.results15, go_sem]) rfl ?_
  all_goals exact ret_used HX.out (by first | exact (bal (bal (bal (B0 w) _) _) _) | exact bdr (bal (bal (bal (B0 w) _) _) _)) (by simp [usedD, ActD.cells])
set_option maxHeartbeats 1000000 in
theorem used_12 (a b c ok : Int) (key : ByteArray) (val old : Int) (ms ss : List Int) (Am As : Option Addr) (nm cm ns cs : Nat) (w : World)
    (HX : Hid ((⟨12, a, b, c, ok, key, val, old, ms, ss⟩ : ActD).In w w.heap.size (.slice Am nm cm) (.slice As ns cs))) :
    Calls Tryz.prog 15 #[.agg #[.int .i64 12, .int .i64 a, .int .i64 b, .int .i64 c, .int .i64 ok, .string key, .int .i64 val, .int .i64 old, .slice Am nm cm, .slice As ns cs]] w (RetAct w (usedD ⟨12, a, b, c, ok, key, val, old, ms, ss⟩)) := by
  go_enter Tryz.func15, Tryz.ntmps15
  go_wp2_with fail
  go_region
  all_goals go_wp2_with fail
  all_goals refine bodyPost_ret (v := .agg #[.int .i64 12, .int .i64 a, .int .i64 b, .int .i64 0, .int .i64 0, .string ⟨#[]⟩, .int .i64 val, .int .i64 0, .slice none 0 0, .slice none 0 0]) (by simp [results, Tryz.results15, go_sem]) rfl ?_
  all_goals exact ret_used HX.out (by first | exact (bal (bal (bal (B0 w) _) _) _) | exact bdr (bal (bal (bal (B0 w) _) _) _)) (by simp [usedD, ActD.cells])
set_option maxHeartbeats 1000000 in
theorem used_14 (a b c ok : Int) (key : ByteArray) (val old : Int) (ms ss : List Int) (Am As : Option Addr) (nm cm ns cs : Nat) (w : World)
    (HX : Hid ((⟨14, a, b, c, ok, key, val, old, ms, ss⟩ : ActD).In w w.heap.size (.slice Am nm cm) (.slice As ns cs))) :
    Calls Tryz.prog 15 #[.agg #[.int .i64 14, .int .i64 a, .int .i64 b, .int .i64 c, .int .i64 ok, .string key, .int .i64 val, .int .i64 old, .slice Am nm cm, .slice As ns cs]] w (RetAct w (usedD ⟨14, a, b, c, ok, key, val, old, ms, ss⟩)) := by
  go_enter Tryz.func15, Tryz.ntmps15
  go_wp2_with fail
  go_region
  all_goals go_wp2_with fail
  all_goals refine bodyPost_ret (v := .agg #[.int .i64 14, .int .i64 a, .int .i64 b, .int .i64 c, .int .i64 0, .string ⟨#[]⟩, .int .i64 0, .int .i64 0, .slice none 0 0, .slice none 0 0]) (by simp [results, Tryz.results15, go_sem]) rfl ?_
  all_goals exact ret_used HX.out (by first | exact (bal (bal (bal (B0 w) _) _) _) | exact bdr (bal (bal (bal (B0 w) _) _) _)) (by simp [usedD, ActD.cells])
set_option maxHeartbeats 1000000 in
theorem used_15 (a b c ok : Int) (key : ByteArray) (val old : Int) (ms ss : List Int) (Am As : Option Addr) (nm cm ns cs : Nat) (w : World)
    (HX : Hid ((⟨15, a, b, c, ok, key, val, old, ms, ss⟩ : ActD).In w w.heap.size (.slice Am nm cm) (.slice As ns cs))) :
    Calls Tryz.prog 15 #[.agg #[.int .i64 15, .int .i64 a, .int .i64 b, .int .i64 c, .int .i64 ok, .string key, .int .i64 val, .int .i64 old, .slice Am nm cm, .slice As ns cs]] w (RetAct w (usedD ⟨15, a, b, c, ok, key, val, old, ms, ss⟩)) := by
  go_enter Tryz.func15, Tryz.ntmps15
  go_wp2_with fail
  all_goals refine bodyPost_ret (v := .agg #[.int .i64 15, .int .i64 0, .int .i64 0, .int .i64 0, .int .i64 0, .string ⟨#[]⟩, .int .i64 0, .int .i64 0, .slice Am nm cm, .slice none 0 0]) (by simp [results, Tryz.results15, go_sem]) rfl ?_
  all_goals exact ret_used HX.out (by first | exact (bal (bal (bal (B0 w) _) _) _) | exact bdr (bal (bal (bal (B0 w) _) _) _)) (by simp [usedD, ActD.cells])
set_option maxHeartbeats 1000000 in
theorem used_4 (a b c ok : Int) (key : ByteArray) (val old : Int) (ms ss : List Int) (Am As : Option Addr) (nm cm ns cs : Nat) (w : World)
    (HX : Hid ((⟨4, a, b, c, ok, key, val, old, ms, ss⟩ : ActD).In w w.heap.size (.slice Am nm cm) (.slice As ns cs))) :
    Calls Tryz.prog 15 #[.agg #[.int .i64 4, .int .i64 a, .int .i64 b, .int .i64 c, .int .i64 ok, .string key, .int .i64 val, .int .i64 old, .slice Am nm cm, .slice As ns cs]] w (RetAct w (usedD ⟨4, a, b, c, ok, key, val, old, ms, ss⟩)) := by
  go_enter Tryz.func15, Tryz.ntmps15
  go_wp2_with fail
  all_goals refine bodyPost_ret (v := .agg #[.int .i64 4, .int .i64 0, .int .i64 0, .int .i64 0, .int .i64 0, .string ⟨#[]⟩, .int .i64 0, .int .i64 0, .slice none 0 0, .slice none 0 0]) (by simp [results, Tryz.results15, go_sem]) rfl ?_
  all_goals exact ret_used HX.out (by first | exact (bal (bal (bal (B0 w) _) _) _) | exact bdr (bal (bal (bal (B0 w) _) _) _)) (by simp [usedD, ActD.cells])
set_option maxHeartbeats 1000000 in
theorem used_16 (a b c ok : Int) (key : ByteArray) (val old : Int) (ms ss : List Int) (Am As : Option Addr) (nm cm ns cs : Nat) (w : World)
    (HX : Hid ((⟨16, a, b, c, ok, key, val, old, ms, ss⟩ : ActD).In w w.heap.size (.slice Am nm cm) (.slice As ns cs))) :
    Calls Tryz.prog 15 #[.agg #[.int .i64 16, .int .i64 a, .int .i64 b, .int .i64 c, .int .i64 ok, .string key, .int .i64 val, .int .i64 old, .slice Am nm cm, .slice As ns cs]] w (RetAct w (usedD ⟨16, a, b, c, ok, key, val, old, ms, ss⟩)) := by
  go_enter Tryz.func15, Tryz.ntmps15
  go_wp2_with fail
  all_goals refine bodyPost_ret (v := .agg #[.int .i64 16, .int .i64 0, .int .i64 0, .int .i64 0, .int .i64 0, .string ⟨#[]⟩, .int .i64 0, .int .i64 0, .slice none 0 0, .slice none 0 0]) (by simp [results, Tryz.results15, go_sem]) rfl ?_
  all_goals exact ret_used HX.out (by first | exact (bal (bal (bal (B0 w) _) _) _) | exact bdr (bal (bal (bal (B0 w) _) _) _)) (by simp [usedD, ActD.cells])
set_option maxHeartbeats 1000000 in
theorem used_other (k : Int) (a b c ok : Int) (key : ByteArray) (val old : Int) (ms ss : List Int) (Am As : Option Addr) (nm cm ns cs : Nat) (w : World) (HK : Hid (¬k = 4 ∧ ¬k = 16 ∧ ¬k = 15 ∧ ¬k = 5 ∧ ¬k = 7 ∧ ¬k = 10 ∧ ¬k = 12 ∧ ¬k = 14))
    (HX : Hid ((⟨k, a, b, c, ok, key, val, old, ms, ss⟩ : ActD).In w w.heap.size (.slice Am nm cm) (.slice As ns cs))) :
    Calls Tryz.prog 15 #[.agg #[.int .i64 k, .int .i64 a, .int .i64 b, .int .i64 c, .int .i64 ok, .string key, .int .i64 val, .int .i64 old, .slice Am nm cm, .slice As ns cs]] w (RetAct w (usedD ⟨k, a, b, c, ok, key, val, old, ms, ss⟩)) := by
  have n4 : (k != 4) = true := by simp [HK.out]
  have n16 : (k != 16) = true := by simp [HK.out]
  have n15 : (k != 15) = true := by simp [HK.out]
  have e5 : (k == 5) = false := by simp [HK.out]
  have e7 : (k == 7) = false := by simp [HK.out]
  have e10 : (k == 10) = false := by simp [HK.out]
  have e12 : (k == 12) = false := by simp [HK.out]
  have e14 : (k == 14) = false := by simp [HK.out]
  have e15 : (k == 15) = false := by simp [HK.out]
  go_enter Tryz.func15, Tryz.ntmps15
  go_wp2_with fail
  all_goals refine bodyPost_ret (v := .agg #[.int .i64 k, .int .i64 a, .int .i64 0, .int .i64 0, .int .i64 0, .string ⟨#[]⟩, .int .i64 0, .int .i64 0, .slice none 0 0, .slice none 0 0]) (by simp [results, Tryz.results15, go_sem]) rfl ?_
  all_goals exact ret_used HX.out (by first | exact (bal (bal (bal (B0 w) _) _) _) | exact bdr (bal (bal (bal (B0 w) _) _) _)) (by simp [usedD, ActD.cells, HK.out])
theorem used_c (x : ActD) (m s : Value) (w : World) (hx : x.In w w.heap.size m s) :
    Calls Tryz.prog 15 #[.agg (x.cells m s)] w (RetAct w (usedD x)) := by
  obtain ⟨Am, nm, cm, rfl, _, _, _⟩ := hx.ms.form
  obtain ⟨As, ns, cs, rfl, _, _, _⟩ := hx.ss.form
  obtain ⟨k, a, b, c, ok, key, val, old, ms, ss⟩ := x
  rw [ActD.cells_def]
  by_cases h4 : k = 4
  · subst h4; exact used_4 a b c ok key val old ms ss Am As nm cm ns cs w hx
  by_cases h16 : k = 16
  · subst h16; exact used_16 a b c ok key val old ms ss Am As nm cm ns cs w hx
  by_cases h15 : k = 15
  · subst h15; exact used_15 a b c ok key val old ms ss Am As nm cm ns cs w hx
  by_cases h5 : k = 5
  · subst h5; exact used_5 a b c ok key val old ms ss Am As nm cm ns cs w hx
  by_cases h7 : k = 7
  · subst h7; exact used_7 a b c ok key val old ms ss Am As nm cm ns cs w hx
  by_cases h10 : k = 10
  · subst h10; exact used_10 a b c ok key val old ms ss Am As nm cm ns cs w hx
  by_cases h12 : k = 12
  · subst h12; exact used_12 a b c ok key val old ms ss Am As nm cm ns cs w hx
  by_cases h14 : k = 14
  · subst h14; exact used_14 a b c ok key val old ms ss Am As nm cm ns cs w hx
  exact used_other k a b c ok key val old ms ss Am As nm cm ns cs w ⟨h4, h16, h15, h5, h7, h10, h12, h14⟩ hx
end Go.Proofs.YtdgciagmcjdhhaaGreatDoor
