/-
  The program's single and plain: the patterns of kinds that use one number or none.
-/
import Derived.Test.YtdgciagmcjdhhaaGreatDoorFits2
import Derived.Test.YtdgciagmcjdhhaaGreatDoorReads
import Derived.Laws.EntriesVeiled
set_option linter.unusedVariables false
set_option linter.unusedSimpArgs false
namespace Go.Proofs.YtdgciagmcjdhhaaGreatDoor
open Go Go.RowKit Go.MapKept Go.ChangeMaps

def fnV (g : Nat) (caps : Array Value) : Value := .func (.func g) #[] caps
/-- A pattern as a value. -/
def patV (word : ByteArray) (k : Int) (u f r t : Value) : Value := .agg #[.string word, .int .i64 k, u, f, r, t]
set_option maxRecDepth 100000 in
set_option maxHeartbeats 1000000 in
theorem plain_c (word : ByteArray) (k : Int) (w : World) :
    Calls Tryz.prog 35 #[.string word, .int .i64 k] w fun e w' => e = .returned (patV word k (fnV 81 #[]) (fnV 82 #[]) (fnV 83 #[]) (fnV 84 #[])) ∧ Below w.heap.size w w' := by
  go_enter Tryz.func35, Tryz.ntmps35
  go_wp2_with fail
  refine bodyPost_ret (v := patV word k (fnV 81 #[]) (fnV 82 #[]) (fnV 83 #[]) (fnV 84 #[])) (by simp [results, Tryz.results35, go_sem, patV, fnV]) rfl ?_
  exact ⟨rfl, by repeat' first | with_reducible exact B0 w | with_reducible refine bst ?_ (Nat.le_refl _) _ | with_reducible refine bal ?_ _⟩
set_option maxRecDepth 100000 in
set_option maxHeartbeats 1000000 in
theorem single_c (word : ByteArray) (k : Int) (g : Nat) (w : World) :
    Calls Tryz.prog 33 #[.string word, .int .i64 k, fnV g #[]] w fun e w' =>
      e = .returned (patV word k (fnV 77 #[]) (fnV 78 #[ptr w.heap.size]) (fnV 79 #[]) (fnV 80 #[])) ∧ Below w.heap.size w w' ∧ w'.cell? ⟨w.heap.size, 0, none⟩ = some (fnV g #[]) ∧ w.heap.size < w'.heap.size := by
  have hmf : ∀ (fn : Fn) (first cap : Array Value) (w : World), (Instr.makeFunc fn first cap).run Tryz.prog w = .ok (.func fn first cap) w := fun _ _ _ _ => rfl
  simp only [fnV]
  go_enter Tryz.func33, Tryz.ntmps33
  go_wp2_with fail
  refine bodyPost_ret (v := patV word k (fnV 77 #[]) (fnV 78 #[ptr w.heap.size]) (fnV 79 #[]) (fnV 80 #[])) (by simp [results, Tryz.results33, go_sem, patV, fnV, ptr]) rfl ?_
  exact ⟨rfl, bal (bal (B0 w) _) _, by go_simp, by simp; omega⟩
end Go.Proofs.YtdgciagmcjdhhaaGreatDoor
