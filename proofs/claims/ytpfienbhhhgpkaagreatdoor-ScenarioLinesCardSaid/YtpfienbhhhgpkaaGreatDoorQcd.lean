/- One of the card's facts: no function of the program starts a goroutine. -/
import Derived.Test.YtpfienbhhhgpkaaGreatDoorRows
import GoSem.ClaimGoes
import Derived.ProofKit
set_option maxRecDepth 100000
namespace Go.Proofs.YtpfienbhhhgpkaaGreatDoor
open Go
theorem no_goes (P : Program) (h : P.funcs.any Func.goes = false) (c : OpenClaim) : false = c.goesBy P := by
  have e : (fun g : Nat => (P.funcs[g]?).any Func.goes) = fun _ => false := funext fun g => by
    cases e : P.funcs[g]? with
    | none => rfl
    | some fn =>
      show fn.goes = false
      obtain ⟨hi, he⟩ := Array.getElem?_eq_some_iff.1 e
      have := Array.any_eq_false.1 h g hi
      rw [he] at this
      exact Bool.eq_false_iff.2 this
  have hg : ∀ f, P.goes f = false := fun f => by
    show ((P.closure f).any (fun g : Nat => (P.funcs[g]?).any Func.goes) || (P.unfollowed f && P.funcs.any Func.goes)) = false
    rw [h, Bool.and_false, Bool.or_false, e]
    simp
  have hn : ∀ s, P.goesFrom s = false := fun s => by
    unfold Program.goesFrom
    cases P.funcNamed s with
    | none => rfl
    | some f => exact hg f
  have hi : P.inits.toList.any P.goes = false := by
    rw [show P.goes = fun _ => false from funext hg]; simp
  unfold OpenClaim.goesBy Program.goesAt
  rw [hn]
  cases c.start <;> simp [hi]
theorem ga8:false=Rows.scenarioLinesRow.goesBy Tryz.prog:=no_goes _ (by kernel_rfl) _
end Go.Proofs.YtpfienbhhhgpkaaGreatDoor
