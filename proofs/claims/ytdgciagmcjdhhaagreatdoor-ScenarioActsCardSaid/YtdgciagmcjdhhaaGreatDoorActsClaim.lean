/-
  For every act the law ScenarioActs returns true, and the act reads as it did: the row, and the card tied to the program's text.
  Conditions: the listed variables of Go's library hold what their own text lays (tied by the card); the rest of the world is open.
-/
import Derived.Test.YtdgciagmcjdhhaaGreatDoorActsRow
import Derived.Test.YtdgciagmcjdhhaaGreatDoorTie
import Derived.Test.YtdgciagmcjdhhaaGreatDoorCards
import Derived.SevenTiedAt
set_option linter.unusedVariables false
set_option linter.unusedSimpArgs false
namespace Go.Proofs.YtdgciagmcjdhhaaGreatDoor
open Go Go.RowKit Go.ChangeShapes Go.WideShapes Go.ChangeAt
open Go.ChangeMaps (open_string shut_string)

theorem actsOwn : ownKnob Tryz.prog.godebug = none := by kernel_rfl
set_option maxRecDepth 100000 in
theorem acts_lifted (os : Os) (started : os.Started) (H : Type) (enc : TypeId × Value → H) :
    ReturnsInHanded {} Tryz.checked os 3 .any (fun w args => (Rows.scenarioActsSpec.pre enc Tryz.prog Tryz.f3 [] false w args ∧ laidMetH Tryz.prog Rows.scenarioActsRow.laid w) ∧ sizedMet enc Tryz.prog Tryz.f3 (OpenSpec.ofChange Rows.scenarioActsSpec) false w args)
      (Rows.scenarioActsSpec.post enc Tryz.prog Tryz.f3 false true false false) := by
  refine handed_shaped_and (C := Tryz.checked) (X := fun w _ => laidMetH Tryz.prog Rows.scenarioActsRow.laid w) (fun _ _ _ hh h => h.of_heap hh) actsOwn started (by kernel_rfl) Tryz.func3
    (ChangeSpec.witness_shaped (enc := enc) (C := Tryz.checked) (os := os) (X := fun w _ => laidMetH Tryz.prog Rows.scenarioActsRow.laid w) false (World.laidAll Tryz.prog os Rows.scenarioActsRow.laid) #[.agg #[.int .i64 0, .int .i64 0, .int .i64 0, .int .i64 0, .int .i64 0, .string ⟨#[]⟩, .int .i64 0, .int .i64 0, .slice none 0 0, .slice none 0 0]] 8 (World.laidAll_os _ _ _)
      (World.shaped_of_ZipB (by kernel_rfl) (by kernel_rfl)) (by kernel_rfl) (by kernel_rfl) (by kernel_rfl)
      (by rw [MakeChecks.laidMetH_plain _ _ _ (by kernel_rfl)]; exact laidMet_laidAll _ (by kernel_rfl) (by kernel_rfl))) ?_
  intro W base args ds gs before hval0 hW hsh hL
  have hval : ∀ (j : Nat) t v, Tryz.f3.params[j]? = some t → args[j]? = some v → Value.okWide Tryz.prog W .any base t v := hval0
  have hW' := hW
  obtain ⟨p, q, hA0, hV, rfl, _, _⟩ := hW
  have hA : DataW.TrodAll enc Tryz.prog W 0 (fun _ => true) true Tryz.f3.params.toList args.toList ds p := hA0
  rw [Tryz.params3] at hA hval
  obtain ⟨v0, d0, rfl, rfl, h0⟩ := trodAll_one hA
  obtain ⟨rfl, rfl⟩ := trodVars_none hV
  simp only [List.append_nil] at hW'
  have hlt := hW'.lt
  obtain ⟨x, Am, As, nm, cm, ns, cs, rfl, hm, hs, hI⟩ := open_act (hval 0 26 v0 rfl rfl) h0
  have hG : Glob W := glob_of_laid hL hsh
  have c : Calls Tryz.prog 3 #[.agg (x.cells (.slice Am nm cm) (.slice As ns cs))] W fun e w' => e = .returned (.bool true) ∧ Below W.heap.size W w' := by
    by_cases h1 : 20 < nm
    · exact acts_long x Am As nm cm ns cs W hG (.inl h1)
    by_cases h2 : 25 < ns
    · exact acts_long x Am As nm cm ns cs W hG (.inr (.inl h2))
    by_cases h3 : 40 < x.key.size
    · exact acts_long x Am As nm cm ns cs W hG (.inr (.inr h3))
    have hx := hI (by omega)
    cases hv : validB x with
    | false => exact acts_bad x Am As nm cm ns cs W hG hx hm hs h1 h2 h3 hv
    | true => exact acts_ok x Am As nm cm ns cs W hG hx hm hs h1 h2 h3 hv
  refine c.mono fun e W' ⟨he, hb⟩ => ?_
  subst he
  exact ⟨_, rfl, _, _, _, [], _, [], hW', trodAll_mk1 (shut_bool Tryz.underlying4 _), trodAll_mk1 (Below.trod (by kernel_rfl) (by kernel_rfl) (of_decide_eq_true (by kernel_rfl)) h0 hb hlt), rfl, hb.frame _, fun h => by cases h⟩
theorem acts_row : Rows.ScenarioActsSaid :=
  OpenClaim.holds_of_wide 3 Tryz.f3 rfl rfl rfl rfl rfl rfl rfl ⟨rfl, rfl, rfl, rfl, rfl⟩ rfl rfl rfl rfl rfl (by kernel_rfl) Tryz.func3 (by kernel_rfl)
    (of_decide_eq_true (by kernel_rfl)) (by unfold Func.isWrapper; rw [if_neg (of_decide_eq_false (by kernel_rfl))]; exact ⟨rfl, rfl⟩)
    (fun os started H enc _ => acts_lifted os started H enc)
theorem acts_card : Rows.ScenarioActsCardSaid :=
  Claim7.holds_tied_plain_at .later [] [.data, .data, .data, .data, .sentinel, .sentinel, .pinned] true (true, "f249efb33cb5dd00313aea03322c73749af5f570239b9e7848e238ea877eb656") true
    acts_row (fun _ h => by cases h) (by kernel_rfl) (fun _ h => by cases h) scenarioActs_row_tie rfl ⟨rfl, rfl⟩ (by kernel_rfl) rfl
    (fun f fn hf hfn => by
      obtain rfl : f = 3 := Option.some.inj ((show Tryz.prog.funcNamed "exodus/exoduslaw59.ScenarioActs" = some 3 by kernel_rfl).symm.trans hf) |>.symm
      obtain rfl : fn = Tryz.f3 := (Option.some.inj (Tryz.func3.symm.trans hfn)).symm
      exact ⟨by kernel_rfl, fun j t ht => by
        rw [Tryz.params3] at ht
        have hm : t ∈ [26] := by simpa using Array.mem_of_getElem? ht
        have hall : ([26].all fun u => !Tryz.prog.wantsStandIn u) = true := by kernel_rfl
        exact (show Tryz.prog.wantsStandIn t = false by simpa using List.all_eq_true.1 hall t hm)⟩)
    (by kernel_rfl)
#print axioms acts_card
end Go.Proofs.YtdgciagmcjdhhaaGreatDoor
