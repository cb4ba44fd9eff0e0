/- The row of: Groups nested as deep as told are unknown behind a point that is read, one deeper is too deep: 'hyglaw14.ExphDeep' returns true, whatever the input (tied: errors.errorType starts as the program's text lays it). -/
import Derived.Test.YtabmekglalbmoaaGreatDoorB14
import Derived.Test.YtabmekglalbmoaaGreatDoorB15
import Derived.Carry
set_option linter.unusedVariables false
namespace Go.Proofs.YtabmekglalbmoaaGreatDoor
open Go Go.ChangeShapes Go.WideShapes Go.RowKit Go.ChangeMaps

set_option maxRecDepth 100000 in
theorem exphDeep_lifted (os : Os) (started : os.Started) (H : Type) (enc : TypeId × Value → H) :
    ReturnsInHanded {} Tryz.checked os 5 .any (fun w args => (Rows.exphDeepSpec.pre enc Tryz.prog Tryz.f5 [] false w args ∧ laidMetH Tryz.prog laidL w) ∧ sizedMet enc Tryz.prog Tryz.f5 (OpenSpec.ofChange Rows.exphDeepSpec) false w args)
      (Rows.exphDeepSpec.post enc Tryz.prog Tryz.f5 false true false false) := by
  refine returnsInHanded_of_change_and (C := Tryz.checked) (X := fun w _ => laidMetH Tryz.prog laidL w) (fun _ _ _ hh h => h.of_heap hh) own0 started (by kernel_rfl) Tryz.func5
    (ChangeSpec.witness_at (enc := enc) (C := Tryz.checked) (os := os) (X := fun w _ => laidMetH Tryz.prog laidL w) false (laidWorld os) #[.string ⟨#[]⟩, .int .i64 0] 8 rfl (by kernel_rfl) (by kernel_rfl) (by kernel_rfl) (by kernel_rfl) (by kernel_rfl) (laidWorld_met os _)) ?_
  intro W base args ds gs before hval0 hW _ _ hL _
  have hval : ∀ (j : Nat) t v, Tryz.f5.params[j]? = some t → args[j]? = some v → Value.okWide Tryz.prog W .any base t v := hval0
  have hW' := hW
  obtain ⟨p, q, hA0, hV0, rfl, hfz, hnd⟩ := hW
  have hA : DataW.TrodAll enc Tryz.prog W 0 (fun _ => true) true Tryz.f5.params.toList args.toList ds p := hA0
  have hV : DataW.TrodVars enc Tryz.prog W (fun _ => true) [] gs q := hV0
  have hp : Tryz.f5.params = #[9, 3] := by kernel_rfl
  rw [hp] at hA hval
  obtain ⟨v0, v1, d0, d1, p0, p1, rfl, rfl, rfl, h0, h1⟩ := trodAll_two hA
  obtain ⟨a0, rfl, rfl, rfl, w0⟩ := open_string und9 (hval 0 9 v0 rfl rfl) h0
  obtain ⟨a1, rfl, rfl, rfl, w1⟩ := open_int und3 (hval 1 3 v1 rfl rfl) h1
  have r1 : -9223372036854775808 ≤ a1 ∧ a1 ≤ 9223372036854775807 := by
    simpa [Lit.wf, IntKind.min, IntKind.max, IntKind.signed, IntKind.bits] using w1
  obtain ⟨rfl, rfl⟩ : gs = [] ∧ q = [] := by
    cases gs with
    | nil => exact ⟨rfl, hV⟩
    | cons g r => exact absurd hV (by intro h; cases h)
  have e1 : Rows.exphDeepSpec.fn H ([.lit (.string a0.data.toList), .lit (.int .i64 a1)] ++ []) = { results := [.lit (.bool true)], args := [.lit (.string a0.data.toList), .lit (.int .i64 a1)] } := by simp [Rows.exphDeepSpec]
  refine (Gw.deep_tri a0 a1 r1.1 r1.2 W (fun _ => False) ⟨fun _ h => h.elim, glb_of_laid hL⟩ trivial).mono fun e W' he => ?_
  obtain ⟨_, rfl, hc, _, _⟩ := he
  refine ⟨_, rfl, _, _, _, [], [], [], hW', ?_, ?_, ?_, (hc.below (fun _ h => h)).frame _, fun h => by cases h⟩
  · rw [e1]; exact trodAll_mk1 (shut_bool und4 true)
  · rw [e1]; exact trodAll_mk2 (shut_string und9 w0) (shut_int und3 w1)
  · rw [e1]; rfl

theorem exphDeep_holds : Rows.ExphDeepSaid :=
  OpenClaim.holds_of_wide 5 Tryz.f5 rfl rfl rfl rfl rfl rfl rfl ⟨rfl, rfl, rfl, rfl, rfl⟩ rfl rfl rfl rfl rfl (by kernel_rfl) Tryz.func5 (by kernel_rfl)
    (of_decide_eq_true (by kernel_rfl)) (by unfold Func.isWrapper; rw [if_neg (of_decide_eq_false (by kernel_rfl))]; exact ⟨rfl, rfl⟩)
    (fun os started H enc _ => exphDeep_lifted os started H enc)
#print axioms exphDeep_holds
end Go.Proofs.YtabmekglalbmoaaGreatDoor
