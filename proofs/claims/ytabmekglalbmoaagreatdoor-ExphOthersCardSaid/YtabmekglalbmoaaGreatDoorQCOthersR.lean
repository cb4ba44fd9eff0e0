/- The row of: A record of a type that the table has not is unknown, wherever it stands, and all else is as it was: 'hyglaw14.ExphOthers' returns true, whatever the input (tied: errors.errorType starts as the program's text lays it). -/
import Derived.Test.YtabmekglalbmoaaGreatDoorB14
import Derived.Test.YtabmekglalbmoaaGreatDoorB18
import Derived.Carry
set_option linter.unusedVariables false
namespace Go.Proofs.YtabmekglalbmoaaGreatDoor
open Go Go.ChangeShapes Go.WideShapes Go.RowKit Go.ChangeMaps

set_option maxRecDepth 100000 in
theorem exphOthers_lifted (os : Os) (started : os.Started) (H : Type) (enc : TypeId × Value → H) :
    ReturnsInHanded {} Tryz.checked os 7 .any (fun w args => (Rows.exphOthersSpec.pre enc Tryz.prog Tryz.f7 [] false w args ∧ laidMetH Tryz.prog laidL w) ∧ sizedMet enc Tryz.prog Tryz.f7 (OpenSpec.ofChange Rows.exphOthersSpec) false w args)
      (Rows.exphOthersSpec.post enc Tryz.prog Tryz.f7 false true false false) := by
  refine returnsInHanded_of_change_and (C := Tryz.checked) (X := fun w _ => laidMetH Tryz.prog laidL w) (fun _ _ _ hh h => h.of_heap hh) own0 started (by kernel_rfl) Tryz.func7
    (ChangeSpec.witness_at (enc := enc) (C := Tryz.checked) (os := os) (X := fun w _ => laidMetH Tryz.prog laidL w) false (laidWorld os) #[.string ⟨#[]⟩, .int .i64 0, .int .i64 0, .int .u64 0] 8 rfl (by kernel_rfl) (by kernel_rfl) (by kernel_rfl) (by kernel_rfl) (by kernel_rfl) (laidWorld_met os _)) ?_
  intro W base args ds gs before hval0 hW _ _ hL _
  have hval : ∀ (j : Nat) t v, Tryz.f7.params[j]? = some t → args[j]? = some v → Value.okWide Tryz.prog W .any base t v := hval0
  have hW' := hW
  obtain ⟨p, q, hA0, hV0, rfl, hfz, hnd⟩ := hW
  have hA : DataW.TrodAll enc Tryz.prog W 0 (fun _ => true) true Tryz.f7.params.toList args.toList ds p := hA0
  have hV : DataW.TrodVars enc Tryz.prog W (fun _ => true) [] gs q := hV0
  have hp : Tryz.f7.params = #[9, 3, 3, 24] := by kernel_rfl
  rw [hp] at hA hval
  obtain ⟨v0, v1, v2, v3, d0, d1, d2, d3, p0, p1, p2, p3, rfl, rfl, rfl, h0, h1, h2, h3⟩ := trodAll_four hA
  obtain ⟨a0, rfl, rfl, rfl, w0⟩ := open_string und9 (hval 0 9 v0 rfl rfl) h0
  obtain ⟨a1, rfl, rfl, rfl, w1⟩ := open_int und3 (hval 1 3 v1 rfl rfl) h1
  have r1 : -9223372036854775808 ≤ a1 ∧ a1 ≤ 9223372036854775807 := by
    simpa [Lit.wf, IntKind.min, IntKind.max, IntKind.signed, IntKind.bits] using w1
  obtain ⟨a2, rfl, rfl, rfl, w2⟩ := open_int und3 (hval 2 3 v2 rfl rfl) h2
  have r2 : -9223372036854775808 ≤ a2 ∧ a2 ≤ 9223372036854775807 := by
    simpa [Lit.wf, IntKind.min, IntKind.max, IntKind.signed, IntKind.bits] using w2
  obtain ⟨a3, rfl, rfl, rfl, w3⟩ := open_int und24 (hval 3 24 v3 rfl rfl) h3
  have r3 : 0 ≤ a3 ∧ a3 ≤ 18446744073709551615 := by
    simpa [Lit.wf, IntKind.min, IntKind.max, IntKind.signed, IntKind.bits] using w3
  obtain ⟨rfl, rfl⟩ : gs = [] ∧ q = [] := by
    cases gs with
    | nil => exact ⟨rfl, hV⟩
    | cons g r => exact absurd hV (by intro h; cases h)
  have e1 : Rows.exphOthersSpec.fn H ([.lit (.string a0.data.toList), .lit (.int .i64 a1), .lit (.int .i64 a2), .lit (.int .u64 a3)] ++ []) = { results := [.lit (.bool true)], args := [.lit (.string a0.data.toList), .lit (.int .i64 a1), .lit (.int .i64 a2), .lit (.int .u64 a3)] } := by simp [Rows.exphOthersSpec]
  refine (Gw.others_tri a0 a1 a2 a3 r1.1 r1.2 r3.1 r3.2 W (fun _ => False) ⟨fun _ h => h.elim, glb_of_laid hL⟩ trivial).mono fun e W' he => ?_
  obtain ⟨_, rfl, hc, _, _⟩ := he
  refine ⟨_, rfl, _, _, _, [], [], [], hW', ?_, ?_, ?_, (hc.below (fun _ h => h)).frame _, fun h => by cases h⟩
  · rw [e1]; exact trodAll_mk1 (shut_bool und4 true)
  · rw [e1]; exact trodAll_mk4 (shut_string und9 w0) (shut_int und3 w1) (shut_int und3 w2) (shut_int und24 w3)
  · rw [e1]; rfl

theorem exphOthers_holds : Rows.ExphOthersSaid :=
  OpenClaim.holds_of_wide 7 Tryz.f7 rfl rfl rfl rfl rfl rfl rfl ⟨rfl, rfl, rfl, rfl, rfl⟩ rfl rfl rfl rfl rfl (by kernel_rfl) Tryz.func7 (by kernel_rfl)
    (of_decide_eq_true (by kernel_rfl)) (by unfold Func.isWrapper; rw [if_neg (of_decide_eq_false (by kernel_rfl))]; exact ⟨rfl, rfl⟩)
    (fun os started H enc _ => exphOthers_lifted os started H enc)
#print axioms exphOthers_holds
end Go.Proofs.YtabmekglalbmoaaGreatDoor
