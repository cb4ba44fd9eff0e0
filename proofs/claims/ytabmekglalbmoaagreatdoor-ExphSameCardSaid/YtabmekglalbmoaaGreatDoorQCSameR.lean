/- The row of: Two points are told alike as the reference tells it, and each is like itself: 'hyglaw14.ExphSame' returns true, whatever the input (its memory without rings; tied: errors.errorType starts as the program's text lays it). -/
import Derived.Test.YtabmekglalbmoaaGreatDoorB14
import Derived.Test.YtabmekglalbmoaaGreatDoorB20
import Derived.Test.YtabmekglalbmoaaGreatDoorB21
import Derived.Carry
set_option linter.unusedVariables false
namespace Go.Proofs.YtabmekglalbmoaaGreatDoor
open Go Go.ChangeShapes Go.WideShapes Go.RowKit Go.ChangeMaps

set_option maxRecDepth 100000 in
theorem exphSame_lifted (os : Os) (started : os.Started) (H : Type) (enc : TypeId × Value → H) :
    ReturnsInHanded {} Tryz.checked os 6 .any (fun w args => (Rows.exphSameSpec.pre enc Tryz.prog Tryz.f6 [] false w args ∧ laidMetH Tryz.prog laidL w) ∧ sizedMet enc Tryz.prog Tryz.f6 (OpenSpec.ofChange Rows.exphSameSpec) false w args)
      (Rows.exphSameSpec.post enc Tryz.prog Tryz.f6 false true false false) := by
  refine returnsInHanded_of_change_and (C := Tryz.checked) (X := fun w _ => laidMetH Tryz.prog laidL w) (fun _ _ _ hh h => h.of_heap hh) own0 started (by kernel_rfl) Tryz.func6
    (ChangeSpec.witness_at (enc := enc) (C := Tryz.checked) (os := os) (X := fun w _ => laidMetH Tryz.prog laidL w) false (laidWorld os) #[.agg #[.slice none 0 0, .int .u64 0, .int .u64 0, .int .u64 0, .bool false, .int .u64 0, .bool false, .int .u64 0, .bool false, .int .u64 0, .int .i32 0, .int .u64 0, .bool false, .int .i32 0, .slice none 0 0, .string ⟨#[]⟩, .bool false, .int .i32 0, .slice none 0 0, .string ⟨#[]⟩, .slice none 0 0, .int .u32 0, .int .u64 0, .string ⟨#[]⟩], .agg #[.slice none 0 0, .int .u64 0, .int .u64 0, .int .u64 0, .bool false, .int .u64 0, .bool false, .int .u64 0, .bool false, .int .u64 0, .int .i32 0, .int .u64 0, .bool false, .int .i32 0, .slice none 0 0, .string ⟨#[]⟩, .bool false, .int .i32 0, .slice none 0 0, .string ⟨#[]⟩, .slice none 0 0, .int .u32 0, .int .u64 0, .string ⟨#[]⟩]] 8 rfl (by kernel_rfl) (by kernel_rfl) (by kernel_rfl) (by kernel_rfl) (by kernel_rfl) (laidWorld_met os _)) ?_
  intro W base args ds gs before hval0 hW _ _ hL _
  have hval : ∀ (j : Nat) t v, Tryz.f6.params[j]? = some t → args[j]? = some v → Value.okWide Tryz.prog W .any base t v := hval0
  have hW' := hW
  obtain ⟨p, q, hA0, hV0, rfl, hfz, hnd⟩ := hW
  have hA : DataW.TrodAll enc Tryz.prog W 0 (fun _ => true) true Tryz.f6.params.toList args.toList ds p := hA0
  have hV : DataW.TrodVars enc Tryz.prog W (fun _ => true) [] gs q := hV0
  have hp : Tryz.f6.params = #[33, 33] := by kernel_rfl
  rw [hp] at hA hval
  obtain ⟨v0, v1, d0, d1, p0, p1, rfl, rfl, rfl, h0, h1⟩ := trodAll_two hA
  obtain ⟨a0, x0, rfl, w0⟩ := exp_arg (hval 0 33 v0 rfl rfl) h0
  obtain ⟨a1, x1, rfl, w1⟩ := exp_arg (hval 1 33 v1 rfl rfl) h1
  obtain ⟨rfl, rfl⟩ : gs = [] ∧ q = [] := by
    cases gs with
    | nil => exact ⟨rfl, hV⟩
    | cons g r => exact absurd hV (by intro h; cases h)
  have e1 : Rows.exphSameSpec.fn H ([d0, d1] ++ []) = { results := [.lit (.bool true)], args := [d0, d1] } := by simp [Rows.exphSameSpec]
  refine (Gw.same14_tri x0 x1 a0 a1 W w0 w1 (fun _ => False) ⟨fun _ h => h.elim, glb_of_laid hL⟩ trivial).mono fun e W' he => ?_
  obtain ⟨_, rfl, hc, _, _⟩ := he
  refine ⟨_, rfl, _, _, _, [], (p0 ++ p1), [], hW', ?_, ?_, ?_, (hc.below (fun _ h => h)).frame _, fun h => by cases h⟩
  · rw [e1]; exact trodAll_mk1 (shut_bool und4 true)
  · rw [e1]; exact trodAll_mk2 (trod_again (of_decide_eq_true (by kernel_rfl)) h0 (hc.below (fun _ h => h)) (fun p hp => hW'.lt p (by simp [hp]))) (trod_again (of_decide_eq_true (by kernel_rfl)) h1 (hc.below (fun _ h => h)) (fun p hp => hW'.lt p (by simp [hp])))
  · rw [e1]; rfl

theorem exphSame_holds : Rows.ExphSameSaid :=
  OpenClaim.holds_of_wide 6 Tryz.f6 rfl rfl rfl rfl rfl rfl rfl ⟨rfl, rfl, rfl, rfl, rfl⟩ rfl rfl rfl rfl rfl (by kernel_rfl) Tryz.func6 (by kernel_rfl)
    (of_decide_eq_true (by kernel_rfl)) (by unfold Func.isWrapper; rw [if_neg (of_decide_eq_false (by kernel_rfl))]; exact ⟨rfl, rfl⟩)
    (fun os started H enc _ => exphSame_lifted os started H enc)
#print axioms exphSame_holds
end Go.Proofs.YtabmekglalbmoaaGreatDoor
