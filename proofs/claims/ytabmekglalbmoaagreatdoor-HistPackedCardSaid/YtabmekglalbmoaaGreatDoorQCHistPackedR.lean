/- The row of: Counts told one by one, packed, or both, are the same counts: 'hyglaw13.HistPacked' returns true, whatever the input (its memory without rings; tied: errors.errorType starts as the program's text lays it). -/
import Derived.Test.YtabmekglalbmoaaGreatDoorB14
import Derived.Test.YtabmekglalbmoaaGreatDoorB26
import Derived.Test.YtabmekglalbmoaaGreatDoorB27
import Derived.Carry
set_option linter.unusedVariables false
namespace Go.Proofs.YtabmekglalbmoaaGreatDoor
open Go Go.ChangeShapes Go.WideShapes Go.RowKit Go.ChangeMaps

set_option maxRecDepth 100000 in
theorem histPacked_lifted (os : Os) (started : os.Started) (H : Type) (enc : TypeId × Value → H) :
    ReturnsInHanded {} Tryz.checked os 9 .any (fun w args => (Rows.histPackedSpec.pre enc Tryz.prog Tryz.f9 [] false w args ∧ laidMetH Tryz.prog laidL w) ∧ sizedMet enc Tryz.prog Tryz.f9 (OpenSpec.ofChange Rows.histPackedSpec) false w args)
      (Rows.histPackedSpec.post enc Tryz.prog Tryz.f9 false true false false) := by
  refine returnsInHanded_of_change_and (C := Tryz.checked) (X := fun w _ => laidMetH Tryz.prog laidL w) (fun _ _ _ hh h => h.of_heap hh) own0 started (by kernel_rfl) Tryz.func9
    (ChangeSpec.witness_at (enc := enc) (C := Tryz.checked) (os := os) (X := fun w _ => laidMetH Tryz.prog laidL w) false (laidWorld os) #[.slice none 0 0, .int .i64 0] 8 rfl (by kernel_rfl) (by kernel_rfl) (by kernel_rfl) (by kernel_rfl) (by kernel_rfl) (laidWorld_met os _)) ?_
  intro W base args ds gs before hval0 hW _ _ hL _
  have hval : ∀ (j : Nat) t v, Tryz.f9.params[j]? = some t → args[j]? = some v → Value.okWide Tryz.prog W .any base t v := hval0
  have hW' := hW
  obtain ⟨p, q, hA0, hV0, rfl, hfz, hnd⟩ := hW
  have hA : DataW.TrodAll enc Tryz.prog W 0 (fun _ => true) true Tryz.f9.params.toList args.toList ds p := hA0
  have hV : DataW.TrodVars enc Tryz.prog W (fun _ => true) [] gs q := hV0
  have hp : Tryz.f9.params = #[27, 3] := by kernel_rfl
  rw [hp] at hA hval
  obtain ⟨v0, v1, d0, d1, p0, p1, rfl, rfl, rfl, h0, h1⟩ := trodAll_two hA
  obtain ⟨l0, A0, c0, rfl, hlc0, hl0, hn0⟩ := nums_arg (hval 0 27 v0 rfl rfl) h0
  obtain ⟨a1, rfl, rfl, rfl, w1⟩ := open_int und3 (hval 1 3 v1 rfl rfl) h1
  have r1 : -9223372036854775808 ≤ a1 ∧ a1 ≤ 9223372036854775807 := by
    simpa [Lit.wf, IntKind.min, IntKind.max, IntKind.signed, IntKind.bits] using w1
  obtain ⟨rfl, rfl⟩ : gs = [] ∧ q = [] := by
    cases gs with
    | nil => exact ⟨rfl, hV⟩
    | cons g r => exact absurd hV (by intro h; cases h)
  have e1 : Rows.histPackedSpec.fn H ([d0, .lit (.int .i64 a1)] ++ []) = { results := [.lit (.bool true)], args := [d0, .lit (.int .i64 a1)] } := by simp [Rows.histPackedSpec]
  refine (Gw.Tri.row (var0_of_laid hL) (Gw.hpacked_tri l0 A0 c0 a1 (Gw.OldD W) W W (Gw.nums_strip (var0_of_laid hL) hl0) hn0 hlc0 r1.1 r1.2)).mono fun e W' he => ?_
  obtain ⟨_, rfl, hc, _⟩ := he
  refine ⟨_, rfl, _, _, _, [], (p0 ++ []), [], hW', ?_, ?_, ?_, hc.frame _, fun h => by cases h⟩
  · rw [e1]; exact trodAll_mk1 (shut_bool und4 true)
  · rw [e1]; exact trodAll_mk2 (trod_again (of_decide_eq_true (by kernel_rfl)) h0 hc (fun p hp => hW'.lt p (by simp [hp]))) (shut_int und3 w1)
  · rw [e1]; rfl

theorem histPacked_holds : Rows.HistPackedSaid :=
  OpenClaim.holds_of_wide 9 Tryz.f9 rfl rfl rfl rfl rfl rfl rfl ⟨rfl, rfl, rfl, rfl, rfl⟩ rfl rfl rfl rfl rfl (by kernel_rfl) Tryz.func9 (by kernel_rfl)
    (of_decide_eq_true (by kernel_rfl)) (by unfold Func.isWrapper; rw [if_neg (of_decide_eq_false (by kernel_rfl))]; exact ⟨rfl, rfl⟩)
    (fun os started H enc _ => histPacked_lifted os started H enc)
#print axioms histPacked_holds
end Go.Proofs.YtabmekglalbmoaaGreatDoor
