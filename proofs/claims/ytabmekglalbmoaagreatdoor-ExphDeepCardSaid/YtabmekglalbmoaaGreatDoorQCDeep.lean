/- Groups nested as deep as told are unknown behind a point that is read, one deeper is too deep: 'hyglaw14.ExphDeep' returns true, whatever the input (tied: errors.errorType starts as the program's text lays it). -/
import Derived.Test.YtabmekglalbmoaaGreatDoorQCDeepR
import Derived.Test.YtabmekglalbmoaaGreatDoorTie
import Derived.Test.YtabmekglalbmoaaGreatDoorCards
set_option linter.unusedVariables false
namespace Go.Proofs.YtabmekglalbmoaaGreatDoor
open Go Go.ChangeShapes Go.WideShapes Go.RowKit Go.ChangeMaps

theorem exphDeep_card : Rows.ExphDeepCardSaid :=
  Claim7.holds_tied_plain_at .later [] [.handle] true (true, "d3e2d287f599f47aa0db3fe2900582d43d936e175b311cfe232d2c25d39388c4") true
    exphDeep_holds (fun _ h => by cases h) (by kernel_rfl) (fun _ h => by cases h) exphDeep_row_tie rfl ⟨rfl, rfl⟩ (by kernel_rfl) rfl
    (fun f fn hf hfn => by
      obtain rfl : f = 5 := Option.some.inj ((show Tryz.prog.funcNamed "hygrometer/hyglaw14.ExphDeep" = some 5 by kernel_rfl).symm.trans hf) |>.symm
      obtain rfl : fn = Tryz.f5 := (Option.some.inj (Tryz.func5.symm.trans hfn)).symm
      exact ⟨by kernel_rfl, fun j t ht => by
        rw [show Tryz.f5.params = #[9, 3] by kernel_rfl] at ht
        have h3 : t = 9 ∨ t = 3 ∨ t = 24 := by
          rcases j with _ | _ | j
          · left; simpa using ht.symm
          · right; left; simpa using ht.symm
          · simp at ht
        rcases h3 with rfl | rfl | rfl
        · exact (show Tryz.prog.wantsStandIn 9 = false by kernel_rfl)
        · exact (show Tryz.prog.wantsStandIn 3 = false by kernel_rfl)
        · exact (show Tryz.prog.wantsStandIn 24 = false by kernel_rfl)⟩)
    (by kernel_rfl)
#print axioms exphDeep_card
end Go.Proofs.YtabmekglalbmoaaGreatDoor