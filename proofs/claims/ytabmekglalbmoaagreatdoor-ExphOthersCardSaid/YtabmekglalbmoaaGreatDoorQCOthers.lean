/- A record of a type that the table has not is unknown, wherever it stands, and all else is as it was: 'hyglaw14.ExphOthers' returns true, whatever the input (tied: errors.errorType starts as the program's text lays it). -/
import Derived.Test.YtabmekglalbmoaaGreatDoorQCOthersR
import Derived.Test.YtabmekglalbmoaaGreatDoorTie
import Derived.Test.YtabmekglalbmoaaGreatDoorCards
set_option linter.unusedVariables false
namespace Go.Proofs.YtabmekglalbmoaaGreatDoor
open Go Go.ChangeShapes Go.WideShapes Go.RowKit Go.ChangeMaps

theorem exphOthers_card : Rows.ExphOthersCardSaid :=
  Claim7.holds_tied_plain_at .later [] [.handle] true (true, "d3e2d287f599f47aa0db3fe2900582d43d936e175b311cfe232d2c25d39388c4") true
    exphOthers_holds (fun _ h => by cases h) (by kernel_rfl) (fun _ h => by cases h) exphOthers_row_tie rfl ⟨rfl, rfl⟩ (by kernel_rfl) rfl
    (fun f fn hf hfn => by
      obtain rfl : f = 7 := Option.some.inj ((show Tryz.prog.funcNamed "hygrometer/hyglaw14.ExphOthers" = some 7 by kernel_rfl).symm.trans hf) |>.symm
      obtain rfl : fn = Tryz.f7 := (Option.some.inj (Tryz.func7.symm.trans hfn)).symm
      exact ⟨by kernel_rfl, fun j t ht => by
        rw [show Tryz.f7.params = #[9, 3, 3, 24] by kernel_rfl] at ht
        have h3 : t = 9 ∨ t = 3 ∨ t = 24 := by
          rcases j with _ | _ | _ | _ | j
          · left; simpa using ht.symm
          · right; left; simpa using ht.symm
          · right; left; simpa using ht.symm
          · right; right; simpa using ht.symm
          · simp at ht
        rcases h3 with rfl | rfl | rfl
        · exact (show Tryz.prog.wantsStandIn 9 = false by kernel_rfl)
        · exact (show Tryz.prog.wantsStandIn 3 = false by kernel_rfl)
        · exact (show Tryz.prog.wantsStandIn 24 = false by kernel_rfl)⟩)
    (by kernel_rfl)
#print axioms exphOthers_card
end Go.Proofs.YtabmekglalbmoaaGreatDoor