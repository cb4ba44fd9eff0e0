/- Counts told one by one, packed, or both, are the same counts: 'hyglaw13.HistPacked' returns true, whatever the input (its memory without rings; tied: errors.errorType starts as the program's text lays it). -/
import Derived.Test.YtabmekglalbmoaaGreatDoorQCHistPackedR
import Derived.Test.YtabmekglalbmoaaGreatDoorTie
import Derived.Test.YtabmekglalbmoaaGreatDoorCards
set_option linter.unusedVariables false
namespace Go.Proofs.YtabmekglalbmoaaGreatDoor
open Go Go.ChangeShapes Go.WideShapes Go.RowKit Go.ChangeMaps

theorem histPacked_card : Rows.HistPackedCardSaid :=
  Claim7.holds_tied_plain_at .later [] [.handle] true (true, "d3e2d287f599f47aa0db3fe2900582d43d936e175b311cfe232d2c25d39388c4") true
    histPacked_holds (fun _ h => by cases h) (by kernel_rfl) (fun _ h => by cases h) histPacked_row_tie rfl ⟨rfl, rfl⟩ (by kernel_rfl) rfl
    (fun f fn hf hfn => by
      obtain rfl : f = 9 := Option.some.inj ((show Tryz.prog.funcNamed "hygrometer/hyglaw13.HistPacked" = some 9 by kernel_rfl).symm.trans hf) |>.symm
      obtain rfl : fn = Tryz.f9 := (Option.some.inj (Tryz.func9.symm.trans hfn)).symm
      exact ⟨by kernel_rfl, fun j t ht => by
        rw [show Tryz.f9.params = #[27, 3] by kernel_rfl] at ht
        have h3 : t = 3 ∨ t = 27 := by
          rcases j with _ | _ | j
          · right; simpa using ht.symm
          · left; simpa using ht.symm
          · simp at ht
        rcases h3 with rfl | rfl
        · exact (show Tryz.prog.wantsStandIn 3 = false by kernel_rfl)
        · exact (show Tryz.prog.wantsStandIn 27 = false by kernel_rfl)⟩)
    (by kernel_rfl)
#print axioms histPacked_card
end Go.Proofs.YtabmekglalbmoaaGreatDoor