/- Two points are told alike as the reference tells it, and each is like itself: 'hyglaw14.ExphSame' returns true, whatever the input (its memory without rings; tied: errors.errorType starts as the program's text lays it). -/
import Derived.Test.YtabmekglalbmoaaGreatDoorQCSameR
import Derived.Test.YtabmekglalbmoaaGreatDoorTie
import Derived.Test.YtabmekglalbmoaaGreatDoorCards
set_option linter.unusedVariables false
namespace Go.Proofs.YtabmekglalbmoaaGreatDoor
open Go Go.ChangeShapes Go.WideShapes Go.RowKit Go.ChangeMaps

theorem exphSame_card : Rows.ExphSameCardSaid :=
  Claim7.holds_tied_plain_at .later [] [.handle] true (true, "d3e2d287f599f47aa0db3fe2900582d43d936e175b311cfe232d2c25d39388c4") true
    exphSame_holds (fun _ h => by cases h) (by kernel_rfl) (fun _ h => by cases h) exphSame_row_tie rfl ⟨rfl, rfl⟩ (by kernel_rfl) rfl
    (fun f fn hf hfn => by
      obtain rfl : f = 6 := Option.some.inj ((show Tryz.prog.funcNamed "hygrometer/hyglaw14.ExphSame" = some 6 by kernel_rfl).symm.trans hf) |>.symm
      obtain rfl : fn = Tryz.f6 := (Option.some.inj (Tryz.func6.symm.trans hfn)).symm
      exact ⟨by kernel_rfl, fun j t ht => by
        rw [show Tryz.f6.params = #[33, 33] by kernel_rfl] at ht
        have h3 : t = 9 ∨ t = 3 ∨ t = 24 ∨ t = 33 := by
          rcases j with _ | _ | j
          · right; right; right; simpa using ht.symm
          · right; right; right; simpa using ht.symm
          · simp at ht
        rcases h3 with rfl | rfl | rfl | rfl
        · exact (show Tryz.prog.wantsStandIn 9 = false by kernel_rfl)
        · exact (show Tryz.prog.wantsStandIn 3 = false by kernel_rfl)
        · exact (show Tryz.prog.wantsStandIn 24 = false by kernel_rfl)
        · exact (show Tryz.prog.wantsStandIn 33 = false by kernel_rfl)⟩)
    (by kernel_rfl)
#print axioms exphSame_card
end Go.Proofs.YtabmekglalbmoaaGreatDoor