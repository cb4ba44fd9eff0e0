/-
  DERIVED. GIVEN WITH THE SEED: THE CARDS: each row of YtabmekglalbmoaaGreatDoorRows.lean that lists a variable, with what it lists TIED to the program's text (the seventh form; the later family's looks); each row that meets fmt, with fmt's text TOLD by the authors' own Lean function (tested against real Go, not proved from fmt's source: count such statements apart). THE CARD IS WHAT COUNTS. Prove the row's statement (the work); the ties are given (YtabmekglalbmoaaGreatDoorTie.lean); close each card by the builder's one call (the guide's Derived/Test/ToyasCard.lean, 'card_holds'). Laid BY PROGRAM, IN A SANDBOX (cutbox-door.mjs). By AI agents, Wed Nov 11 2026. No macro, syntax, notation, axiom, sorry.
-/
import Derived.Test.YtabmekglalbmoaaGreatDoorRows
import GoSem.ClaimSeven
namespace Go.Proofs.YtabmekglalbmoaaGreatDoor
namespace Rows

/-- THE TIED CARD OF 'hyglaw14.ExphJoins'. -/
def exphJoinsCard : Claim7 := { stood := { row := exphJoinsRow, standIns := [], harness := (true, "d3e2d287f599f47aa0db3fe2900582d43d936e175b311cfe232d2c25d39388c4"), looks := true }, kinds := [], alts := [], laidByText := true, laidKinds := [.handle], laidTests := true, laidLooks := .later }
def ExphJoinsCardSaid : Prop := Claim7.holds Tryz.pinned (.plain (OpenSpec.ofChange exphJoinsSpec)) exphJoinsCard

/-- THE TIED CARD OF 'hyglaw14.ExphReads'. -/
def exphReadsCard : Claim7 := { stood := { row := exphReadsRow, standIns := [], harness := (true, "d3e2d287f599f47aa0db3fe2900582d43d936e175b311cfe232d2c25d39388c4"), looks := true }, kinds := [], alts := [], laidByText := true, laidKinds := [.handle], laidTests := true, laidLooks := .later }
def ExphReadsCardSaid : Prop := Claim7.holds Tryz.pinned (.plain (OpenSpec.ofChange exphReadsSpec)) exphReadsCard

/-- THE TIED CARD OF 'hyglaw14.ExphDeep'. -/
def exphDeepCard : Claim7 := { stood := { row := exphDeepRow, standIns := [], harness := (true, "d3e2d287f599f47aa0db3fe2900582d43d936e175b311cfe232d2c25d39388c4"), looks := true }, kinds := [], alts := [], laidByText := true, laidKinds := [.handle], laidTests := true, laidLooks := .later }
def ExphDeepCardSaid : Prop := Claim7.holds Tryz.pinned (.plain (OpenSpec.ofChange exphDeepSpec)) exphDeepCard

/-- THE TIED CARD OF 'hyglaw14.ExphSame'. -/
def exphSameCard : Claim7 := { stood := { row := exphSameRow, standIns := [], harness := (true, "d3e2d287f599f47aa0db3fe2900582d43d936e175b311cfe232d2c25d39388c4"), looks := true }, kinds := [], alts := [], laidByText := true, laidKinds := [.handle], laidTests := true, laidLooks := .later }
def ExphSameCardSaid : Prop := Claim7.holds Tryz.pinned (.plain (OpenSpec.ofChange exphSameSpec)) exphSameCard

/-- THE TIED CARD OF 'hyglaw14.ExphOthers'. -/
def exphOthersCard : Claim7 := { stood := { row := exphOthersRow, standIns := [], harness := (true, "d3e2d287f599f47aa0db3fe2900582d43d936e175b311cfe232d2c25d39388c4"), looks := true }, kinds := [], alts := [], laidByText := true, laidKinds := [.handle], laidTests := true, laidLooks := .later }
def ExphOthersCardSaid : Prop := Claim7.holds Tryz.pinned (.plain (OpenSpec.ofChange exphOthersSpec)) exphOthersCard

/-- THE TIED CARD OF 'hyglaw12.NumberWrites'. -/
def numberWritesCard : Claim7 := { stood := { row := numberWritesRow, standIns := [], harness := (true, "d3e2d287f599f47aa0db3fe2900582d43d936e175b311cfe232d2c25d39388c4"), looks := true }, kinds := [], alts := [], laidByText := true, laidKinds := [.handle], laidTests := true, laidLooks := .later }
def NumberWritesCardSaid : Prop := Claim7.holds Tryz.pinned (.plain (OpenSpec.ofChange numberWritesSpec)) numberWritesCard

/-- THE TIED CARD OF 'hyglaw13.HistPacked'. -/
def histPackedCard : Claim7 := { stood := { row := histPackedRow, standIns := [], harness := (true, "d3e2d287f599f47aa0db3fe2900582d43d936e175b311cfe232d2c25d39388c4"), looks := true }, kinds := [], alts := [], laidByText := true, laidKinds := [.handle], laidTests := true, laidLooks := .later }
def HistPackedCardSaid : Prop := Claim7.holds Tryz.pinned (.plain (OpenSpec.ofChange histPackedSpec)) histPackedCard

/-- THE TIED CARD OF 'hyglaw13.HistReads'. -/
def histReadsCard : Claim7 := { stood := { row := histReadsRow, standIns := [], harness := (true, "d3e2d287f599f47aa0db3fe2900582d43d936e175b311cfe232d2c25d39388c4"), looks := true }, kinds := [], alts := [], laidByText := true, laidKinds := [.handle], laidTests := true, laidLooks := .later }
def HistReadsCardSaid : Prop := Claim7.holds Tryz.pinned (.plain (OpenSpec.ofChange histReadsSpec)) histReadsCard

/-- THE TIED CARD OF 'hyglaw13.HistWrites'. -/
def histWritesCard : Claim7 := { stood := { row := histWritesRow, standIns := [], harness := (true, "d3e2d287f599f47aa0db3fe2900582d43d936e175b311cfe232d2c25d39388c4"), looks := true }, kinds := [], alts := [], laidByText := true, laidKinds := [.handle], laidTests := true, laidLooks := .later }
def HistWritesCardSaid : Prop := Claim7.holds Tryz.pinned (.plain (OpenSpec.ofChange histWritesSpec)) histWritesCard

/-- THE TIED CARD OF 'hyglaw13.HistBack'. -/
def histBackCard : Claim7 := { stood := { row := histBackRow, standIns := [], harness := (true, "d3e2d287f599f47aa0db3fe2900582d43d936e175b311cfe232d2c25d39388c4"), looks := true }, kinds := [], alts := [], laidByText := true, laidKinds := [.handle], laidTests := true, laidLooks := .later }
def HistBackCardSaid : Prop := Claim7.holds Tryz.pinned (.plain (OpenSpec.ofChange histBackSpec)) histBackCard

/-- THE TIED CARD OF 'hyglaw13.HistTwice'. -/
def histTwiceCard : Claim7 := { stood := { row := histTwiceRow, standIns := [], harness := (true, "d3e2d287f599f47aa0db3fe2900582d43d936e175b311cfe232d2c25d39388c4"), looks := true }, kinds := [], alts := [], laidByText := true, laidKinds := [.handle], laidTests := true, laidLooks := .later }
def HistTwiceCardSaid : Prop := Claim7.holds Tryz.pinned (.plain (OpenSpec.ofChange histTwiceSpec)) histTwiceCard

/-- THE SECOND FORM's CARD OF 'hyglaw14.ExphJoins'. -/
def exphJoinsUptoCard : Claim7 := { stood := { row := exphJoinsUptoRow, standIns := [], harness := (true, "d3e2d287f599f47aa0db3fe2900582d43d936e175b311cfe232d2c25d39388c4"), looks := true }, kinds := [], alts := [], laidByText := true, laidKinds := [.handle], laidTests := true, laidLooks := .later }
def ExphJoinsUptoCardSaid : Prop := Claim7.holds Tryz.pinned (.plain (OpenSpec.upto exphJoinsSpec)) exphJoinsUptoCard

/-- THE SECOND FORM's CARD OF 'hyglaw14.ExphReads'. -/
def exphReadsUptoCard : Claim7 := { stood := { row := exphReadsUptoRow, standIns := [], harness := (true, "d3e2d287f599f47aa0db3fe2900582d43d936e175b311cfe232d2c25d39388c4"), looks := true }, kinds := [], alts := [], laidByText := true, laidKinds := [.handle], laidTests := true, laidLooks := .later }
def ExphReadsUptoCardSaid : Prop := Claim7.holds Tryz.pinned (.plain (OpenSpec.upto exphReadsSpec)) exphReadsUptoCard

/-- THE SECOND FORM's CARD OF 'hyglaw14.ExphDeep'. -/
def exphDeepUptoCard : Claim7 := { stood := { row := exphDeepUptoRow, standIns := [], harness := (true, "d3e2d287f599f47aa0db3fe2900582d43d936e175b311cfe232d2c25d39388c4"), looks := true }, kinds := [], alts := [], laidByText := true, laidKinds := [.handle], laidTests := true, laidLooks := .later }
def ExphDeepUptoCardSaid : Prop := Claim7.holds Tryz.pinned (.plain (OpenSpec.upto exphDeepSpec)) exphDeepUptoCard

/-- THE SECOND FORM's CARD OF 'hyglaw14.ExphSame'. -/
def exphSameUptoCard : Claim7 := { stood := { row := exphSameUptoRow, standIns := [], harness := (true, "d3e2d287f599f47aa0db3fe2900582d43d936e175b311cfe232d2c25d39388c4"), looks := true }, kinds := [], alts := [], laidByText := true, laidKinds := [.handle], laidTests := true, laidLooks := .later }
def ExphSameUptoCardSaid : Prop := Claim7.holds Tryz.pinned (.plain (OpenSpec.upto exphSameSpec)) exphSameUptoCard

/-- THE SECOND FORM's CARD OF 'hyglaw14.ExphOthers'. -/
def exphOthersUptoCard : Claim7 := { stood := { row := exphOthersUptoRow, standIns := [], harness := (true, "d3e2d287f599f47aa0db3fe2900582d43d936e175b311cfe232d2c25d39388c4"), looks := true }, kinds := [], alts := [], laidByText := true, laidKinds := [.handle], laidTests := true, laidLooks := .later }
def ExphOthersUptoCardSaid : Prop := Claim7.holds Tryz.pinned (.plain (OpenSpec.upto exphOthersSpec)) exphOthersUptoCard

/-- THE SECOND FORM's CARD OF 'hyglaw12.NumberWrites'. -/
def numberWritesUptoCard : Claim7 := { stood := { row := numberWritesUptoRow, standIns := [], harness := (true, "d3e2d287f599f47aa0db3fe2900582d43d936e175b311cfe232d2c25d39388c4"), looks := true }, kinds := [], alts := [], laidByText := true, laidKinds := [.handle], laidTests := true, laidLooks := .later }
def NumberWritesUptoCardSaid : Prop := Claim7.holds Tryz.pinned (.plain (OpenSpec.upto numberWritesSpec)) numberWritesUptoCard

/-- THE SECOND FORM's CARD OF 'hyglaw13.HistPacked'. -/
def histPackedUptoCard : Claim7 := { stood := { row := histPackedUptoRow, standIns := [], harness := (true, "d3e2d287f599f47aa0db3fe2900582d43d936e175b311cfe232d2c25d39388c4"), looks := true }, kinds := [], alts := [], laidByText := true, laidKinds := [.handle], laidTests := true, laidLooks := .later }
def HistPackedUptoCardSaid : Prop := Claim7.holds Tryz.pinned (.plain (OpenSpec.upto histPackedSpec)) histPackedUptoCard

/-- THE SECOND FORM's CARD OF 'hyglaw13.HistReads'. -/
def histReadsUptoCard : Claim7 := { stood := { row := histReadsUptoRow, standIns := [], harness := (true, "d3e2d287f599f47aa0db3fe2900582d43d936e175b311cfe232d2c25d39388c4"), looks := true }, kinds := [], alts := [], laidByText := true, laidKinds := [.handle], laidTests := true, laidLooks := .later }
def HistReadsUptoCardSaid : Prop := Claim7.holds Tryz.pinned (.plain (OpenSpec.upto histReadsSpec)) histReadsUptoCard

/-- THE SECOND FORM's CARD OF 'hyglaw13.HistWrites'. -/
def histWritesUptoCard : Claim7 := { stood := { row := histWritesUptoRow, standIns := [], harness := (true, "d3e2d287f599f47aa0db3fe2900582d43d936e175b311cfe232d2c25d39388c4"), looks := true }, kinds := [], alts := [], laidByText := true, laidKinds := [.handle], laidTests := true, laidLooks := .later }
def HistWritesUptoCardSaid : Prop := Claim7.holds Tryz.pinned (.plain (OpenSpec.upto histWritesSpec)) histWritesUptoCard

/-- THE SECOND FORM's CARD OF 'hyglaw13.HistBack'. -/
def histBackUptoCard : Claim7 := { stood := { row := histBackUptoRow, standIns := [], harness := (true, "d3e2d287f599f47aa0db3fe2900582d43d936e175b311cfe232d2c25d39388c4"), looks := true }, kinds := [], alts := [], laidByText := true, laidKinds := [.handle], laidTests := true, laidLooks := .later }
def HistBackUptoCardSaid : Prop := Claim7.holds Tryz.pinned (.plain (OpenSpec.upto histBackSpec)) histBackUptoCard

/-- THE SECOND FORM's CARD OF 'hyglaw13.HistTwice'. -/
def histTwiceUptoCard : Claim7 := { stood := { row := histTwiceUptoRow, standIns := [], harness := (true, "d3e2d287f599f47aa0db3fe2900582d43d936e175b311cfe232d2c25d39388c4"), looks := true }, kinds := [], alts := [], laidByText := true, laidKinds := [.handle], laidTests := true, laidLooks := .later }
def HistTwiceUptoCardSaid : Prop := Claim7.holds Tryz.pinned (.plain (OpenSpec.upto histTwiceSpec)) histTwiceUptoCard
end Rows
end Go.Proofs.YtabmekglalbmoaaGreatDoor
