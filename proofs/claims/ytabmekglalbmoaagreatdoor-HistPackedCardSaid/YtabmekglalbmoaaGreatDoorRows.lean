/-
  NARROWER THAN 'FOR EVERY INPUT', by the rows' own cells (each row's printed sentence says how): ExphJoins: laid · ExphReads: laid · ExphDeep: laid · ExphSame: loops, laid · ExphOthers: laid · NumberWrites: loops, laid · HistPacked: laid · HistReads: laid · HistWrites: loops, laid · HistBack: loops, laid · HistTwice: laid.
  DERIVED. THE GIVEN ROWS OF THIS SEAT. 11 by the template 'for every input the law returns true; each argument reads behind the call as it read before'; 0 by the template 'total and deterministic' (their statements: YtabmekglalbmoaaGreatDoorTotals.lean).
  GIVEN WITH THE SEED: the statements are not yours to turn. If you find one false, say at which input.
  Laid BY PROGRAM, IN A SANDBOX (cutbox-rows.mjs): the forced cells as the released guide's own fill.sh prints them over the translation 5cec25d73dd95652… (all of the seat's roots in one cut). By AI agents, Wed Nov 11 2026. No macro, syntax, notation, axiom, sorry.
-/
import Derived.Test.YtabmekglalbmoaaGreatDoorChecked
import GoSem.Claim
import GoSem.ClaimJoined
import GoSem.ClaimMapViews
import Derived.JoinedTies
import Derived.KernelRfl
namespace Go.Proofs.YtabmekglalbmoaaGreatDoor
/- THE CELL 'sum', in the pinned program and in every row, IS THE sha256 OF THE DUMP (.gsa) THAT YtabmekglalbmoaaGreatDoorProg.lean LOADS. Nothing in Lean hashes anything: it is a label: what it is worth is what the hold of that sum in a sandbox is worth. -/
noncomputable def Tryz.pinned : Pinned := { name := "ytabmekglalbmoaagreatdoor", sum := "5cec25d73dd95652f851779a754ddcad263fd78bc706e005e2e7ce014b99a0c6", checked := Tryz.checked }
namespace Rows
def none {H : Type} : Left H := { results := [], args := [] }

/- WHAT THE LISTED PACKAGE-LEVEL VARIABLES READ AS WHEN THE CALL BEGINS. Each datum BY PROGRAM (the guide's laid-datum.mjs) off the statement by which the dump's own 'gosem.cut.vars' lays the variable. In a bare row this is a premise. The card (YtabmekglalbmoaaGreatDoorCards.lean) ties it to the program's text. -/
def laid_errors_errorType {H : Type} : DataW H := .iface "internal/reflectlite.rtype" (.agg [.ptr (.lit (.string [101, 114, 114, 111, 114]))])

/-- 'hyglaw14.ExphJoins': WHATEVER THE INPUT: true; the input reads as it did. -/
def exphJoinsSpec : ChangeSpec := { name := "exphJoins", fn := fun _ => fun
  | [d1, d2, d3] => { results := [.lit (.bool true)], args := [d1, d2, d3] }
  | _ => none }
def exphJoinsRow : OpenClaim := { program := "ytabmekglalbmoaagreatdoor", sum := "5cec25d73dd95652f851779a754ddcad263fd78bc706e005e2e7ce014b99a0c6", func := "hygrometer/hyglaw14.ExphJoins", spec := "exphJoins", inPlace := ["internal/abi.NoEscape", "internal/reflectlite.ValueOf", "(internal/reflectlite.Value).Type", "(internal/reflectlite.Value).IsNil", "internal/reflectlite.TypeOf", "(internal/reflectlite.Value).Elem", "(internal/reflectlite.Value).Set", "internal/bytealg.MakeNoZero"], unfollowed := true, recurses := true, named := ["errors.errorType"], apart := false, laid := [("errors.errorType", laid_errors_errorType)] }
def ExphJoinsSaid : Prop := exphJoinsRow.holds Tryz.pinned (OpenSpec.ofChange exphJoinsSpec)

/-- ITS FALSE NEIGHBOUR: 'it returns false'. Refute it at one input. -/
def exphJoinsWrong : ChangeSpec := { name := "exphJoins", fn := fun _ => fun
  | [d1, d2, d3] => { results := [.lit (.bool false)], args := [d1, d2, d3] }
  | _ => none }
def ExphJoinsWrongFalsely : Prop := exphJoinsRow.holds Tryz.pinned (OpenSpec.ofChange exphJoinsWrong)

/-- 'hyglaw14.ExphReads': WHATEVER THE INPUT: true; the input reads as it did. -/
def exphReadsSpec : ChangeSpec := { name := "exphReads", fn := fun _ => fun
  | [d1, d2] => { results := [.lit (.bool true)], args := [d1, d2] }
  | _ => none }
def exphReadsRow : OpenClaim := { program := "ytabmekglalbmoaagreatdoor", sum := "5cec25d73dd95652f851779a754ddcad263fd78bc706e005e2e7ce014b99a0c6", func := "hygrometer/hyglaw14.ExphReads", spec := "exphReads", inPlace := ["internal/abi.NoEscape", "internal/reflectlite.ValueOf", "(internal/reflectlite.Value).Type", "(internal/reflectlite.Value).IsNil", "internal/reflectlite.TypeOf", "(internal/reflectlite.Value).Elem", "(internal/reflectlite.Value).Set", "internal/bytealg.MakeNoZero"], unfollowed := true, recurses := true, named := ["errors.errorType"], apart := false, laid := [("errors.errorType", laid_errors_errorType)] }
def ExphReadsSaid : Prop := exphReadsRow.holds Tryz.pinned (OpenSpec.ofChange exphReadsSpec)

/-- ITS FALSE NEIGHBOUR: 'it returns false'. Refute it at one input. -/
def exphReadsWrong : ChangeSpec := { name := "exphReads", fn := fun _ => fun
  | [d1, d2] => { results := [.lit (.bool false)], args := [d1, d2] }
  | _ => none }
def ExphReadsWrongFalsely : Prop := exphReadsRow.holds Tryz.pinned (OpenSpec.ofChange exphReadsWrong)

/-- 'hyglaw14.ExphDeep': WHATEVER THE INPUT: true; the input reads as it did. -/
def exphDeepSpec : ChangeSpec := { name := "exphDeep", fn := fun _ => fun
  | [d1, d2] => { results := [.lit (.bool true)], args := [d1, d2] }
  | _ => none }
def exphDeepRow : OpenClaim := { program := "ytabmekglalbmoaagreatdoor", sum := "5cec25d73dd95652f851779a754ddcad263fd78bc706e005e2e7ce014b99a0c6", func := "hygrometer/hyglaw14.ExphDeep", spec := "exphDeep", inPlace := ["internal/abi.NoEscape", "internal/reflectlite.ValueOf", "(internal/reflectlite.Value).Type", "(internal/reflectlite.Value).IsNil", "internal/reflectlite.TypeOf", "(internal/reflectlite.Value).Elem", "(internal/reflectlite.Value).Set", "internal/bytealg.MakeNoZero"], unfollowed := true, recurses := true, named := ["errors.errorType"], apart := false, laid := [("errors.errorType", laid_errors_errorType)] }
def ExphDeepSaid : Prop := exphDeepRow.holds Tryz.pinned (OpenSpec.ofChange exphDeepSpec)

/-- ITS FALSE NEIGHBOUR: 'it returns false'. Refute it at one input. -/
def exphDeepWrong : ChangeSpec := { name := "exphDeep", fn := fun _ => fun
  | [d1, d2] => { results := [.lit (.bool false)], args := [d1, d2] }
  | _ => none }
def ExphDeepWrongFalsely : Prop := exphDeepRow.holds Tryz.pinned (OpenSpec.ofChange exphDeepWrong)

/-- 'hyglaw14.ExphSame': WHATEVER THE INPUT: true; the input reads as it did. -/
def exphSameSpec : ChangeSpec := { name := "exphSame", fn := fun _ => fun
  | [d1, d2] => { results := [.lit (.bool true)], args := [d1, d2] }
  | _ => none }
def exphSameRow : OpenClaim := { program := "ytabmekglalbmoaagreatdoor", sum := "5cec25d73dd95652f851779a754ddcad263fd78bc706e005e2e7ce014b99a0c6", func := "hygrometer/hyglaw14.ExphSame", spec := "exphSame", inPlace := ["internal/abi.NoEscape", "internal/reflectlite.ValueOf", "(internal/reflectlite.Value).Type", "(internal/reflectlite.Value).IsNil", "internal/reflectlite.TypeOf", "(internal/reflectlite.Value).Elem", "(internal/reflectlite.Value).Set", "internal/bytealg.MakeNoZero"], unfollowed := true, recurses := true, named := ["errors.errorType"], loops := true, apart := false, laid := [("errors.errorType", laid_errors_errorType)] }
def ExphSameSaid : Prop := exphSameRow.holds Tryz.pinned (OpenSpec.ofChange exphSameSpec)

/-- ITS FALSE NEIGHBOUR: 'it returns false'. Refute it at one input. -/
def exphSameWrong : ChangeSpec := { name := "exphSame", fn := fun _ => fun
  | [d1, d2] => { results := [.lit (.bool false)], args := [d1, d2] }
  | _ => none }
def ExphSameWrongFalsely : Prop := exphSameRow.holds Tryz.pinned (OpenSpec.ofChange exphSameWrong)

/-- 'hyglaw14.ExphOthers': WHATEVER THE INPUT: true; the input reads as it did. -/
def exphOthersSpec : ChangeSpec := { name := "exphOthers", fn := fun _ => fun
  | [d1, d2, d3, d4] => { results := [.lit (.bool true)], args := [d1, d2, d3, d4] }
  | _ => none }
def exphOthersRow : OpenClaim := { program := "ytabmekglalbmoaagreatdoor", sum := "5cec25d73dd95652f851779a754ddcad263fd78bc706e005e2e7ce014b99a0c6", func := "hygrometer/hyglaw14.ExphOthers", spec := "exphOthers", inPlace := ["internal/abi.NoEscape", "internal/reflectlite.ValueOf", "(internal/reflectlite.Value).Type", "(internal/reflectlite.Value).IsNil", "internal/reflectlite.TypeOf", "(internal/reflectlite.Value).Elem", "(internal/reflectlite.Value).Set", "internal/bytealg.MakeNoZero"], unfollowed := true, recurses := true, named := ["errors.errorType"], apart := false, laid := [("errors.errorType", laid_errors_errorType)] }
def ExphOthersSaid : Prop := exphOthersRow.holds Tryz.pinned (OpenSpec.ofChange exphOthersSpec)

/-- ITS FALSE NEIGHBOUR: 'it returns false'. Refute it at one input. -/
def exphOthersWrong : ChangeSpec := { name := "exphOthers", fn := fun _ => fun
  | [d1, d2, d3, d4] => { results := [.lit (.bool false)], args := [d1, d2, d3, d4] }
  | _ => none }
def ExphOthersWrongFalsely : Prop := exphOthersRow.holds Tryz.pinned (OpenSpec.ofChange exphOthersWrong)

/-- 'hyglaw12.NumberWrites': WHATEVER THE INPUT: true; the input reads as it did. -/
def numberWritesSpec : ChangeSpec := { name := "numberWrites", fn := fun _ => fun
  | [d1, d2] => { results := [.lit (.bool true)], args := [d1, d2] }
  | _ => none }
def numberWritesRow : OpenClaim := { program := "ytabmekglalbmoaagreatdoor", sum := "5cec25d73dd95652f851779a754ddcad263fd78bc706e005e2e7ce014b99a0c6", func := "hygrometer/hyglaw12.NumberWrites", spec := "numberWrites", inPlace := ["internal/abi.NoEscape", "internal/reflectlite.ValueOf", "(internal/reflectlite.Value).Type", "(internal/reflectlite.Value).IsNil", "internal/reflectlite.TypeOf", "(internal/reflectlite.Value).Elem", "(internal/reflectlite.Value).Set", "internal/bytealg.MakeNoZero"], unfollowed := true, recurses := true, named := ["errors.errorType"], loops := true, apart := false, laid := [("errors.errorType", laid_errors_errorType)] }
def NumberWritesSaid : Prop := numberWritesRow.holds Tryz.pinned (OpenSpec.ofChange numberWritesSpec)

/-- ITS FALSE NEIGHBOUR: 'it returns false'. Refute it at one input. -/
def numberWritesWrong : ChangeSpec := { name := "numberWrites", fn := fun _ => fun
  | [d1, d2] => { results := [.lit (.bool false)], args := [d1, d2] }
  | _ => none }
def NumberWritesWrongFalsely : Prop := numberWritesRow.holds Tryz.pinned (OpenSpec.ofChange numberWritesWrong)

/-- 'hyglaw13.HistPacked': WHATEVER THE INPUT: true; the input reads as it did. -/
def histPackedSpec : ChangeSpec := { name := "histPacked", fn := fun _ => fun
  | [d1, d2] => { results := [.lit (.bool true)], args := [d1, d2] }
  | _ => none }
def histPackedRow : OpenClaim := { program := "ytabmekglalbmoaagreatdoor", sum := "5cec25d73dd95652f851779a754ddcad263fd78bc706e005e2e7ce014b99a0c6", func := "hygrometer/hyglaw13.HistPacked", spec := "histPacked", inPlace := ["internal/abi.NoEscape", "internal/reflectlite.ValueOf", "(internal/reflectlite.Value).Type", "(internal/reflectlite.Value).IsNil", "internal/reflectlite.TypeOf", "(internal/reflectlite.Value).Elem", "(internal/reflectlite.Value).Set", "internal/bytealg.MakeNoZero"], unfollowed := true, recurses := true, named := ["errors.errorType"], apart := false, laid := [("errors.errorType", laid_errors_errorType)] }
def HistPackedSaid : Prop := histPackedRow.holds Tryz.pinned (OpenSpec.ofChange histPackedSpec)

/-- ITS FALSE NEIGHBOUR: 'it returns false'. Refute it at one input. -/
def histPackedWrong : ChangeSpec := { name := "histPacked", fn := fun _ => fun
  | [d1, d2] => { results := [.lit (.bool false)], args := [d1, d2] }
  | _ => none }
def HistPackedWrongFalsely : Prop := histPackedRow.holds Tryz.pinned (OpenSpec.ofChange histPackedWrong)

/-- 'hyglaw13.HistReads': WHATEVER THE INPUT: true; the input reads as it did. -/
def histReadsSpec : ChangeSpec := { name := "histReads", fn := fun _ => fun
  | [d1, d2] => { results := [.lit (.bool true)], args := [d1, d2] }
  | _ => none }
def histReadsRow : OpenClaim := { program := "ytabmekglalbmoaagreatdoor", sum := "5cec25d73dd95652f851779a754ddcad263fd78bc706e005e2e7ce014b99a0c6", func := "hygrometer/hyglaw13.HistReads", spec := "histReads", inPlace := ["internal/abi.NoEscape", "internal/reflectlite.ValueOf", "(internal/reflectlite.Value).Type", "(internal/reflectlite.Value).IsNil", "internal/reflectlite.TypeOf", "(internal/reflectlite.Value).Elem", "(internal/reflectlite.Value).Set", "internal/bytealg.MakeNoZero"], unfollowed := true, recurses := true, named := ["errors.errorType"], apart := false, laid := [("errors.errorType", laid_errors_errorType)] }
def HistReadsSaid : Prop := histReadsRow.holds Tryz.pinned (OpenSpec.ofChange histReadsSpec)

/-- ITS FALSE NEIGHBOUR: 'it returns false'. Refute it at one input. -/
def histReadsWrong : ChangeSpec := { name := "histReads", fn := fun _ => fun
  | [d1, d2] => { results := [.lit (.bool false)], args := [d1, d2] }
  | _ => none }
def HistReadsWrongFalsely : Prop := histReadsRow.holds Tryz.pinned (OpenSpec.ofChange histReadsWrong)

/-- 'hyglaw13.HistWrites': WHATEVER THE INPUT: true; the input reads as it did. -/
def histWritesSpec : ChangeSpec := { name := "histWrites", fn := fun _ => fun
  | [d1, d2] => { results := [.lit (.bool true)], args := [d1, d2] }
  | _ => none }
def histWritesRow : OpenClaim := { program := "ytabmekglalbmoaagreatdoor", sum := "5cec25d73dd95652f851779a754ddcad263fd78bc706e005e2e7ce014b99a0c6", func := "hygrometer/hyglaw13.HistWrites", spec := "histWrites", inPlace := ["internal/abi.NoEscape", "internal/reflectlite.ValueOf", "(internal/reflectlite.Value).Type", "(internal/reflectlite.Value).IsNil", "internal/reflectlite.TypeOf", "(internal/reflectlite.Value).Elem", "(internal/reflectlite.Value).Set", "internal/bytealg.MakeNoZero"], unfollowed := true, recurses := true, named := ["errors.errorType"], loops := true, apart := false, laid := [("errors.errorType", laid_errors_errorType)] }
def HistWritesSaid : Prop := histWritesRow.holds Tryz.pinned (OpenSpec.ofChange histWritesSpec)

/-- ITS FALSE NEIGHBOUR: 'it returns false'. Refute it at one input. -/
def histWritesWrong : ChangeSpec := { name := "histWrites", fn := fun _ => fun
  | [d1, d2] => { results := [.lit (.bool false)], args := [d1, d2] }
  | _ => none }
def HistWritesWrongFalsely : Prop := histWritesRow.holds Tryz.pinned (OpenSpec.ofChange histWritesWrong)

/-- 'hyglaw13.HistBack': WHATEVER THE INPUT: true; the input reads as it did. -/
def histBackSpec : ChangeSpec := { name := "histBack", fn := fun _ => fun
  | [d1, d2, d3] => { results := [.lit (.bool true)], args := [d1, d2, d3] }
  | _ => none }
def histBackRow : OpenClaim := { program := "ytabmekglalbmoaagreatdoor", sum := "5cec25d73dd95652f851779a754ddcad263fd78bc706e005e2e7ce014b99a0c6", func := "hygrometer/hyglaw13.HistBack", spec := "histBack", inPlace := ["internal/abi.NoEscape", "internal/reflectlite.ValueOf", "(internal/reflectlite.Value).Type", "(internal/reflectlite.Value).IsNil", "internal/reflectlite.TypeOf", "(internal/reflectlite.Value).Elem", "(internal/reflectlite.Value).Set", "internal/bytealg.MakeNoZero"], unfollowed := true, recurses := true, named := ["errors.errorType"], loops := true, apart := false, laid := [("errors.errorType", laid_errors_errorType)] }
def HistBackSaid : Prop := histBackRow.holds Tryz.pinned (OpenSpec.ofChange histBackSpec)

/-- ITS FALSE NEIGHBOUR: 'it returns false'. Refute it at one input. -/
def histBackWrong : ChangeSpec := { name := "histBack", fn := fun _ => fun
  | [d1, d2, d3] => { results := [.lit (.bool false)], args := [d1, d2, d3] }
  | _ => none }
def HistBackWrongFalsely : Prop := histBackRow.holds Tryz.pinned (OpenSpec.ofChange histBackWrong)

/-- 'hyglaw13.HistTwice': WHATEVER THE INPUT: true; the input reads as it did. -/
def histTwiceSpec : ChangeSpec := { name := "histTwice", fn := fun _ => fun
  | [d1, d2] => { results := [.lit (.bool true)], args := [d1, d2] }
  | _ => none }
def histTwiceRow : OpenClaim := { program := "ytabmekglalbmoaagreatdoor", sum := "5cec25d73dd95652f851779a754ddcad263fd78bc706e005e2e7ce014b99a0c6", func := "hygrometer/hyglaw13.HistTwice", spec := "histTwice", inPlace := ["internal/abi.NoEscape", "internal/reflectlite.ValueOf", "(internal/reflectlite.Value).Type", "(internal/reflectlite.Value).IsNil", "internal/reflectlite.TypeOf", "(internal/reflectlite.Value).Elem", "(internal/reflectlite.Value).Set", "internal/bytealg.MakeNoZero"], unfollowed := true, recurses := true, named := ["errors.errorType"], apart := false, laid := [("errors.errorType", laid_errors_errorType)] }
def HistTwiceSaid : Prop := histTwiceRow.holds Tryz.pinned (OpenSpec.ofChange histTwiceSpec)

/-- ITS FALSE NEIGHBOUR: 'it returns false'. Refute it at one input. -/
def histTwiceWrong : ChangeSpec := { name := "histTwice", fn := fun _ => fun
  | [d1, d2] => { results := [.lit (.bool false)], args := [d1, d2] }
  | _ => none }
def HistTwiceWrongFalsely : Prop := histTwiceRow.holds Tryz.pinned (OpenSpec.ofChange histTwiceWrong)

/- THE SECOND FORM. 'bulk': how many values and letters a reading holds, each counted each time it is reached (what is shared counts as often as it is met; a slice's spare places count too). A statement '..UptoSaid' is the law's where the arguments, and the package variables that the reading takes, are together of bulk at most 1048576: NARROWER than '..Said'. Prove '..Said' where nothing that the law and all that it calls make is longer than what came in: it says more and counts as full. Else prove '..UptoSaid'. A law counts once. -/
mutual
def uptoBulk {H : Type} : DataW H → Nat
  | .lit (.string bytes) => bytes.length + 1
  | .lit _ => 1
  | .nil => 1
  | .ptr d => uptoBulk d + 1
  | .slice elems spare => uptoBulkAll elems + uptoBulkAll spare + 1
  | .agg parts => uptoBulkAll parts + 1
  | .iface _ d => uptoBulk d + 1
  | .map entries => uptoBulkEntries entries + 1
  | .held _ => 1
def uptoBulkAll {H : Type} : List (DataW H) → Nat
  | [] => 0
  | d :: r => uptoBulk d + uptoBulkAll r
def uptoBulkEntries {H : Type} : List (Lit × DataW H) → Nat
  | [] => 0
  | x :: r => uptoBulkEntry x + uptoBulkEntries r
def uptoBulkEntry {H : Type} : Lit × DataW H → Nat
  | (.string bytes, d) => bytes.length + uptoBulk d + 1
  | (_, d) => uptoBulk d + 1
 end
def uptoSmall : (H : Type) → List (DataW H) → Bool := fun _ ds => decide (uptoBulkAll ds ≤ 1048576)
def OpenSpec.upto (s : _root_.Go.ChangeSpec) : _root_.Go.OpenSpec := { _root_.Go.OpenSpec.ofChange s with cond := some uptoSmall }

/-- 'hyglaw14.ExphJoins', WHERE WHAT IT READS IS OF BULK AT MOST 1048576: true; the input reads as it did. -/
def exphJoinsUptoRow : OpenClaim := { program := "ytabmekglalbmoaagreatdoor", sum := "5cec25d73dd95652f851779a754ddcad263fd78bc706e005e2e7ce014b99a0c6", func := "hygrometer/hyglaw14.ExphJoins", spec := "exphJoins", inPlace := ["internal/abi.NoEscape", "internal/reflectlite.ValueOf", "(internal/reflectlite.Value).Type", "(internal/reflectlite.Value).IsNil", "internal/reflectlite.TypeOf", "(internal/reflectlite.Value).Elem", "(internal/reflectlite.Value).Set", "internal/bytealg.MakeNoZero"], unfollowed := true, recurses := true, named := ["errors.errorType"], apart := false, laid := [("errors.errorType", laid_errors_errorType)], narrowed := true }
def ExphJoinsUptoSaid : Prop := exphJoinsUptoRow.holds Tryz.pinned (OpenSpec.upto exphJoinsSpec)

/-- 'hyglaw14.ExphReads', WHERE WHAT IT READS IS OF BULK AT MOST 1048576: true; the input reads as it did. -/
def exphReadsUptoRow : OpenClaim := { program := "ytabmekglalbmoaagreatdoor", sum := "5cec25d73dd95652f851779a754ddcad263fd78bc706e005e2e7ce014b99a0c6", func := "hygrometer/hyglaw14.ExphReads", spec := "exphReads", inPlace := ["internal/abi.NoEscape", "internal/reflectlite.ValueOf", "(internal/reflectlite.Value).Type", "(internal/reflectlite.Value).IsNil", "internal/reflectlite.TypeOf", "(internal/reflectlite.Value).Elem", "(internal/reflectlite.Value).Set", "internal/bytealg.MakeNoZero"], unfollowed := true, recurses := true, named := ["errors.errorType"], apart := false, laid := [("errors.errorType", laid_errors_errorType)], narrowed := true }
def ExphReadsUptoSaid : Prop := exphReadsUptoRow.holds Tryz.pinned (OpenSpec.upto exphReadsSpec)

/-- 'hyglaw14.ExphDeep', WHERE WHAT IT READS IS OF BULK AT MOST 1048576: true; the input reads as it did. -/
def exphDeepUptoRow : OpenClaim := { program := "ytabmekglalbmoaagreatdoor", sum := "5cec25d73dd95652f851779a754ddcad263fd78bc706e005e2e7ce014b99a0c6", func := "hygrometer/hyglaw14.ExphDeep", spec := "exphDeep", inPlace := ["internal/abi.NoEscape", "internal/reflectlite.ValueOf", "(internal/reflectlite.Value).Type", "(internal/reflectlite.Value).IsNil", "internal/reflectlite.TypeOf", "(internal/reflectlite.Value).Elem", "(internal/reflectlite.Value).Set", "internal/bytealg.MakeNoZero"], unfollowed := true, recurses := true, named := ["errors.errorType"], apart := false, laid := [("errors.errorType", laid_errors_errorType)], narrowed := true }
def ExphDeepUptoSaid : Prop := exphDeepUptoRow.holds Tryz.pinned (OpenSpec.upto exphDeepSpec)

/-- 'hyglaw14.ExphSame', WHERE WHAT IT READS IS OF BULK AT MOST 1048576: true; the input reads as it did. -/
def exphSameUptoRow : OpenClaim := { program := "ytabmekglalbmoaagreatdoor", sum := "5cec25d73dd95652f851779a754ddcad263fd78bc706e005e2e7ce014b99a0c6", func := "hygrometer/hyglaw14.ExphSame", spec := "exphSame", inPlace := ["internal/abi.NoEscape", "internal/reflectlite.ValueOf", "(internal/reflectlite.Value).Type", "(internal/reflectlite.Value).IsNil", "internal/reflectlite.TypeOf", "(internal/reflectlite.Value).Elem", "(internal/reflectlite.Value).Set", "internal/bytealg.MakeNoZero"], unfollowed := true, recurses := true, named := ["errors.errorType"], loops := true, apart := false, laid := [("errors.errorType", laid_errors_errorType)], narrowed := true }
def ExphSameUptoSaid : Prop := exphSameUptoRow.holds Tryz.pinned (OpenSpec.upto exphSameSpec)

/-- 'hyglaw14.ExphOthers', WHERE WHAT IT READS IS OF BULK AT MOST 1048576: true; the input reads as it did. -/
def exphOthersUptoRow : OpenClaim := { program := "ytabmekglalbmoaagreatdoor", sum := "5cec25d73dd95652f851779a754ddcad263fd78bc706e005e2e7ce014b99a0c6", func := "hygrometer/hyglaw14.ExphOthers", spec := "exphOthers", inPlace := ["internal/abi.NoEscape", "internal/reflectlite.ValueOf", "(internal/reflectlite.Value).Type", "(internal/reflectlite.Value).IsNil", "internal/reflectlite.TypeOf", "(internal/reflectlite.Value).Elem", "(internal/reflectlite.Value).Set", "internal/bytealg.MakeNoZero"], unfollowed := true, recurses := true, named := ["errors.errorType"], apart := false, laid := [("errors.errorType", laid_errors_errorType)], narrowed := true }
def ExphOthersUptoSaid : Prop := exphOthersUptoRow.holds Tryz.pinned (OpenSpec.upto exphOthersSpec)

/-- 'hyglaw12.NumberWrites', WHERE WHAT IT READS IS OF BULK AT MOST 1048576: true; the input reads as it did. -/
def numberWritesUptoRow : OpenClaim := { program := "ytabmekglalbmoaagreatdoor", sum := "5cec25d73dd95652f851779a754ddcad263fd78bc706e005e2e7ce014b99a0c6", func := "hygrometer/hyglaw12.NumberWrites", spec := "numberWrites", inPlace := ["internal/abi.NoEscape", "internal/reflectlite.ValueOf", "(internal/reflectlite.Value).Type", "(internal/reflectlite.Value).IsNil", "internal/reflectlite.TypeOf", "(internal/reflectlite.Value).Elem", "(internal/reflectlite.Value).Set", "internal/bytealg.MakeNoZero"], unfollowed := true, recurses := true, named := ["errors.errorType"], loops := true, apart := false, laid := [("errors.errorType", laid_errors_errorType)], narrowed := true }
def NumberWritesUptoSaid : Prop := numberWritesUptoRow.holds Tryz.pinned (OpenSpec.upto numberWritesSpec)

/-- 'hyglaw13.HistPacked', WHERE WHAT IT READS IS OF BULK AT MOST 1048576: true; the input reads as it did. -/
def histPackedUptoRow : OpenClaim := { program := "ytabmekglalbmoaagreatdoor", sum := "5cec25d73dd95652f851779a754ddcad263fd78bc706e005e2e7ce014b99a0c6", func := "hygrometer/hyglaw13.HistPacked", spec := "histPacked", inPlace := ["internal/abi.NoEscape", "internal/reflectlite.ValueOf", "(internal/reflectlite.Value).Type", "(internal/reflectlite.Value).IsNil", "internal/reflectlite.TypeOf", "(internal/reflectlite.Value).Elem", "(internal/reflectlite.Value).Set", "internal/bytealg.MakeNoZero"], unfollowed := true, recurses := true, named := ["errors.errorType"], apart := false, laid := [("errors.errorType", laid_errors_errorType)], narrowed := true }
def HistPackedUptoSaid : Prop := histPackedUptoRow.holds Tryz.pinned (OpenSpec.upto histPackedSpec)

/-- 'hyglaw13.HistReads', WHERE WHAT IT READS IS OF BULK AT MOST 1048576: true; the input reads as it did. -/
def histReadsUptoRow : OpenClaim := { program := "ytabmekglalbmoaagreatdoor", sum := "5cec25d73dd95652f851779a754ddcad263fd78bc706e005e2e7ce014b99a0c6", func := "hygrometer/hyglaw13.HistReads", spec := "histReads", inPlace := ["internal/abi.NoEscape", "internal/reflectlite.ValueOf", "(internal/reflectlite.Value).Type", "(internal/reflectlite.Value).IsNil", "internal/reflectlite.TypeOf", "(internal/reflectlite.Value).Elem", "(internal/reflectlite.Value).Set", "internal/bytealg.MakeNoZero"], unfollowed := true, recurses := true, named := ["errors.errorType"], apart := false, laid := [("errors.errorType", laid_errors_errorType)], narrowed := true }
def HistReadsUptoSaid : Prop := histReadsUptoRow.holds Tryz.pinned (OpenSpec.upto histReadsSpec)

/-- 'hyglaw13.HistWrites', WHERE WHAT IT READS IS OF BULK AT MOST 1048576: true; the input reads as it did. -/
def histWritesUptoRow : OpenClaim := { program := "ytabmekglalbmoaagreatdoor", sum := "5cec25d73dd95652f851779a754ddcad263fd78bc706e005e2e7ce014b99a0c6", func := "hygrometer/hyglaw13.HistWrites", spec := "histWrites", inPlace := ["internal/abi.NoEscape", "internal/reflectlite.ValueOf", "(internal/reflectlite.Value).Type", "(internal/reflectlite.Value).IsNil", "internal/reflectlite.TypeOf", "(internal/reflectlite.Value).Elem", "(internal/reflectlite.Value).Set", "internal/bytealg.MakeNoZero"], unfollowed := true, recurses := true, named := ["errors.errorType"], loops := true, apart := false, laid := [("errors.errorType", laid_errors_errorType)], narrowed := true }
def HistWritesUptoSaid : Prop := histWritesUptoRow.holds Tryz.pinned (OpenSpec.upto histWritesSpec)

/-- 'hyglaw13.HistBack', WHERE WHAT IT READS IS OF BULK AT MOST 1048576: true; the input reads as it did. -/
def histBackUptoRow : OpenClaim := { program := "ytabmekglalbmoaagreatdoor", sum := "5cec25d73dd95652f851779a754ddcad263fd78bc706e005e2e7ce014b99a0c6", func := "hygrometer/hyglaw13.HistBack", spec := "histBack", inPlace := ["internal/abi.NoEscape", "internal/reflectlite.ValueOf", "(internal/reflectlite.Value).Type", "(internal/reflectlite.Value).IsNil", "internal/reflectlite.TypeOf", "(internal/reflectlite.Value).Elem", "(internal/reflectlite.Value).Set", "internal/bytealg.MakeNoZero"], unfollowed := true, recurses := true, named := ["errors.errorType"], loops := true, apart := false, laid := [("errors.errorType", laid_errors_errorType)], narrowed := true }
def HistBackUptoSaid : Prop := histBackUptoRow.holds Tryz.pinned (OpenSpec.upto histBackSpec)

/-- 'hyglaw13.HistTwice', WHERE WHAT IT READS IS OF BULK AT MOST 1048576: true; the input reads as it did. -/
def histTwiceUptoRow : OpenClaim := { program := "ytabmekglalbmoaagreatdoor", sum := "5cec25d73dd95652f851779a754ddcad263fd78bc706e005e2e7ce014b99a0c6", func := "hygrometer/hyglaw13.HistTwice", spec := "histTwice", inPlace := ["internal/abi.NoEscape", "internal/reflectlite.ValueOf", "(internal/reflectlite.Value).Type", "(internal/reflectlite.Value).IsNil", "internal/reflectlite.TypeOf", "(internal/reflectlite.Value).Elem", "(internal/reflectlite.Value).Set", "internal/bytealg.MakeNoZero"], unfollowed := true, recurses := true, named := ["errors.errorType"], apart := false, laid := [("errors.errorType", laid_errors_errorType)], narrowed := true }
def HistTwiceUptoSaid : Prop := histTwiceUptoRow.holds Tryz.pinned (OpenSpec.upto histTwiceSpec)

end Rows
end Go.Proofs.YtabmekglalbmoaaGreatDoor
