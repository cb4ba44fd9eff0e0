/- Texts that a claim of this seat leans on: K0. No statement is claimed in this text. -/
import Derived.Test.YtabmekglalbmoaaGreatDoorRows
import Derived.Test.YtabmekglalbmoaaGreatDoorB3
import Derived.ChangeSame
import Derived.ChangeVars
import Derived.ChangeMaps5
import Derived.JoinedOf
import Derived.RowKit
import Derived.RowKitTokens
import Derived.LaidLaws
import Derived.LaidHandle
import Derived.Stop.Joined
/- What the laws' rows have in common: the variable's cell, a world that meets the condition. -/
set_option linter.unusedVariables false
namespace Go.Proofs.YtabmekglalbmoaaGreatDoor
open Go Go.ChangeShapes Go.WideShapes Go.RowKit

theorem own0 : ownKnob Tryz.prog.godebug = none := by kernel_rfl
theorem et0 : Tryz.prog.globalNamed "errors.errorType" = some 0 := by kernel_rfl
theorem rt0 : (Tryz.prog.cutTypes.find? (·.1 == "internal/reflectlite.rtype")).map (·.2) = some 252 := by kernel_rfl
theorem oneRow0 : ((List.range Tryz.prog.types.size).filter fun t => Tryz.prog.rowNamed t [101, 114, 114, 111, 114]) = [35] := by kernel_rfl
abbrev laidL {H : Type} : List (String × DataW H) := [("errors.errorType", Rows.laid_errors_errorType)]
/-- What the condition gives a walk: the variable's one cell. -/
theorem cell_of_laid {W : World} (h : laidMetH Tryz.prog laidL W) : W.cell? ⟨0, 0, none⟩ = some Gw.gval := by
  have h' : laidMet Tryz.prog [] W ∧ handlesMet Tryz.prog laidL W := h
  obtain ⟨name, u, ty, e1, e2, e3, e4, e5⟩ := h'.2 _ (List.mem_singleton.2 rfl)
  have en : name = [101, 114, 114, 111, 114] := (Option.some.inj e1).symm
  subst en
  obtain rfl := Option.some.inj (rt0.symm.trans e2)
  have hm : ty ∈ (List.range Tryz.prog.types.size).filter fun t => Tryz.prog.rowNamed t [101, 114, 114, 111, 114] := List.mem_filter.2 ⟨List.mem_range.2 e3, e4⟩
  rw [oneRow0] at hm
  obtain rfl := List.mem_singleton.1 hm
  have hh : typeHandle Tryz.prog 35 = .pointer (some ⟨2, 35, none⟩) := by kernel_rfl
  rw [hh] at e5
  simpa [Gw.gval] using World.var?_cell et0 e5 0
theorem glb_of_laid {W : World} (h : laidMetH Tryz.prog laidL W) : Gw.Glb (fun _ => False) W := ⟨id, by
  have hc := cell_of_laid h
  simp only [World.cell?] at hc
  cases hb : W.heap[0]? with
  | none => simp [hb] at hc
  | some o =>
    cases o with
    | cells cs T fr => exact ⟨cs, T, fr, rfl, by simpa [hb] using hc⟩
    | _ => simp [hb] at hc⟩
/-- A world that meets the condition: the settled one, the variable's cell laid. -/
noncomputable def laidWorld (os : Os) : World :=
  let w0 := World.holding Tryz.prog os ⟨#[], #[], []⟩
  { w0 with heap := w0.heap.modify 0 fun
      | .cells _ t frozen => .cells #[Gw.gval] t frozen
      | o => o }
theorem laidWorld_met (os : Os) (args : Array Value) : laidMetH Tryz.prog laidL ((laidWorld os).forCall (fun _ _ => 0) ⟨#[], args, []⟩).memory :=
  laidMetH_of_parts (laidMet_nil _ _) (by kernel_rfl)
theorem und9 : Tryz.prog.underlying 9 = some .string := by kernel_rfl
theorem und3 : Tryz.prog.underlying 3 = some (.int .i64) := by kernel_rfl
theorem und4 : Tryz.prog.underlying 4 = some .bool := by kernel_rfl
theorem und24 : Tryz.prog.underlying 24 = some (.int .u64) := by kernel_rfl
end Go.Proofs.YtabmekglalbmoaaGreatDoor
