/- Texts that a claim of this seat leans on: K2. No statement is claimed in this text. -/
import Derived.Test.YtabmekglalbmoaaGreatDoorB14
import Derived.Test.YtabmekglalbmoaaGreatDoorB19
import Derived.ChangeStays
import Derived.ChangeBears
import Derived.Below
/- What came in as data reads behind the call as it read before. -/
set_option linter.unusedVariables false
namespace Go.Proofs.YtabmekglalbmoaaGreatDoor
open Go Go.ChangeShapes Go.WideShapes Go.RowKit

theorem kids0 : Kids Tryz.prog (· < Tryz.prog.types.size) := kids_rows (by kernel_rfl) (by kernel_rfl)
theorem slices0 : (List.range Tryz.prog.types.size).all (fun t => match Tryz.prog.underlying t with | some (.slice e) => decide (0 < Tryz.prog.cellsOf e) | _ => true) = true := by kernel_rfl
theorem slicePos {t e : TypeId} (ht : t < Tryz.prog.types.size) (hu : Tryz.prog.underlying t = some (.slice e)) : 0 < Tryz.prog.cellsOf e := by
  have h := List.all_eq_true.1 slices0 t (List.mem_range.2 ht)
  simp only [hu, decide_eq_true_eq] at h
  exact h
theorem trod_again {H : Type} {enc : TypeId × Value → H} {W W' : World} {t : TypeId} {v : Value} {d : DataW H} {ps : List MemPlace} (ht : t < Tryz.prog.types.size) (h : DataW.Trod enc Tryz.prog W 0 (fun _ => true) true t v d ps) (hb : Below W.heap.size W W') (hlt : ∀ p ∈ ps, p.block < W.heap.size) :
    DataW.Trod enc Tryz.prog W' 0 (fun b => decide (b < W.heap.size)) true t v d ps := by
  obtain ⟨n, h⟩ := h
  exact ⟨n, DataW.trod_stays kids0 slicePos (fun h => by cases h) ht h (fun p hp => hb.same (hlt p hp)) (fun p hp => by simpa using hlt p hp)⟩
set_option maxRecDepth 100000 in
theorem exp_arg {H : Type} {enc : TypeId × Value → H} {W : World} {r : Reach} {b0 : Nat} {v : Value} {d : DataW H} {ps : List MemPlace} (hval : Value.okWide Tryz.prog W r b0 33 v) (h : DataW.Trod enc Tryz.prog W 0 (fun _ => true) true 33 v d ps) :
    ∃ (cs : List Value) (x : Gm.Expo), v = .agg cs.toArray ∧ (Gw.expF x cs).holds (Gw.Old W) W := by
  obtain ⟨⟨cs⟩, rfl, _⟩ := okWide_struct (fs := Tryz.prog.fieldsOf 33) (by kernel_rfl) hval
  obtain ⟨n, h⟩ := h
  obtain ⟨x, hx⟩ := Gw.dec_exp (enc := enc) (w := W) (n := n) (cs := cs) h
  exact ⟨cs, x, rfl, hx⟩
end Go.Proofs.YtabmekglalbmoaaGreatDoor
