/- Texts that a claim of this seat leans on: K3. No statement is claimed in this text. -/
import Derived.Test.YtabmekglalbmoaaGreatDoorB21
import Derived.Test.YtabmekglalbmoaaGreatDoorB24
/- What came in as data lies apart from the variable; a law that is handed all old blocks. -/
set_option linter.unusedVariables false
namespace Go.Proofs.Gw
open Go Go.RowKit Go.Proofs.Gm

abbrev OldD (w : World) : Nat → Prop := fun k => 0 < k ∧ k < w.heap.size
def Var0 (w : World) : Prop := ∃ T fr, w.heap[0]? = some (.cells #[gval] T fr)
theorem rowS.strip {w : World} {size n : Nat} {v : Value} {xs : List Value} (h0 : Var0 w) (hx : 0 < n → ∃ u, xs[0]? = some u ∧ u ≠ gval) (r : rowS (Old w) w size v n xs) : rowS (OldD w) w size v n xs := by
  obtain ⟨h1, A, c, h2, h3⟩ := r
  refine ⟨h1, A, c, h2, fun hn => ?_⟩
  obtain ⟨g, off, h4, h5, hm, cs, T, fr, h6, h7⟩ := h3 hn
  refine ⟨g, off, h4, ⟨?_, h5⟩, hm, cs, T, fr, h6, h7⟩
  rcases Nat.eq_zero_or_pos g with e | e
  · subst e
    obtain ⟨T', fr', e2⟩ := h0
    rw [e2] at h6
    cases h6
    obtain ⟨u, hu, hne⟩ := hx hn
    have h8 := h7 0 u hu
    have h9 := (Array.getElem?_eq_some_iff.1 h8).1
    have ho : off = 0 := by simp at h9; omega
    subst ho
    simp at h8
    exact absurd h8.symm hne
  · exact e
theorem gval_ne_int {k : IntKind} {n : Int} : Value.int k n ≠ gval := by unfold gval; intro h; cases h
theorem gval_ne_str {s : ByteArray} : Value.string s ≠ gval := by unfold gval; intro h; cases h
theorem gval_ne_sl {A : Option Addr} {n c : Nat} : Value.slice A n c ≠ gval := by unfold gval; intro h; cases h
theorem VR_head {ok : Nat → Prop} {w : World} {x : Val} {cs : List Value} (h : VR ok w x cs) : ∃ u, cs[0]? = some u ∧ u ≠ gval := by
  cases h with
  | mk _ _ _ _ => exact ⟨_, rfl, gval_ne_int⟩
theorem KR_head {ok : Nat → Prop} {w : World} {x : Key} {cs : List Value} (h : KR ok w x cs) : ∃ u, cs[0]? = some u ∧ u ≠ gval := by
  cases h with
  | mk _ => exact ⟨_, rfl, gval_ne_str⟩
theorem head_app {cs ds : List Value} (h : ∃ u, cs[0]? = some u ∧ u ≠ gval) : ∃ u, (cs ++ ds)[0]? = some u ∧ u ≠ gval := by
  obtain ⟨u, h1, h2⟩ := h
  exact ⟨u, by rw [List.getElem?_append_left (List.getElem?_eq_some_iff.1 h1).1]; exact h1, h2⟩
theorem LV_head {ok : Nat → Prop} {w : World} {l : List Val} {css : List (List Value)} (h : LV ok w l css) (hl : 0 < l.length) : ∃ u, css.flatten[0]? = some u ∧ u ≠ gval := by
  cases h with
  | nil => simp at hl
  | cons h _ => rw [List.flatten_cons]; exact head_app (VR_head h)
theorem LK_head {ok : Nat → Prop} {w : World} {l : List Key} {css : List (List Value)} (h : LK ok w l css) (hl : 0 < l.length) : ∃ u, css.flatten[0]? = some u ∧ u ≠ gval := by
  cases h with
  | nil => simp at hl
  | cons h _ => rw [List.flatten_cons]; exact head_app (KR_head h)
section
variable {w : World}
mutual
theorem VR.strip (h0 : Var0 w) : ∀ {x : Val} {cs : List Value}, VR (Old w) w x cs → VR (OldD w) w x cs
  | _, _, .mk h1 h2 h3 h4 => .mk (h1.strip h0 (LV_head h2)) (LV.strip h0 h2) (h3.strip h0 (LK_head h4)) (LK.strip h0 h4)
theorem LV.strip (h0 : Var0 w) : ∀ {x : List Val} {cs : List (List Value)}, LV (Old w) w x cs → LV (OldD w) w x cs
  | _, _, .nil => .nil
  | _, _, .cons h1 h2 => .cons (VR.strip h0 h1) (LV.strip h0 h2)
theorem KR.strip (h0 : Var0 w) : ∀ {x : Key} {cs : List Value}, KR (Old w) w x cs → KR (OldD w) w x cs
  | _, _, .mk h => .mk (VR.strip h0 h)
theorem LK.strip (h0 : Var0 w) : ∀ {x : List Key} {cs : List (List Value)}, LK (Old w) w x cs → LK (OldD w) w x cs
  | _, _, .nil => .nil
  | _, _, .cons h1 h2 => .cons (KR.strip h0 h1) (LK.strip h0 h2)
end
theorem allF_head {α : Type} {rep : α → List Value → FP} {ok : Nat → Prop} (hh : ∀ a cs, (rep a cs).holds ok w → ∃ u, cs[0]? = some u ∧ u ≠ gval) : ∀ {l : List α} {css : List (List Value)}, (allF rep l css).holds ok w → 0 < l.length → ∃ u, css.flatten[0]? = some u ∧ u ≠ gval
  | [], _, _, h => by simp at h
  | a :: l, [], h, _ => h.elim
  | a :: l, cs :: css, h, _ => by rw [List.flatten_cons]; exact head_app (hh a cs h.1)
theorem allF_strip {α : Type} {rep : α → List Value → FP} (hs : ∀ a cs, (rep a cs).holds (Old w) w → (rep a cs).holds (OldD w) w) : ∀ {l : List α} {css : List (List Value)}, (allF rep l css).holds (Old w) w → (allF rep l css).holds (OldD w) w
  | [], [], _ => trivial
  | [], _ :: _, h => h.elim
  | a :: l, [], h => h.elim
  | a :: l, cs :: css, h => ⟨hs a cs h.1, allF_strip hs h.2⟩
theorem list_strip {α : Type} {rep : α → List Value → FP} {k : Nat} {l : List α} {v : Value} (h0 : Var0 w) (hs : ∀ a cs, (rep a cs).holds (Old w) w → (rep a cs).holds (OldD w) w) (hh : ∀ a cs, (rep a cs).holds (Old w) w → ∃ u, cs[0]? = some u ∧ u ≠ gval) (h : (listF rep k l v).holds (Old w) w) : (listF rep k l v).holds (OldD w) w := by
  obtain ⟨css, h1, h2⟩ := h
  exact ⟨css, h1.strip h0 (allF_head hh h2), allF_strip hs h2⟩
theorem nums_strip {l : List Nat} {v : Value} (h0 : Var0 w) (h : (numsF l v).holds (Old w) w) : (numsF l v).holds (OldD w) w :=
  rowS.strip h0 (fun hn => by
    cases l with
    | nil => simp at hn
    | cons m l => exact ⟨_, rfl, gval_ne_int⟩) h
theorem keys_strip {l : List Key} {v : Value} (h0 : Var0 w) (h : (listF keyF 11 l v).holds (Old w) w) : (listF keyF 11 l v).holds (OldD w) w := list_strip h0 (fun a cs h => KR.strip h0 h) (fun a cs h => KR_head h) h
theorem exem_strip {x : Exem} {cs : List Value} (h0 : Var0 w) (h : (exemF x cs).holds (Old w) w) : (exemF x cs).holds (OldD w) w := by
  obtain ⟨v, h1, h2⟩ := h
  exact ⟨v, h1, keys_strip h0 h2⟩
theorem exem_head {x : Exem} {cs : List Value} {ok : Nat → Prop} (h : (exemF x cs).holds ok w) : ∃ u, cs[0]? = some u ∧ u ≠ gval := by
  obtain ⟨v, h1, h2⟩ := h
  have h1 : cs = _ := h1
  obtain ⟨A, c, rfl⟩ := listF.form h2
  subst h1
  exact ⟨_, rfl, gval_ne_sl⟩
theorem exems_strip {l : List Exem} {v : Value} (h0 : Var0 w) (h : (listF exemF 7 l v).holds (Old w) w) : (listF exemF 7 l v).holds (OldD w) w := list_strip h0 (fun a cs h => exem_strip h0 h) (fun a cs h => exem_head h) h
theorem his_strip {x : His} {cs : List Value} (h0 : Var0 w) (h : (hisF x cs).holds (Old w) w) : (hisF x cs).holds (OldD w) w := by
  obtain ⟨v, e, h1, h2, h3, h4⟩ := h
  exact ⟨v, e, keys_strip h0 h1, nums_strip h0 h2, nums_strip h0 h3, exems_strip h0 h4⟩
theorem num_strip {x : Num} {cs : List Value} (h0 : Var0 w) (h : (numF x cs).holds (Old w) w) : (numF x cs).holds (OldD w) w := by
  obtain ⟨v, e, h1, h2⟩ := h
  exact ⟨v, e, keys_strip h0 h1, exems_strip h0 h2⟩
end
/-- A law's function that is handed all old blocks, and turns none. -/
theorem Tri.row {P : Program} {f : FuncId} {vs : List Value} {X : Type} {val : X → Value} {p : X → Prop} {w : World} (h0 : Var0 w) (h : Tri P f vs [Sn (OldD w) w] val (fun _ => [Sn (OldD w) w]) p w) :
    Calls P f vs.toArray w fun e w' => ∃ x, e = .returned (val x) ∧ Below w.heap.size w w' ∧ p x := by
  have hg : Glb (OldD w) w := by
    obtain ⟨T, fr, e⟩ := h0
    exact ⟨fun h => absurd h.1 (by omega), #[gval], T, fr, e, rfl⟩
  refine (h (OldD w) ⟨fun k hk => hk.2, hg⟩ ⟨OldD w, fun k hk => ⟨hk, hk.2⟩, fun k hk => ⟨hk, rfl⟩, trivial⟩).mono fun e w' he => ?_
  obtain ⟨x, h1, h2, ⟨ok, h3, h4, _⟩, h5⟩ := he
  refine ⟨x, h1, ⟨h2.os, h2.tape, h2.output, h2.size, fun k hk => ?_⟩, h5⟩
  rcases Nat.eq_zero_or_pos k with e | e
  · subst e; exact h2.block 0 hk (fun h => absurd h.1 (by omega))
  · exact (h4 k ⟨e, hk⟩).2
end Go.Proofs.Gw
namespace Go.Proofs.YtabmekglalbmoaaGreatDoor
open Go Go.ChangeShapes Go.WideShapes Go.RowKit

theorem var0_of_laid {W : World} (h : laidMetH Tryz.prog laidL W) : Gw.Var0 W := by
  have h' : laidMet Tryz.prog [] W ∧ handlesMet Tryz.prog laidL W := h
  obtain ⟨name, u, ty, e1, e2, e3, e4, e5⟩ := h'.2 _ (List.mem_singleton.2 rfl)
  have en : name = [101, 114, 114, 111, 114] := (Option.some.inj e1).symm
  subst en
  obtain rfl := Option.some.inj (rt0.symm.trans e2)
  have hm : ty ∈ (List.range Tryz.prog.types.size).filter fun t => Tryz.prog.rowNamed t [101, 114, 114, 111, 114] := List.mem_filter.2 ⟨List.mem_range.2 e3, e4⟩
  rw [oneRow0] at hm
  obtain rfl := List.mem_singleton.1 hm
  have hh : typeHandle Tryz.prog 35 = .pointer (some ⟨2, 35, none⟩) := by kernel_rfl
  rw [hh] at e5
  simp only [World.var?, et0, Option.bind_some] at e5
  cases hb : W.heap[0]? with
  | none => simp [hb] at e5
  | some o =>
    cases o with
    | cells cs T fr =>
      rw [hb] at e5
      simp only [Option.some.injEq] at e5
      exact ⟨T, fr, by rw [hb, e5]; rfl⟩
    | _ => simp [hb] at e5
set_option maxRecDepth 100000 in
theorem nums_arg {H : Type} {enc : TypeId × Value → H} {W : World} {r : Reach} {b0 : Nat} {v : Value} {d : DataW H} {ps : List MemPlace} (hval : Value.okWide Tryz.prog W r b0 27 v) (h : DataW.Trod enc Tryz.prog W 0 (fun _ => true) true 27 v d ps) :
    ∃ (l : List Nat) (A : Option Addr) (c : Nat), v = .slice A l.length c ∧ l.length ≤ c ∧ (Gw.numsF l v).holds (Gw.Old W) W ∧ ∀ m, m ∈ l → m < 2 ^ 64 := by
  have h27 : Tryz.prog.underlying 27 = some (.slice 24) := by kernel_rfl
  obtain ⟨A, n, c, rfl⟩ := okWide_slice h27 hval
  obtain ⟨m, h⟩ := h
  have h : DataW.trod enc Tryz.prog W 0 (fun _ => true) true m 27 [.slice A n c] = some (d, ps) := h
  obtain ⟨l, v', e, hl, h64⟩ := Gw.dec_nums (enc := enc) (w := W) h27 h
  simp only [List.cons.injEq, and_true] at e
  subst e
  obtain ⟨A', c', e⟩ := Gw.numsF.form2 hl
  simp only [Value.slice.injEq] at e
  obtain ⟨rfl, rfl, rfl⟩ := e
  refine ⟨l, A, c, rfl, ?_, hl, h64⟩
  rcases DataW.trod_slice h27 h with ⟨e, _⟩ | ⟨a, len, cap, elems, rest, q, _, e, _, _, hlc, _⟩
  · simp only [List.cons.injEq, Value.slice.injEq, and_true] at e
    omega
  · simp only [List.cons.injEq, Value.slice.injEq, and_true] at e
    omega
end Go.Proofs.YtabmekglalbmoaaGreatDoor
