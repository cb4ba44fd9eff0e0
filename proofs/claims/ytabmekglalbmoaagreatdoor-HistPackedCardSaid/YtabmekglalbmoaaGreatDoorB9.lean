/- Texts that a claim of this seat leans on: GB, L4, L5. No statement is claimed in this text. -/
import Derived.Test.YtabmekglalbmoaaGreatDoorB8
/- Regions that draw, with a place that may be made at any time; what follows said once. -/
set_option linter.unusedVariables false
set_option linter.unusedSimpArgs false
namespace Go.Proofs.Gw
open Go Go.RowKit

theorem ev_sub {ρ ρ' : List (Nat × Value)} (hs : Sub ρ' ρ) {x : Operand} {v : Value} (h : ev ρ x = some v) : ev ρ' x = some v := by
  cases x with
  | tmp t => exact hs t v h
  | _ => exact h
theorem evs_sub {ρ ρ' : List (Nat × Value)} (hs : Sub ρ' ρ) : ∀ {xs : List Operand} {vs : List Value}, evs ρ xs = some vs → evs ρ' xs = some vs
  | [], _, h => h
  | x :: xs, vs, h => by
    simp only [evs] at h ⊢
    cases h1 : ev ρ x with
    | none => rw [h1] at h; simp at h
    | some v =>
      cases h2 : evs ρ xs with
      | none => rw [h1, h2] at h; simp at h
      | some us =>
        rw [h1, h2] at h
        rw [ev_sub hs h1, evs_sub hs h2]; exact h
theorem OpV.less {C : Ctx} {ρ ρ' : List (Nat × Value)} {S : World → Prop} {op : Op} {ty : TypeId} {v : Value} (hs : Sub ρ' ρ) (h : OpV C ρ S op ty v) : OpV C ρ' S op ty v := fun a w he => h a w (he.sub hs)
theorem lk_app : ∀ (ρ : List (Nat × Value)) (t' t : Nat) (p v : Value), lk ρ t' = some v → lk (ρ ++ [(t, p)]) t' = some v
  | [], _, _, _, _, h => by simp [lk] at h
  | (d, u) :: ρ, t', t, p, v, h => by
    simp only [List.cons_append, lk_cons] at h ⊢
    split at h
    · rename_i hd; rw [if_pos hd]; exact h
    · rename_i hd; rw [if_neg hd]; exact lk_app ρ t' t p v h
theorem lk_app_inv : ∀ (ρ : List (Nat × Value)) (t' t : Nat) (p v : Value), lk (ρ ++ [(t, p)]) t' = some v → lk ρ t' = some v ∨ (t' = t ∧ v = p)
  | [], t', t, p, v, h => by
    simp only [List.nil_append, lk_cons] at h
    split at h
    · rename_i hd; cases h; exact .inr ⟨hd.symm, rfl⟩
    · simp [lk] at h
  | (d, u) :: ρ, t', t, p, v, h => by
    simp only [List.cons_append, lk_cons] at h ⊢
    split at h
    · rename_i hd; rw [if_pos hd]; exact .inl h
    · rename_i hd; rw [if_neg hd]; exact lk_app_inv ρ t' t p v h
theorem Sub.app (ρ : List (Nat × Value)) (t : Nat) (p : Value) : Sub (ρ ++ [(t, p)]) ρ := fun t' v h => lk_app ρ t' t p v h
theorem Sub.app_of {ρ : List (Nat × Value)} {t : Nat} (h : lk ρ t = none) (p : Value) : Sub ((t, p) :: ρ) (ρ ++ [(t, p)]) := fun t' v hv => by
  rw [lk_cons]
  rcases lk_app_inv ρ t' t p v hv with h1 | ⟨rfl, rfl⟩
  · split
    · rename_i hd; subst hd; rw [h] at h1; cases h1
    · exact h1
  · rw [if_pos rfl]
theorem lk_end : ∀ (ρ : List (Nat × Value)) (t : Nat) (p : Value), lk ρ t = none → lk (ρ ++ [(t, p)]) t = some p
  | [], t, p, _ => by simp [lk_cons]
  | (d, u) :: ρ, t, p, h => by
    simp only [List.cons_append, lk_cons] at h ⊢
    split at h
    · cases h
    · rename_i hd; rw [if_neg hd]; exact lk_end ρ t p h
theorem Sub.of_app {ρ : List (Nat × Value)} {t : Nat} (h : lk ρ t = none) (p : Value) : Sub (ρ ++ [(t, p)]) ((t, p) :: ρ) := fun t' v hv => by
  rw [lk_cons] at hv
  split at hv
  · rename_i hd; subst hd; cases hv; exact lk_end ρ t p h
  · exact lk_app ρ t' t p v hv
theorem Ent.rot (A : HP) : ∀ (As Hs : List HP), Ent (A :: (As ++ Hs)) (As ++ A :: Hs)
  | [], Hs => Ent.refl _
  | B :: As, Hs => Ent.trans (Ent.swap A B (As ++ Hs)) (Ent.cons B (Ent.rot A As Hs))
theorem Ent.rotb (A : HP) : ∀ (As Hs : List HP), Ent (As ++ A :: Hs) (A :: (As ++ Hs))
  | [], Hs => Ent.refl _
  | B :: As, Hs => Ent.trans (Ent.cons B (Ent.rotb A As Hs)) (Ent.swap B A (As ++ Hs))

section
variable {C : Ctx} {K : List KI} {ρ : List (Nat × Value)} {Hs HS : List HP} {ops : Array Oper} {fuel : Nat} {listed : Array Bool} {d t : Nat} {op : Op} {ty ty' : TypeId} {pos pos' : String} {af af' : Array Edge} {e : TypeId} {cs : List Value}
/-- What follows, said once. -/
theorem GC.cut {c : Code} {ι : Type} (ρ' : ι → List (Nat × Value)) (Hs' : ι → List HP) (p : ι → Prop) (tail : ∀ i, p i → GN C K (ρ' i) (Hs' i)) (main : (∀ i, p i → GN C K (ρ' i) (Hs' i)) → GC C c K ρ Hs) : GC C c K ρ Hs := main tail
/-- One place may be made at any time: both as it is not made yet and as it is. -/
def GV (C : Ctx) (ops : Array Oper) (HS : List HP) (fuel : Nat) (listed : Array Bool) (K : List KI) (ρ : List (Nat × Value)) (Hs : List HP) (a t : Nat) (e : TypeId) (cs : List Value) : Prop :=
  GA C ops HS (fuel + 1) listed K ρ Hs ∧ ∀ b, GA C ops HS fuel (listed.setIfInBounds a true) K (ρ ++ [(t, .pointer (some ⟨b, 0, none⟩))]) (Blk b e cs.length (args0 0 cs) :: Hs)
theorem GV.enter (a : Nat) (ha : ops[a]? = some ⟨some t, .alloc e, ty', pos', af', none⟩) [hz : TZero C.P e cs] (h : GV C ops HS fuel listed K ρ Hs a t e cs) : GA C ops HS (fuel + 1) listed K ρ Hs := h.1
theorem GV.take {a : Nat} (i : Nat) {v : Value} (hi : ops[i]? = some ⟨some d, op, ty, pos, af, none⟩) (hne : Nat.beq a i = false) (hs : Region.noSelect ops = true) (hf : Region.free .any ops listed i = true) (hr : (Region.ready .any ops listed).contains i = true)
    (hf2 : Region.free .any ops (listed.setIfInBounds a true) i = true) (hr2 : (Region.ready .any ops (listed.setIfInBounds a true)).contains i = true)
    (hv : OpV C ρ (St C HS) op ty v) (hd : Nat.ble (d + 1) C.n = true) (k : GV C ops HS fuel (listed.setIfInBounds i true) K ((d, v) :: ρ) Hs a t e cs) : GV C ops HS (fuel + 1) listed K ρ Hs a t e cs :=
  ⟨GA.take i hi hs hf hr hv hd k.1, fun b => GA.take i hi hs hf2 hr2 (OpV.less (Sub.app _ _ _) hv) hd (by
    rw [Array.setIfInBounds_comm true true (Nat.ne_of_beq_eq_false hne)]; exact k.2 b)⟩
variable {X : Type} {val : X → Value} {p : X → Prop}
theorem GV.callV {a : Nat} (i : Nat) {f : FuncId} {F : Operand} {first captured : List Value} {xs : List Operand} {ts : Array TypeId} {vs : List Value} {As Hs0 : List HP} {Bs : X → List HP} [h : FnIs C.P f] (hr : Region.ready .any ops listed = [i, a]) (hr2 : Region.ready .any ops (listed.setIfInBounds a true) = [i])
    (hne : Nat.beq a i = false) (ha : ops[a]? = some ⟨some t, .alloc e, ty', pos', af', none⟩) [hz : TZero C.P e cs] (hdt : Nat.ble (t + 1) C.n = true) (hn : lk ρ t = none)
    (hi : ops[i]? = some ⟨some d, .call ⟨.value F, xs.toArray, ts⟩, ty, pos, af, none⟩) (hF : ev ρ F = some (.func (.func f) first.toArray captured.toArray)) (hv : evs ρ xs = some vs) (ht : ∀ w, St C (As ++ Hs0) w → Tri C.P f (first ++ vs ++ captured) As val Bs p w)
    (hd : Nat.ble (d + 1) C.n = true) (hS0 : Ent (As ++ Hs0) HS) (hS : ∀ x, p x → Ent (Bs x ++ Hs0) HS) (k : ∀ x, p x → GV C ops HS fuel (listed.setIfInBounds i true) K ((d, val x) :: ρ) (Bs x ++ Hs0) a t e cs) : GV C ops HS (fuel + 1) listed K ρ (As ++ Hs0) a t e cs := by
  have h2 : ∀ b, GA C ops HS (fuel + 1) (listed.setIfInBounds a true) K (ρ ++ [(t, .pointer (some ⟨b, 0, none⟩))]) (Blk b e cs.length (args0 0 cs) :: (As ++ Hs0)) := fun b => by
    refine GA.ent (Ent.rot _ As Hs0) (GA.one i hr2 (GAi.callV hi (ev_sub (Sub.app _ _ _) hF) (evs_sub (Sub.app _ _ _) hv) (fun w hw => ht w (hw.ent ((Ent.rotb _ As Hs0).trans (Ent.tail _ _)))) hd (fun x hx => ((Ent.rotb _ _ _).trans (Ent.tail _ _)).trans (hS x hx)) fun x hx => ?_))
    rw [Array.setIfInBounds_comm true true (Nat.ne_of_beq_eq_false hne)]
    exact GA.ent (Ent.rotb _ _ _) ((k x hx).2 b)
  exact ⟨GA.two i a hr (GAi.callV hi hF hv ht hd hS fun x hx => (k x hx).1) (GAi.w ha .alloc hdt (fun b _ => (Ent.tail _ _).trans hS0) fun b _ => GA.sub (Sub.app_of hn _) (Ent.refl _) (h2 b)), h2⟩
theorem GV.call {a : Nat} (i : Nat) {f : FuncId} {xs : List Operand} {ts : Array TypeId} {vs : List Value} {As Hs0 : List HP} {Bs : X → List HP} [h : FnIs C.P f] (hr : Region.ready .any ops listed = [i, a]) (hr2 : Region.ready .any ops (listed.setIfInBounds a true) = [i])
    (hne : Nat.beq a i = false) (ha : ops[a]? = some ⟨some t, .alloc e, ty', pos', af', none⟩) [hz : TZero C.P e cs] (hdt : Nat.ble (t + 1) C.n = true) (hn : lk ρ t = none)
    (hi : ops[i]? = some ⟨some d, .call ⟨.value (.func f), xs.toArray, ts⟩, ty, pos, af, none⟩) (hv : evs ρ xs = some vs) (ht : ∀ w, St C (As ++ Hs0) w → Tri C.P f vs As val Bs p w)
    (hd : Nat.ble (d + 1) C.n = true) (hS0 : Ent (As ++ Hs0) HS) (hS : ∀ x, p x → Ent (Bs x ++ Hs0) HS) (k : ∀ x, p x → GV C ops HS fuel (listed.setIfInBounds i true) K ((d, val x) :: ρ) (Bs x ++ Hs0) a t e cs) : GV C ops HS (fuel + 1) listed K ρ (As ++ Hs0) a t e cs :=
  GV.callV (first := []) (captured := []) i hr hr2 hne ha hdt hn hi rfl hv (by simpa using ht) hd hS0 hS k
theorem GV.ent {a : Nat} {Hs' : List HP} (hh : Ent Hs Hs') (h : GV C ops HS fuel listed K ρ Hs' a t e cs) : GV C ops HS fuel listed K ρ Hs a t e cs :=
  ⟨GA.ent hh h.1, fun b => GA.ent (Ent.cons _ hh) (h.2 b)⟩
/-- All else has come up. -/
theorem GV.fin {a : Nat} (hr : Region.ready .any ops listed = [a]) (ha : ops[a]? = some ⟨some t, .alloc e, ty', pos', af', none⟩) [hz : TZero C.P e cs] (hdt : Nat.ble (t + 1) C.n = true) (hn : lk ρ t = none) (hS0 : Ent Hs HS)
    (k : ∀ b, GA C ops HS fuel (listed.setIfInBounds a true) K ((t, .pointer (some ⟨b, 0, none⟩)) :: ρ) (Blk b e cs.length (args0 0 cs) :: Hs)) : GV C ops HS fuel listed K ρ Hs a t e cs :=
  ⟨GA.one a hr (GAi.w ha .alloc hdt (fun b _ => (Ent.tail _ _).trans hS0) fun b _ => k b), fun b => GA.sub (Sub.of_app hn _) (Ent.refl _) (k b)⟩
end
end Go.Proofs.Gw
/- Values that are read. -/
set_option linter.unusedVariables false
set_option linter.unusedSimpArgs false
namespace Go.Proofs.Gw
open Go Go.RowKit Go.IntWalk Go.Proofs.Gm

theorem rowS_nil (ok : Nat → Prop) (w : World) (k : Nat) : rowS ok w k (.slice none 0 0) 0 [] := ⟨by simp, none, 0, rfl, fun h => absurd h (by omega)⟩
theorem valE (d : Int) (s : Bs) : errE (valM d s) = (let o := oneM [1, 2, 3, 4, 5, 6, 7] (readT valT d s); if o.num = 5 then note (checkE 1 (readE d s) (readT valT d s)) (errE (lisM (fun t => valM (d - 2) t) (d - 1) o.all.flatten)) else if o.num = 6 then note (checkE 1 (readE d s) (readT valT d s)) (errE (lisM (fun t => keyM (d - 2) t) (d - 1) o.all.flatten)) else checkE 1 (readE d s) (readT valT d s)) := by
  rw [valM_eq]; exact errE_fin _ _
/-- A value without lists. -/
theorem plain_fin (d : Int) (s : Bs) (b : Bool) (n : Nat) (t : Bs) (h5 : (oneM [1, 2, 3, 4, 5, 6, 7] (readT valT d s)).num ≠ 5) (h6 : (oneM [1, 2, 3, 4, 5, 6, 7] (readT valT d s)).num ≠ 6)
    (ht : t = if (oneM [1, 2, 3, 4, 5, 6, 7] (readT valT d s)).num = 1 ∨ (oneM [1, 2, 3, 4, 5, 6, 7] (readT valT d s)).num = 7 then (oneM [1, 2, 3, 4, 5, 6, 7] (readT valT d s)).s else [])
    (hb : b = decide ((oneM [1, 2, 3, 4, 5, 6, 7] (readT valT d s)).num = 2 ∧ 0 < (oneM [1, 2, 3, 4, 5, 6, 7] (readT valT d s)).n))
    (hn : n = if (oneM [1, 2, 3, 4, 5, 6, 7] (readT valT d s)).num = 3 ∨ (oneM [1, 2, 3, 4, 5, 6, 7] (readT valT d s)).num = 4 then (oneM [1, 2, 3, 4, 5, 6, 7] (readT valT d s)).n else 0) (Hs : List HP) :
    Ent Hs ((resF valF (valM d s) [.int .i64 ((oneM [1, 2, 3, 4, 5, 6, 7] (readT valT d s)).num : Int), .string (mkS t), .bool b, .int .u64 (n : Int), .slice none 0 0, .slice none 0 0, .string emptyS, .string (mkS (readU valT d s))]).hp :: Hs) := by
  refine Ent.intro (fun w => ?_) Hs
  rw [valM_eq]
  unfold valA
  simp only [if_neg h5, if_neg h6, ← ht, ← hb, ← hn]
  cases checkE 1 (readE d s) (readT valT d s) with
  | some oc => trivial
  | none => exact VR.mk (cl := []) (cm := []) (rowS_nil _ _ _) .nil (rowS_nil _ _ _) .nil

theorem cells_one {v : Value} (h : one v = true) : v.cells = [v].toArray := by cases v <;> first | rfl | cases h
theorem all_one1 {v : Value} (h : one v = true) : [v].all one = true := by simp [h]
theorem allF_LV {ok : Nat → Prop} {w : World} : ∀ {l : List Val} {css : List (List Value)}, (allF valF l css).holds ok w → LV ok w l css
  | [], [], _ => .nil
  | a :: l, cs :: css, h => .cons h.1 (allF_LV h.2)
  | [], _ :: _, h => h.elim
  | _ :: _, [], h => h.elim
theorem allF_LK {ok : Nat → Prop} {w : World} : ∀ {l : List Key} {css : List (List Value)}, (allF keyF l css).holds ok w → LK ok w l css
  | [], [], _ => .nil
  | a :: l, cs :: css, h => .cons h.1 (allF_LK h.2)
  | [], _ :: _, h => h.elim
  | _ :: _, [], h => h.elim
theorem list2 {l : List Value} (h : l.length = 2) : ∃ a1 a2, l = [a1, a2] := by
  match l, h with
  | [a1, a2], _ => exact ⟨_, _, rfl⟩
/-- A list's cells, as a value's. -/
theorem list_fin5 (d : Int) (s : Bs) (c1 c2 : Value) (h5 : (oneM [1, 2, 3, 4, 5, 6, 7] (readT valT d s)).num = 5) (Hs : List HP) :
    Ent ((resF (lisF valF 8) (lisM (fun t => valM (d - 2) t) (d - 1) (oneM [1, 2, 3, 4, 5, 6, 7] (readT valT d s)).all.flatten) [c1, c2]).hp :: Hs)
      ((resF valF (valM d s) [.int .i64 ((oneM [1, 2, 3, 4, 5, 6, 7] (readT valT d s)).num : Int), .string emptyS, .bool false, .int .u64 0, c1, .slice none 0 0, c2, .string (mkS (readU valT d s))]).hp :: Hs) := by
  rw [valM_eq]
  unfold valA
  simp only [h5, if_true, show ((5 : Nat) = 1 ∨ (5 : Nat) = 7) = False by simp, show ((5 : Nat) = 3 ∨ (5 : Nat) = 4) = False by simp, show ((5 : Nat) = 6) = False by simp, show ((5 : Nat) = 2) = False by simp, false_and, if_false, decide_false]
  generalize lisM (fun t => valM (d - 2) t) (d - 1) (oneM [1, 2, 3, 4, 5, 6, 7] (readT valT d s)).all.flatten = l
  generalize checkE 1 (readE d s) (readT valT d s) = er
  cases l with
  | error oc => cases er <;> exact Ent.head (h := (resF (lisF valF 8) (.error oc) [c1, c2]).hp) (h' := (resF valF (finM (some _) _) _).hp) (fun _ _ _ => trivial) (Ent.refl _)
  | ok p =>
    cases er with
    | some oc => exact Ent.head (h := (resF (lisF valF 8) (.ok p) [c1, c2]).hp) (h' := (resF valF (finM (some oc) _) _).hp) (fun _ _ _ => trivial) (Ent.refl _)
    | none =>
      refine Ent.head (h := (lisF valF 8 p [c1, c2]).hp) (h' := (resF valF (finM none _) _).hp) (fun ok w h => ?_) (Ent.refl _)
      obtain ⟨v, hv, css, h1, h2⟩ := h
      simp only [List.cons.injEq, and_true] at hv
      obtain ⟨rfl, rfl⟩ := hv
      exact VR.mk (cl := css) (cm := []) h1 (allF_LV h2) (rowS_nil _ _ _) .nil
theorem list_fin6 (d : Int) (s : Bs) (c1 c2 : Value) (h5 : (oneM [1, 2, 3, 4, 5, 6, 7] (readT valT d s)).num = 6) (Hs : List HP) :
    Ent ((resF (lisF keyF 11) (lisM (fun t => keyM (d - 2) t) (d - 1) (oneM [1, 2, 3, 4, 5, 6, 7] (readT valT d s)).all.flatten) [c1, c2]).hp :: Hs)
      ((resF valF (valM d s) [.int .i64 ((oneM [1, 2, 3, 4, 5, 6, 7] (readT valT d s)).num : Int), .string emptyS, .bool false, .int .u64 0, .slice none 0 0, c1, c2, .string (mkS (readU valT d s))]).hp :: Hs) := by
  rw [valM_eq]
  unfold valA
  simp only [h5, if_true, show ((6 : Nat) = 1 ∨ (6 : Nat) = 7) = False by simp, show ((6 : Nat) = 3 ∨ (6 : Nat) = 4) = False by simp, show ((6 : Nat) = 5) = False by simp, show ((6 : Nat) = 2) = False by simp, false_and, if_false, decide_false]
  generalize lisM (fun t => keyM (d - 2) t) (d - 1) (oneM [1, 2, 3, 4, 5, 6, 7] (readT valT d s)).all.flatten = l
  generalize checkE 1 (readE d s) (readT valT d s) = er
  cases l with
  | error oc => cases er <;> exact Ent.head (h := (resF (lisF keyF 11) (.error oc) [c1, c2]).hp) (h' := (resF valF (finM (some _) _) _).hp) (fun _ _ _ => trivial) (Ent.refl _)
  | ok p =>
    cases er with
    | some oc => exact Ent.head (h := (resF (lisF keyF 11) (.ok p) [c1, c2]).hp) (h' := (resF valF (finM (some oc) _) _).hp) (fun _ _ _ => trivial) (Ent.refl _)
    | none =>
      refine Ent.head (h := (lisF keyF 11 p [c1, c2]).hp) (h' := (resF valF (finM none _) _).hp) (fun ok w h => ?_) (Ent.refl _)
      obtain ⟨v, hv, css, h1, h2⟩ := h
      simp only [List.cons.injEq, and_true] at hv
      obtain ⟨rfl, rfl⟩ := hv
      exact VR.mk (cl := []) (cm := css) (rowS_nil _ _ _) .nil h1 (allF_LK h2)

theorem val_rd (N : Nat) (hN : N ≤ 4294967296) (d : Int) (hd1 : -9223372036854775808 ≤ d) (hd2 : d ≤ 9223372036854775807) (hv : 0 ≤ d → RdC 127 [] [] Emp valF 8 valM N (d - 2)) (hk : 0 ≤ d → RdC 47 [] [] Emp keyF 11 keyM N (d - 2)) : RdC 127 [] [] Emp valF 8 valM N d := fun s w hs => by
  have hsm : s.size ≤ mx := by unfold mx; omega
  have hM := readT_mem (t := valT) (d := d) (l := bs s)
  rw [bs_length] at hM
  have hmx : N ≤ mx := by unfold mx; omega
  have hrl : (readT valT d (bs s)).length ≤ mx := Nat.le_trans hM.1 hsm
  have hrs : ∀ r, r ∈ readT valT d (bs s) → r.s.length ≤ mx := fun r hr => Nat.le_trans (hM.2.1 r hr) hsm
  have hr32 : (readT valT d (bs s)).length ≤ 4294967296 := Nat.le_trans hM.1 (by omega)
  refine tri_of_G 81 Tryz.func127 rfl Tryz.ntmps127 rfl (fun D => ?_)
  refine GC.seq (GC.region (GL.w .alloc rfl (fun b4 _ => GL.v (.assign rfl) rfl (GL.nil (GN.seq (GC.seq (GC.region (GL.v (.move rfl) rfl (GL.v (.move rfl) rfl (?_))))))))))
  refine GL.call (As := []) rfl (fun w hst => Read_tri s d _ valT tbl_val w hsm hd1 hd2) rfl (fun ⟨g, v0⟩ _ => ?_)
  refine GL.v (.assign rfl) rfl (GL.nil (GN.seq (GC.seq (GC.region (GL.v (.move rfl) rfl (?_))))))
  refine GL.call (As := [_]) rfl (fun w hst => RCheck_tri g _ _ 1 w hrl hsm hrs) rfl (fun _ _ => ?_)
  refine GL.nil (GN.seq (GC.seq (GC.region (GL.v (.move rfl) rfl (?_)))))
  refine GL.w (.bslice [.int .i64 1, .int .i64 2, .int .i64 3, .int .i64 4, .int .i64 5, .int .i64 6, .int .i64 7] rfl rfl rfl rfl rfl) rfl (fun bQ _ => ?_)
  refine GL.ent (Ent.front 1 _ _ rfl) ?_
  refine GL.call (As := [_, _]) rfl (fun w hst => One_tri g _ _ bQ 3 [1, 2, 3, 4, 5, 6, 7] (by simp) hr32 w) rfl (fun v hvv => ?_)
  obtain ⟨A, c, rfl⟩ := hvv
  generalize ho : oneM [1, 2, 3, 4, 5, 6, 7] (readT valT d (bs s)) = o
  refine GL.w .alloc rfl (fun b7 _ => GL.w0 (.store 0 rfl rfl rfl rfl rfl rfl rfl) (fun _ _ => GL.nil (GN.seq (GC.seq (?_)))))
  refine GC.ent (Ent.front 2 _ _ rfl) ?_
  refine GC.open ?_
  rintro x hx
  refine GC.draw ([Blk g 93 5 [(1, .string (mkS (readU valT d (bs s))))], Blk b7 230 4 (args0 0 (oneC o (.slice A o.all.length c)))]) (m := 9) rfl (by repeat (first | exact Ent.nil _ | (with_reducible exact Ent.refl _) | refine Ent.blk (by repeat (first | exact Sub.nil _ | refine Sub.cons rfl ?_)) ?_ | refine Ent.cons _ ?_ | refine Ent.trans (Ent.tail _ _) ?_)) ?_
  refine GA.take 0 rfl (by kernel_rfl) (by kernel_rfl) (by kernel_rfl) (.fieldAddr rfl) rfl (GA.take 1 rfl (by kernel_rfl) (by kernel_rfl) (by kernel_rfl) (.ld 1 rfl rfl rfl) rfl (GA.take 2 rfl (by kernel_rfl) (by kernel_rfl) (by kernel_rfl) (.move rfl) rfl (GA.take 3 rfl (by kernel_rfl) (by kernel_rfl) (by kernel_rfl) (.nilCheck rfl) rfl (GA.take 4 rfl (by kernel_rfl) (by kernel_rfl) (by kernel_rfl) (.fieldAddr rfl) rfl (GA.take 5 rfl (by kernel_rfl) (by kernel_rfl) (by kernel_rfl) (.ld 0 rfl rfl rfl) rfl (GA.take 6 rfl (by kernel_rfl) (by kernel_rfl) (by kernel_rfl) (.build (cs := [_, _, _, _, _, _, _, _]) rfl rfl) rfl (?_)))))))
  refine GA.one 7 (by kernel_rfl) (GAi.w rfl .alloc rfl (fun _ _ => (by repeat (first | exact Ent.nil _ | (with_reducible exact Ent.refl _) | refine Ent.blk (by repeat (first | exact Sub.nil _ | refine Sub.cons rfl ?_)) ?_ | refine Ent.cons _ ?_ | refine Ent.trans (Ent.tail _ _) ?_))) (fun b8 _ => ?_))
  refine GA.one 8 (by kernel_rfl) (GAi.w0 rfl (.store 0 rfl rfl rfl rfl rfl rfl rfl) (fun _ _ => (by repeat (first | exact Ent.nil _ | (with_reducible exact Ent.refl _) | refine Ent.blk (by repeat (first | exact Sub.nil _ | refine Sub.cons rfl ?_)) ?_ | refine Ent.cons _ ?_ | refine Ent.trans (Ent.tail _ _) ?_))) (fun _ _ => ?_))
  refine GA.done (by kernel_rfl) (?_)
  have hxx : x = .nilIface ∨ ∃ t u, x = .iface t u := by
    rcases hx with ⟨_, h⟩ | ⟨_, h⟩
    · exact .inl h
    · exact .inr h
  refine GN.seq (GC.seq (GC.seq (GC.region (GL.v (.fieldAddr rfl) rfl (GL.v (.ld 4 rfl rfl rfl) rfl (GL.nil (GN.seq (GC.block (GC.seq (GC.seq (GC.region (GL.v (.eql rfl rfl) rfl (GL.v (.assign rfl) rfl (GL.nil (GN.seq (?_))))))))))))))))
  refine GC.condD rfl (fun h1 => ?_) (fun h1 => ?_)
  · refine GC.skip (GN.seq (GC.cond rfl (fun _ => ?_) (fun h => by first | (have := of_decide_eq_false h; contradiction) | (have := of_decide_eq_true h; contradiction) | (cases h; done))))
    refine GC.region (GL.v (.fieldAddr rfl) rfl (GL.v (.ld 4 rfl rfl rfl) rfl (GL.v (.fieldAddr rfl) rfl (GL.w0 (.store 0 rfl rfl rfl rfl rfl rfl rfl) (fun _ _ => GL.nil (GN.blk (GN.seq (GC.seq (GC.seq (GC.region (GL.v (.move rfl) rfl (GL.v (.nilCheck rfl) rfl (GL.v (.fieldAddr rfl) rfl (GL.v (.ld 1 rfl rfl rfl) rfl (GL.v (.neqNil rfl (by first | exact .inl rfl | exact .inr ⟨_, _, rfl⟩ | assumption)) rfl (GL.nil (GN.seq (?_))))))))))))))))))
    refine GC.cond rfl (fun hnn => ?_) (fun hnn => ?_)
    · rcases hx with ⟨hn0, rfl⟩ | ⟨⟨oc, hoc⟩, t', u', rfl⟩
      · cases hnn
      have hE := valE d (bs s)
      simp only [ho, if_neg (show ¬ o.num = 5 by omega), if_neg (show ¬ o.num = 6 by omega)] at hE
      refine GC.seq (?_)
      refine GC.draw ([Blk g 93 5 [(0, .iface t' u')]]) (m := 7) rfl (by repeat (first | exact Ent.nil _ | (with_reducible exact Ent.refl _) | refine Ent.blk (by repeat (first | exact Sub.nil _ | refine Sub.cons rfl ?_)) ?_ | refine Ent.cons _ ?_ | refine Ent.trans (Ent.tail _ _) ?_)) ?_
      refine GA.take 0 rfl (by kernel_rfl) (by kernel_rfl) (by kernel_rfl) (.build (cs := [_, _, _, _, _, _, _, _]) rfl rfl) rfl (GA.take 1 rfl (by kernel_rfl) (by kernel_rfl) (by kernel_rfl) (.move rfl) rfl (GA.take 2 rfl (by kernel_rfl) (by kernel_rfl) (by kernel_rfl) (.nilCheck rfl) rfl (GA.take 3 rfl (by kernel_rfl) (by kernel_rfl) (by kernel_rfl) (.fieldAddr rfl) rfl (GA.take 4 rfl (by kernel_rfl) (by kernel_rfl) (by kernel_rfl) (.ld 0 rfl rfl rfl) rfl (?_)))))
      refine GA.one 5 (by kernel_rfl) (GAi.w0 rfl (.store 6 rfl rfl rfl rfl rfl rfl rfl) (fun _ _ => (by repeat (first | exact Ent.nil _ | (with_reducible exact Ent.refl _) | refine Ent.blk (by repeat (first | exact Sub.nil _ | refine Sub.cons rfl ?_)) ?_ | refine Ent.cons _ ?_ | refine Ent.trans (Ent.tail _ _) ?_))) (fun _ _ => ?_))
      refine GA.take 6 rfl (by kernel_rfl) (by kernel_rfl) (by kernel_rfl) (.assign rfl) rfl (GA.done (by kernel_rfl) (?_))
      refine GN.seq (GC.ret (?_))
      refine GR.cell2 6 [.int .i64 0, .string emptyS, .bool false, .int .u64 0, .slice none 0 0, .slice none 0 0, .string emptyS, .string emptyS] rfl rfl rfl rfl rfl rfl ⟨rfl, rfl, rfl, rfl, rfl, rfl, rfl, rfl, trivial⟩ ([.int .i64 0, .string emptyS, .bool false, .int .u64 0, .slice none 0 0, .slice none 0 0, .string emptyS, .string emptyS], .iface t' u') rfl (Ent.trans (Ent.trans (Ent.front 2 _ _ rfl) (Ent.cons _ (Ent.trans (Ent.front 6 _ _ rfl) (Ent.cons _ (Ent.nil _))))) ?_) ⟨rfl, rfl⟩
      cases hkm : valM d (bs s) with
      | ok a => rw [hkm] at hE; rw [hoc] at hE; cases hE
      | error oc2 =>
        rw [hkm] at hE
        simp only [hE]
        exact Ent.intro (A := (resF valF (.error oc2) _).hp) (fun _ => trivial) _
    · rcases hx with ⟨hn0, rfl⟩ | ⟨_, t', u', rfl⟩
      · have hE := valE d (bs s)
        simp only [ho, if_neg (show ¬ o.num = 5 by omega), if_neg (show ¬ o.num = 6 by omega)] at hE
        refine GC.skip (GN.seq (GC.seq (GC.region (GL.v (.ldN 0 [_, _, _, _, _, _, _, _] rfl rfl rfl ⟨rfl, rfl, rfl, rfl, rfl, rfl, rfl, rfl, trivial⟩) rfl (GL.w0 (.store 6 rfl rfl rfl rfl rfl rfl rfl) (fun _ _ => GL.v (.assign rfl) rfl (GL.nil (GN.seq (GC.ret (?_))))))))))
        refine GR.cell2 6 [.int .i64 (o.num : Int), .string (mkS o.s), .bool false, .int .u64 ((0 : Nat) : Int), .slice none 0 0, .slice none 0 0, .string emptyS, .string (mkS (readU valT d (bs s)))] rfl rfl rfl rfl rfl rfl ⟨rfl, rfl, rfl, rfl, rfl, rfl, rfl, rfl, trivial⟩ (_, .nilIface) rfl (Ent.trans (Ent.trans (Ent.front 2 _ _ rfl) (Ent.cons _ (Ent.trans (Ent.front 6 _ _ rfl) (Ent.cons _ (Ent.nil _))))) ?_) ⟨rfl, rfl⟩
        simp only [hE]
        have hf := fun Hs => plain_fin d (bs s) false 0 o.s (by rw [ho]; omega) (by rw [ho]; omega) (by rw [ho]; first | rw [if_pos (by omega)] | rw [if_neg (by omega)]) (by rw [ho]; first | (symm; rw [decide_eq_false_iff_not]; omega) | (rw [decide_eq_decide]; omega)) (by rw [ho]; first | rw [if_pos (by omega)] | rw [if_neg (by omega)]) Hs
        simp only [ho] at hf
        exact hf _
      · cases hnn
  · refine GC.region (GL.v (.eql rfl rfl) rfl (GL.v (.assign rfl) rfl (GL.nil (GN.seq (?_)))))
    refine GC.condD rfl (fun h7 => ?_) (fun h7 => ?_)
    · refine GC.region (GL.v (.fieldAddr rfl) rfl (GL.v (.ld 4 rfl rfl rfl) rfl (GL.v (.fieldAddr rfl) rfl (GL.w0 (.store 0 rfl rfl rfl rfl rfl rfl rfl) (fun _ _ => GL.nil (GN.blk (GN.seq (GC.seq (GC.seq (GC.region (GL.v (.move rfl) rfl (GL.v (.nilCheck rfl) rfl (GL.v (.fieldAddr rfl) rfl (GL.v (.ld 1 rfl rfl rfl) rfl (GL.v (.neqNil rfl (by first | exact .inl rfl | exact .inr ⟨_, _, rfl⟩ | assumption)) rfl (GL.nil (GN.seq (?_))))))))))))))))))
      refine GC.cond rfl (fun hnn => ?_) (fun hnn => ?_)
      · rcases hx with ⟨hn0, rfl⟩ | ⟨⟨oc, hoc⟩, t', u', rfl⟩
        · cases hnn
        have hE := valE d (bs s)
        simp only [ho, if_neg (show ¬ o.num = 5 by omega), if_neg (show ¬ o.num = 6 by omega)] at hE
        refine GC.seq (?_)
        refine GC.draw ([Blk g 93 5 [(0, .iface t' u')]]) (m := 7) rfl (by repeat (first | exact Ent.nil _ | (with_reducible exact Ent.refl _) | refine Ent.blk (by repeat (first | exact Sub.nil _ | refine Sub.cons rfl ?_)) ?_ | refine Ent.cons _ ?_ | refine Ent.trans (Ent.tail _ _) ?_)) ?_
        refine GA.take 0 rfl (by kernel_rfl) (by kernel_rfl) (by kernel_rfl) (.build (cs := [_, _, _, _, _, _, _, _]) rfl rfl) rfl (GA.take 1 rfl (by kernel_rfl) (by kernel_rfl) (by kernel_rfl) (.move rfl) rfl (GA.take 2 rfl (by kernel_rfl) (by kernel_rfl) (by kernel_rfl) (.nilCheck rfl) rfl (GA.take 3 rfl (by kernel_rfl) (by kernel_rfl) (by kernel_rfl) (.fieldAddr rfl) rfl (GA.take 4 rfl (by kernel_rfl) (by kernel_rfl) (by kernel_rfl) (.ld 0 rfl rfl rfl) rfl (?_)))))
        refine GA.one 5 (by kernel_rfl) (GAi.w0 rfl (.store 6 rfl rfl rfl rfl rfl rfl rfl) (fun _ _ => (by repeat (first | exact Ent.nil _ | (with_reducible exact Ent.refl _) | refine Ent.blk (by repeat (first | exact Sub.nil _ | refine Sub.cons rfl ?_)) ?_ | refine Ent.cons _ ?_ | refine Ent.trans (Ent.tail _ _) ?_))) (fun _ _ => ?_))
        refine GA.take 6 rfl (by kernel_rfl) (by kernel_rfl) (by kernel_rfl) (.assign rfl) rfl (GA.done (by kernel_rfl) (?_))
        refine GN.seq (GC.ret (?_))
        refine GR.cell2 6 [.int .i64 0, .string emptyS, .bool false, .int .u64 0, .slice none 0 0, .slice none 0 0, .string emptyS, .string emptyS] rfl rfl rfl rfl rfl rfl ⟨rfl, rfl, rfl, rfl, rfl, rfl, rfl, rfl, trivial⟩ ([.int .i64 0, .string emptyS, .bool false, .int .u64 0, .slice none 0 0, .slice none 0 0, .string emptyS, .string emptyS], .iface t' u') rfl (Ent.trans (Ent.trans (Ent.front 2 _ _ rfl) (Ent.cons _ (Ent.trans (Ent.front 6 _ _ rfl) (Ent.cons _ (Ent.nil _))))) ?_) ⟨rfl, rfl⟩
        cases hkm : valM d (bs s) with
        | ok a => rw [hkm] at hE; rw [hoc] at hE; cases hE
        | error oc2 =>
          rw [hkm] at hE
          simp only [hE]
          exact Ent.intro (A := (resF valF (.error oc2) _).hp) (fun _ => trivial) _
      · rcases hx with ⟨hn0, rfl⟩ | ⟨_, t', u', rfl⟩
        · have hE := valE d (bs s)
          simp only [ho, if_neg (show ¬ o.num = 5 by omega), if_neg (show ¬ o.num = 6 by omega)] at hE
          refine GC.skip (GN.seq (GC.seq (GC.region (GL.v (.ldN 0 [_, _, _, _, _, _, _, _] rfl rfl rfl ⟨rfl, rfl, rfl, rfl, rfl, rfl, rfl, rfl, trivial⟩) rfl (GL.w0 (.store 6 rfl rfl rfl rfl rfl rfl rfl) (fun _ _ => GL.v (.assign rfl) rfl (GL.nil (GN.seq (GC.ret (?_))))))))))
          refine GR.cell2 6 [.int .i64 (o.num : Int), .string (mkS o.s), .bool false, .int .u64 ((0 : Nat) : Int), .slice none 0 0, .slice none 0 0, .string emptyS, .string (mkS (readU valT d (bs s)))] rfl rfl rfl rfl rfl rfl ⟨rfl, rfl, rfl, rfl, rfl, rfl, rfl, rfl, trivial⟩ (_, .nilIface) rfl (Ent.trans (Ent.trans (Ent.front 2 _ _ rfl) (Ent.cons _ (Ent.trans (Ent.front 6 _ _ rfl) (Ent.cons _ (Ent.nil _))))) ?_) ⟨rfl, rfl⟩
          simp only [hE]
          have hf := fun Hs => plain_fin d (bs s) false 0 o.s (by rw [ho]; omega) (by rw [ho]; omega) (by rw [ho]; first | rw [if_pos (by omega)] | rw [if_neg (by omega)]) (by rw [ho]; first | (symm; rw [decide_eq_false_iff_not]; omega) | (rw [decide_eq_decide]; omega)) (by rw [ho]; first | rw [if_pos (by omega)] | rw [if_neg (by omega)]) Hs
          simp only [ho] at hf
          exact hf _
        · cases hnn
    · refine GC.seq (GC.region (GL.v (.eql rfl rfl) rfl (GL.v (.assign rfl) rfl (GL.nil (GN.seq (?_))))))
      refine GC.condD rfl (fun h2 => ?_) (fun h2 => ?_)
      · refine GC.region (GL.v (.fieldAddr rfl) rfl (GL.v (.ld 4 rfl rfl rfl) rfl (GL.v (.gtr rfl rfl) rfl (GL.v (.fieldAddr rfl) rfl (GL.w0 (.store 0 rfl rfl rfl rfl rfl rfl rfl) (fun _ _ => GL.nil (GN.blk (GN.seq (GC.seq (GC.seq (GC.region (GL.v (.move rfl) rfl (GL.v (.nilCheck rfl) rfl (GL.v (.fieldAddr rfl) rfl (GL.v (.ld 1 rfl rfl rfl) rfl (GL.v (.neqNil rfl (by first | exact .inl rfl | exact .inr ⟨_, _, rfl⟩ | assumption)) rfl (GL.nil (GN.seq (?_)))))))))))))))))))
        refine GC.cond rfl (fun hnn => ?_) (fun hnn => ?_)
        · rcases hx with ⟨hn0, rfl⟩ | ⟨⟨oc, hoc⟩, t', u', rfl⟩
          · cases hnn
          have hE := valE d (bs s)
          simp only [ho, if_neg (show ¬ o.num = 5 by omega), if_neg (show ¬ o.num = 6 by omega)] at hE
          refine GC.seq (?_)
          refine GC.draw ([Blk g 93 5 [(0, .iface t' u')]]) (m := 7) rfl (by repeat (first | exact Ent.nil _ | (with_reducible exact Ent.refl _) | refine Ent.blk (by repeat (first | exact Sub.nil _ | refine Sub.cons rfl ?_)) ?_ | refine Ent.cons _ ?_ | refine Ent.trans (Ent.tail _ _) ?_)) ?_
          refine GA.take 0 rfl (by kernel_rfl) (by kernel_rfl) (by kernel_rfl) (.build (cs := [_, _, _, _, _, _, _, _]) rfl rfl) rfl (GA.take 1 rfl (by kernel_rfl) (by kernel_rfl) (by kernel_rfl) (.move rfl) rfl (GA.take 2 rfl (by kernel_rfl) (by kernel_rfl) (by kernel_rfl) (.nilCheck rfl) rfl (GA.take 3 rfl (by kernel_rfl) (by kernel_rfl) (by kernel_rfl) (.fieldAddr rfl) rfl (GA.take 4 rfl (by kernel_rfl) (by kernel_rfl) (by kernel_rfl) (.ld 0 rfl rfl rfl) rfl (?_)))))
          refine GA.one 5 (by kernel_rfl) (GAi.w0 rfl (.store 6 rfl rfl rfl rfl rfl rfl rfl) (fun _ _ => (by repeat (first | exact Ent.nil _ | (with_reducible exact Ent.refl _) | refine Ent.blk (by repeat (first | exact Sub.nil _ | refine Sub.cons rfl ?_)) ?_ | refine Ent.cons _ ?_ | refine Ent.trans (Ent.tail _ _) ?_))) (fun _ _ => ?_))
          refine GA.take 6 rfl (by kernel_rfl) (by kernel_rfl) (by kernel_rfl) (.assign rfl) rfl (GA.done (by kernel_rfl) (?_))
          refine GN.seq (GC.ret (?_))
          refine GR.cell2 6 [.int .i64 0, .string emptyS, .bool false, .int .u64 0, .slice none 0 0, .slice none 0 0, .string emptyS, .string emptyS] rfl rfl rfl rfl rfl rfl ⟨rfl, rfl, rfl, rfl, rfl, rfl, rfl, rfl, trivial⟩ ([.int .i64 0, .string emptyS, .bool false, .int .u64 0, .slice none 0 0, .slice none 0 0, .string emptyS, .string emptyS], .iface t' u') rfl (Ent.trans (Ent.trans (Ent.front 2 _ _ rfl) (Ent.cons _ (Ent.trans (Ent.front 6 _ _ rfl) (Ent.cons _ (Ent.nil _))))) ?_) ⟨rfl, rfl⟩
          cases hkm : valM d (bs s) with
          | ok a => rw [hkm] at hE; rw [hoc] at hE; cases hE
          | error oc2 =>
            rw [hkm] at hE
            simp only [hE]
            exact Ent.intro (A := (resF valF (.error oc2) _).hp) (fun _ => trivial) _
        · rcases hx with ⟨hn0, rfl⟩ | ⟨_, t', u', rfl⟩
          · have hE := valE d (bs s)
            simp only [ho, if_neg (show ¬ o.num = 5 by omega), if_neg (show ¬ o.num = 6 by omega)] at hE
            refine GC.skip (GN.seq (GC.seq (GC.region (GL.v (.ldN 0 [_, _, _, _, _, _, _, _] rfl rfl rfl ⟨rfl, rfl, rfl, rfl, rfl, rfl, rfl, rfl, trivial⟩) rfl (GL.w0 (.store 6 rfl rfl rfl rfl rfl rfl rfl) (fun _ _ => GL.v (.assign rfl) rfl (GL.nil (GN.seq (GC.ret (?_))))))))))
            refine GR.cell2 6 [.int .i64 (o.num : Int), .string (mkS []), .bool (decide (0 < (o.n : Int))), .int .u64 ((0 : Nat) : Int), .slice none 0 0, .slice none 0 0, .string emptyS, .string (mkS (readU valT d (bs s)))] rfl rfl rfl rfl rfl rfl ⟨rfl, rfl, rfl, rfl, rfl, rfl, rfl, rfl, trivial⟩ (_, .nilIface) rfl (Ent.trans (Ent.trans (Ent.front 2 _ _ rfl) (Ent.cons _ (Ent.trans (Ent.front 6 _ _ rfl) (Ent.cons _ (Ent.nil _))))) ?_) ⟨rfl, rfl⟩
            simp only [hE]
            have hf := fun Hs => plain_fin d (bs s) (decide (0 < (o.n : Int))) 0 [] (by rw [ho]; omega) (by rw [ho]; omega) (by rw [ho]; first | rw [if_pos (by omega)] | rw [if_neg (by omega)]) (by rw [ho]; first | (symm; rw [decide_eq_false_iff_not]; omega) | (rw [decide_eq_decide]; omega)) (by rw [ho]; first | rw [if_pos (by omega)] | rw [if_neg (by omega)]) Hs
            simp only [ho] at hf
            exact hf _
          · cases hnn
      · refine GC.seq (GC.seq (GC.region (GL.v (.eql rfl rfl) rfl (GL.v (.assign rfl) rfl (GL.nil (GN.seq (?_)))))))
        refine GC.condD rfl (fun h3 => ?_) (fun h3 => ?_)
        · refine GC.skip (GN.seq (GC.cond rfl (fun _ => ?_) (fun h => by first | (have := of_decide_eq_false h; contradiction) | (have := of_decide_eq_true h; contradiction) | (cases h; done))))
          refine GC.region (GL.v (.fieldAddr rfl) rfl (GL.v (.ld 4 rfl rfl rfl) rfl (GL.v (.fieldAddr rfl) rfl (GL.w0 (.store 0 rfl rfl rfl rfl rfl rfl rfl) (fun _ _ => GL.nil (GN.blk (GN.seq (GC.seq (GC.seq (GC.region (GL.v (.move rfl) rfl (GL.v (.nilCheck rfl) rfl (GL.v (.fieldAddr rfl) rfl (GL.v (.ld 1 rfl rfl rfl) rfl (GL.v (.neqNil rfl (by first | exact .inl rfl | exact .inr ⟨_, _, rfl⟩ | assumption)) rfl (GL.nil (GN.seq (?_))))))))))))))))))
          refine GC.cond rfl (fun hnn => ?_) (fun hnn => ?_)
          · rcases hx with ⟨hn0, rfl⟩ | ⟨⟨oc, hoc⟩, t', u', rfl⟩
            · cases hnn
            have hE := valE d (bs s)
            simp only [ho, if_neg (show ¬ o.num = 5 by omega), if_neg (show ¬ o.num = 6 by omega)] at hE
            refine GC.seq (?_)
            refine GC.draw ([Blk g 93 5 [(0, .iface t' u')]]) (m := 7) rfl (by repeat (first | exact Ent.nil _ | (with_reducible exact Ent.refl _) | refine Ent.blk (by repeat (first | exact Sub.nil _ | refine Sub.cons rfl ?_)) ?_ | refine Ent.cons _ ?_ | refine Ent.trans (Ent.tail _ _) ?_)) ?_
            refine GA.take 0 rfl (by kernel_rfl) (by kernel_rfl) (by kernel_rfl) (.build (cs := [_, _, _, _, _, _, _, _]) rfl rfl) rfl (GA.take 1 rfl (by kernel_rfl) (by kernel_rfl) (by kernel_rfl) (.move rfl) rfl (GA.take 2 rfl (by kernel_rfl) (by kernel_rfl) (by kernel_rfl) (.nilCheck rfl) rfl (GA.take 3 rfl (by kernel_rfl) (by kernel_rfl) (by kernel_rfl) (.fieldAddr rfl) rfl (GA.take 4 rfl (by kernel_rfl) (by kernel_rfl) (by kernel_rfl) (.ld 0 rfl rfl rfl) rfl (?_)))))
            refine GA.one 5 (by kernel_rfl) (GAi.w0 rfl (.store 6 rfl rfl rfl rfl rfl rfl rfl) (fun _ _ => (by repeat (first | exact Ent.nil _ | (with_reducible exact Ent.refl _) | refine Ent.blk (by repeat (first | exact Sub.nil _ | refine Sub.cons rfl ?_)) ?_ | refine Ent.cons _ ?_ | refine Ent.trans (Ent.tail _ _) ?_))) (fun _ _ => ?_))
            refine GA.take 6 rfl (by kernel_rfl) (by kernel_rfl) (by kernel_rfl) (.assign rfl) rfl (GA.done (by kernel_rfl) (?_))
            refine GN.seq (GC.ret (?_))
            refine GR.cell2 6 [.int .i64 0, .string emptyS, .bool false, .int .u64 0, .slice none 0 0, .slice none 0 0, .string emptyS, .string emptyS] rfl rfl rfl rfl rfl rfl ⟨rfl, rfl, rfl, rfl, rfl, rfl, rfl, rfl, trivial⟩ ([.int .i64 0, .string emptyS, .bool false, .int .u64 0, .slice none 0 0, .slice none 0 0, .string emptyS, .string emptyS], .iface t' u') rfl (Ent.trans (Ent.trans (Ent.front 2 _ _ rfl) (Ent.cons _ (Ent.trans (Ent.front 6 _ _ rfl) (Ent.cons _ (Ent.nil _))))) ?_) ⟨rfl, rfl⟩
            cases hkm : valM d (bs s) with
            | ok a => rw [hkm] at hE; rw [hoc] at hE; cases hE
            | error oc2 =>
              rw [hkm] at hE
              simp only [hE]
              exact Ent.intro (A := (resF valF (.error oc2) _).hp) (fun _ => trivial) _
          · rcases hx with ⟨hn0, rfl⟩ | ⟨_, t', u', rfl⟩
            · have hE := valE d (bs s)
              simp only [ho, if_neg (show ¬ o.num = 5 by omega), if_neg (show ¬ o.num = 6 by omega)] at hE
              refine GC.skip (GN.seq (GC.seq (GC.region (GL.v (.ldN 0 [_, _, _, _, _, _, _, _] rfl rfl rfl ⟨rfl, rfl, rfl, rfl, rfl, rfl, rfl, rfl, trivial⟩) rfl (GL.w0 (.store 6 rfl rfl rfl rfl rfl rfl rfl) (fun _ _ => GL.v (.assign rfl) rfl (GL.nil (GN.seq (GC.ret (?_))))))))))
              refine GR.cell2 6 [.int .i64 (o.num : Int), .string (mkS []), .bool false, .int .u64 ((o.n : Nat) : Int), .slice none 0 0, .slice none 0 0, .string emptyS, .string (mkS (readU valT d (bs s)))] rfl rfl rfl rfl rfl rfl ⟨rfl, rfl, rfl, rfl, rfl, rfl, rfl, rfl, trivial⟩ (_, .nilIface) rfl (Ent.trans (Ent.trans (Ent.front 2 _ _ rfl) (Ent.cons _ (Ent.trans (Ent.front 6 _ _ rfl) (Ent.cons _ (Ent.nil _))))) ?_) ⟨rfl, rfl⟩
              simp only [hE]
              have hf := fun Hs => plain_fin d (bs s) false o.n [] (by rw [ho]; omega) (by rw [ho]; omega) (by rw [ho]; first | rw [if_pos (by omega)] | rw [if_neg (by omega)]) (by rw [ho]; first | (symm; rw [decide_eq_false_iff_not]; omega) | (rw [decide_eq_decide]; omega)) (by rw [ho]; first | rw [if_pos (by omega)] | rw [if_neg (by omega)]) Hs
              simp only [ho] at hf
              exact hf _
            · cases hnn
        · refine GC.region (GL.v (.eql rfl rfl) rfl (GL.v (.assign rfl) rfl (GL.nil (GN.seq (?_)))))
          refine GC.condD rfl (fun h4 => ?_) (fun h4 => ?_)
          · refine GC.region (GL.v (.fieldAddr rfl) rfl (GL.v (.ld 4 rfl rfl rfl) rfl (GL.v (.fieldAddr rfl) rfl (GL.w0 (.store 0 rfl rfl rfl rfl rfl rfl rfl) (fun _ _ => GL.nil (GN.blk (GN.seq (GC.seq (GC.seq (GC.region (GL.v (.move rfl) rfl (GL.v (.nilCheck rfl) rfl (GL.v (.fieldAddr rfl) rfl (GL.v (.ld 1 rfl rfl rfl) rfl (GL.v (.neqNil rfl (by first | exact .inl rfl | exact .inr ⟨_, _, rfl⟩ | assumption)) rfl (GL.nil (GN.seq (?_))))))))))))))))))
            refine GC.cond rfl (fun hnn => ?_) (fun hnn => ?_)
            · rcases hx with ⟨hn0, rfl⟩ | ⟨⟨oc, hoc⟩, t', u', rfl⟩
              · cases hnn
              have hE := valE d (bs s)
              simp only [ho, if_neg (show ¬ o.num = 5 by omega), if_neg (show ¬ o.num = 6 by omega)] at hE
              refine GC.seq (?_)
              refine GC.draw ([Blk g 93 5 [(0, .iface t' u')]]) (m := 7) rfl (by repeat (first | exact Ent.nil _ | (with_reducible exact Ent.refl _) | refine Ent.blk (by repeat (first | exact Sub.nil _ | refine Sub.cons rfl ?_)) ?_ | refine Ent.cons _ ?_ | refine Ent.trans (Ent.tail _ _) ?_)) ?_
              refine GA.take 0 rfl (by kernel_rfl) (by kernel_rfl) (by kernel_rfl) (.build (cs := [_, _, _, _, _, _, _, _]) rfl rfl) rfl (GA.take 1 rfl (by kernel_rfl) (by kernel_rfl) (by kernel_rfl) (.move rfl) rfl (GA.take 2 rfl (by kernel_rfl) (by kernel_rfl) (by kernel_rfl) (.nilCheck rfl) rfl (GA.take 3 rfl (by kernel_rfl) (by kernel_rfl) (by kernel_rfl) (.fieldAddr rfl) rfl (GA.take 4 rfl (by kernel_rfl) (by kernel_rfl) (by kernel_rfl) (.ld 0 rfl rfl rfl) rfl (?_)))))
              refine GA.one 5 (by kernel_rfl) (GAi.w0 rfl (.store 6 rfl rfl rfl rfl rfl rfl rfl) (fun _ _ => (by repeat (first | exact Ent.nil _ | (with_reducible exact Ent.refl _) | refine Ent.blk (by repeat (first | exact Sub.nil _ | refine Sub.cons rfl ?_)) ?_ | refine Ent.cons _ ?_ | refine Ent.trans (Ent.tail _ _) ?_))) (fun _ _ => ?_))
              refine GA.take 6 rfl (by kernel_rfl) (by kernel_rfl) (by kernel_rfl) (.assign rfl) rfl (GA.done (by kernel_rfl) (?_))
              refine GN.seq (GC.ret (?_))
              refine GR.cell2 6 [.int .i64 0, .string emptyS, .bool false, .int .u64 0, .slice none 0 0, .slice none 0 0, .string emptyS, .string emptyS] rfl rfl rfl rfl rfl rfl ⟨rfl, rfl, rfl, rfl, rfl, rfl, rfl, rfl, trivial⟩ ([.int .i64 0, .string emptyS, .bool false, .int .u64 0, .slice none 0 0, .slice none 0 0, .string emptyS, .string emptyS], .iface t' u') rfl (Ent.trans (Ent.trans (Ent.front 2 _ _ rfl) (Ent.cons _ (Ent.trans (Ent.front 6 _ _ rfl) (Ent.cons _ (Ent.nil _))))) ?_) ⟨rfl, rfl⟩
              cases hkm : valM d (bs s) with
              | ok a => rw [hkm] at hE; rw [hoc] at hE; cases hE
              | error oc2 =>
                rw [hkm] at hE
                simp only [hE]
                exact Ent.intro (A := (resF valF (.error oc2) _).hp) (fun _ => trivial) _
            · rcases hx with ⟨hn0, rfl⟩ | ⟨_, t', u', rfl⟩
              · have hE := valE d (bs s)
                simp only [ho, if_neg (show ¬ o.num = 5 by omega), if_neg (show ¬ o.num = 6 by omega)] at hE
                refine GC.skip (GN.seq (GC.seq (GC.region (GL.v (.ldN 0 [_, _, _, _, _, _, _, _] rfl rfl rfl ⟨rfl, rfl, rfl, rfl, rfl, rfl, rfl, rfl, trivial⟩) rfl (GL.w0 (.store 6 rfl rfl rfl rfl rfl rfl rfl) (fun _ _ => GL.v (.assign rfl) rfl (GL.nil (GN.seq (GC.ret (?_))))))))))
                refine GR.cell2 6 [.int .i64 (o.num : Int), .string (mkS []), .bool false, .int .u64 ((o.n : Nat) : Int), .slice none 0 0, .slice none 0 0, .string emptyS, .string (mkS (readU valT d (bs s)))] rfl rfl rfl rfl rfl rfl ⟨rfl, rfl, rfl, rfl, rfl, rfl, rfl, rfl, trivial⟩ (_, .nilIface) rfl (Ent.trans (Ent.trans (Ent.front 2 _ _ rfl) (Ent.cons _ (Ent.trans (Ent.front 6 _ _ rfl) (Ent.cons _ (Ent.nil _))))) ?_) ⟨rfl, rfl⟩
                simp only [hE]
                have hf := fun Hs => plain_fin d (bs s) false o.n [] (by rw [ho]; omega) (by rw [ho]; omega) (by rw [ho]; first | rw [if_pos (by omega)] | rw [if_neg (by omega)]) (by rw [ho]; first | (symm; rw [decide_eq_false_iff_not]; omega) | (rw [decide_eq_decide]; omega)) (by rw [ho]; first | rw [if_pos (by omega)] | rw [if_neg (by omega)]) Hs
                simp only [ho] at hf
                exact hf _
              · cases hnn
          · refine GC.seq (GC.region (GL.v (.eql rfl rfl) rfl (GL.v (.assign rfl) rfl (GL.nil (GN.seq (?_))))))
            refine GC.condD rfl (fun h5 => ?_) (fun h5 => ?_)
            · have hne : readT valT d (bs s) ≠ [] := fun e => by rw [e] at ho; rw [← ho] at h5; simp [oneM, one0] at h5
              have hd0 := hM.2.2 hne
              have hE := valE d (bs s)
              refine GC.seq (?_)
              refine GC.ent (Ent.front 3 _ _ rfl) ?_
              refine GC.ent (Ent.front 3 _ _ rfl) ?_
              refine GC.ent (Ent.front 3 _ _ rfl) ?_
              refine GC.ent (Ent.close (Bs := RdS1 g ⟨mkS (readU valT d (bs s)), d, s.size, v0, readT valT d (bs s)⟩ _) (p := RdS2 _) x hx _) ?_
              refine GC.draw ([Blk b7 230 4 (args0 0 (oneC o (.slice A o.all.length c)))]) (m := 6) rfl (by repeat (first | exact Ent.nil _ | (with_reducible exact Ent.refl _) | refine Ent.blk (by repeat (first | exact Sub.nil _ | refine Sub.cons rfl ?_)) ?_ | refine Ent.cons _ ?_ | refine Ent.trans (Ent.tail _ _) ?_)) ?_
              have hJ : o.all.flatten.length ≤ N := by
                have := oneM_len_flat valT d (bs s) [1, 2, 3, 4, 5, 6, 7]
                rw [ho, bs_length] at this; omega
              have hol : o.all.length ≤ 4294967296 := by
                have := oneM_len [1, 2, 3, 4, 5, 6, 7] (readT valT d (bs s))
                rw [ho] at this; omega
              refine GV.enter 4 rfl ?_
              refine GV.take 0 rfl rfl (by kernel_rfl) (by kernel_rfl) (by kernel_rfl) (by kernel_rfl) (by kernel_rfl) (.move rfl) rfl (GV.take 1 rfl rfl (by kernel_rfl) (by kernel_rfl) (by kernel_rfl) (by kernel_rfl) (by kernel_rfl) (.ldN 0 [_, _, _, _] rfl rfl rfl ⟨rfl, rfl, rfl, rfl, trivial⟩) rfl (?_))
              refine GV.call 2 (As := []) (by kernel_rfl) (by kernel_rfl) rfl rfl rfl rfl rfl rfl (fun w hst => mkLists_val 127 w) rfl (by repeat (first | exact Ent.nil _ | (with_reducible exact Ent.refl _) | refine Ent.blk (by repeat (first | exact Sub.nil _ | refine Sub.cons rfl ?_)) ?_ | refine Ent.cons _ ?_ | refine Ent.trans (Ent.tail _ _) ?_)) (fun bx _ => (by repeat (first | exact Ent.nil _ | (with_reducible exact Ent.refl _) | refine Ent.blk (by repeat (first | exact Sub.nil _ | refine Sub.cons rfl ?_)) ?_ | refine Ent.cons _ ?_ | refine Ent.trans (Ent.tail _ _) ?_))) (fun bx _ => ?_)
              refine GV.ent (Ent.front 4 _ _ rfl) ?_
              refine GV.ent (Ent.front 2 _ _ rfl) ?_
              refine GV.call 3 (As := [_, _, _]) (by kernel_rfl) (by kernel_rfl) rfl rfl rfl rfl rfl rfl (fun w hst => Inner_val g _ _ o A c (lists_val 127 valM N hN (d - 1) (by omega) (by omega) (fun _ => by have := hv hd0; rwa [show d - 2 = d - 1 - 1 by omega] at this) bx) hsm hJ hmx hol hd0 hd2 w) rfl (by repeat (first | exact Ent.nil _ | (with_reducible exact Ent.refl _) | refine Ent.blk (by repeat (first | exact Sub.nil _ | refine Sub.cons rfl ?_)) ?_ | refine Ent.cons _ ?_ | refine Ent.trans (Ent.tail _ _) ?_)) (fun cs hcs => (by repeat (first | exact Ent.nil _ | (with_reducible exact Ent.refl _) | refine Ent.blk (by repeat (first | exact Sub.nil _ | refine Sub.cons rfl ?_)) ?_ | refine Ent.cons _ ?_ | refine Ent.trans (Ent.tail _ _) ?_))) (fun cs hcs => ?_)
              obtain ⟨hl, hc1⟩ := hcs
              obtain ⟨a1, a2, rfl⟩ := list2 hl
              simp only [List.all_cons, List.all_nil, Bool.and_true, Bool.and_eq_true] at hc1
              obtain ⟨o1, o2⟩ := hc1
              simp only [show d - 1 - 1 = d - 2 by omega]
              have o3 : ([.int .i64 (o.num : Int), .string emptyS, .bool false, .int .u64 0, a1, .slice none 0 0, a2, .string (mkS (readU valT d (bs s)))] : List Value).all one = true := by simp only [List.all_cons, List.all_nil, o1, o2]; rfl
              refine GV.fin (by kernel_rfl) rfl rfl rfl (by repeat (first | exact Ent.nil _ | (with_reducible exact Ent.refl _) | refine Ent.blk (by repeat (first | exact Sub.nil _ | refine Sub.cons rfl ?_)) ?_ | refine Ent.cons _ ?_ | refine Ent.trans (Ent.tail _ _) ?_)) (fun b9 => ?_)
              refine GA.one 5 (by kernel_rfl) (GAi.w0 rfl (.store 0 rfl rfl rfl rfl rfl rfl (by simp [o1, o2])) (fun _ _ => (by repeat (first | exact Ent.nil _ | (with_reducible exact Ent.refl _) | refine Ent.blk (by repeat (first | exact Sub.nil _ | refine Sub.cons rfl ?_)) ?_ | refine Ent.cons _ ?_ | refine Ent.trans (Ent.tail _ _) ?_))) (fun _ _ => ?_))
              refine GA.done (by kernel_rfl) (?_)
              refine GN.seq (?_)
              refine GC.draw ([Blk b9 233 2 [(0, a1), (1, a2)]]) (m := 8) rfl (by repeat (first | exact Ent.nil _ | (with_reducible exact Ent.refl _) | refine Ent.blk (by repeat (first | exact Sub.nil _ | refine Sub.cons rfl ?_)) ?_ | refine Ent.cons _ ?_ | refine Ent.trans (Ent.tail _ _) ?_)) ?_
              refine GA.take 0 rfl (by kernel_rfl) (by kernel_rfl) (by kernel_rfl) (.fieldAddr rfl) rfl (GA.take 1 rfl (by kernel_rfl) (by kernel_rfl) (by kernel_rfl) (.ld 0 rfl rfl rfl) rfl (GA.take 2 rfl (by kernel_rfl) (by kernel_rfl) (by kernel_rfl) (.fieldAddr rfl) rfl (GA.take 3 rfl (by kernel_rfl) (by kernel_rfl) (by kernel_rfl) (.ld 0 rfl rfl rfl) rfl (GA.take 4 rfl (by kernel_rfl) (by kernel_rfl) (by kernel_rfl) (.fieldAddr rfl) rfl (?_)))))
              refine GA.one 5 (by kernel_rfl) (GAi.w0 rfl (.store 4 rfl rfl rfl (by first | exact cells_one o1 | exact cells_one o2 | rfl) rfl rfl (by first | exact all_one1 o1 | exact all_one1 o2 | rfl)) (fun _ _ => (by repeat (first | exact Ent.nil _ | (with_reducible exact Ent.refl _) | refine Ent.blk (by repeat (first | exact Sub.nil _ | refine Sub.cons rfl ?_)) ?_ | refine Ent.cons _ ?_ | refine Ent.trans (Ent.tail _ _) ?_))) (fun _ _ => ?_))
              refine GA.take 6 rfl (by kernel_rfl) (by kernel_rfl) (by kernel_rfl) (.fieldAddr rfl) rfl (?_)
              refine GA.one 7 (by kernel_rfl) (GAi.w0 rfl (.store 4 rfl rfl rfl (by first | exact cells_one o1 | exact cells_one o2 | rfl) rfl rfl (by first | exact all_one1 o1 | exact all_one1 o2 | rfl)) (fun _ _ => (by repeat (first | exact Ent.nil _ | (with_reducible exact Ent.refl _) | refine Ent.blk (by repeat (first | exact Sub.nil _ | refine Sub.cons rfl ?_)) ?_ | refine Ent.cons _ ?_ | refine Ent.trans (Ent.tail _ _) ?_))) (fun _ _ => ?_))
              refine GA.done (by kernel_rfl) (?_)
              refine GN.blk (GN.seq (GC.seq (GC.seq (GC.region (GL.v (.move rfl) rfl (GL.v (.nilCheck rfl) rfl (GL.v (.fieldAddr rfl) rfl (?_))))))))
              refine GL.ent (Ent.front 1 _ _ rfl) ?_
              refine GL.open ?_
              clear hx
              rintro x hx
              simp only [ho] at hE
              rw [if_pos (show o.num = 5 by omega)] at hE
              rcases hx with ⟨hn, rfl⟩ | ⟨⟨oc, hoc⟩, t, u, rfl⟩
              · refine GL.v (.ld 0 rfl rfl rfl) rfl (GL.v (.neqNil rfl (by first | exact .inl rfl | exact .inr ⟨_, _, rfl⟩ | assumption)) rfl (GL.nil (GN.seq (?_))))
                refine GC.cond rfl (fun h => Bool.noConfusion (h.symm.trans (rfl) : true = false)) (fun _ => ?_)
                refine GC.skip (GN.seq (GC.seq (GC.region (GL.v (.ldN 6 [_, _, _, _, _, _, _, _] rfl rfl rfl ⟨rfl, rfl, rfl, rfl, rfl, rfl, rfl, rfl, trivial⟩) rfl (GL.w0 (.store 8 rfl rfl rfl rfl rfl rfl o3) (fun _ _ => GL.v (.assign rfl) rfl (GL.nil (GN.seq (GC.ret (?_))))))))))
                refine GR.cell2 8 [.int .i64 (o.num : Int), .string emptyS, .bool false, .int .u64 0, a1, .slice none 0 0, a2, .string (mkS (readU valT d (bs s)))] rfl rfl rfl rfl rfl rfl ⟨rfl, rfl, rfl, rfl, rfl, rfl, rfl, rfl, trivial⟩ (_, .nilIface) rfl (Ent.trans (Ent.trans (Ent.front 4 _ _ rfl) (Ent.cons _ (Ent.trans (Ent.front 1 _ _ rfl) (Ent.cons _ (Ent.trans (Ent.front 7 _ _ rfl) (Ent.cons _ (Ent.nil _))))))) (Ent.trans (by have := list_fin5 d (bs s) a1 a2 (by rw [ho]; omega); rw [ho] at this; exact this _) ?_)) ⟨rfl, o3⟩
                simp only [hE]
                exact Ent.refl _
              · skip
                refine GL.v (.ld 0 rfl rfl rfl) rfl (GL.v (.neqNil rfl (by first | exact .inl rfl | exact .inr ⟨_, _, rfl⟩ | assumption)) rfl (GL.nil (GN.seq (?_))))
                refine GC.cond rfl (fun _ => ?_) (fun h => Bool.noConfusion (h.symm.trans (rfl) : false = true))
                refine GC.seq (?_)
                refine GC.draw ([Blk g 93 5 [(0, .iface t u)]]) (m := 7) rfl (by repeat (first | exact Ent.nil _ | (with_reducible exact Ent.refl _) | refine Ent.blk (by repeat (first | exact Sub.nil _ | refine Sub.cons rfl ?_)) ?_ | refine Ent.cons _ ?_ | refine Ent.trans (Ent.tail _ _) ?_)) ?_
                refine GA.take 0 rfl (by kernel_rfl) (by kernel_rfl) (by kernel_rfl) (.build (cs := [_, _, _, _, _, _, _, _]) rfl rfl) rfl (GA.take 1 rfl (by kernel_rfl) (by kernel_rfl) (by kernel_rfl) (.move rfl) rfl (GA.take 2 rfl (by kernel_rfl) (by kernel_rfl) (by kernel_rfl) (.nilCheck rfl) rfl (GA.take 3 rfl (by kernel_rfl) (by kernel_rfl) (by kernel_rfl) (.fieldAddr rfl) rfl (GA.take 4 rfl (by kernel_rfl) (by kernel_rfl) (by kernel_rfl) (.ld 0 rfl rfl rfl) rfl (?_)))))
                refine GA.one 5 (by kernel_rfl) (GAi.w0 rfl (.store 8 rfl rfl rfl rfl rfl rfl rfl) (fun _ _ => (by repeat (first | exact Ent.nil _ | (with_reducible exact Ent.refl _) | refine Ent.blk (by repeat (first | exact Sub.nil _ | refine Sub.cons rfl ?_)) ?_ | refine Ent.cons _ ?_ | refine Ent.trans (Ent.tail _ _) ?_))) (fun _ _ => ?_))
                refine GA.take 6 rfl (by kernel_rfl) (by kernel_rfl) (by kernel_rfl) (.assign rfl) rfl (GA.done (by kernel_rfl) (?_))
                refine GN.seq (GC.ret (?_))
                refine GR.cell2 8 [.int .i64 0, .string emptyS, .bool false, .int .u64 0, .slice none 0 0, .slice none 0 0, .string emptyS, .string emptyS] rfl rfl rfl rfl rfl rfl ⟨rfl, rfl, rfl, rfl, rfl, rfl, rfl, rfl, trivial⟩ ([.int .i64 0, .string emptyS, .bool false, .int .u64 0, .slice none 0 0, .slice none 0 0, .string emptyS, .string emptyS], .iface t u) rfl (Ent.trans (Ent.trans (Ent.front 4 _ _ rfl) (Ent.cons _ (Ent.trans (Ent.front 1 _ _ rfl) (Ent.cons _ (Ent.trans (Ent.front 7 _ _ rfl) (Ent.cons _ (Ent.nil _))))))) ?_) ⟨rfl, rfl⟩
                rw [hoc] at hE
                cases hkm : valM d (bs s) with
                | ok a => rw [hkm] at hE; cases hE
                | error oc2 =>
                  rw [hkm] at hE
                  simp only [hE]
                  rw [hoc]
                  exact Ent.head (h' := (resF valF (.error oc2) _).hp) (fun _ _ _ => trivial) (Ent.refl _)
            · refine GC.seq (GC.region (GL.v (.eql rfl rfl) rfl (GL.v (.assign rfl) rfl (GL.nil (GN.seq (?_))))))
              refine GC.condD rfl (fun h6 => ?_) (fun h6 => ?_)
              · have hne : readT valT d (bs s) ≠ [] := fun e => by rw [e] at ho; rw [← ho] at h6; simp [oneM, one0] at h6
                have hd0 := hM.2.2 hne
                have hE := valE d (bs s)
                refine GC.seq (?_)
                refine GC.ent (Ent.front 3 _ _ rfl) ?_
                refine GC.ent (Ent.front 3 _ _ rfl) ?_
                refine GC.ent (Ent.front 3 _ _ rfl) ?_
                refine GC.ent (Ent.close (Bs := RdS1 g ⟨mkS (readU valT d (bs s)), d, s.size, v0, readT valT d (bs s)⟩ _) (p := RdS2 _) x hx _) ?_
                refine GC.draw ([Blk b7 230 4 (args0 0 (oneC o (.slice A o.all.length c)))]) (m := 6) rfl (by repeat (first | exact Ent.nil _ | (with_reducible exact Ent.refl _) | refine Ent.blk (by repeat (first | exact Sub.nil _ | refine Sub.cons rfl ?_)) ?_ | refine Ent.cons _ ?_ | refine Ent.trans (Ent.tail _ _) ?_)) ?_
                have hJ : o.all.flatten.length ≤ N := by
                  have := oneM_len_flat valT d (bs s) [1, 2, 3, 4, 5, 6, 7]
                  rw [ho, bs_length] at this; omega
                have hol : o.all.length ≤ 4294967296 := by
                  have := oneM_len [1, 2, 3, 4, 5, 6, 7] (readT valT d (bs s))
                  rw [ho] at this; omega
                refine GV.enter 4 rfl ?_
                refine GV.take 0 rfl rfl (by kernel_rfl) (by kernel_rfl) (by kernel_rfl) (by kernel_rfl) (by kernel_rfl) (.move rfl) rfl (GV.take 1 rfl rfl (by kernel_rfl) (by kernel_rfl) (by kernel_rfl) (by kernel_rfl) (by kernel_rfl) (.ldN 0 [_, _, _, _] rfl rfl rfl ⟨rfl, rfl, rfl, rfl, trivial⟩) rfl (?_))
                refine GV.call 2 (As := []) (by kernel_rfl) (by kernel_rfl) rfl rfl rfl rfl rfl rfl (fun w hst => mkLists_key 47 w) rfl (by repeat (first | exact Ent.nil _ | (with_reducible exact Ent.refl _) | refine Ent.blk (by repeat (first | exact Sub.nil _ | refine Sub.cons rfl ?_)) ?_ | refine Ent.cons _ ?_ | refine Ent.trans (Ent.tail _ _) ?_)) (fun bx _ => (by repeat (first | exact Ent.nil _ | (with_reducible exact Ent.refl _) | refine Ent.blk (by repeat (first | exact Sub.nil _ | refine Sub.cons rfl ?_)) ?_ | refine Ent.cons _ ?_ | refine Ent.trans (Ent.tail _ _) ?_))) (fun bx _ => ?_)
                refine GV.ent (Ent.front 4 _ _ rfl) ?_
                refine GV.ent (Ent.front 2 _ _ rfl) ?_
                refine GV.call 3 (As := [_, _, _]) (by kernel_rfl) (by kernel_rfl) rfl rfl rfl rfl rfl rfl (fun w hst => Inner_key g _ _ o A c (lists_key 47 keyM N hN (d - 1) (by omega) (by omega) (fun _ => by have := hk hd0; rwa [show d - 2 = d - 1 - 1 by omega] at this) bx) hsm hJ hmx hol hd0 hd2 w) rfl (by repeat (first | exact Ent.nil _ | (with_reducible exact Ent.refl _) | refine Ent.blk (by repeat (first | exact Sub.nil _ | refine Sub.cons rfl ?_)) ?_ | refine Ent.cons _ ?_ | refine Ent.trans (Ent.tail _ _) ?_)) (fun cs hcs => (by repeat (first | exact Ent.nil _ | (with_reducible exact Ent.refl _) | refine Ent.blk (by repeat (first | exact Sub.nil _ | refine Sub.cons rfl ?_)) ?_ | refine Ent.cons _ ?_ | refine Ent.trans (Ent.tail _ _) ?_))) (fun cs hcs => ?_)
                obtain ⟨hl, hc1⟩ := hcs
                obtain ⟨a1, a2, rfl⟩ := list2 hl
                simp only [List.all_cons, List.all_nil, Bool.and_true, Bool.and_eq_true] at hc1
                obtain ⟨o1, o2⟩ := hc1
                simp only [show d - 1 - 1 = d - 2 by omega]
                have o3 : ([.int .i64 (o.num : Int), .string emptyS, .bool false, .int .u64 0, .slice none 0 0, a1, a2, .string (mkS (readU valT d (bs s)))] : List Value).all one = true := by simp only [List.all_cons, List.all_nil, o1, o2]; rfl
                refine GV.fin (by kernel_rfl) rfl rfl rfl (by repeat (first | exact Ent.nil _ | (with_reducible exact Ent.refl _) | refine Ent.blk (by repeat (first | exact Sub.nil _ | refine Sub.cons rfl ?_)) ?_ | refine Ent.cons _ ?_ | refine Ent.trans (Ent.tail _ _) ?_)) (fun b10 => ?_)
                refine GA.one 5 (by kernel_rfl) (GAi.w0 rfl (.store 0 rfl rfl rfl rfl rfl rfl (by simp [o1, o2])) (fun _ _ => (by repeat (first | exact Ent.nil _ | (with_reducible exact Ent.refl _) | refine Ent.blk (by repeat (first | exact Sub.nil _ | refine Sub.cons rfl ?_)) ?_ | refine Ent.cons _ ?_ | refine Ent.trans (Ent.tail _ _) ?_))) (fun _ _ => ?_))
                refine GA.done (by kernel_rfl) (?_)
                refine GN.seq (?_)
                refine GC.draw ([Blk b10 238 2 [(0, a1), (1, a2)]]) (m := 8) rfl (by repeat (first | exact Ent.nil _ | (with_reducible exact Ent.refl _) | refine Ent.blk (by repeat (first | exact Sub.nil _ | refine Sub.cons rfl ?_)) ?_ | refine Ent.cons _ ?_ | refine Ent.trans (Ent.tail _ _) ?_)) ?_
                refine GA.take 0 rfl (by kernel_rfl) (by kernel_rfl) (by kernel_rfl) (.fieldAddr rfl) rfl (GA.take 1 rfl (by kernel_rfl) (by kernel_rfl) (by kernel_rfl) (.ld 0 rfl rfl rfl) rfl (GA.take 2 rfl (by kernel_rfl) (by kernel_rfl) (by kernel_rfl) (.fieldAddr rfl) rfl (GA.take 3 rfl (by kernel_rfl) (by kernel_rfl) (by kernel_rfl) (.ld 0 rfl rfl rfl) rfl (GA.take 4 rfl (by kernel_rfl) (by kernel_rfl) (by kernel_rfl) (.fieldAddr rfl) rfl (?_)))))
                refine GA.one 5 (by kernel_rfl) (GAi.w0 rfl (.store 4 rfl rfl rfl (by first | exact cells_one o1 | exact cells_one o2 | rfl) rfl rfl (by first | exact all_one1 o1 | exact all_one1 o2 | rfl)) (fun _ _ => (by repeat (first | exact Ent.nil _ | (with_reducible exact Ent.refl _) | refine Ent.blk (by repeat (first | exact Sub.nil _ | refine Sub.cons rfl ?_)) ?_ | refine Ent.cons _ ?_ | refine Ent.trans (Ent.tail _ _) ?_))) (fun _ _ => ?_))
                refine GA.take 6 rfl (by kernel_rfl) (by kernel_rfl) (by kernel_rfl) (.fieldAddr rfl) rfl (?_)
                refine GA.one 7 (by kernel_rfl) (GAi.w0 rfl (.store 4 rfl rfl rfl (by first | exact cells_one o1 | exact cells_one o2 | rfl) rfl rfl (by first | exact all_one1 o1 | exact all_one1 o2 | rfl)) (fun _ _ => (by repeat (first | exact Ent.nil _ | (with_reducible exact Ent.refl _) | refine Ent.blk (by repeat (first | exact Sub.nil _ | refine Sub.cons rfl ?_)) ?_ | refine Ent.cons _ ?_ | refine Ent.trans (Ent.tail _ _) ?_))) (fun _ _ => ?_))
                refine GA.done (by kernel_rfl) (?_)
                refine GN.blk (GN.seq (GC.seq (GC.seq (GC.region (GL.v (.move rfl) rfl (GL.v (.nilCheck rfl) rfl (GL.v (.fieldAddr rfl) rfl (?_))))))))
                refine GL.ent (Ent.front 1 _ _ rfl) ?_
                refine GL.open ?_
                clear hx
                rintro x hx
                simp only [ho] at hE
                rw [if_neg (show ¬ o.num = 5 by omega), if_pos (show o.num = 6 by omega)] at hE
                rcases hx with ⟨hn, rfl⟩ | ⟨⟨oc, hoc⟩, t, u, rfl⟩
                · refine GL.v (.ld 0 rfl rfl rfl) rfl (GL.v (.neqNil rfl (by first | exact .inl rfl | exact .inr ⟨_, _, rfl⟩ | assumption)) rfl (GL.nil (GN.seq (?_))))
                  refine GC.cond rfl (fun h => Bool.noConfusion (h.symm.trans (rfl) : true = false)) (fun _ => ?_)
                  refine GC.skip (GN.seq (GC.seq (GC.region (GL.v (.ldN 6 [_, _, _, _, _, _, _, _] rfl rfl rfl ⟨rfl, rfl, rfl, rfl, rfl, rfl, rfl, rfl, trivial⟩) rfl (GL.w0 (.store 8 rfl rfl rfl rfl rfl rfl o3) (fun _ _ => GL.v (.assign rfl) rfl (GL.nil (GN.seq (GC.ret (?_))))))))))
                  refine GR.cell2 8 [.int .i64 (o.num : Int), .string emptyS, .bool false, .int .u64 0, .slice none 0 0, a1, a2, .string (mkS (readU valT d (bs s)))] rfl rfl rfl rfl rfl rfl ⟨rfl, rfl, rfl, rfl, rfl, rfl, rfl, rfl, trivial⟩ (_, .nilIface) rfl (Ent.trans (Ent.trans (Ent.front 4 _ _ rfl) (Ent.cons _ (Ent.trans (Ent.front 1 _ _ rfl) (Ent.cons _ (Ent.trans (Ent.front 7 _ _ rfl) (Ent.cons _ (Ent.nil _))))))) (Ent.trans (by have := list_fin6 d (bs s) a1 a2 (by rw [ho]; omega); rw [ho] at this; exact this _) ?_)) ⟨rfl, o3⟩
                  simp only [hE]
                  exact Ent.refl _
                · skip
                  refine GL.v (.ld 0 rfl rfl rfl) rfl (GL.v (.neqNil rfl (by first | exact .inl rfl | exact .inr ⟨_, _, rfl⟩ | assumption)) rfl (GL.nil (GN.seq (?_))))
                  refine GC.cond rfl (fun _ => ?_) (fun h => Bool.noConfusion (h.symm.trans (rfl) : false = true))
                  refine GC.seq (?_)
                  refine GC.draw ([Blk g 93 5 [(0, .iface t u)]]) (m := 7) rfl (by repeat (first | exact Ent.nil _ | (with_reducible exact Ent.refl _) | refine Ent.blk (by repeat (first | exact Sub.nil _ | refine Sub.cons rfl ?_)) ?_ | refine Ent.cons _ ?_ | refine Ent.trans (Ent.tail _ _) ?_)) ?_
                  refine GA.take 0 rfl (by kernel_rfl) (by kernel_rfl) (by kernel_rfl) (.build (cs := [_, _, _, _, _, _, _, _]) rfl rfl) rfl (GA.take 1 rfl (by kernel_rfl) (by kernel_rfl) (by kernel_rfl) (.move rfl) rfl (GA.take 2 rfl (by kernel_rfl) (by kernel_rfl) (by kernel_rfl) (.nilCheck rfl) rfl (GA.take 3 rfl (by kernel_rfl) (by kernel_rfl) (by kernel_rfl) (.fieldAddr rfl) rfl (GA.take 4 rfl (by kernel_rfl) (by kernel_rfl) (by kernel_rfl) (.ld 0 rfl rfl rfl) rfl (?_)))))
                  refine GA.one 5 (by kernel_rfl) (GAi.w0 rfl (.store 8 rfl rfl rfl rfl rfl rfl rfl) (fun _ _ => (by repeat (first | exact Ent.nil _ | (with_reducible exact Ent.refl _) | refine Ent.blk (by repeat (first | exact Sub.nil _ | refine Sub.cons rfl ?_)) ?_ | refine Ent.cons _ ?_ | refine Ent.trans (Ent.tail _ _) ?_))) (fun _ _ => ?_))
                  refine GA.take 6 rfl (by kernel_rfl) (by kernel_rfl) (by kernel_rfl) (.assign rfl) rfl (GA.done (by kernel_rfl) (?_))
                  refine GN.seq (GC.ret (?_))
                  refine GR.cell2 8 [.int .i64 0, .string emptyS, .bool false, .int .u64 0, .slice none 0 0, .slice none 0 0, .string emptyS, .string emptyS] rfl rfl rfl rfl rfl rfl ⟨rfl, rfl, rfl, rfl, rfl, rfl, rfl, rfl, trivial⟩ ([.int .i64 0, .string emptyS, .bool false, .int .u64 0, .slice none 0 0, .slice none 0 0, .string emptyS, .string emptyS], .iface t u) rfl (Ent.trans (Ent.trans (Ent.front 4 _ _ rfl) (Ent.cons _ (Ent.trans (Ent.front 1 _ _ rfl) (Ent.cons _ (Ent.trans (Ent.front 7 _ _ rfl) (Ent.cons _ (Ent.nil _))))))) ?_) ⟨rfl, rfl⟩
                  rw [hoc] at hE
                  cases hkm : valM d (bs s) with
                  | ok a => rw [hkm] at hE; cases hE
                  | error oc2 =>
                    rw [hkm] at hE
                    simp only [hE]
                    rw [hoc]
                    exact Ent.head (h' := (resF valF (.error oc2) _).hp) (fun _ _ _ => trivial) (Ent.refl _)
              · refine GC.skip (GN.blk (GN.seq (GC.seq (GC.seq (GC.region (GL.v (.move rfl) rfl (GL.v (.nilCheck rfl) rfl (GL.v (.fieldAddr rfl) rfl (GL.v (.ld 1 rfl rfl rfl) rfl (GL.v (.neqNil rfl (by first | exact .inl rfl | exact .inr ⟨_, _, rfl⟩ | assumption)) rfl (GL.nil (GN.seq (?_)))))))))))))
                refine GC.cond rfl (fun hnn => ?_) (fun hnn => ?_)
                · rcases hx with ⟨hn0, rfl⟩ | ⟨⟨oc, hoc⟩, t', u', rfl⟩
                  · cases hnn
                  have hE := valE d (bs s)
                  simp only [ho, if_neg (show ¬ o.num = 5 by omega), if_neg (show ¬ o.num = 6 by omega)] at hE
                  refine GC.seq (?_)
                  refine GC.draw ([Blk g 93 5 [(0, .iface t' u')]]) (m := 7) rfl (by repeat (first | exact Ent.nil _ | (with_reducible exact Ent.refl _) | refine Ent.blk (by repeat (first | exact Sub.nil _ | refine Sub.cons rfl ?_)) ?_ | refine Ent.cons _ ?_ | refine Ent.trans (Ent.tail _ _) ?_)) ?_
                  refine GA.take 0 rfl (by kernel_rfl) (by kernel_rfl) (by kernel_rfl) (.build (cs := [_, _, _, _, _, _, _, _]) rfl rfl) rfl (GA.take 1 rfl (by kernel_rfl) (by kernel_rfl) (by kernel_rfl) (.move rfl) rfl (GA.take 2 rfl (by kernel_rfl) (by kernel_rfl) (by kernel_rfl) (.nilCheck rfl) rfl (GA.take 3 rfl (by kernel_rfl) (by kernel_rfl) (by kernel_rfl) (.fieldAddr rfl) rfl (GA.take 4 rfl (by kernel_rfl) (by kernel_rfl) (by kernel_rfl) (.ld 0 rfl rfl rfl) rfl (?_)))))
                  refine GA.one 5 (by kernel_rfl) (GAi.w0 rfl (.store 6 rfl rfl rfl rfl rfl rfl rfl) (fun _ _ => (by repeat (first | exact Ent.nil _ | (with_reducible exact Ent.refl _) | refine Ent.blk (by repeat (first | exact Sub.nil _ | refine Sub.cons rfl ?_)) ?_ | refine Ent.cons _ ?_ | refine Ent.trans (Ent.tail _ _) ?_))) (fun _ _ => ?_))
                  refine GA.take 6 rfl (by kernel_rfl) (by kernel_rfl) (by kernel_rfl) (.assign rfl) rfl (GA.done (by kernel_rfl) (?_))
                  refine GN.seq (GC.ret (?_))
                  refine GR.cell2 6 [.int .i64 0, .string emptyS, .bool false, .int .u64 0, .slice none 0 0, .slice none 0 0, .string emptyS, .string emptyS] rfl rfl rfl rfl rfl rfl ⟨rfl, rfl, rfl, rfl, rfl, rfl, rfl, rfl, trivial⟩ ([.int .i64 0, .string emptyS, .bool false, .int .u64 0, .slice none 0 0, .slice none 0 0, .string emptyS, .string emptyS], .iface t' u') rfl (Ent.trans (Ent.trans (Ent.front 2 _ _ rfl) (Ent.cons _ (Ent.trans (Ent.front 6 _ _ rfl) (Ent.cons _ (Ent.nil _))))) ?_) ⟨rfl, rfl⟩
                  cases hkm : valM d (bs s) with
                  | ok a => rw [hkm] at hE; rw [hoc] at hE; cases hE
                  | error oc2 =>
                    rw [hkm] at hE
                    simp only [hE]
                    exact Ent.intro (A := (resF valF (.error oc2) _).hp) (fun _ => trivial) _
                · rcases hx with ⟨hn0, rfl⟩ | ⟨_, t', u', rfl⟩
                  · have hE := valE d (bs s)
                    simp only [ho, if_neg (show ¬ o.num = 5 by omega), if_neg (show ¬ o.num = 6 by omega)] at hE
                    refine GC.skip (GN.seq (GC.seq (GC.region (GL.v (.ldN 0 [_, _, _, _, _, _, _, _] rfl rfl rfl ⟨rfl, rfl, rfl, rfl, rfl, rfl, rfl, rfl, trivial⟩) rfl (GL.w0 (.store 6 rfl rfl rfl rfl rfl rfl rfl) (fun _ _ => GL.v (.assign rfl) rfl (GL.nil (GN.seq (GC.ret (?_))))))))))
                    refine GR.cell2 6 [.int .i64 (o.num : Int), .string (mkS []), .bool false, .int .u64 ((0 : Nat) : Int), .slice none 0 0, .slice none 0 0, .string emptyS, .string (mkS (readU valT d (bs s)))] rfl rfl rfl rfl rfl rfl ⟨rfl, rfl, rfl, rfl, rfl, rfl, rfl, rfl, trivial⟩ (_, .nilIface) rfl (Ent.trans (Ent.trans (Ent.front 2 _ _ rfl) (Ent.cons _ (Ent.trans (Ent.front 6 _ _ rfl) (Ent.cons _ (Ent.nil _))))) ?_) ⟨rfl, rfl⟩
                    simp only [hE]
                    have hf := fun Hs => plain_fin d (bs s) false 0 [] (by rw [ho]; omega) (by rw [ho]; omega) (by rw [ho]; first | rw [if_pos (by omega)] | rw [if_neg (by omega)]) (by rw [ho]; first | (symm; rw [decide_eq_false_iff_not]; omega) | (rw [decide_eq_decide]; omega)) (by rw [ho]; first | rw [if_pos (by omega)] | rw [if_neg (by omega)]) Hs
                    simp only [ho] at hf
                    exact hf _
                  · cases hnn

end Go.Proofs.Gw
/- Values and attributes that are read, however deep. -/
set_option linter.unusedVariables false
set_option linter.unusedSimpArgs false
namespace Go.Proofs.Gw
open Go Go.RowKit Go.IntWalk Go.Proofs.Gm
theorem both_rd (N : Nat) (hN : N ≤ 4294967296) : ∀ (k : Nat) (d : Int), (d + 1).toNat ≤ k → -9223372036854775808 ≤ d → d ≤ 9223372036854775807 → RdC 127 [] [] Emp valF 8 valM N d ∧ RdC 47 [] [] Emp keyF 11 keyM N d := by
  intro k
  induction k with
  | zero =>
    intro d hk h1 h2
    exact ⟨val_rd N hN d h1 h2 (fun h => absurd h (by omega)) (fun h => absurd h (by omega)), key_rd N hN d h1 h2 (fun h => absurd h (by omega))⟩
  | succ k ih =>
    intro d hk h1 h2
    exact ⟨val_rd N hN d h1 h2 (fun h => (ih (d - 2) (by omega) (by omega) (by omega)).1) (fun h => (ih (d - 2) (by omega) (by omega) (by omega)).2), key_rd N hN d h1 h2 (fun h => (ih (d - 1) (by omega) (by omega) (by omega)).1)⟩
theorem Val_rd (N : Nat) (hN : N ≤ 4294967296) (d : Int) (h1 : -9223372036854775808 ≤ d) (h2 : d ≤ 9223372036854775807) : RdC 127 [] [] Emp valF 8 valM N d := (both_rd N hN _ d (Nat.le_refl _) h1 h2).1
theorem Key_rd (N : Nat) (hN : N ≤ 4294967296) (d : Int) (h1 : -9223372036854775808 ≤ d) (h2 : d ≤ 9223372036854775807) : RdC 47 [] [] Emp keyF 11 keyM N d := (both_rd N hN _ d (Nat.le_refl _) h1 h2).2
end Go.Proofs.Gw
