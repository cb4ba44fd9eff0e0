/- Texts that a claim of this seat leans on: D1, D2. No statement is claimed in this text. -/
import Derived.Test.YtabmekglalbmoaaGreatDoorB16
import Derived.ChangeArms
import Derived.ChangeStays
import Derived.DataReads
/- What comes in as data, in plain terms: values, attributes, exemplars, points. -/
set_option linter.unusedVariables false
set_option linter.unusedSimpArgs false
namespace Go.Proofs.Gw
open Go Go.RowKit Go.Proofs.Gm

theorem cells_get {w : World} {base : Nat} {a : Addr} {n : Nat} {cs : List Value} (h : w.cells? base a n = some cs) : cs.length = n ∧ ∀ r u, cs[r]? = some u → w.cell? (a.add r) = some u := by
  unfold World.cells? at h
  split at h
  · have hl := mapM_some_length h
    refine ⟨by simpa using hl, fun r u hu => ?_⟩
    have hr : r < n := by have := (List.getElem?_eq_some_iff.1 hu).1; simp at hl; omega
    have := mapM_some_get h r r (by simp [hr])
    rw [this, hu]
  · cases h
theorem cell_spot {w : World} {a : Addr} {u : Value} (h : w.cell? a = some u) : a = ⟨a.block, a.off, none⟩ ∧ ∃ cs T fr, w.heap[a.block]? = some (.cells cs T fr) ∧ cs[a.off]? = some u := by
  unfold World.cell? at h
  split at h
  · rename_i c T fr hb
    split at h
    · cases h
    · rename_i hs
      refine ⟨?_, c, T, fr, hb, h⟩
      obtain ⟨b, o, s⟩ := a
      cases s with
      | none => rfl
      | some _ => simp at hs
  · cases h
theorem flatten_inv {k : Nat} (hk0 : 0 < k) : ∀ {css : List (List Value)} {j : Nat} {u : Value}, (∀ c, c ∈ css → c.length = k) → css.flatten[j]? = some u → ∃ i r cs, css[i]? = some cs ∧ cs[r]? = some u ∧ j = i * k + r
  | [], j, u, _, h => by simp at h
  | c :: css, j, u, hk, h => by
    have hc := hk c List.mem_cons_self
    rw [List.flatten_cons] at h
    rcases Nat.lt_or_ge j k with hj | hj
    · rw [List.getElem?_append_left (by omega)] at h
      exact ⟨0, j, c, rfl, h, by omega⟩
    · rw [List.getElem?_append_right (by omega)] at h
      obtain ⟨i, r, cs, h1, h2, h3⟩ := flatten_inv hk0 (fun c hc => hk c (List.mem_cons_of_mem _ hc)) h
      refine ⟨i + 1, r, cs, by simpa using h1, h2, ?_⟩
      rw [hc] at h3
      rw [Nat.succ_mul]; omega
theorem allF_of {α : Type} {rep : α → List Value → FP} {ok : Nat → Prop} {w : World} : ∀ {l : List α} {css : List (List Value)}, l.length = css.length → (∀ (i : Nat) a cs, l[i]? = some a → css[i]? = some cs → (rep a cs).holds ok w) → (allF rep l css).holds ok w
  | [], [], _, _ => trivial
  | a :: l, cs :: css, h, h2 => ⟨h2 0 a cs rfl rfl, allF_of (by simpa using h) (fun i a cs h3 h4 => h2 (i + 1) a cs (by simpa using h3) (by simpa using h4))⟩
  | [], _ :: _, h, _ => by simp at h
  | _ :: _, [], h, _ => by simp at h
section
variable {H : Type} {enc : TypeId × Value → H} {w : World}
abbrev TR (enc : TypeId × Value → H) (w : World) (n t : Nat) (cs : List Value) (x : DataW H × List MemPlace) : Prop := DataW.trod enc Tryz.prog w 0 (fun _ => true) true n t cs = some x
/-- A list that comes in. -/
theorem dec_list {α : Type} (rep : α → List Value → FP) {t e k n : Nat} {cs : List Value} {x : DataW H × List MemPlace} (ht : Tryz.prog.underlying t = some (.slice e)) (hk : Tryz.prog.cellsOf e = k) (hk0 : 0 < k)
    (hlen : ∀ a cs ok w, (rep a cs).holds ok w → cs.length = k) (ih : ∀ m cs x, m < n → TR enc w m e cs x → ∃ a, (rep a cs).holds (Old w) w) (h : TR enc w n t cs x) : ∃ l v, cs = [v] ∧ (listF rep k l v).holds (Old w) w := by
  rcases DataW.trod_slice ht h with ⟨rfl, _⟩ | ⟨a, len, cap, elems, rest, m, rfl, rfl, _, _, hlc, hcm, hel, hall, _, _⟩
  · exact ⟨[], .slice none 0 0, rfl, [], ⟨by simp, none, 0, rfl, fun h => absurd h (by simp)⟩, trivial⟩
  · have key : ∀ i, i < len → ∃ b bs, w.cells? 0 (a.add (i * k)) k = some bs ∧ (rep b bs).holds (Old w) w := by
      intro i hi
      have h1 := hall i hi
      rw [hk, List.getElem?_eq_getElem (by omega)] at h1
      obtain ⟨bs, h2, h3⟩ := Option.bind_eq_some_iff.1 h1
      obtain ⟨b, hb⟩ := ih m bs _ (by omega) h3
      exact ⟨b, bs, h2, hb⟩
    have build : ∀ m, m ≤ len → ∃ (l : List α) (css : List (List Value)), l.length = m ∧ css.length = m ∧ ∀ (i : Nat) b bs, l[i]? = some b → css[i]? = some bs → w.cells? 0 (a.add (i * k)) k = some bs ∧ (rep b bs).holds (Old w) w := by
      intro m
      induction m with
      | zero => exact fun _ => ⟨[], [], rfl, rfl, fun i b bs h => by simp at h⟩
      | succ m ih2 =>
        intro hm
        obtain ⟨l, css, h1, h2, h3⟩ := ih2 (by omega)
        obtain ⟨b, bs, h4, h5⟩ := key m (by omega)
        refine ⟨l ++ [b], css ++ [bs], by simp [h1], by simp [h2], fun i b' bs' h6 h7 => ?_⟩
        rcases Nat.lt_or_ge i m with hi | hi
        · rw [List.getElem?_append_left (by omega)] at h6 h7
          exact h3 i b' bs' h6 h7
        · have hi2 : i = m := by
            have := (List.getElem?_eq_some_iff.1 h6).1
            simp [h1] at this; omega
          subst hi2
          rw [List.getElem?_append_right (by omega), h1] at h6
          rw [List.getElem?_append_right (by omega), h2] at h7
          simp at h6 h7
          subst h6; subst h7
          exact ⟨h4, h5⟩
    obtain ⟨l, css, h1, h2, h3⟩ := build len (Nat.le_refl _)
    have hck : ∀ c, c ∈ css → c.length = k := by
      intro c hc
      obtain ⟨i, hi⟩ := List.mem_iff_getElem?.1 hc
      have hil : i < l.length := by have := (List.getElem?_eq_some_iff.1 hi).1; omega
      exact hlen _ c _ _ (h3 i _ c (List.getElem?_eq_getElem hil) hi).2
    have hfl : css.flatten.length = len * k := by
      rw [List.length_flatten]
      have : css.map List.length = List.replicate len k := by
        rw [List.eq_replicate_iff]
        exact ⟨by simp [h2], fun b hb => by obtain ⟨c, hc, rfl⟩ := List.mem_map.1 hb; exact hck c hc⟩
      rw [this]; simp
    refine ⟨l, _, rfl, css, ⟨by rw [h1]; exact hfl, some a, cap, by rw [h1], fun h0 => ?_⟩, allF_of (by omega) (fun i b bs h6 h7 => (h3 i b bs h6 h7).2)⟩
    have h00 : ∃ u, css.flatten[0]? = some u := ⟨_, List.getElem?_eq_getElem (by rw [hfl]; exact Nat.mul_pos (by omega) hk0)⟩
    have at_ : ∀ j u, css.flatten[j]? = some u → w.cell? (a.add j) = some u := by
      intro j u hj
      obtain ⟨i, r, bs, h6, h7, rfl⟩ := flatten_inv hk0 hck hj
      have hil : i < l.length := by have := (List.getElem?_eq_some_iff.1 h6).1; omega
      have h8 := (cells_get (h3 i _ bs (List.getElem?_eq_getElem hil) h6).1).2 r u h7
      have h9 : (a.add (i * k)).add r = a.add (i * k + r) := by
        unfold Addr.add
        by_cases e1 : i * k = 0 <;> by_cases e2 : r = 0 <;> simp [e1, e2, Nat.add_assoc]
      rw [← h9]; exact h8
    obtain ⟨u0, hu0⟩ := h00
    have h10 := at_ 0 u0 hu0
    have h11 : a.add 0 = a := by simp [Addr.add]
    rw [h11] at h10
    obtain ⟨e1, cs0, T, fr, e2, e3⟩ := cell_spot h10
    refine ⟨a.block, a.off, by rw [e1], ?_, by unfold maxLen at hcm; omega, cs0, T, fr, e2, fun j u hj => ?_⟩
    · rcases Nat.lt_or_ge a.block w.heap.size with h | h
      · exact h
      · rw [Array.getElem?_eq_none h] at e2; cases e2
    · have h12 := at_ j u hj
      rw [e1, Addr.add_lit] at h12
      rw [cell?_of_heap e2] at h12
      exact h12
theorem dec_nums {t n : Nat} {cs : List Value} {x : DataW H × List MemPlace} (ht : Tryz.prog.underlying t = some (.slice 24)) (h : TR enc w n t cs x) : ∃ l v, cs = [v] ∧ (numsF l v).holds (Old w) w ∧ ∀ m, m ∈ l → m < 2 ^ 64 := by
  let rep : Nat → List Value → FP := fun m cs => FP.pure (cs = [.int .u64 (m : Int)] ∧ m < 2 ^ 64)
  obtain ⟨l, v, e, css, h1, h2⟩ := dec_list rep ht (k := 1) (by kernel_rfl) (by omega) (fun a cs ok w h => by have h : cs = _ ∧ _ := h; rw [h.1]; rfl)
    (fun m cs x hm h => by
      obtain ⟨z, rfl, _, hz⟩ := DataW.trod_int (k := .u64) (by kernel_rfl) h
      have hr : 0 ≤ z ∧ z ≤ 18446744073709551615 := by simpa [Lit.wf, IntKind.min, IntKind.max, IntKind.signed, IntKind.bits] using hz
      exact ⟨z.toNat, by show [Value.int .u64 z] = _; rw [Int.toNat_of_nonneg hr.1], by omega⟩) h
  have key : ∀ (l : List Nat) (css : List (List Value)), (allF rep l css).holds (Old w) w → css.flatten = u64C l ∧ ∀ m, m ∈ l → m < 2 ^ 64 := by
    intro l
    induction l with
    | nil => intro css h; cases css with
      | nil => exact ⟨rfl, by simp⟩
      | cons _ _ => exact h.elim
    | cons a l ih => intro css h; cases css with
      | nil => exact h.elim
      | cons c css =>
        have h3 : c = _ ∧ _ := h.1
        obtain ⟨h4, h5⟩ := ih css h.2
        refine ⟨by rw [List.flatten_cons, h3.1, h4]; rfl, fun m hm => ?_⟩
        rcases List.mem_cons.1 hm with rfl | hm
        · exact h3.2
        · exact h5 m hm
  obtain ⟨h3, h4⟩ := key l css h2
  rw [h3] at h1
  exact ⟨l, v, e, h1, h4⟩
/-- The fields of a struct that comes in. -/
theorem dec_fields {T n k : Nat} {fs : Array Field} {cs : List Value} {x : DataW H × List MemPlace} (ht : Tryz.prog.underlying T = some (.struct fs)) (hk : Tryz.prog.cellsOf T = k) (h : TR enc w n T cs x) :
    cs.length = k ∧ ∃ m, n = m + 1 ∧ ∀ (i ty off sz : Nat), (fs[i]?).map (fun (f : Field) => (f.type, f.offset, Tryz.prog.cellsOf f.type)) = some (ty, off, sz) → ∃ y, TR enc w m ty ((cs.drop off).take sz) y := by
  obtain ⟨xs, m, rfl, _, hl, hx, hf⟩ := DataW.trod_struct ht h
  refine ⟨hl.trans hk, m, rfl, fun i ty off sz hi => ?_⟩
  obtain ⟨f, h1, h2⟩ := Option.map_eq_some_iff.1 hi
  simp only [Prod.mk.injEq] at h2
  obtain ⟨rfl, rfl, rfl⟩ := h2
  have h3 := hf i f h1
  have hi2 : i < xs.length := by rw [hx]; exact (Array.getElem?_eq_some_iff.1 h1).1
  rw [List.getElem?_eq_getElem hi2] at h3
  exact ⟨_, h3⟩
theorem nat_of_u64 {z : Int} (hz : (Lit.int .u64 z).wf = true) : ∃ m : Nat, z = (m : Int) ∧ m < 2 ^ 64 := by
  have hr : 0 ≤ z ∧ z ≤ 18446744073709551615 := by simpa [Lit.wf, IntKind.min, IntKind.max, IntKind.signed, IntKind.bits] using hz
  exact ⟨z.toNat, by omega, by omega⟩
theorem nat_of_u32 {z : Int} (hz : (Lit.int .u32 z).wf = true) : ∃ m : Nat, z = (m : Int) ∧ m < 2 ^ 32 := by
  have hr : 0 ≤ z ∧ z ≤ 4294967295 := by simpa [Lit.wf, IntKind.min, IntKind.max, IntKind.signed, IntKind.bits] using hz
  exact ⟨z.toNat, by omega, by omega⟩
end
end Go.Proofs.Gw
/- What comes in as data: values, attributes, exemplars, buckets, points. Printed by wip/tools/gen13.py. -/
set_option linter.unusedVariables false
set_option linter.unusedSimpArgs false
namespace Go.Proofs.Gw
open Go Go.RowKit Go.Proofs.Gm

theorem list7 {l : List Value} (h : l.length = 7) : ∃ c0 c1 c2 c3 c4 c5 c6, l = [c0, c1, c2, c3, c4, c5, c6] := by
  match l, h with
  | [c0, c1, c2, c3, c4, c5, c6], _ => exact ⟨_, _, _, _, _, _, _, rfl⟩
theorem list11 {l : List Value} (h : l.length = 11) : ∃ c0 c1 c2 c3 c4 c5 c6 c7 c8 c9 c10, l = [c0, c1, c2, c3, c4, c5, c6, c7, c8, c9, c10] := by
  match l, h with
  | [c0, c1, c2, c3, c4, c5, c6, c7, c8, c9, c10], _ => exact ⟨_, _, _, _, _, _, _, _, _, _, _, rfl⟩
theorem list24 {l : List Value} (h : l.length = 24) : ∃ c0 c1 c2 c3 c4 c5 c6 c7 c8 c9 c10 c11 c12 c13 c14 c15 c16 c17 c18 c19 c20 c21 c22 c23, l = [c0, c1, c2, c3, c4, c5, c6, c7, c8, c9, c10, c11, c12, c13, c14, c15, c16, c17, c18, c19, c20, c21, c22, c23] := by
  match l, h with
  | [c0, c1, c2, c3, c4, c5, c6, c7, c8, c9, c10, c11, c12, c13, c14, c15, c16, c17, c18, c19, c20, c21, c22, c23], _ => exact ⟨_, _, _, _, _, _, _, _, _, _, _, _, _, _, _, _, _, _, _, _, _, _, _, _, rfl⟩
section
variable {H : Type} {enc : TypeId × Value → H} {w : World}
theorem dec_both : ∀ n, (∀ cs x, TR enc w n 80 cs x → ∃ v, (valF v cs).holds (Old w) w) ∧ (∀ cs x, TR enc w n 82 cs x → ∃ k, (keyF k cs).holds (Old w) w) := by
  intro n
  induction n using Nat.strongRecOn with
  | ind n ih =>
  constructor
  · intro cs x h
    obtain ⟨hl, m, rfl, hf⟩ := dec_fields (T := 80) (fs := Tryz.prog.fieldsOf 80) (k := 8) (by kernel_rfl) (by kernel_rfl) h
    obtain ⟨c0, c1, c2, c3, c4, c5, c6, c7, rfl⟩ := list8 hl
    obtain ⟨y0, h0⟩ := hf 0 3 0 1 (by kernel_rfl)
    have h0 : TR enc w m 3 [c0] y0 := h0
    obtain ⟨z0, e0, _, _⟩ := DataW.trod_int (k := .i64) (by kernel_rfl) h0
    cases e0
    obtain ⟨y1, h1⟩ := hf 1 9 1 1 (by kernel_rfl)
    have h1 : TR enc w m 9 [c1] y1 := h1
    obtain ⟨z1, e1, _, _⟩ := DataW.trod_string (by kernel_rfl) h1
    cases e1
    obtain ⟨y2, h2⟩ := hf 2 4 2 1 (by kernel_rfl)
    have h2 : TR enc w m 4 [c2] y2 := h2
    obtain ⟨z2, e2, _⟩ := DataW.trod_bool (by kernel_rfl) h2
    cases e2
    obtain ⟨y3, h3⟩ := hf 3 24 3 1 (by kernel_rfl)
    have h3 : TR enc w m 24 [c3] y3 := h3
    obtain ⟨q3, e3, _, wf3⟩ := DataW.trod_int (k := .u64) (by kernel_rfl) h3
    cases e3
    obtain ⟨z3, rfl, b3⟩ := nat_of_u64 wf3
    obtain ⟨y4, h4⟩ := hf 4 78 4 1 (by kernel_rfl)
    have h4 : TR enc w m 78 [c4] y4 := h4
    obtain ⟨z4, v4, e4, f4⟩ := dec_list valF (t := 78) (e := 80) (k := 8) (by kernel_rfl) (by kernel_rfl) (by omega) valF_len (fun j cs x hj h => (ih j (by omega)).1 cs x h) h4
    cases e4
    obtain ⟨y5, h5⟩ := hf 5 23 5 1 (by kernel_rfl)
    have h5 : TR enc w m 23 [c5] y5 := h5
    obtain ⟨z5, v5, e5, f5⟩ := dec_list keyF (t := 23) (e := 82) (k := 11) (by kernel_rfl) (by kernel_rfl) (by omega) keyF_len (fun j cs x hj h => (ih j (by omega)).2 cs x h) h5
    cases e5
    obtain ⟨y6, h6⟩ := hf 6 9 6 1 (by kernel_rfl)
    have h6 : TR enc w m 9 [c6] y6 := h6
    obtain ⟨z6, e6, _, _⟩ := DataW.trod_string (by kernel_rfl) h6
    cases e6
    obtain ⟨y7, h7⟩ := hf 7 9 7 1 (by kernel_rfl)
    have h7 : TR enc w m 9 [c7] y7 := h7
    obtain ⟨z7, e7, _, _⟩ := DataW.trod_string (by kernel_rfl) h7
    cases e7
    obtain ⟨cl, r1, a1⟩ := f4
    obtain ⟨cm, r2, a2⟩ := f5
    refine ⟨.mk z0 (bs z1) z2 z3 z4 z5 (bs z6) (bs z7), ?_⟩
    have := VR.mk (kind := z0) (s := bs z1) (b := z2) (n := z3) (inner := bs z6) (unk := bs z7) r1 (allF_LV a1) r2 (allF_LK a2)
    rw [mkS_bs, mkS_bs, mkS_bs] at this
    exact this
  · intro cs x h
    obtain ⟨hl, m, rfl, hf⟩ := dec_fields (T := 82) (fs := Tryz.prog.fieldsOf 82) (k := 11) (by kernel_rfl) (by kernel_rfl) h
    obtain ⟨c0, c1, c2, c3, c4, c5, c6, c7, c8, c9, c10, rfl⟩ := list11 hl
    obtain ⟨y0, h0⟩ := hf 0 9 0 1 (by kernel_rfl)
    have h0 : TR enc w m 9 [c0] y0 := h0
    obtain ⟨z0, e0, _, _⟩ := DataW.trod_string (by kernel_rfl) h0
    cases e0
    obtain ⟨y1, h1⟩ := hf 1 4 1 1 (by kernel_rfl)
    have h1 : TR enc w m 4 [c1] y1 := h1
    obtain ⟨z1, e1, _⟩ := DataW.trod_bool (by kernel_rfl) h1
    cases e1
    obtain ⟨y2, h2⟩ := hf 2 80 2 8 (by kernel_rfl)
    have h2 : TR enc w m 80 [c2, c3, c4, c5, c6, c7, c8, c9] y2 := h2
    obtain ⟨z2, f2⟩ := (ih m (by omega)).1 _ _ h2
    obtain ⟨y3, h3⟩ := hf 3 9 10 1 (by kernel_rfl)
    have h3 : TR enc w m 9 [c10] y3 := h3
    obtain ⟨z3, e3, _, _⟩ := DataW.trod_string (by kernel_rfl) h3
    cases e3
    refine ⟨.mk (bs z0) z1 z2 (bs z3), ?_⟩
    have := KR.mk (key := bs z0) (has := z1) (unk := bs z3) f2
    rw [mkS_bs, mkS_bs] at this
    exact this
theorem dec_key {n : Nat} {cs : List Value} {x : DataW H × List MemPlace} (h : TR enc w n 82 cs x) : ∃ k, (keyF k cs).holds (Old w) w := (dec_both n).2 cs x h
theorem dec_exem {n : Nat} {cs : List Value} {x : DataW H × List MemPlace} (h : TR enc w n 89 cs x) : ∃ k, (exemF k cs).holds (Old w) w := by
  obtain ⟨hl, m, rfl, hf⟩ := dec_fields (T := 89) (fs := Tryz.prog.fieldsOf 89) (k := 7) (by kernel_rfl) (by kernel_rfl) h
  obtain ⟨c0, c1, c2, c3, c4, c5, c6, rfl⟩ := list7 hl
  obtain ⟨y0, h0⟩ := hf 0 23 0 1 (by kernel_rfl)
  have h0 : TR enc w m 23 [c0] y0 := h0
  obtain ⟨z0, v0, e0, f0⟩ := dec_list keyF (t := 23) (e := 82) (k := 11) (by kernel_rfl) (by kernel_rfl) (by omega) keyF_len (fun j cs x hj h => dec_key h) h0
  cases e0
  obtain ⟨y1, h1⟩ := hf 1 24 1 1 (by kernel_rfl)
  have h1 : TR enc w m 24 [c1] y1 := h1
  obtain ⟨q1, e1, _, wf1⟩ := DataW.trod_int (k := .u64) (by kernel_rfl) h1
  cases e1
  obtain ⟨z1, rfl, b1⟩ := nat_of_u64 wf1
  obtain ⟨y2, h2⟩ := hf 2 3 2 1 (by kernel_rfl)
  have h2 : TR enc w m 3 [c2] y2 := h2
  obtain ⟨z2, e2, _, _⟩ := DataW.trod_int (k := .i64) (by kernel_rfl) h2
  cases e2
  obtain ⟨y3, h3⟩ := hf 3 24 3 1 (by kernel_rfl)
  have h3 : TR enc w m 24 [c3] y3 := h3
  obtain ⟨q3, e3, _, wf3⟩ := DataW.trod_int (k := .u64) (by kernel_rfl) h3
  cases e3
  obtain ⟨z3, rfl, b3⟩ := nat_of_u64 wf3
  obtain ⟨y4, h4⟩ := hf 4 9 4 1 (by kernel_rfl)
  have h4 : TR enc w m 9 [c4] y4 := h4
  obtain ⟨z4, e4, _, _⟩ := DataW.trod_string (by kernel_rfl) h4
  cases e4
  obtain ⟨y5, h5⟩ := hf 5 9 5 1 (by kernel_rfl)
  have h5 : TR enc w m 9 [c5] y5 := h5
  obtain ⟨z5, e5, _, _⟩ := DataW.trod_string (by kernel_rfl) h5
  cases e5
  obtain ⟨y6, h6⟩ := hf 6 9 6 1 (by kernel_rfl)
  have h6 : TR enc w m 9 [c6] y6 := h6
  obtain ⟨z6, e6, _, _⟩ := DataW.trod_string (by kernel_rfl) h6
  cases e6
  exact ⟨⟨z0, z1, z2, z3, bs z4, bs z5, bs z6⟩, c0, (by show _ = _; simp only [mkS_bs]), f0⟩
theorem dec_buck {n : Nat} {cs : List Value} {x : DataW H × List MemPlace} (h : TR enc w n 29 cs x) : ∃ k, (buckF k cs).holds (Old w) w := by
  obtain ⟨hl, m, rfl, hf⟩ := dec_fields (T := 29) (fs := Tryz.prog.fieldsOf 29) (k := 3) (by kernel_rfl) (by kernel_rfl) h
  obtain ⟨c0, c1, c2, rfl⟩ := list3 hl
  obtain ⟨y0, h0⟩ := hf 0 21 0 1 (by kernel_rfl)
  have h0 : TR enc w m 21 [c0] y0 := h0
  obtain ⟨z0, e0, _, _⟩ := DataW.trod_int (k := .i32) (by kernel_rfl) h0
  cases e0
  obtain ⟨y1, h1⟩ := hf 1 27 1 1 (by kernel_rfl)
  have h1 : TR enc w m 27 [c1] y1 := h1
  obtain ⟨z1, v1, e1, f1, g1⟩ := dec_nums (t := 27) (by kernel_rfl) h1
  cases e1
  obtain ⟨y2, h2⟩ := hf 2 9 2 1 (by kernel_rfl)
  have h2 : TR enc w m 9 [c2] y2 := h2
  obtain ⟨z2, e2, _, _⟩ := DataW.trod_string (by kernel_rfl) h2
  cases e2
  exact ⟨⟨z0, z1, bs z2⟩, c1, (by show _ = _; simp only [mkS_bs]), f1⟩
theorem dec_opt {n : Nat} {cs : List Value} {x : DataW H × List MemPlace} (h : TR enc w n 26 cs x) : ∃ o : OptN, cs = [.bool o.has, .int .u64 (o.n : Int)] ∧ o.n < 2 ^ 64 := by
  obtain ⟨hl, m, rfl, hf⟩ := dec_fields (T := 26) (fs := Tryz.prog.fieldsOf 26) (k := 2) (by kernel_rfl) (by kernel_rfl) h
  obtain ⟨c0, c1, rfl⟩ := list2 hl
  obtain ⟨y0, h0⟩ := hf 0 4 0 1 (by kernel_rfl)
  have h0 : TR enc w m 4 [c0] y0 := h0
  obtain ⟨z0, e0, _⟩ := DataW.trod_bool (by kernel_rfl) h0
  cases e0
  obtain ⟨y1, h1⟩ := hf 1 24 1 1 (by kernel_rfl)
  have h1 : TR enc w m 24 [c1] y1 := h1
  obtain ⟨q1, e1, _, wf1⟩ := DataW.trod_int (k := .u64) (by kernel_rfl) h1
  cases e1
  obtain ⟨z1, rfl, b1⟩ := nat_of_u64 wf1
  exact ⟨⟨z0, z1⟩, rfl, b1⟩
theorem dec_exp {n : Nat} {cs : List Value} {x : DataW H × List MemPlace} (h : TR enc w n 33 cs x) : ∃ k, (expF k cs).holds (Old w) w := by
  obtain ⟨hl, m, rfl, hf⟩ := dec_fields (T := 33) (fs := Tryz.prog.fieldsOf 33) (k := 24) (by kernel_rfl) (by kernel_rfl) h
  obtain ⟨c0, c1, c2, c3, c4, c5, c6, c7, c8, c9, c10, c11, c12, c13, c14, c15, c16, c17, c18, c19, c20, c21, c22, c23, rfl⟩ := list24 hl
  obtain ⟨y0, h0⟩ := hf 0 23 0 1 (by kernel_rfl)
  have h0 : TR enc w m 23 [c0] y0 := h0
  obtain ⟨z0, v0, e0, f0⟩ := dec_list keyF (t := 23) (e := 82) (k := 11) (by kernel_rfl) (by kernel_rfl) (by omega) keyF_len (fun j cs x hj h => dec_key h) h0
  cases e0
  obtain ⟨y1, h1⟩ := hf 1 24 1 1 (by kernel_rfl)
  have h1 : TR enc w m 24 [c1] y1 := h1
  obtain ⟨q1, e1, _, wf1⟩ := DataW.trod_int (k := .u64) (by kernel_rfl) h1
  cases e1
  obtain ⟨z1, rfl, b1⟩ := nat_of_u64 wf1
  obtain ⟨y2, h2⟩ := hf 2 24 2 1 (by kernel_rfl)
  have h2 : TR enc w m 24 [c2] y2 := h2
  obtain ⟨q2, e2, _, wf2⟩ := DataW.trod_int (k := .u64) (by kernel_rfl) h2
  cases e2
  obtain ⟨z2, rfl, b2⟩ := nat_of_u64 wf2
  obtain ⟨y3, h3⟩ := hf 3 24 3 1 (by kernel_rfl)
  have h3 : TR enc w m 24 [c3] y3 := h3
  obtain ⟨q3, e3, _, wf3⟩ := DataW.trod_int (k := .u64) (by kernel_rfl) h3
  cases e3
  obtain ⟨z3, rfl, b3⟩ := nat_of_u64 wf3
  obtain ⟨y4, h4⟩ := hf 4 26 4 2 (by kernel_rfl)
  have h4 : TR enc w m 26 [c4, c5] y4 := h4
  obtain ⟨z4, f4⟩ := dec_opt h4
  obtain ⟨y5, h5⟩ := hf 5 26 6 2 (by kernel_rfl)
  have h5 : TR enc w m 26 [c6, c7] y5 := h5
  obtain ⟨z5, f5⟩ := dec_opt h5
  obtain ⟨y6, h6⟩ := hf 6 26 8 2 (by kernel_rfl)
  have h6 : TR enc w m 26 [c8, c9] y6 := h6
  obtain ⟨z6, f6⟩ := dec_opt h6
  obtain ⟨y7, h7⟩ := hf 7 21 10 1 (by kernel_rfl)
  have h7 : TR enc w m 21 [c10] y7 := h7
  obtain ⟨z7, e7, _, _⟩ := DataW.trod_int (k := .i32) (by kernel_rfl) h7
  cases e7
  obtain ⟨y8, h8⟩ := hf 8 24 11 1 (by kernel_rfl)
  have h8 : TR enc w m 24 [c11] y8 := h8
  obtain ⟨q8, e8, _, wf8⟩ := DataW.trod_int (k := .u64) (by kernel_rfl) h8
  cases e8
  obtain ⟨z8, rfl, b8⟩ := nat_of_u64 wf8
  obtain ⟨y9, h9⟩ := hf 9 4 12 1 (by kernel_rfl)
  have h9 : TR enc w m 4 [c12] y9 := h9
  obtain ⟨z9, e9, _⟩ := DataW.trod_bool (by kernel_rfl) h9
  cases e9
  obtain ⟨y10, h10⟩ := hf 10 29 13 3 (by kernel_rfl)
  have h10 : TR enc w m 29 [c13, c14, c15] y10 := h10
  obtain ⟨z10, f10⟩ := dec_buck h10
  obtain ⟨y11, h11⟩ := hf 11 4 16 1 (by kernel_rfl)
  have h11 : TR enc w m 4 [c16] y11 := h11
  obtain ⟨z11, e11, _⟩ := DataW.trod_bool (by kernel_rfl) h11
  cases e11
  obtain ⟨y12, h12⟩ := hf 12 29 17 3 (by kernel_rfl)
  have h12 : TR enc w m 29 [c17, c18, c19] y12 := h12
  obtain ⟨z12, f12⟩ := dec_buck h12
  obtain ⟨y13, h13⟩ := hf 13 30 20 1 (by kernel_rfl)
  have h13 : TR enc w m 30 [c20] y13 := h13
  obtain ⟨z13, v13, e13, f13⟩ := dec_list exemF (t := 30) (e := 89) (k := 7) (by kernel_rfl) (by kernel_rfl) (by omega) exemF_len (fun j cs x hj h => dec_exem h) h13
  cases e13
  obtain ⟨y14, h14⟩ := hf 14 31 21 1 (by kernel_rfl)
  have h14 : TR enc w m 31 [c21] y14 := h14
  obtain ⟨q14, e14, _, wf14⟩ := DataW.trod_int (k := .u32) (by kernel_rfl) h14
  cases e14
  obtain ⟨z14, rfl, b14⟩ := nat_of_u32 wf14
  obtain ⟨y15, h15⟩ := hf 15 24 22 1 (by kernel_rfl)
  have h15 : TR enc w m 24 [c22] y15 := h15
  obtain ⟨q15, e15, _, wf15⟩ := DataW.trod_int (k := .u64) (by kernel_rfl) h15
  cases e15
  obtain ⟨z15, rfl, b15⟩ := nat_of_u64 wf15
  obtain ⟨y16, h16⟩ := hf 16 9 23 1 (by kernel_rfl)
  have h16 : TR enc w m 9 [c23] y16 := h16
  obtain ⟨z16, e16, _, _⟩ := DataW.trod_string (by kernel_rfl) h16
  cases e16
  obtain ⟨f4, _⟩ := f4
  obtain ⟨f5, _⟩ := f5
  obtain ⟨f6, _⟩ := f6
  cases f4
  cases f5
  cases f6
  have h := expF_of ⟨z0, z1, z2, z3, z4, z5, z6, z7, z8, z9, z10, z11, z12, z13, z14, z15, bs z16⟩ c0 c20 c13 c14 c15 c17 c18 c19 f0 f10 f12 f13
  simp only [mkS_bs] at h
  exact ⟨_, h⟩
end
end Go.Proofs.Gw
