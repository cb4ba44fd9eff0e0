/- Texts that a claim of this seat leans on: P1, V5, P2, P3, GM, M5. No statement is claimed in this text. -/
import Derived.Test.YtabmekglalbmoaaGreatDoorB8
import Derived.Test.YtabmekglalbmoaaGreatDoorB9
import Derived.Laws.IdiomStrings
import Derived.Laws.BytesArg
/- Records, one text behind another. -/
set_option linter.unusedVariables false
namespace Go.Proofs.Gm

theorem vr_app (t : Bs) : ∀ (l : Bs) (i acc : Nat) (x : Nat × Nat), vr i acc l = .ok x → vr i acc (l ++ t) = .ok x
  | [], _, _, _, h => by simp [vr] at h
  | c :: l, i, acc, x, h => by
    rw [vr] at h
    rw [List.cons_append, vr]
    split at h
    · cases h
    · rename_i h1
      rw [if_neg h1]
      split at h
      · rename_i h2; rw [if_pos h2]; exact h
      · rename_i h2; rw [if_neg h2]; exact vr_app t l _ _ x h
theorem vget_app {l : Bs} {x : Nat × Nat} (t : Bs) (h : vget l = .ok x) : vget (l ++ t) = .ok x := vr_app t l 0 0 x h
theorem tagM_app {l : Bs} {x : Nat × Nat × Nat} (t : Bs) (h : tagM l = .ok x) : tagM (l ++ t) = .ok x := by
  unfold tagM at h ⊢
  split at h
  · cases h
  · rename_i n k hv
    rw [vget_app t hv]; exact h
theorem grpM_of {d : Int} {num : Nat} {l : Bs} {n kind k : Nat} (h : tagM l = .ok (n, kind, k)) : grpM d num l = if kind = 4 then (if n = num then .ok k else .error 3) else
    match restM d n kind (l.drop k) with
    | .error c => .error c
    | .ok (_, _, j) => match grpM d num (l.drop (k + j)) with
      | .error c => .error c
      | .ok m => .ok (k + j + m) := by
  rw [grpM]
  split
  · rename_i h2; rw [h] at h2; cases h2
  · rename_i n' kind' k' h2
    rw [h] at h2
    simp only [Except.ok.injEq, Prod.mk.injEq] at h2
    obtain ⟨rfl, rfl, rfl⟩ := h2
    rfl
theorem grpM_err {d : Int} {num : Nat} {l : Bs} {c : Int} (h : tagM l = .error c) : grpM d num l = .error c := by
  rw [grpM]
  split
  · rename_i h2; rw [h] at h2; cases h2; rfl
  · rename_i n' kind' k' h2
    rw [h] at h2; cases h2
theorem rest_app (t : Bs) : ∀ (m : Nat) (l : Bs), l.length ≤ m → (∀ (d : Int) (num kind : Nat) (x : Nat × Bs × Nat), restM d num kind l = .ok x → restM d num kind (l ++ t) = .ok x) ∧ (∀ (d : Int) (num k : Nat), grpM d num l = .ok k → grpM d num (l ++ t) = .ok k) := by
  intro m
  induction m with
  | zero =>
    intro l hl
    have : l = [] := List.eq_nil_of_length_eq_zero (by omega)
    subst this
    have hg : ∀ (d : Int) (num k : Nat), grpM d num [] = .ok k → grpM d num ([] ++ t) = .ok k := by
      intro d num k h
      have := (restM_le _ [] (Nat.le_refl _)).2 d num k h
      simp at this; omega
    refine ⟨?_, hg⟩
    intro d num kind x h
    rw [restM] at h ⊢
    split at h
    · simp [vget, vr] at h
    · rename_i h0
      rw [if_neg h0]
      split at h
      · simp at h
      · rename_i h1
        rw [if_neg h1]
        split at h
        · simp at h
        · rename_i h5
          rw [if_neg h5]
          split at h
          · simp [vget, vr] at h
          · rename_i h2
            rw [if_neg h2]
            split at h
            · split at h
              · cases h
              · split at h
                · cases h
                · rename_i hq; have := (restM_le _ [] (Nat.le_refl _)).2 _ _ _ hq
                  simp at this; omega
            · cases h
  | succ m ih =>
    intro l hl
    have hg : ∀ (d : Int) (num k : Nat), grpM d num l = .ok k → grpM d num (l ++ t) = .ok k := by
      intro d num k h
      cases ht : tagM l with
      | error c => rw [grpM_err ht] at h; cases h
      | ok x =>
        obtain ⟨n, kind, j⟩ := x
        rw [grpM_of ht] at h
        rw [grpM_of (tagM_app t ht)]
        have h1 := tagM_ok ht
        split at h
        · rename_i h4
          rw [if_pos h4]; exact h
        · rename_i h4
          rw [if_neg h4]
          split at h
          · cases h
          · rename_i x y i hr
            have h2 := (restM_le _ (l.drop j) (Nat.le_refl _)).1 _ _ _ _ _ _ hr
            rw [List.length_drop] at h2
            rw [List.drop_append_of_le_length h1.2.2.2.2, (ih (l.drop j) (by simp; omega)).1 _ _ _ _ hr]
            simp only
            rw [List.drop_append_of_le_length (by omega)]
            split at h
            · cases h
            · rename_i q hq
              rw [(ih (l.drop (j + i)) (by simp; omega)).2 _ _ _ hq]; exact h
    refine ⟨?_, hg⟩
    intro d num kind x h
    rw [restM] at h ⊢
    split at h
    · rename_i h0
      rw [if_pos h0]
      split at h
      · cases h
      · rename_i a b hv
        rw [vget_app t hv]; exact h
    · rename_i h0
      rw [if_neg h0]
      split at h
      · rename_i h1
        rw [if_pos h1]
        split at h
        · rename_i h8
          rw [if_pos (by simp; omega), List.take_append_of_le_length h8]; exact h
        · cases h
      · rename_i h1
        rw [if_neg h1]
        split at h
        · rename_i h5
          rw [if_pos h5]
          split at h
          · rename_i h8
            rw [if_pos (by simp; omega), List.take_append_of_le_length h8]; exact h
          · cases h
        · rename_i h5
          rw [if_neg h5]
          split at h
          · rename_i h2
            rw [if_pos h2]
            split at h
            · cases h
            · rename_i a b hv
              have hb := vget_ok hv
              rw [vget_app t hv]
              simp only
              split at h
              · rename_i hle
                rw [if_pos (by simp; omega), List.drop_append_of_le_length hb.2.2.1, List.take_append_of_le_length (by simp; omega)]; exact h
              · cases h
          · rename_i h2
            rw [if_neg h2]
            split at h
            · rename_i h3
              rw [if_pos h3]
              split at h
              · cases h
              · rename_i h6
                rw [if_neg h6]
                split at h
                · cases h
                · rename_i hq; rw [hg _ _ _ hq]; exact h
            · cases h
theorem recM_app {d : Int} {l : Bs} {r : Rec} {k : Nat} (t : Bs) (h : recM d l = .ok (r, k)) : recM d (l ++ t) = .ok (r, k) := by
  have hk := recM_ok h
  unfold recM at h ⊢
  cases ht : tagM l with
  | error c => rw [ht] at h; cases h
  | ok x =>
    obtain ⟨num, kind, j⟩ := x
    rw [ht] at h
    rw [tagM_app t ht]
    have h1 := tagM_ok ht
    simp only at h ⊢
    rw [List.drop_append_of_le_length h1.2.2.2.2]
    split at h
    · cases h
    · rename_i n s i hr
      rw [(rest_app t _ (l.drop j) (Nat.le_refl _)).1 _ _ _ _ hr]
      simp only [Except.ok.injEq, Prod.mk.injEq] at h
      simp only
      rw [List.take_append_of_le_length (by omega), h.1, h.2]
theorem allM_nil (d : Int) : allM d [] = .ok [] := by rw [allM, if_pos rfl]
theorem allM_cons {d : Int} {l : Bs} {r : Rec} {k : Nat} {rs : List Rec} (h : recM d l = .ok (r, k)) (h2 : allM d (l.drop k) = .ok rs) : allM d l = .ok (r :: rs) := by
  have hk := recM_ok h
  rw [allM, if_neg (fun e => by rw [e] at hk; simp at hk; omega)]
  split
  · rename_i h3; rw [h] at h3; cases h3
  · rename_i r' k' h3
    rw [h] at h3
    simp only [Except.ok.injEq, Prod.mk.injEq] at h3
    obtain ⟨rfl, rfl⟩ := h3
    rw [h2]
theorem allM_stop {d : Int} {l : Bs} {c : Int} (hne : l ≠ []) (h : recM d l = .error c) : allM d l = .error c := by
  rw [allM, if_neg hne]
  split
  · rename_i h3; rw [h] at h3; cases h3; rfl
  · rename_i r' k' h3
    rw [h] at h3; cases h3
theorem allM_cons_err {d : Int} {l : Bs} {r : Rec} {k : Nat} {c : Int} (h : recM d l = .ok (r, k)) (h2 : allM d (l.drop k) = .error c) : allM d l = .error c := by
  have hk := recM_ok h
  rw [allM, if_neg (fun e => by rw [e] at hk; simp at hk; omega)]
  split
  · rename_i h3; rw [h] at h3; cases h3
  · rename_i r' k' h3
    rw [h] at h3
    simp only [Except.ok.injEq, Prod.mk.injEq] at h3
    obtain ⟨rfl, rfl⟩ := h3
    rw [h2]
theorem allM_app (d : Int) (t : Bs) : ∀ (m : Nat) (s : Bs) (rs : List Rec), s.length ≤ m → allM d s = .ok rs → allM d (s ++ t) = match allM d t with
    | .ok ts => .ok (rs ++ ts)
    | .error c => .error c := by
  intro m
  induction m with
  | zero =>
    intro s rs hl h
    have : s = [] := List.eq_nil_of_length_eq_zero (by omega)
    subst this
    rw [allM_nil] at h
    cases h
    cases h2 : allM d t <;> simp [h2]
  | succ m ih =>
    intro s rs hl h
    rcases Gw.allM_ok h with ⟨rfl, rfl⟩ | ⟨r, k, rs', hr, hq, rfl, hne⟩
    · cases h2 : allM d t <;> simp [h2]
    · have hk := recM_ok hr
      have h1 := ih (s.drop k) rs' (by simp; omega) hq
      have h2 : (s ++ t).drop k = s.drop k ++ t := List.drop_append_of_le_length hk.2.1
      rw [← h2] at h1
      cases h3 : allM d t with
      | ok ts => rw [h3] at h1; rw [allM_cons (recM_app t hr) h1]; rfl
      | error c => rw [h3] at h1; rw [allM_cons_err (recM_app t hr) h1]
/-- Of two that are read. -/
theorem readE_none {d : Int} {l : Bs} (h : readE d l = none) : 0 ≤ d ∧ ∃ rs, allM d l = .ok rs := by
  unfold readE at h
  split at h
  · cases h
  · refine ⟨by omega, ?_⟩
    cases h2 : allM d l with
    | ok rs => exact ⟨rs, rfl⟩
    | error c => rw [h2] at h; cases h
theorem readE_ok {d : Int} {l : Bs} {rs : List Rec} (hd : 0 ≤ d) (h : allM d l = .ok rs) (t : Nat → Nat → Bool) : readE d l = none ∧ readU t d l = restR t rs ∧ readT t d l = takenM t rs := by
  unfold readE readU readT
  rw [if_neg (by omega), if_neg (by omega), if_neg (by omega), h]
  exact ⟨rfl, rfl, rfl⟩
theorem read_app {d : Int} {s t : Bs} (hs : readE d s = none) (ht : readE d t = none) (tm : Nat → Nat → Bool) :
    readE d (s ++ t) = none ∧ readU tm d (s ++ t) = readU tm d s ++ readU tm d t ∧ readT tm d (s ++ t) = readT tm d s ++ readT tm d t := by
  obtain ⟨hd, rs, h1⟩ := readE_none hs
  obtain ⟨_, ts, h2⟩ := readE_none ht
  have h3 := allM_app d t _ s rs (Nat.le_refl _) h1
  rw [h2] at h3
  have a1 := readE_ok hd h1 tm
  have a2 := readE_ok hd h2 tm
  have a3 := readE_ok hd h3 tm
  refine ⟨a3.1, ?_, ?_⟩
  · rw [a3.2.1, a1.2.1, a2.2.1]; unfold restR; rw [List.filter_append, List.flatMap_append]
  · rw [a3.2.2, a1.2.2, a2.2.2]; unfold takenM; rw [List.filter_append]
theorem ofNum_app (a b : List Rec) (num : Nat) : ofNum (a ++ b) num = ofNum a num ++ ofNum b num := by unfold ofNum; rw [List.filter_append]
end Go.Proofs.Gm
/- Exemplars, buckets, points: what is read, in plain terms, and how it lies in memory. -/
set_option linter.unusedVariables false
namespace Go.Proofs.Gm
/-- A number that may lack. -/
structure OptN where
  has : Bool
  n : Nat
structure Num where
  attrs : List Key
  start : Nat
  time : Nat
  kind : Int
  n : Nat
  exs : List Exem
  flags : Nat
  unk : Bs
structure His where
  attrs : List Key
  start : Nat
  time : Nat
  count : Nat
  sum : OptN
  min : OptN
  max : OptN
  counts : List Nat
  bounds : List Nat
  exs : List Exem
  flags : Nat
  unk : Bs
structure Expo where
  attrs : List Key
  start : Nat
  time : Nat
  count : Nat
  sum : OptN
  min : OptN
  max : OptN
  scale : Int
  zero : Nat
  hasPos : Bool
  pos : Buck
  hasNeg : Bool
  neg : Buck
  exs : List Exem
  flags : Nat
  thr : Nat
  unk : Bs
def zag32 (n : Nat) : Int := if n % 2 = 0 then ((n % 4294967296 / 2 : Nat) : Int) else -((n % 4294967296 / 2 : Nat) : Int) - 1
def buck0 : Buck := ⟨0, [], []⟩
end Go.Proofs.Gm
namespace Go.Proofs.Gw
open Go Go.RowKit Go.Proofs.Gm

def FP.pure (p : Prop) : FP := ⟨fun _ _ => p, fun _ _ _ _ h => h, fun _ _ _ _ h => h⟩
def FP.and (f g : FP) : FP := ⟨fun ok w => f.holds ok w ∧ g.holds ok w, fun ok w w' h h1 => ⟨f.loc ok w w' h h1.1, g.loc ok w w' h h1.2⟩, fun ok ok' w h h1 => ⟨f.mono ok ok' w h h1.1, g.mono ok ok' w h h1.2⟩⟩
def FP.ex {β : Type} (f : β → FP) : FP := ⟨fun ok w => ∃ x, (f x).holds ok w, fun ok w w' h ⟨x, h1⟩ => ⟨x, (f x).loc ok w w' h h1⟩, fun ok ok' w h ⟨x, h1⟩ => ⟨x, (f x).mono ok ok' w h h1⟩⟩
/-- A slice of numbers. -/
def numsF (l : List Nat) (v : Value) : FP := ⟨fun ok w => rowS ok w 1 v l.length (u64C l), fun _ _ _ h => rowS.loc h, fun _ _ _ h => rowS.mono h⟩
def optV (o : OptN) : List Value := [.bool o.has, .int .u64 (o.n : Int)]
def exemF (x : Exem) (cs : List Value) : FP := FP.ex fun v : Value => FP.and (FP.pure (cs = [v, .int .u64 (x.time : Int), .int .i64 x.kind, .int .u64 (x.n : Int), .string (mkS x.span), .string (mkS x.trace), .string (mkS x.unk)])) (listF keyF 11 x.attrs v)
def buckF (x : Buck) (cs : List Value) : FP := FP.ex fun v : Value => FP.and (FP.pure (cs = [.int .i32 x.off, v, .string (mkS x.unk)])) (numsF x.counts v)
def numF (x : Num) (cs : List Value) : FP := FP.ex fun v : Value × Value => FP.and (FP.pure (cs = [v.1, .int .u64 (x.start : Int), .int .u64 (x.time : Int), .int .i64 x.kind, .int .u64 (x.n : Int), v.2, .int .u32 (x.flags : Int), .string (mkS x.unk)])) (FP.and (listF keyF 11 x.attrs v.1) (listF exemF 7 x.exs v.2))
def hisF (x : His) (cs : List Value) : FP := FP.ex fun v : Value × Value × Value × Value => FP.and (FP.pure (cs = [v.1, .int .u64 (x.start : Int), .int .u64 (x.time : Int), .int .u64 (x.count : Int), .bool x.sum.has, .int .u64 (x.sum.n : Int), .bool x.min.has, .int .u64 (x.min.n : Int), .bool x.max.has, .int .u64 (x.max.n : Int), v.2.1, v.2.2.1, v.2.2.2, .int .u32 (x.flags : Int), .string (mkS x.unk)])) (FP.and (listF keyF 11 x.attrs v.1) (FP.and (numsF x.counts v.2.1) (FP.and (numsF x.bounds v.2.2.1) (listF exemF 7 x.exs v.2.2.2))))
def expF (x : Expo) (cs : List Value) : FP := FP.ex fun v : Value × Value × Value × Value => FP.and (FP.pure (cs = [v.1, .int .u64 (x.start : Int), .int .u64 (x.time : Int), .int .u64 (x.count : Int), .bool x.sum.has, .int .u64 (x.sum.n : Int), .bool x.min.has, .int .u64 (x.min.n : Int), .bool x.max.has, .int .u64 (x.max.n : Int), .int .i32 x.scale, .int .u64 (x.zero : Int), .bool x.hasPos, .int .i32 x.pos.off, v.2.1, .string (mkS x.pos.unk), .bool x.hasNeg, .int .i32 x.neg.off, v.2.2.1, .string (mkS x.neg.unk), v.2.2.2, .int .u32 (x.flags : Int), .int .u64 (x.thr : Int), .string (mkS x.unk)])) (FP.and (listF keyF 11 x.attrs v.1) (FP.and (numsF x.pos.counts v.2.1) (FP.and (numsF x.neg.counts v.2.2.1) (listF exemF 7 x.exs v.2.2.2))))

def optM (rs : List Rec) (num : Nat) : OptN := ⟨decide ((lastM rs num).num = num), (lastM rs num).n⟩
def exemE (d : Int) (s : Bs) : Option (Option Int) := noteL (readE d s) (rlM keyM (d - 1) 7 (readT exemT d s))
def exemM (d : Int) (s : Bs) : Res Exem :=
  let rs := readT exemT d s
  finM (exemE d s) ⟨oks (rlM keyM (d - 1) 7 rs), (lastM rs 2).n, (numK 3 6 rs : Nat), numN 3 6 rs, (lastM rs 4).s, (lastM rs 5).s, readU exemT d s⟩
def buckE (d : Int) (s : Bs) : Option (Option Int) := pkE varsM 2 (readE d s) (readT buckT d s)
def buckM (d : Int) (s : Bs) : Res Buck :=
  let rs := readT buckT d s
  finM (buckE d s) ⟨zag32 (lastM rs 1).n, pkM varsM 2 rs, readU buckT d s⟩
def numE (d : Int) (s : Bs) : Option (Option Int) := noteL (noteL (readE d s) (rlM keyM (d - 1) 7 (readT numT d s))) (rlM exemM (d - 1) 5 (readT numT d s))
def numM (d : Int) (s : Bs) : Res Num :=
  let rs := readT numT d s
  finM (numE d s) ⟨oks (rlM keyM (d - 1) 7 rs), (lastM rs 2).n, (lastM rs 3).n, (numK 4 6 rs : Nat), numN 4 6 rs, oks (rlM exemM (d - 1) 5 rs), (lastM rs 8).n % 4294967296, readU numT d s⟩
def hisE (d : Int) (s : Bs) : Option (Option Int) := let rs := readT hisT d s; noteL (pkE fixsM 7 (pkE fixsM 6 (noteL (readE d s) (rlM keyM (d - 1) 9 rs)) rs) rs) (rlM exemM (d - 1) 8 rs)
def hisM (d : Int) (s : Bs) : Res His :=
  let rs := readT hisT d s
  finM (hisE d s) ⟨oks (rlM keyM (d - 1) 9 rs), (lastM rs 2).n, (lastM rs 3).n, (lastM rs 4).n, optM rs 5, optM rs 11, optM rs 12, pkM fixsM 6 rs, pkM fixsM 7 rs, oks (rlM exemM (d - 1) 8 rs), (lastM rs 10).n % 4294967296, readU hisT d s⟩
def expE (d : Int) (s : Bs) : Option (Option Int) := let rs := readT expT d s; note (note (noteL (noteL (readE d s) (rlM keyM (d - 1) 1 rs)) (rlM exemM (d - 1) 11 rs)) (errP (partM buckM (d - 1) 8 rs))) (errP (partM buckM (d - 1) 9 rs))
def expM (d : Int) (s : Bs) : Res Expo :=
  let rs := readT expT d s
  finM (expE d s) ⟨oks (rlM keyM (d - 1) 1 rs), (lastM rs 2).n, (lastM rs 3).n, (lastM rs 4).n, optM rs 5, optM rs 12, optM rs 13, zag32 (lastM rs 6).n, (lastM rs 7).n,
    decide (ofNum rs 8 ≠ []), partD buck0 (partM buckM (d - 1) 8 rs), decide (ofNum rs 9 ≠ []), partD buck0 (partM buckM (d - 1) 9 rs), oks (rlM exemM (d - 1) 11 rs), (lastM rs 10).n % 4294967296, (lastM rs 14).n, readU expT d s⟩
theorem finM_ok {α : Type} {er : Option (Option Int)} {a b : α} (h : finM er a = .ok b) : er = none ∧ a = b := by
  cases er with
  | none => simp only [finM, Except.ok.injEq] at h; exact ⟨rfl, h⟩
  | some oc => simp only [finM, reduceCtorEq] at h
theorem errE_ok {α : Type} {x : Res α} (h : errE x = none) : ∃ a, x = .ok a := by
  cases x with
  | ok a => exact ⟨a, rfl⟩
  | error oc => cases h
theorem finM_none {α : Type} {er : Option (Option Int)} (a : α) (h : er = none) : finM er a = .ok a := by rw [h]; rfl
end Go.Proofs.Gw
/- Of two that are read, one behind the other: buckets, points. -/
set_option linter.unusedVariables false
namespace Go.Proofs.Gw
open Go Go.Proofs.Gm

theorem noteL_app {α : Type} (er : Option (Option Int)) (a b : List (Res α)) : noteL er (a ++ b) = noteL (noteL er a) b := by unfold noteL; rw [List.foldl_append]
theorem noteL_er {α : Type} {er : Option (Option Int)} {a : List (Res α)} (h : noteL er a = none) : er = none ∧ noteL none a = none := by
  have h2 := (noteL_none h).1
  subst h2; exact ⟨rfl, h⟩
theorem rlM_app {α : Type} (m : Int → Bs → Res α) (d : Int) (num : Nat) (a b : List Rec) : rlM m d num (a ++ b) = rlM m d num a ++ rlM m d num b := by unfold rlM; rw [ofNum_app, List.map_append]
theorem noteL_two {α : Type} {m : Int → Bs → Res α} {d : Int} {num : Nat} {a b : List Rec} (h : noteL none (rlM m d num a) = none) (h2 : noteL none (rlM m d num b) = none) : noteL none (rlM m d num (a ++ b)) = none := by
  rw [rlM_app, noteL_app, h, h2]
theorem oks_app {α : Type} (a b : List (Res α)) : oks (a ++ b) = oks a ++ oks b := by unfold oks; rw [List.filterMap_append]
theorem pkM_app (m : Bs → NRes) (num : Nat) (a b : List Rec) : pkM m num (a ++ b) = pkM m num a ++ pkM m num b := by unfold pkM; rw [ofNum_app, List.flatMap_append]
theorem pkE_app (m : Bs → NRes) (num : Nat) (er : Option (Option Int)) (a b : List Rec) : pkE m num er (a ++ b) = pkE m num (pkE m num er a) b := by unfold pkE; rw [List.foldl_append]
theorem pkE_er {m : Bs → NRes} {num : Nat} : ∀ {a : List Rec} {er : Option (Option Int)}, pkE m num er a = none → er = none
  | [], _, h => h
  | r :: a, er, h => by
    have h2 := pkE_er (a := a) (er := if r.num = num ∧ r.kind = 2 then note er (nErr (m r.s)) else er) h
    split at h2
    · exact (note_eq_none h2).1
    · exact h2
theorem joinM_app (num : Nat) (a b : List Rec) : joinM num (a ++ b) = joinM num a ++ joinM num b := by unfold joinM; rw [ofNum_app, List.flatMap_append]
theorem buck_app {d : Int} {s t : Bs} {a b : Buck} (hs : buckM d s = .ok a) (ht : buckM d t = .ok b) : ∃ c, buckM d (s ++ t) = .ok c ∧ c.counts = a.counts ++ b.counts ∧ c.unk = a.unk ++ b.unk := by
  obtain ⟨e1, rfl⟩ := finM_ok hs
  obtain ⟨e2, rfl⟩ := finM_ok ht
  unfold buckE at e1 e2
  have r1 := pkE_er e1
  have r2 := pkE_er e2
  obtain ⟨q1, q2, q3⟩ := read_app r1 r2 buckT
  rw [r1] at e1; rw [r2] at e2
  refine ⟨_, finM_none _ ?_, ?_, ?_⟩
  · unfold buckE; rw [q1, q3, pkE_app, e1, e2]
  · simp only [q3, pkM_app]
  · simp only [q2]
/-- A side, told in both. -/
theorem part_app {d : Int} {num : Nat} {a b : List Rec} (ha : errP (partM buckM d num a) = none) (hb : errP (partM buckM d num b) = none) :
    errP (partM buckM d num (a ++ b)) = none ∧ (partD buck0 (partM buckM d num (a ++ b))).counts = (partD buck0 (partM buckM d num a)).counts ++ (partD buck0 (partM buckM d num b)).counts ∧ (partD buck0 (partM buckM d num (a ++ b))).unk = (partD buck0 (partM buckM d num a)).unk ++ (partD buck0 (partM buckM d num b)).unk := by
  unfold partM at ha hb ⊢
  rw [ofNum_app, joinM_app]
  by_cases h1 : ofNum a num = []
  · have j1 : joinM num a = [] := by unfold joinM; rw [h1]; rfl
    rw [j1, h1, List.nil_append, List.nil_append, if_pos rfl]
    by_cases h2 : ofNum b num = []
    · rw [if_pos h2]; exact ⟨rfl, rfl, rfl⟩
    · rw [if_neg h2] at hb ⊢
      exact ⟨hb, rfl, rfl⟩
  · rw [if_neg h1] at ha ⊢
    obtain ⟨x, hx⟩ := errE_ok ha
    rw [if_neg (fun h => h1 (List.append_eq_nil_iff.1 h).1)]
    by_cases h2 : ofNum b num = []
    · have j2 : joinM num b = [] := by unfold joinM; rw [h2]; rfl
      rw [j2, List.append_nil, if_pos h2]
      exact ⟨ha, by simp [partD, buck0], by simp [partD, buck0]⟩
    · rw [if_neg h2] at hb ⊢
      obtain ⟨y, hy⟩ := errE_ok hb
      obtain ⟨c, hc, h3, h4⟩ := buck_app hx hy
      rw [hc, hx, hy]
      exact ⟨rfl, h3, h4⟩
/-- Points, one behind the other. -/
theorem exp_app {d : Int} {s t : Bs} {x y : Expo} (hs : expM d s = .ok x) (ht : expM d t = .ok y) : ∃ z, expM d (s ++ t) = .ok z ∧ z.unk = x.unk ++ y.unk ∧ z.attrs.length = x.attrs.length + y.attrs.length ∧ z.hasPos = (x.hasPos || y.hasPos) ∧
    z.pos.counts.length = x.pos.counts.length + y.pos.counts.length ∧ z.pos.unk = x.pos.unk ++ y.pos.unk ∧ z.neg.counts.length = x.neg.counts.length + y.neg.counts.length := by
  obtain ⟨e1, rfl⟩ := finM_ok hs
  obtain ⟨e2, rfl⟩ := finM_ok ht
  unfold expE at e1 e2
  obtain ⟨a1, a9⟩ := note_eq_none e1
  obtain ⟨a2, a8⟩ := note_eq_none a1
  obtain ⟨a3, a11⟩ := noteL_er a2
  obtain ⟨a0, a1⟩ := noteL_er a3
  obtain ⟨b1, b9⟩ := note_eq_none e2
  obtain ⟨b2, b8⟩ := note_eq_none b1
  obtain ⟨b3, b11⟩ := noteL_er b2
  obtain ⟨b0, b1⟩ := noteL_er b3
  obtain ⟨q1, q2, q3⟩ := read_app a0 b0 expT
  obtain ⟨p8, p8c, p8u⟩ := part_app a8 b8
  obtain ⟨p9, p9c, p9u⟩ := part_app a9 b9
  refine ⟨_, finM_none _ ?_, ?_, ?_, ?_, ?_, ?_, ?_⟩
  · unfold expE; simp only [q1, q3]; rw [noteL_two a1 b1, noteL_two a11 b11, p8, p9]; rfl
  · simp only [q2]
  · simp only [q3, rlM_app, oks_app, List.length_append]
  · simp only [q3, ofNum_app]
    rw [← Bool.decide_or, decide_eq_decide, ne_eq, List.append_eq_nil_iff]
    constructor
    · intro h
      by_cases h1 : ofNum (readT expT d s) 8 = []
      · exact .inr fun h2 => h ⟨h1, h2⟩
      · exact .inl h1
    · rintro (h | h) ⟨h1, h2⟩
      · exact h h1
      · exact h h2
  · simp only [q3]; rw [p8c, List.length_append]
  · simp only [q3]; rw [p8u]
  · simp only [q3]; rw [p9c, List.length_append]
end Go.Proofs.Gw
/- Groups, nested as deep as told or deeper, behind a text that is read. -/
set_option linter.unusedVariables false
namespace Go.Proofs.Gm
theorem tag90b (l : Bs) : tagM (211 :: 5 :: l) = .ok (90, 3, 2) := by simp [tagM, vget, vr]
theorem tag90e (l : Bs) : tagM (212 :: 5 :: l) = .ok (90, 4, 2) := by simp [tagM, vget, vr]
theorem tag91b (l : Bs) : tagM (219 :: 5 :: l) = .ok (91, 3, 2) := by simp [tagM, vget, vr]
theorem tag91e (l : Bs) : tagM (220 :: 5 :: l) = .ok (91, 4, 2) := by simp [tagM, vget, vr]
theorem tag92e (l : Bs) : tagM (228 :: 5 :: l) = .ok (92, 4, 2) := by simp [tagM, vget, vr]
theorem tag_nil : tagM [] = .error 1 := by simp [tagM, vget, vr]
def nest : Nat → Bs
  | 0 => []
  | i + 1 => [211, 5] ++ nest i ++ [212, 5]
theorem nest_len : ∀ i, (nest i).length = 4 * i
  | 0 => rfl
  | i + 1 => by simp [nest, nest_len i]; omega
theorem restM3 (d : Int) (num : Nat) (l : Bs) : restM d num 3 l = if d < 1 then .error 6 else match grpM (d - 1) num l with
    | .error c => .error c
    | .ok k => .ok (0, [], k) := by
  rw [restM]; rfl
/-- As deep as may be. -/
theorem grp_nest : ∀ (i : Nat) (d : Int) (t : Bs), (i : Int) ≤ d → grpM d 90 (nest i ++ [212, 5] ++ t) = .ok (4 * i + 2)
  | 0, d, t, h => by
    simp only [nest, List.nil_append, List.cons_append]
    rw [grpM_of (tag90e t)]; rfl
  | i + 1, d, t, h => by
    have e : nest (i + 1) ++ [212, 5] ++ t = 211 :: 5 :: (nest i ++ [212, 5] ++ ([212, 5] ++ t)) := by simp [nest]
    rw [e, grpM_of (tag90b _)]
    simp only [show ((3 : Nat) = 4) = False by simp, if_false]
    have e2 : List.drop 2 (211 :: 5 :: (nest i ++ [212, 5] ++ ([212, 5] ++ t))) = nest i ++ [212, 5] ++ ([212, 5] ++ t) := rfl
    rw [e2, restM3, if_neg (by omega), grp_nest i (d - 1) _ (by omega)]
    simp only
    have e3 : List.drop (2 + (4 * i + 2)) (211 :: 5 :: (nest i ++ [212, 5] ++ ([212, 5] ++ t))) = 212 :: 5 :: t := by
      rw [show 2 + (4 * i + 2) = (4 * i + 2) + 1 + 1 by omega, List.drop_succ_cons, List.drop_succ_cons, List.drop_left' (by simp [nest_len])]; rfl
    rw [e3, grpM_of (tag90e t)]
    simp only [if_true]
    rw [show 2 + (4 * i + 2) + 2 = 4 * (i + 1) + 2 by omega]
/-- Too deep. -/
theorem grp_deep : ∀ (i : Nat) (num : Nat) (t : Bs), grpM (i : Int) num (nest (i + 1) ++ t) = .error 6
  | i, num, t => by
    have e : nest (i + 1) ++ t = 211 :: 5 :: (nest i ++ ([212, 5] ++ t)) := by simp [nest]
    rw [e, grpM_of (tag90b _)]
    simp only [show ((3 : Nat) = 4) = False by simp, if_false]
    have e2 : List.drop 2 (211 :: 5 :: (nest i ++ ([212, 5] ++ t))) = nest i ++ ([212, 5] ++ t) := rfl
    rw [e2, restM3]
    match i with
    | 0 => rfl
    | j + 1 =>
      rw [if_neg (by omega), show ((j + 1 : Nat) : Int) - 1 = (j : Int) by omega, grp_deep j 90]
theorem all_nest (n : Nat) : allM (n : Int) (nest n) = if n = 0 then .ok [] else .ok [⟨90, 3, 0, [], nest n⟩] := by
  match n with
  | 0 => rw [if_pos rfl]; exact allM_nil _
  | i + 1 =>
    rw [if_neg (by omega)]
    have e : nest (i + 1) = 211 :: 5 :: (nest i ++ [212, 5] ++ []) := by simp [nest]
    have h : recM ((i + 1 : Nat) : Int) (nest (i + 1)) = .ok (⟨90, 3, 0, [], nest (i + 1)⟩, 4 * (i + 1)) := by
      unfold recM
      rw [e, tag90b]
      simp only
      have e2 : List.drop 2 (211 :: 5 :: (nest i ++ [212, 5] ++ [])) = nest i ++ [212, 5] ++ [] := rfl
      rw [e2, restM3, if_neg (by omega), grp_nest i _ _ (by omega)]
      simp only
      rw [List.take_of_length_le (by simp [nest_len]; omega), show 2 + (4 * i + 2) = 4 * (i + 1) by omega]
    refine allM_cons h ?_
    rw [List.drop_of_length_le (by rw [nest_len]; omega)]
    exact allM_nil _
theorem all_deep (n : Nat) (t : Bs) : allM (n : Int) (219 :: 5 :: (nest n ++ t)) = .error 6 := by
  refine allM_stop (by simp) ?_
  unfold recM
  rw [tag91b]
  simp only
  have e2 : List.drop 2 (219 :: 5 :: (nest n ++ t)) = nest n ++ t := rfl
  rw [e2, restM3]
  match n with
  | 0 => rfl
  | i + 1 => rw [if_neg (by omega), show ((i + 1 : Nat) : Int) - 1 = (i : Int) by omega, grp_deep i 91]
theorem all_open (n : Nat) : ∃ c, allM (n : Int) [211, 5] = .error c := by
  refine ⟨if n = 0 then 6 else 1, allM_stop (by simp) ?_⟩
  unfold recM
  rw [tag90b]
  simp only
  have e2 : List.drop 2 [(211 : UInt8), 5] = [] := rfl
  rw [e2, restM3]
  by_cases h : n = 0
  · subst h; rfl
  · rw [if_neg (by omega), if_neg h, grpM_err tag_nil]
theorem all_cross (n : Nat) : ∃ c, allM (n : Int) [211, 5, 228, 5] = .error c := by
  refine ⟨if n = 0 then 6 else 3, allM_stop (by simp) ?_⟩
  unfold recM
  rw [tag90b]
  simp only
  have e2 : List.drop 2 [(211 : UInt8), 5, 228, 5] = [228, 5] := rfl
  rw [e2, restM3]
  by_cases h : n = 0
  · subst h; rfl
  · rw [if_neg (by omega), if_neg h, grpM_of (tag92e [])]; rfl
end Go.Proofs.Gm
namespace Go.Proofs.Gw
open Go Go.Proofs.Gm
/-- What stands behind, of no table, is unknown: all else is the same. -/
theorem read_unk {d : Int} {s t : Bs} {ts : List Rec} (hs : readE d s = none) (ht : allM d t = .ok ts) (tm : Nat → Nat → Bool) (hn : ∀ r, r ∈ ts → tm r.num r.kind = false) :
    readE d (s ++ t) = none ∧ readU tm d (s ++ t) = readU tm d s ++ t ∧ readT tm d (s ++ t) = readT tm d s := by
  obtain ⟨hd, rs, h1⟩ := readE_none hs
  have b := readE_ok hd ht tm
  obtain ⟨a1, a2, a3⟩ := read_app hs b.1 tm
  refine ⟨a1, ?_, ?_⟩
  · rw [a2, b.2.1]
    have h4 := allM_raw _ d t ts (Nat.le_refl _) ht
    rw [restR, List.filter_eq_self.2 (fun r hr => by rw [hn r hr]; rfl), h4]
  · rw [a3, b.2.2, takenM, List.filter_eq_nil_iff.2 (fun r hr => by rw [hn r hr]; simp), List.append_nil]
theorem read_bad {d : Int} {s t : Bs} {c : Int} (hs : readE d s = none) (ht : allM d t = .error c) : readE d (s ++ t) = some (some c) := by
  obtain ⟨hd, rs, h1⟩ := readE_none hs
  have h2 := allM_app d t _ s rs (Nat.le_refl _) h1
  rw [ht] at h2
  unfold readE; rw [if_neg (by omega), h2]
theorem noteL_some {α : Type} (oc : Option Int) : ∀ (rl : List (Res α)), noteL (some oc) rl = some oc
  | [] => rfl
  | x :: rl => by
    have : noteL (some oc) (x :: rl) = noteL (note (some oc) (errE x)) rl := rfl
    rw [this, show note (some oc) (errE x) = some oc from rfl]; exact noteL_some oc rl
theorem expE_some {d : Int} {s : Bs} {oc : Option Int} (h : readE d s = some oc) : expE d s = some oc := by
  unfold expE; simp only [h, noteL_some]; rfl
theorem expE_read {d : Int} {s : Bs} (h : expE d s = none) : readE d s = none := by
  cases h2 : readE d s with
  | none => rfl
  | some oc => rw [expE_some h2] at h; cases h
theorem exp_unk {d : Int} {s t : Bs} {ts : List Rec} {x : Expo} (hs : expM d s = .ok x) (ht : allM d t = .ok ts) (hn : ∀ r, r ∈ ts → expT r.num r.kind = false) : expM d (s ++ t) = .ok { x with unk := x.unk ++ t } := by
  obtain ⟨e1, rfl⟩ := finM_ok hs
  have r := expE_read e1
  obtain ⟨q1, q2, q3⟩ := read_unk r ht expT hn
  unfold expM
  simp only [q2, q3]
  rw [show expE d (s ++ t) = expE d s by unfold expE; simp only [q1, q3, r], e1]; rfl
theorem exp_deep {n : Nat} {s : Bs} {x : Expo} (hs : expM (n : Int) s = .ok x) : expM (n : Int) (s ++ nest n) = .ok { x with unk := x.unk ++ nest n } ∧ expM (n : Int) (s ++ 219 :: 5 :: (nest n ++ [220, 5])) = .error (some 6) ∧ (∃ c, expM (n : Int) (s ++ [211, 5]) = .error c) ∧ (∃ c, expM (n : Int) (s ++ [211, 5, 228, 5]) = .error c) := by
  have e1 := (finM_ok hs).1
  have r := expE_read e1
  refine ⟨?_, ?_, ?_, ?_⟩
  · by_cases h : n = 0
    · subst h
      have := all_nest 0
      exact exp_unk hs this (by simp)
    · have := all_nest n
      rw [if_neg h] at this
      refine exp_unk hs this (fun r hr => ?_)
      simp only [List.mem_singleton] at hr
      subst hr; rfl
  · have := expE_some (read_bad r (all_deep n [220, 5]))
    unfold expM; rw [this]; rfl
  · obtain ⟨c, h⟩ := all_open n
    have := expE_some (read_bad r h)
    exact ⟨some c, by unfold expM; rw [this]; rfl⟩
  · obtain ⟨c, h⟩ := all_cross n
    have := expE_some (read_bad r h)
    exact ⟨some c, by unfold expM; rw [this]; rfl⟩
end Go.Proofs.Gw
/- Bytes of a list of the call's own as a string. -/
set_option linter.unusedVariables false
set_option linter.unusedSimpArgs false
namespace Go.Proofs.Gw
open Go Go.RowKit Go.IntWalk Go.Proofs.Gm
section
variable {C : Ctx} {K : List KI} {ρ : List (Nat × Value)} {Hs : List HP} {ty : TypeId}
theorem OpV.strOf (i : Nat) {S D e : TypeId} {x : Operand} {A : Option Addr} {n c : Nat} {l : Bs} [hS : TSl C.P S e] [hE : TInt C.P e .u8] [hD : TStr C.P D] (hi : Hs[i]? = some (Own e 1 (.slice A n c) n (byC l))) (hn : n = l.length) (hx : ev ρ x = some (.slice A n c)) :
    OpV C ρ (St C Hs) (.convert S D x) ty (.string (mkS l)) := fun a w he hs dst pos af gd => by
  subst hn
  obtain ⟨ok, hok, hown, hblk⟩ := Sat.at i hi hs.sat
  have h : (convert S D (.slice A l.length c)).run C.P w = .ok (.string (mkS l)) w := by
    cases A with
    | none =>
      have hl : l = [] := by
        rcases hown.2 with ⟨_, hz⟩ | ⟨g, cap, cur, hv, _⟩
        · exact List.eq_nil_of_length_eq_zero (by omega)
        · simp at hv
      subst hl
      exact run_convert_bytes_nil w S e hS.out hE.out _ _ D hD.out
    | some g =>
      obtain ⟨g', h0⟩ : ∃ g', g = ⟨g', 0, none⟩ := by
        rcases hown.2 with ⟨h2, _⟩ | ⟨g', cap, cur, hv, _⟩
        · simp at h2
        · simp only [Value.slice.injEq, Option.some.injEq] at hv
          exact ⟨g', hv.1⟩
      subst h0
      exact run_convert_bytes_back w S D e ⟨g', 0, none⟩ c l hS.out hE.out hD.out (fun j hj => by
        have := hown.cells (g := g') rfl j (.int .u8 l[j].toNat) (by simp only [byC, Lib.byteCells, List.getElem?_map, List.getElem?_eq_getElem hj]; rfl)
        simpa [Addr.add] using this)
  simp only [execOp, he.eval hx, Sem.run_bind, h, Result.andThen, Sem.run_pure]
end
end Go.Proofs.Gw
/- What is written, in plain terms. -/
set_option linter.unusedVariables false
namespace Go.Proofs.Gm
/-- A number in few bytes. -/
def putM (n : Nat) : Bs := if n < 128 then [UInt8.ofNat n] else UInt8.ofNat (n % 128 + 128) :: putM (n / 128)
termination_by n
/-- A number in k bytes, the least one first. -/
def leM : Nat → Nat → Bs
  | 0, _ => []
  | k + 1, n => UInt8.ofNat (n % 256) :: leM k (n / 256)
theorem leM_len : ∀ (k n : Nat), (leM k n).length = k
  | 0, _ => rfl
  | k + 1, n => by simp [leM, leM_len k]
def tagW (num kind : Nat) : Bs := if num < 1 ∨ 536870911 < num ∨ 5 < kind then [] else putM (num * 8 + kind)
def putW (num kind : Nat) (s : Bs) : Bs := if tagW num kind = [] then [] else tagW num kind ++ s
def varW (num n : Nat) : Bs := putW num 0 (putM n)
def fixW (num n : Nat) : Bs := putW num 1 (leM 8 n)
def bytW (num : Nat) (s : Bs) : Bs := putW num 2 (putM s.length ++ s)
/-- A text, if there is one; a number, if it is one. -/
def textW (num : Nat) (s : Bs) : Bs := if s = [] then [] else bytW num s
def fixedW (num n : Nat) : Bs := if 0 < n then fixW num n else []
def vW (num n : Nat) : Bs := if 0 < n then varW num n else []
def varsW (num : Nat) (l : List Nat) : Bs := textW num (l.flatMap putM)
def fixsW (num : Nat) (l : List Nat) : Bs := textW num (l.flatMap (leM 8))
def zig32 (x : Int) : Nat := if 0 ≤ x then (2 * x).toNat else (-2 * x - 1).toNat
theorem putM_ne (n : Nat) : putM n ≠ [] := by rw [putM]; split <;> simp
theorem putM_len : ∀ (k n : Nat), n < 128 ^ (k + 1) → (putM n).length ≤ k + 1
  | 0, n, h => by rw [putM, if_pos (by omega)]; simp
  | k + 1, n, h => by
    rw [putM]
    split
    · simp
    · rw [List.length_cons]
      have := putM_len k (n / 128) (by rw [Nat.pow_succ] at h; omega)
      omega
theorem putM_len64 (n : Nat) (h : n < 2 ^ 64) : (putM n).length ≤ 10 := putM_len 9 n (by omega)
theorem flat_putM_len : ∀ (l : List Nat), (∀ n, n ∈ l → n < 2 ^ 64) → (l.flatMap putM).length ≤ 10 * l.length
  | [], _ => by simp
  | n :: l, h => by
    rw [List.flatMap_cons, List.length_append, List.length_cons]
    have h1 := putM_len64 n (h n List.mem_cons_self)
    have h2 := flat_putM_len l (fun m hm => h m (List.mem_cons_of_mem _ hm))
    omega
theorem tagW_len (num kind : Nat) : (tagW num kind).length ≤ 10 := by
  unfold tagW; split
  · simp
  · exact putM_len64 _ (by omega)
theorem putW_len (num kind : Nat) (s : Bs) : (putW num kind s).length ≤ 10 + s.length := by
  unfold putW; split
  · simp
  · rw [List.length_append]; have := tagW_len num kind; omega
end Go.Proofs.Gm
