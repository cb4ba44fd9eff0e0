/- Texts that a claim of this seat leans on: M8, P5, HP. No statement is claimed in this text. -/
import Derived.Test.YtabmekglalbmoaaGreatDoorB23
import Derived.Test.YtabmekglalbmoaaGreatDoorB17
import Derived.Test.YtabmekglalbmoaaGreatDoorB10
import Derived.Test.YtabmekglalbmoaaGreatDoorB24
import Derived.Test.YtabmekglalbmoaaGreatDoorB22
/- What is written is read: records, in plain terms. -/
set_option linter.unusedVariables false
namespace Go.Proofs.Gw
open Go Go.RowKit Go.Proofs.Gm

theorem ofNat_toNat8 (n : Nat) : (UInt8.ofNat (n % 256)).toNat = n % 256 := by simp
theorem le_leM : ∀ (k n : Nat), le (leM k n) = n % 256 ^ k
  | 0, n => by simp [le, leM, Nat.mod_one]
  | k + 1, n => by
    rw [leM, le, ofNat_toNat8, le_leM k (n / 256), Nat.pow_succ, Nat.mul_comm (256 ^ k) 256, Nat.mod_mul]
theorem le_leM8 {n : Nat} (h : n < 2 ^ 64) : le (leM 8 n) = n := by rw [le_leM]; exact Nat.mod_eq_of_lt (by omega)
theorem tagW_ne {num kind : Nat} (h1 : 1 ≤ num) (h2 : num ≤ 536870911) (h3 : kind ≤ 5) : tagW num kind ≠ [] := by
  unfold tagW; rw [if_neg (by omega)]; exact putM_ne _
theorem putW_eq {num kind : Nat} {s : Bs} (h1 : 1 ≤ num) (h2 : num ≤ 536870911) (h3 : kind ≤ 5) : putW num kind s = tagW num kind ++ s := by
  unfold putW; rw [if_neg (tagW_ne h1 h2 h3)]
theorem rec_fix (d : Int) {num n : Nat} (h1 : 1 ≤ num) (h2 : num ≤ 536870911) (hn : n < 2 ^ 64) : recM d (fixW num n) = .ok (⟨num, 1, n, [], fixW num n⟩, (fixW num n).length) := by
  have h := rec_f64 d num (leM 8 n) h1 h2 (leM_len 8 n)
  rw [le_leM8 hn] at h
  rw [show fixW num n = tagW num 1 ++ leM 8 n from putW_eq h1 h2 (by omega)]
  exact h
theorem rec_var (d : Int) {num n : Nat} (h1 : 1 ≤ num) (h2 : num ≤ 536870911) (hn : n < 2 ^ 64) : recM d (varW num n) = .ok (⟨num, 0, n, [], varW num n⟩, (varW num n).length) := by
  rw [show varW num n = tagW num 0 ++ putM n from putW_eq h1 h2 (by omega)]
  unfold recM
  rw [tag_put num 0 _ h1 h2 (by omega)]
  simp only [List.drop_left]
  rw [restM]
  have := vget_put n [] hn
  rw [List.append_nil] at this
  rw [if_pos rfl, this]
  simp only [List.length_append, Except.ok.injEq, Prod.mk.injEq, Rec.mk.injEq, true_and, and_true]
  rw [← List.length_append, List.take_length]
theorem rec_byt (d : Int) {num : Nat} {s : Bs} (h1 : 1 ≤ num) (h2 : num ≤ 536870911) (hs : s.length < 2 ^ 64) : recM d (bytW num s) = .ok (⟨num, 2, 0, s, bytW num s⟩, (bytW num s).length) := by
  rw [show bytW num s = tagW num 2 ++ (putM s.length ++ s) from putW_eq h1 h2 (by omega)]
  unfold recM
  rw [tag_put num 2 _ h1 h2 (by omega)]
  simp only [List.drop_left]
  rw [restM]
  rw [if_neg (by omega), if_neg (by omega), if_neg (by omega), if_pos rfl, vget_put s.length s hs]
  simp only
  rw [if_pos (by rw [List.length_append]; omega)]
  simp only [List.drop_left, List.take_length, List.length_append, Except.ok.injEq, Prod.mk.injEq, Rec.mk.injEq, true_and, and_true]
  rw [← List.length_append, ← List.length_append, List.take_length]
/-- These bytes are these records. -/
def Recs (d : Int) (u : Bs) (rs : List Rec) : Prop := allM d u = .ok rs
theorem Recs.nil (d : Int) : Recs d [] [] := allM_nil d
theorem Recs.app {d : Int} {u v : Bs} {rs ts : List Rec} (h : Recs d u rs) (h2 : Recs d v ts) : Recs d (u ++ v) (rs ++ ts) := by
  unfold Recs at *
  rw [allM_app d v u.length u rs (Nat.le_refl _) h, h2]
theorem Recs.one {d : Int} {u : Bs} {r : Rec} (h : recM d u = .ok (r, u.length)) : Recs d u [r] := all_single h
theorem Recs.flat {α : Type} {d : Int} {f : α → Bs} {g : α → Rec} : ∀ {l : List α}, (∀ a, a ∈ l → recM d (f a) = .ok (g a, (f a).length)) → Recs d (l.flatMap f) (l.map g)
  | [], _ => Recs.nil d
  | a :: l, h => by
    rw [List.flatMap_cons, List.map_cons]
    exact (Recs.one (h a List.mem_cons_self)).app (Recs.flat fun b hb => h b (List.mem_cons_of_mem _ hb))
def fixR (num n : Nat) : Rec := ⟨num, 1, n, [], fixW num n⟩
def varR (num n : Nat) : Rec := ⟨num, 0, n, [], varW num n⟩
def bytR (num : Nat) (s : Bs) : Rec := ⟨num, 2, 0, s, bytW num s⟩
def rOnly (b : Bool) (r : Rec) : List Rec := if b then [r] else []
theorem Recs.only {d : Int} {b : Bool} {u : Bs} {r : Rec} (h : recM d u = .ok (r, u.length)) : Recs d (wOnly b u) (rOnly b r) := by
  cases b with
  | false => exact Recs.nil d
  | true => exact Recs.one h
theorem fixedW_only (num n : Nat) : fixedW num n = wOnly (decide (0 < n)) (fixW num n) := by unfold fixedW wOnly; by_cases h : 0 < n <;> simp [h]
theorem vW_only (num n : Nat) : vW num n = wOnly (decide (0 < n)) (varW num n) := by unfold vW wOnly; by_cases h : 0 < n <;> simp [h]
theorem optW_only (num : Nat) (o : OptN) : optW num o = wOnly o.has (fixW num o.n) := rfl
theorem textW_only (num : Nat) (s : Bs) : textW num s = wOnly (!decide (s = [])) (bytW num s) := by unfold textW wOnly; by_cases h : s = [] <;> simp [h]
theorem Recs.fix (d : Int) (b : Bool) {num n : Nat} (h1 : 1 ≤ num ∧ num ≤ 536870911) (hn : n < 2 ^ 64) : Recs d (wOnly b (fixW num n)) (rOnly b (fixR num n)) := Recs.only (rec_fix d h1.1 h1.2 hn)
theorem Recs.var (d : Int) (b : Bool) {num n : Nat} (h1 : 1 ≤ num ∧ num ≤ 536870911) (hn : n < 2 ^ 64) : Recs d (wOnly b (varW num n)) (rOnly b (varR num n)) := Recs.only (rec_var d h1.1 h1.2 hn)
theorem Recs.byt (d : Int) (b : Bool) {num : Nat} {s : Bs} (h1 : 1 ≤ num ∧ num ≤ 536870911) (hs : s.length < 2 ^ 64) : Recs d (wOnly b (bytW num s)) (rOnly b (bytR num s)) := Recs.only (rec_byt d h1.1 h1.2 hs)
theorem Recs.parts (d : Int) {num : Nat} (h1 : 1 ≤ num ∧ num ≤ 536870911) {l : List Bs} (hl : ∀ s, s ∈ l → s.length < 2 ^ 64) : Recs d (partsW num l) (l.map (bytR num)) := Recs.flat fun s hs => rec_byt d h1.1 h1.2 (hl s hs)
theorem fixsM_flat : ∀ {l : List Nat}, (∀ n, n ∈ l → n < 2 ^ 64) → fixsM (l.flatMap (leM 8)) = .ok l
  | [], _ => by rw [fixsM]; rfl
  | n :: l, h => by
    rw [List.flatMap_cons, fixsM, dif_neg (by simp [leM]), dif_neg (by rw [List.length_append, leM_len]; omega), List.drop_left' (leM_len 8 n), fixsM_flat fun m hm => h m (List.mem_cons_of_mem _ hm), List.take_left' (leM_len 8 n), le_leM8 (h n List.mem_cons_self)]
end Go.Proofs.Gw
/- Records by their numbers: what the readers tell of what is written. -/
set_option linter.unusedVariables false
namespace Go.Proofs.Gw
open Go Go.RowKit Go.Proofs.Gm

theorem takenM_app (t : Nat → Nat → Bool) (a b : List Rec) : takenM t (a ++ b) = takenM t a ++ takenM t b := by unfold takenM; rw [List.filter_append]
theorem takenM_only {t : Nat → Nat → Bool} {b : Bool} {r : Rec} (h : t r.num r.kind = true) : takenM t (rOnly b r) = rOnly b r := by cases b <;> simp [takenM, rOnly, h]
theorem takenM_map {α : Type} {t : Nat → Nat → Bool} {f : α → Rec} {l : List α} (h : ∀ a, t (f a).num (f a).kind = true) : takenM t (l.map f) = l.map f := by
  unfold takenM; rw [List.filter_eq_self]
  intro r hr
  obtain ⟨a, _, rfl⟩ := List.mem_map.1 hr
  exact h a
theorem takenM_none {t : Nat → Nat → Bool} {rs : List Rec} (h : ∀ r, r ∈ rs → t r.num r.kind = false) : takenM t rs = [] := by
  unfold takenM; rw [List.filter_eq_nil_iff]; intro r hr; rw [h r hr]; simp
theorem ofNum_only (num : Nat) (b : Bool) (r : Rec) : ofNum (rOnly b r) num = if r.num = num then rOnly b r else [] := by
  unfold ofNum rOnly; cases b <;> by_cases h : r.num = num <;> simp [h]
theorem ofNum_map {α : Type} {f : α → Rec} {l : List α} {num m : Nat} (h : ∀ a, (f a).num = num) : ofNum (l.map f) m = if num = m then l.map f else [] := by
  unfold ofNum
  split
  · rename_i e
    rw [List.filter_eq_self]; intro r hr; obtain ⟨a, _, rfl⟩ := List.mem_map.1 hr; simp [h, e]
  · rename_i e
    rw [List.filter_eq_nil_iff]; intro r hr; obtain ⟨a, _, rfl⟩ := List.mem_map.1 hr; simp [h, e]
theorem ofNum_fixs (l : List Nat) (num m : Nat) : ofNum (l.map (fixR num)) m = if num = m then l.map (fixR num) else [] := ofNum_map fun _ => rfl
theorem ofNum_byts (l : List Bs) (num m : Nat) : ofNum (l.map (bytR num)) m = if num = m then l.map (bytR num) else [] := ofNum_map fun _ => rfl
theorem lastM_of (rs : List Rec) (num : Nat) : lastM rs num = ((ofNum rs num).getLast?).getD rec00 := rfl
theorem pkE_of (m : Bs → NRes) (num : Nat) : ∀ (rs : List Rec) (er : Option (Option Int)), pkE m num er rs = (ofNum rs num).foldl (fun er r => if r.kind = 2 then note er (nErr (m r.s)) else er) er
  | [], er => rfl
  | r :: rs, er => by
    have ih := pkE_of m num rs
    unfold pkE ofNum at ih ⊢
    rw [List.foldl_cons, List.filter_cons, ih]
    by_cases h : r.num = num
    · simp [h]
    · simp [h]
theorem pkE_fixs (num : Nat) (l : List Nat) (er : Option (Option Int)) : (l.map (fixR num)).foldl (fun er r => if r.kind = 2 then note er (nErr (fixsM r.s)) else er) er = er := by
  induction l with
  | nil => rfl
  | cons n l ih => rw [List.map_cons, List.foldl_cons, show (fixR num n).kind = 1 from rfl, if_neg (by omega)]; exact ih
theorem pkM_fixs (num : Nat) (l : List Nat) : ((l.map (fixR num)).flatMap fun r => if r.kind = 2 then nOf (fixsM r.s) else [r.n]) = l := by
  induction l with
  | nil => rfl
  | cons n l ih => rw [List.map_cons, List.flatMap_cons, ih]; rfl
theorem flat1 {α β : Type} (f : α → List β) (a : α) : [a].flatMap f = f a := by simp
theorem pkM_only (num : Nat) {l : List Nat} (h : ∀ n, n ∈ l → n < 2 ^ 64) : ((rOnly (!decide (l.flatMap (leM 8) = [])) (bytR num (l.flatMap (leM 8)))).flatMap fun r => if r.kind = 2 then nOf (fixsM r.s) else [r.n]) = l := by
  cases l with
  | nil => rfl
  | cons n l =>
    have hne : ((n :: l).flatMap (leM 8)) ≠ [] := by simp [leM]
    rw [decide_eq_false hne, show rOnly (!false) (bytR num ((n :: l).flatMap (leM 8))) = [bytR num ((n :: l).flatMap (leM 8))] from rfl, flat1]
    rw [show (bytR num ((n :: l).flatMap (leM 8))).kind = 2 from rfl, if_pos rfl, show (bytR num ((n :: l).flatMap (leM 8))).s = (n :: l).flatMap (leM 8) from rfl, fixsM_flat h]; rfl
theorem pkE_only (num : Nat) {l : List Nat} (h : ∀ n, n ∈ l → n < 2 ^ 64) (er : Option (Option Int)) : (rOnly (!decide (l.flatMap (leM 8) = [])) (bytR num (l.flatMap (leM 8)))).foldl (fun er r => if r.kind = 2 then note er (nErr (fixsM r.s)) else er) er = er := by
  cases l with
  | nil => rfl
  | cons n l =>
    have hne : ((n :: l).flatMap (leM 8)) ≠ [] := by simp [leM]
    rw [decide_eq_false hne, show rOnly (!false) (bytR num ((n :: l).flatMap (leM 8))) = [bytR num ((n :: l).flatMap (leM 8))] from rfl, List.foldl_cons, List.foldl_nil]
    rw [show (bytR num ((n :: l).flatMap (leM 8))).kind = 2 from rfl, if_pos rfl, show (bytR num ((n :: l).flatMap (leM 8))).s = (n :: l).flatMap (leM 8) from rfl, fixsM_flat h]
    exact note_none er
/-- A list of numbers, packed or one by one. -/
theorem Recs.fixs (d : Int) {num : Nat} (h1 : 1 ≤ num ∧ num ≤ 536870911) {l : List Nat} (hl : l.length ≤ 1000000000) : Recs d (fixsW num l) (rOnly (!decide (l.flatMap (leM 8) = [])) (bytR num (l.flatMap (leM 8)))) := by
  unfold fixsW
  rw [textW_only]
  exact Recs.byt d _ h1 (by rw [flat_leM_len]; omega)
theorem packed_law {l : List Nat} (h : ∀ n, n ∈ l → n < 2 ^ 64) (hl : l.length ≤ 1000000000) (cut : Nat) : hisM 0 (fixsW 6 (l.take cut) ++ (l.drop cut).flatMap (fixW 6)) = .ok ⟨[], 0, 0, 0, ⟨false, 0⟩, ⟨false, 0⟩, ⟨false, 0⟩, l, [], [], 0, []⟩ := by
  have ha : ∀ n, n ∈ l.take cut → n < 2 ^ 64 := fun n hn => h n (List.mem_of_mem_take hn)
  have hb : ∀ n, n ∈ l.drop cut → n < 2 ^ 64 := fun n hn => h n (List.mem_of_mem_drop hn)
  have r1 : Recs 0 (fixsW 6 (l.take cut) ++ (l.drop cut).flatMap (fixW 6)) (rOnly (!decide ((l.take cut).flatMap (leM 8) = [])) (bytR 6 ((l.take cut).flatMap (leM 8))) ++ (l.drop cut).map (fixR 6)) := (Recs.fixs 0 (num := 6) (by omega) (by rw [List.length_take]; omega)).app (Recs.flat (g := fixR 6) fun n hn => rec_fix 0 (by omega) (by omega) (hb n hn))
  obtain ⟨e1, e2, e3⟩ := readE_ok (by omega) r1 hisT
  have t1 : takenM hisT (rOnly (!decide ((l.take cut).flatMap (leM 8) = [])) (bytR 6 ((l.take cut).flatMap (leM 8))) ++ (l.drop cut).map (fixR 6)) = rOnly (!decide ((l.take cut).flatMap (leM 8) = [])) (bytR 6 ((l.take cut).flatMap (leM 8))) ++ (l.drop cut).map (fixR 6) := by
    rw [takenM_app, takenM_only rfl, takenM_map fun _ => rfl]
  rw [t1] at e3
  have u1 : restR hisT (rOnly (!decide ((l.take cut).flatMap (leM 8) = [])) (bytR 6 ((l.take cut).flatMap (leM 8))) ++ (l.drop cut).map (fixR 6)) = [] := by
    unfold restR
    rw [List.filter_eq_nil_iff.2 ?_]
    · rfl
    · intro r hr
      rcases List.mem_append.1 hr with h1 | h1
      · unfold rOnly at h1; split at h1
        · rw [List.mem_singleton.1 h1]; simp [bytR, hisT]
        · cases h1
      · obtain ⟨n, _, rfl⟩ := List.mem_map.1 h1; simp [fixR, hisT]
  rw [u1] at e2
  have of : ∀ m, m ≠ 6 → ofNum (rOnly (!decide ((l.take cut).flatMap (leM 8) = [])) (bytR 6 ((l.take cut).flatMap (leM 8))) ++ (l.drop cut).map (fixR 6)) m = [] := fun m hm => by
    rw [ofNum_app, ofNum_only, ofNum_fixs, if_neg (fun e => hm e.symm), if_neg (fun e => hm e.symm)]; rfl
  have of6 : ofNum (rOnly (!decide ((l.take cut).flatMap (leM 8) = [])) (bytR 6 ((l.take cut).flatMap (leM 8))) ++ (l.drop cut).map (fixR 6)) 6 = rOnly (!decide ((l.take cut).flatMap (leM 8) = [])) (bytR 6 ((l.take cut).flatMap (leM 8))) ++ (l.drop cut).map (fixR 6) := by
    rw [ofNum_app, ofNum_only, ofNum_fixs, if_pos rfl]; rfl
  unfold hisM hisE
  simp only [e1, e2, e3, optM, rlM, pkM, lastM_of, pkE_of]
  rw [of6, of 2 (by omega), of 3 (by omega), of 4 (by omega), of 5 (by omega), of 7 (by omega), of 8 (by omega), of 9 (by omega), of 10 (by omega), of 11 (by omega), of 12 (by omega)]
  rw [List.foldl_append, pkE_only 6 ha, pkE_fixs, List.flatMap_append, pkM_only 6 ha, pkM_fixs, List.take_append_drop]
  rfl
theorem fix6 (n : Nat) : fixW 6 n = 49 :: leM 8 n := by
  rw [show fixW 6 n = tagW 6 1 ++ leM 8 n from putW_eq (by omega) (by omega) (by omega)]
  simp [tagW, putM]
theorem fix4 (n : Nat) : fixW 4 n = 33 :: leM 8 n := by
  rw [show fixW 4 n = tagW 4 1 ++ leM 8 n from putW_eq (by omega) (by omega) (by omega)]
  simp [tagW, putM]
theorem first13M : hisM 0 [49, 7, 0, 0, 0, 0, 0, 0, 0] = .ok ⟨[], 0, 0, 0, ⟨false, 0⟩, ⟨false, 0⟩, ⟨false, 0⟩, [7], [], [], 0, []⟩ := by
  have := packed_law (l := [7]) (by intro n hn; simp at hn; omega) (by simp) 0
  rw [List.take_zero, List.drop_zero, show fixsW 6 [] = [] from rfl, List.nil_append, List.flatMap_cons, List.flatMap_nil, List.append_nil, fix6] at this
  exact this
end Go.Proofs.Gw
/- What the chapter's examples fix. -/
set_option linter.unusedVariables false
set_option linter.unusedSimpArgs false
namespace Go.Proofs.Gw
open Go Go.RowKit Go.IntWalk Go.Proofs.Gm

theorem Ent.sn0 (w0 : World) (Hs : List HP) : Ent Hs (Sn (fun _ => False) w0 :: Hs) := Ent.intro (A := Sn (fun _ => False) w0) (fun _ k hk => hk.elim) Hs
def his0 : His := ⟨[], 0, 0, 0, ⟨false, 0⟩, ⟨false, 0⟩, ⟨false, 0⟩, [], [], [], 0, []⟩
theorem rowS_nl (ok : Nat → Prop) (w : World) (k : Nat) (A : Option Addr) (c : Nat) : rowS ok w k (.slice A 0 c) 0 [] := ⟨by simp, A, c, rfl, fun h => absurd h (by omega)⟩
theorem keys_nil (ok : Nat → Prop) (w : World) (A : Option Addr) (c : Nat) : (listF keyF 11 [] (.slice A 0 c)).holds ok w := ⟨[], rowS_nl ok w 11 A c, trivial⟩
theorem exems_nil (ok : Nat → Prop) (w : World) (A : Option Addr) (c : Nat) : (listF exemF 7 [] (.slice A 0 c)).holds ok w := ⟨[], rowS_nl ok w 7 A c, trivial⟩
theorem nums_nil (ok : Nat → Prop) (w : World) (A : Option Addr) (c : Nat) : (numsF [] (.slice A 0 c)).holds ok w := rowS_nl ok w 1 A c
abbrev nilV : Value := .slice none 0 0
theorem hisF_bare {x : His} {ok : Nat → Prop} {w : World} {v2 v3 : Value} (h1 : x.attrs = []) (h2 : x.exs = []) (hc : (numsF x.counts v2).holds ok w) (hb : (numsF x.bounds v3).holds ok w) : (hisF x (hisC x nilV v2 v3 nilV)).holds ok w :=
  ⟨(nilV, v2, v3, nilV), rfl, by rw [h1]; exact keys_nil ok w none 0, hc, hb, by rw [h2]; exact exems_nil ok w none 0⟩
abbrev hisO : His := ⟨[], 0, 0, 0, ⟨true, 0⟩, ⟨false, 0⟩, ⟨false, 0⟩, [], [], [], 0, []⟩
theorem mayR_nil (t : Nat → Nat → Bool) (d : Int) : mayR t d [] = true := by unfold mayR; rw [allM_nil]; rfl
theorem hisO_fit : fitH hisO := by
  refine ⟨by decide, by decide, by decide, by unfold fitO; decide, by unfold fitO; decide, by unfold fitO; decide, fun n h => (by cases h), fun n h => (by cases h), by decide, ?_, fun n h => (by cases h)⟩
  unfold fitLK; trivial
theorem bare_may {x : His} {d : Int} (hd : 0 ≤ d) (h1 : x.attrs = []) (h2 : x.exs = []) (h3 : x.unk = []) (hs : mayO x.sum = true) (hmi : mayO x.min = true) (hma : mayO x.max = true) : mayH x d = true := by
  unfold mayH; rw [h1, h2, h3, mayR_nil, hs, hmi, hma, decide_eq_true hd, mayLK_all]; rfl
theorem hisO_w : hisW hisO = [41, 0, 0, 0, 0, 0, 0, 0, 0] := by
  have : optW 5 ⟨true, 0⟩ = [41, 0, 0, 0, 0, 0, 0, 0, 0] := by
    rw [show optW 5 ⟨true, 0⟩ = tagW 5 1 ++ leM 8 0 from putW_eq (by omega) (by omega) (by omega)]
    simp [tagW, putM, leM]
  unfold hisW
  rw [this]; rfl
theorem first13_tri (w : World) : Tri Tryz.prog 31 [] [] (fun _ : Unit => .bool true) (fun _ => []) (fun _ => True) w := by
  refine tri_of_G 38 Tryz.func31 rfl Tryz.ntmps31 rfl (fun D => ?_)
  refine GC.seq (GC.region (GL.v (.assign rfl) rfl (GL.nil (GN.seq (GC.seq (GC.region (GL.v (.build (cs := [_, _]) rfl rfl) rfl (GL.v (.build (cs := [_, _, _, _, _, _, _, _, _, _, _, _, _, _, _]) rfl rfl) rfl (?_)))))))))
  refine GL.ent (Ent.sn0 w _) ?_
  refine GL.call (As := [_]) rfl (fun w hst => MarHis_tri hisO 0 _ (fun _ => False) _ w (by decide) hisO_fit (by omega) (by omega) (hisF_bare rfl rfl (nums_nil _ _ none 0) (nums_nil _ _ none 0))) rfl (fun _ _ => ?_)
  rw [bare_may (x := hisO) (d := 0) (by omega) rfl rfl rfl rfl rfl rfl, hisO_w]
  refine GL.v (.move rfl) rfl (GL.v (.extract rfl rfl) rfl (GL.v (.extract rfl rfl) rfl (GL.v (.assign rfl) rfl (GL.v (.assign rfl) rfl (GL.nil (GN.seq (GC.seq (GC.region (?_)))))))))
  refine GL.ent (Ent.intro (A := Emp) (fun _ => trivial) _) ?_
  refine GL.call (As := [_]) rfl (fun w hst => His_rd 4294967296 (by omega) 0 (by omega) (by omega) (mkS [49, 7, 0, 0, 0, 0, 0, 0, 0]) w (by decide)) rfl (fun ⟨cs, e⟩ hcs => ?_)
  obtain ⟨hl, h1⟩ := hcs
  simp only [bs_mkS, first13M]
  refine GL.fact 1 (φ := _) rfl (fun ok w h => ErF.form h) (fun hf => ?_)
  have he : e = .nilIface := by
    rcases hf with h | ⟨⟨oc, h⟩, _⟩
    · exact h.2
    · cases h
  subst he
  refine GL.fact 0 (φ := ∃ A1 c1 g off c2 A3 c3 A4 c4, cs = hisC ⟨[], 0, 0, 0, ⟨false, 0⟩, ⟨false, 0⟩, ⟨false, 0⟩, [7], [], [], 0, []⟩ (.slice A1 0 c1) (.slice (some ⟨g, off, none⟩) 1 c2) (.slice A3 0 c3) (.slice A4 0 c4)) rfl (fun ok w h => ?_) (fun hf => ?_)
  · obtain ⟨v1, v2, v3, v4, e, q1, q2, q3, q4⟩ := hisF_form h
    obtain ⟨A1, c1, rfl⟩ := listF.form q1
    obtain ⟨A2, c2, rfl, hA⟩ := numsF.form q2
    obtain ⟨A3, c3, rfl⟩ := numsF.form2 q3
    obtain ⟨A4, c4, rfl⟩ := listF.form q4
    obtain ⟨g, off, rfl⟩ := hA (by decide)
    exact ⟨A1, c1, g, off, c2, A3, c3, A4, c4, e⟩
  obtain ⟨A1, c1, g, off, c2, A3, c3, A4, c4, rfl⟩ := hf
  refine GL.v (.move rfl) rfl (GL.v (.extract rfl rfl) rfl (GL.v (.extract rfl rfl) rfl (GL.w .alloc rfl (fun b3 _ => GL.w0 (.store 0 rfl rfl rfl rfl rfl rfl rfl) (fun _ _ => GL.v (.assign rfl) rfl (GL.nil (GN.seq (GC.seq (GC.region (GL.v (.move rfl) rfl (GL.v (.isT (.eqlS rfl rfl) (decide_eq_true rfl)) rfl (GL.v (.move rfl) rfl (GL.vg rfl rfl (.move rfl) rfl (GL.vg rfl rfl (.isT (.eqlNil rfl (.inl rfl)) rfl) rfl (GL.v (.pickT rfl rfl) rfl (GL.v (.move rfl) rfl (GL.vg rfl rfl (.move rfl) rfl (GL.vg rfl rfl (.isT (.eqlNil rfl (.inl rfl)) rfl) rfl (GL.v (.pickT rfl rfl) rfl (GL.v (.move rfl) rfl (GL.vg rfl rfl (.fieldAddr rfl) rfl (GL.vg rfl rfl (.ld 0 rfl rfl rfl) rfl (GL.vg rfl rfl (.lenSl rfl) rfl (GL.vg rfl rfl (.isT (.eql rfl rfl) (decide_eq_true rfl)) rfl (GL.v (.pickT rfl rfl) rfl (GL.v (.move rfl) rfl (GL.vg rfl rfl (.fieldAddr rfl) rfl (GL.vg rfl rfl (.ld 0 rfl rfl rfl) rfl (GL.vg rfl rfl (.indexAddr rfl rfl (by omega) (by omega)) rfl (GL.vg rfl rfl (.ldNumF 1 (l := [7]) (n := 1) (c := c2) (j := 0) (m := 7) rfl (fun ok w h => by obtain ⟨v1, v2, v3, v4, e, q1, q2, q3, q4⟩ := hisF_form h; simp only [List.cons.injEq] at e; rw [← e.2.2.2.2.2.2.2.2.2.2.1] at q2; exact q2) rfl rfl) rfl (GL.vg rfl rfl (.eql rfl rfl) rfl (GL.v (.pickT rfl rfl) rfl (GL.v (.assign rfl) rfl (GL.nil (GN.seq (GC.ret (?_)))))))))))))))))))))))))))))))))))))
  exact GR.one rfl rfl rfl () rfl (Ent.nil _) trivial
end Go.Proofs.Gw
