/- Texts that a claim of this seat leans on: M1, G5, M2, G6, G7, GJ, G8, G9. No statement is claimed in this text. -/
import Derived.KernelRfl
import Derived.Test.YtabmekglalbmoaaGreatDoorB1
import Derived.IntWalk
import Derived.Lib.ConvBytes
import Derived.Laws.BytesArg
import Derived.Laws.AppendOwn
import Derived.Laws.OwnMore
import Derived.Maps.AppendAt
import Derived.Lib.Builder
import Derived.Lib.AppendStr
import Derived.Lib.UnsafeStr
import Derived.Laws.Externs
import Derived.Great.BuildSlice
import Derived.Test.YtabmekglalbmoaaGreatDoorB2
/- The wire format in plain terms: numbers in few bytes. -/
set_option linter.unusedVariables false
namespace Go.Proofs.Gm

abbrev Bs := List UInt8

/-- A number in few bytes: which byte comes next, what has been gathered. The number and how many bytes it has, or the code of what is wrong. -/
def vr : Nat → Nat → Bs → Except Int (Nat × Nat)
  | _, _, [] => .error 1
  | i, acc, c :: l =>
    if i = 9 ∧ 1 < c.toNat then .error 4
    else if c.toNat < 128 then .ok (acc + c.toNat % 128 * 128 ^ i, i + 1)
    else vr (i + 1) (acc + c.toNat % 128 * 128 ^ i) l

theorem vr_ok : ∀ (l : Bs) (i acc n k : Nat), i ≤ 9 → acc < 128 ^ i → vr i acc l = .ok (n, k) → n < 2 ^ 64 ∧ i < k ∧ k ≤ i + l.length ∧ k ≤ 10 := by
  intro l
  induction l with
  | nil => intro i acc n k _ _ h; simp [vr] at h
  | cons c l ih =>
    intro i acc n k hi ha h
    rw [vr] at h
    have hc : c.toNat < 256 := c.toNat_lt
    split at h
    · cases h
    · rename_i h9
      split at h
      · rename_i hlt
        simp only [Except.ok.injEq, Prod.mk.injEq] at h
        obtain ⟨rfl, rfl⟩ := h
        refine ⟨?_, by omega, by simp only [List.length_cons]; omega, by omega⟩
        by_cases e : i = 9
        · subst e
          have : c.toNat ≤ 1 := by omega
          have h2 : c.toNat % 128 * 128 ^ 9 ≤ 1 * 128 ^ 9 := Nat.mul_le_mul_right _ (by omega)
          omega
        · have h2 : c.toNat % 128 * 128 ^ i ≤ 127 * 128 ^ i := Nat.mul_le_mul_right _ (by omega)
          have h3 : 128 ^ (i + 1) ≤ 128 ^ 9 := Nat.pow_le_pow_right (by omega) (by omega)
          rw [Nat.pow_succ] at h3
          omega
      · rename_i hge
        have h9' : i ≠ 9 := fun e => h9 ⟨e, by omega⟩
        have h2 : c.toNat % 128 * 128 ^ i ≤ 127 * 128 ^ i := Nat.mul_le_mul_right _ (by omega)
        obtain ⟨a, b, d, e⟩ := ih (i + 1) _ n k (by omega) (by rw [Nat.pow_succ]; omega) h
        exact ⟨a, by omega, by simp only [List.length_cons]; omega, e⟩

/-- The number and the bytes that it has, from a text's begin on. -/
def vget (l : Bs) : Except Int (Nat × Nat) := vr 0 0 l
theorem vget_ok {l : Bs} {n k : Nat} (h : vget l = .ok (n, k)) : n < 2 ^ 64 ∧ 0 < k ∧ k ≤ l.length ∧ k ≤ 10 := by
  have := vr_ok l 0 0 n k (by omega) (by simp) h
  omega
theorem vr_err : ∀ (l : Bs) (i acc : Nat) (c : Int), vr i acc l = .error c → c = 1 ∨ c = 4 := by
  intro l
  induction l with
  | nil => intro i acc c h; simp [vr] at h; exact .inl h.symm
  | cons x l ih =>
    intro i acc c h
    rw [vr] at h
    split at h
    · cases h; exact .inr rfl
    · split at h
      · cases h
      · exact ih _ _ _ h
end Go.Proofs.Gm
/- Bits of whole numbers, in plain terms; facts out of the heap's assertions; errors as trees. -/
set_option linter.unusedVariables false
set_option linter.unusedSimpArgs false
namespace Go.Proofs.Gw
open Go Go.RowKit Go.IntWalk Go.Proofs.Gm

/-! ### Bits -/
theorem ofInt_nat (n a : Nat) : BitVec.ofInt n (a : Int) = BitVec.ofNat n a := by simp
theorem bits_or_nat (k : IntKind) (a b : Nat) (h : ∀ x : Nat, x < 2 ^ k.bits → k.wrap (x : Int) = x) (ha : a < 2 ^ k.bits) (hb : b < 2 ^ k.bits) : bits .or k a b = ((a ||| b : Nat) : Int) := by
  have h1 : (BitVec.ofInt k.bits (a : Int) ||| BitVec.ofInt k.bits (b : Int)).toNat = a ||| b := by
    rw [ofInt_nat, ofInt_nat, BitVec.toNat_or, BitVec.toNat_ofNat, BitVec.toNat_ofNat, Nat.mod_eq_of_lt ha, Nat.mod_eq_of_lt hb]
  show k.wrap _ = _
  rw [h1, h _ (Nat.or_lt_two_pow ha hb)]
theorem bits_and_nat (k : IntKind) (a b : Nat) (h : ∀ x : Nat, x < 2 ^ k.bits → k.wrap (x : Int) = x) (ha : a < 2 ^ k.bits) (hb : b < 2 ^ k.bits) : bits .and k a b = ((a &&& b : Nat) : Int) := by
  have h1 : (BitVec.ofInt k.bits (a : Int) &&& BitVec.ofInt k.bits (b : Int)).toNat = a &&& b := by
    rw [ofInt_nat, ofInt_nat, BitVec.toNat_and, BitVec.toNat_ofNat, BitVec.toNat_ofNat, Nat.mod_eq_of_lt ha, Nat.mod_eq_of_lt hb]
  show k.wrap _ = _
  rw [h1, h _ (Nat.and_lt_two_pow _ hb)]
theorem bits_xor_nat (k : IntKind) (a b : Nat) (h : ∀ x : Nat, x < 2 ^ k.bits → k.wrap (x : Int) = x) (ha : a < 2 ^ k.bits) (hb : b < 2 ^ k.bits) : bits .xor k a b = ((a ^^^ b : Nat) : Int) := by
  have h1 : (BitVec.ofInt k.bits (a : Int) ^^^ BitVec.ofInt k.bits (b : Int)).toNat = a ^^^ b := by
    rw [ofInt_nat, ofInt_nat, BitVec.toNat_xor, BitVec.toNat_ofNat, BitVec.toNat_ofNat, Nat.mod_eq_of_lt ha, Nat.mod_eq_of_lt hb]
  show k.wrap _ = _
  rw [h1, h _ (Nat.xor_lt_two_pow ha hb)]
theorem u64_nat (x : Nat) (h : x < 2 ^ 64) : IntKind.u64.wrap (x : Int) = x := u64_in _ (by omega)
theorem u8_nat (x : Nat) (h : x < 2 ^ 8) : IntKind.u8.wrap (x : Int) = x := u8_in _ (by omega)
theorem i64_nat (x : Nat) (h : x < 2 ^ 63) : IntKind.i64.wrap (x : Int) = x := i64_in _ (by omega)
theorem u32_nat (x : Nat) (h : x < 2 ^ 32) : IntKind.u32.wrap (x : Int) = x := u32_in _ (by omega)
theorem or_u64 (a b : Nat) (ha : a < 2 ^ 64) (hb : b < 2 ^ 64) : bits .or .u64 a b = ((a ||| b : Nat) : Int) := bits_or_nat .u64 a b u64_nat ha hb
theorem and_u64 (a b : Nat) (ha : a < 2 ^ 64) (hb : b < 2 ^ 64) : bits .and .u64 a b = ((a &&& b : Nat) : Int) := bits_and_nat .u64 a b u64_nat ha hb
theorem or_u8 (a b : Nat) (ha : a < 2 ^ 8) (hb : b < 2 ^ 8) : bits .or .u8 a b = ((a ||| b : Nat) : Int) := bits_or_nat .u8 a b u8_nat ha hb
theorem and_u8 (a b : Nat) (ha : a < 2 ^ 8) (hb : b < 2 ^ 8) : bits .and .u8 a b = ((a &&& b : Nat) : Int) := bits_and_nat .u8 a b u8_nat ha hb
theorem andNot_u8_128 (c : Nat) (hc : c < 256) : bits .andNot .u8 c 128 = ((c % 128 : Nat) : Int) := by
  have : ∀ c : Fin 256, bits .andNot .u8 ((c : Nat) : Int) 128 = (((c : Nat) % 128 : Nat) : Int) := by decide +kernel
  exact this ⟨c, hc⟩
theorem bits_u8_range (op : BinOp) (x y : Int) : 0 ≤ bits op .u8 x y ∧ bits op .u8 x y ≤ 255 := by
  unfold bits
  rw [IntKind.wrap_u8']
  omega
theorem bits_u64_range (op : BinOp) (x y : Int) : 0 ≤ bits op .u64 x y ∧ bits op .u64 x y ≤ 18446744073709551615 := by
  unfold bits
  rw [IntKind.wrap_u64]
  omega
theorem and_u8_127 (c : Nat) (hc : c < 256) : bits .and .u8 c 127 = ((c % 128 : Nat) : Int) := by
  have : ∀ c : Fin 256, bits .and .u8 ((c : Nat) : Int) 127 = (((c : Nat) % 128 : Nat) : Int) := by decide +kernel
  exact this ⟨c, hc⟩
/-- Bits that lie apart: or is a sum. -/
theorem or_apart (a x i : Nat) (h : a < 2 ^ i) : a ||| x * 2 ^ i = a + x * 2 ^ i := by
  have := Nat.two_pow_add_eq_or_of_lt h x
  rw [Nat.mul_comm x, Nat.or_comm, ← this, Nat.add_comm]

/-- A string's bytes. -/
def bs (s : ByteArray) : Bs := s.data.toList
theorem bs_length (s : ByteArray) : (bs s).length = s.size := by unfold bs; rw [Array.length_toList]; rfl
theorem bt_eq (s : ByteArray) (i : Nat) (c : UInt8) (h : (bs s)[i]? = some c) : bt s (i : Int) = (c.toNat : Int) := by
  have hl : i < s.size := by rw [← bs_length]; exact (List.getElem?_eq_some_iff.1 h).1
  unfold bt
  rw [dif_pos (by simpa using hl)]
  have : s[i]'hl = c := by
    have h2 := (List.getElem?_eq_some_iff.1 h).2
    exact h2
  simp [this]
theorem drop_cons_of_lt (s : ByteArray) (i : Nat) (h : i < s.size) : ∃ c, (bs s).drop i = c :: (bs s).drop (i + 1) ∧ bt s (i : Int) = (c.toNat : Int) := by
  have hl : i < (bs s).length := by rw [bs_length]; exact h
  exact ⟨(bs s)[i], List.drop_eq_getElem_cons hl, bt_eq s i _ (List.getElem?_eq_getElem hl)⟩
theorem bs_extract (s : ByteArray) (a b : Nat) : bs (s.extract a b) = ((bs s).take b).drop a := by
  unfold bs
  rw [ByteArray.data_extract, Array.toList_extract]
  simp [List.extract, List.drop_take]
theorem bs_append (s t : ByteArray) : bs (s ++ t) = bs s ++ bs t := by simp [bs, ByteArray.data_append]
theorem bs_inj {s t : ByteArray} (h : bs s = bs t) : s = t := by
  cases s; cases t
  simp only [bs] at h
  congr
  exact Array.toList_inj.1 h

/-! ### Facts -/
section
variable {C : Ctx} {K : List KI} {ρ : List (Nat × Value)} {Hs : List HP} {c : Code} {ops : Array Oper} {rest : List Oper}
theorem GC.fact (i : Nat) {A : HP} {φ : Prop} (hi : Hs[i]? = some A) (h : ∀ ok w, A.holds ok w → φ) (k : φ → GC C c K ρ Hs) : GC C c K ρ Hs := fun a w he hs => by
  obtain ⟨ok, _, h1⟩ := Sat.at i hi hs.sat
  exact k (h ok w h1) a w he hs
theorem GL.fact (i : Nat) {A : HP} {φ : Prop} (hi : Hs[i]? = some A) (h : ∀ ok w, A.holds ok w → φ) (k : φ → GL C ops rest K ρ Hs) : GL C ops rest K ρ Hs := fun a w he hs => by
  obtain ⟨ok, _, h1⟩ := Sat.at i hi hs.sat
  exact k (h ok w h1) a w he hs
/-- Two assertions made one. -/
theorem Ent.merge {A B E : HP} (h : ∀ o1 o2 w, A.holds o1 w → B.holds o2 w → E.holds (fun k => o1 k ∨ o2 k) w) (Hs : List HP) : Ent (A :: B :: Hs) (E :: Hs) := fun D w ⟨o1, a1, b1, o2, a2, b2, r⟩ =>
  ⟨fun k => o1 k ∨ o2 k, fun k hk => hk.elim (fun c => a1 k c) (fun c => ⟨(a2 k c).1.1, (a2 k c).2⟩), h o1 o2 w b1 b2, r.mono fun k _ hk => ⟨hk.1.1, fun c => c.elim hk.1.2 hk.2⟩⟩
/-- Out of nothing: an assertion that asks for no block. -/
theorem Ent.intro {A : HP} (h : ∀ w, A.holds (fun _ => False) w) (Hs : List HP) : Ent Hs (A :: Hs) := fun D w s => ⟨fun _ => False, fun _ c => c.elim, h w, s.mono fun k _ hk => ⟨hk, id⟩⟩
end

/-- Fewer cells of a block are told, or in another order. -/
theorem Ent.blk {b T n : Nat} {u u' : List (Nat × Value)} (h : Sub u u') {A B : List HP} (r : Ent A B) : Ent (Blk b T n u :: A) (Blk b T n u' :: B) :=
  Ent.head (h := Blk b T n u) (h' := Blk b T n u') (fun ok w ⟨h1, cs, h2, h3, h4⟩ => ⟨h1, cs, h2, h3, fun o v hv => h4 o v (h o v hv)⟩) r

/-! ### Assertions of some x -/
theorem Sat.loc : ∀ {Hs : List HP} {ok : Nat → Prop} {w w' : World}, (∀ k, ok k → w'.heap[k]? = w.heap[k]?) → Sat ok w Hs → Sat ok w' Hs
  | [], _, _, _, _, _ => trivial
  | h :: hs, ok, w, w', hk, ⟨o, h1, h2, h3⟩ => ⟨o, fun k c => ⟨(h1 k c).1, by
      have h4 := hk k (h1 k c).1
      have h5 := (h1 k c).2
      rw [Array.getElem?_eq_getElem h5] at h4
      exact (Array.getElem?_eq_some_iff.1 h4).1⟩, h.loc o w w' (fun k c => hk k (h1 k c).1) h2, Sat.loc (fun k c => hk k c.1) h3⟩
/-- There is some x of which p holds, and these assertions. -/
def ExH {X : Type} (Bs : X → List HP) (p : X → Prop) : HP where
  holds ok w := (∀ k, ok k → k < w.heap.size) ∧ ∃ x, p x ∧ Sat ok w (Bs x)
  loc ok w w' h := fun ⟨h0, x, h1, h2⟩ => ⟨fun k c => by
      have h4 := h k c
      rw [Array.getElem?_eq_getElem (h0 k c)] at h4
      exact (Array.getElem?_eq_some_iff.1 h4).1, x, h1, Sat.loc h h2⟩
theorem Sat.open {X : Type} {Bs : X → List HP} {p : X → Prop} {Hs : List HP} {D : Nat → Prop} {w : World} (h : Sat D w (ExH Bs p :: Hs)) : ∃ x, p x ∧ Sat D w (Bs x ++ Hs) := by
  obtain ⟨ok, h1, ⟨_, x, h2, h3⟩, h4⟩ := h
  exact ⟨x, h2, Sat.join (E := ok) (fun k c => (h1 k c).1) h3 h4⟩
theorem Ent.close {X : Type} {Bs : X → List HP} {p : X → Prop} (x : X) (hx : p x) (Hs : List HP) : Ent (Bs x ++ Hs) (ExH Bs p :: Hs) := fun D w h => by
  obtain ⟨E, h1, h2, h3⟩ := h.split
  exact ⟨E, h1, ⟨fun k c => (h1 k c).2, x, hx, h2⟩, h3⟩
section
variable {C : Ctx} {K : List KI} {ρ : List (Nat × Value)} {Hs : List HP} {c : Code} {ops : Array Oper} {rest : List Oper} {X : Type} {Bs : X → List HP} {p : X → Prop}
theorem GC.open (k : ∀ x, p x → GC C c K ρ (Bs x ++ Hs)) : GC C c K ρ (ExH Bs p :: Hs) := fun a w he hs => by
  obtain ⟨x, h1, h2⟩ := Sat.open hs.sat
  exact k x h1 a w he ⟨hs.glb, hs.chg, h2⟩
theorem GL.open (k : ∀ x, p x → GL C ops rest K ρ (Bs x ++ Hs)) : GL C ops rest K ρ (ExH Bs p :: Hs) := fun a w he hs => by
  obtain ⟨x, h1, h2⟩ := Sat.open hs.sat
  exact k x h1 a w he ⟨hs.glb, hs.chg, h2⟩
theorem GN.open (k : ∀ x, p x → GN C K ρ (Bs x ++ Hs)) : GN C K ρ (ExH Bs p :: Hs) := fun a w he hs => by
  obtain ⟨x, h1, h2⟩ := Sat.open hs.sat
  exact k x h1 a w he ⟨hs.glb, hs.chg, h2⟩
theorem GA.open {HS : List HP} {fuel : Nat} {listed : Array Bool} (k : ∀ x, p x → GA C ops HS fuel listed K ρ (Bs x ++ Hs)) : GA C ops HS fuel listed K ρ (ExH Bs p :: Hs) := fun a w he hs => by
  obtain ⟨x, h1, h2⟩ := Sat.open hs.sat
  exact k x h1 a w he ⟨hs.glb, hs.chg, h2⟩
/-- The assertions handed over are opened before the call begins. -/
theorem Tri.open {P : Program} {f : FuncId} {vs : List Value} {As : List HP} {Y : Type} {val : Y → Value} {Cs : Y → List HP} {q : Y → Prop} {w : World} (k : ∀ x, p x → Tri P f vs (Bs x ++ As) val Cs q w) : Tri P f vs (ExH Bs p :: As) val Cs q w := fun D hD h => by
  obtain ⟨x, h1, h2⟩ := Sat.open h
  exact k x h1 D hD h2
end

/-! ### Errors -/
inductive GE where
  | code (c : Int)
  | at_ (p : Int) (e : GE)
  | in_ (n : Int) (e : GE)
def GE.cod : GE → Int
  | .code c => c
  | .at_ _ e => e.cod
  | .in_ _ e => e.cod
def GE.plc : GE → Option Int
  | .code _ => none
  | .at_ p _ => some p
  | .in_ _ e => e.plc
def evr (tC tW tWs tF tFs : Nat) : GE → Value → (Nat → Prop) → World → Prop
  | .code c, v, _, _ => v = .iface tC (.int .i64 c)
  | .at_ p e, v, ok, w => ∃ b v', v = .iface tW (.pointer (some ⟨b, 0, none⟩)) ∧ ok b ∧ w.heap[b]? = some (.cells #[.int .i64 p, v'] tWs (0, 0)) ∧ evr tC tW tWs tF tFs e v' ok w
  | .in_ n e, v, ok, w => ∃ b v', v = .iface tF (.pointer (some ⟨b, 0, none⟩)) ∧ ok b ∧ w.heap[b]? = some (.cells #[.int .i64 n, v'] tFs (0, 0)) ∧ evr tC tW tWs tF tFs e v' ok w
theorem evr_loc {tC tW tWs tF tFs : Nat} : ∀ (e : GE) (v : Value) (ok ok' : Nat → Prop) (w w' : World), (∀ k, ok k → ok' k) → (∀ k, ok k → w'.heap[k]? = w.heap[k]?) → evr tC tW tWs tF tFs e v ok w → evr tC tW tWs tF tFs e v ok' w'
  | .code c, v, _, _, _, _, _, _, h => h
  | .at_ p e, v, ok, ok', w, w', ho, hw, ⟨b, v', h1, h2, h3, h4⟩ => ⟨b, v', h1, ho b h2, by rw [hw b h2]; exact h3, evr_loc e v' ok ok' w w' ho hw h4⟩
  | .in_ n e, v, ok, ok', w, w', ho, hw, ⟨b, v', h1, h2, h3, h4⟩ => ⟨b, v', h1, ho b h2, by rw [hw b h2]; exact h3, evr_loc e v' ok ok' w w' ho hw h4⟩
end Go.Proofs.Gw
/- The wire format in plain terms: records. -/
set_option linter.unusedVariables false
namespace Go.Proofs.Gm

/-- A number, the least byte first. -/
def le : Bs → Nat
  | [] => 0
  | c :: l => c.toNat + 256 * le l
theorem le_lt : ∀ l : Bs, le l < 256 ^ l.length
  | [] => by simp [le]
  | c :: l => by
    have := le_lt l
    have hc : c.toNat < 256 := c.toNat_lt
    simp only [le, List.length_cons, Nat.pow_succ]
    omega

/-- A tag: number, type, how many bytes. -/
def tagM (l : Bs) : Except Int (Nat × Nat × Nat) :=
  match vget l with
  | .error c => .error c
  | .ok (n, k) => if n / 8 < 1 ∨ 536870911 < n / 8 then .error 3 else .ok (n / 8, n % 8, k)
theorem tagM_ok {l : Bs} {n t k : Nat} (h : tagM l = .ok (n, t, k)) : 1 ≤ n ∧ n ≤ 536870911 ∧ t < 8 ∧ 0 < k ∧ k ≤ l.length := by
  unfold tagM at h
  split at h
  · cases h
  · rename_i m j hv
    split at h
    · cases h
    · simp only [Except.ok.injEq, Prod.mk.injEq] at h
      obtain ⟨rfl, rfl, rfl⟩ := h
      have := vget_ok hv
      omega

mutual
/-- What stands behind a tag: its number, its text, how many bytes. -/
def restM (d : Int) (num kind : Nat) (l : Bs) : Except Int (Nat × Bs × Nat) :=
  if kind = 0 then match vget l with
    | .error c => .error c
    | .ok (n, k) => .ok (n, [], k)
  else if kind = 1 then (if 8 ≤ l.length then .ok (le (l.take 8), [], 8) else .error 1)
  else if kind = 5 then (if 4 ≤ l.length then .ok (le (l.take 4), [], 4) else .error 1)
  else if kind = 2 then match vget l with
    | .error c => .error c
    | .ok (n, k) => if n ≤ l.length - k then .ok (0, (l.drop k).take n, k + n) else .error 1
  else if kind = 3 then (if d < 1 then .error 6 else match grpM (d - 1) num l with
    | .error c => .error c
    | .ok k => .ok (0, [], k))
  else .error 3
termination_by (l.length, 1)
/-- Up to a group's end: how many bytes. -/
def grpM (d : Int) (num : Nat) (l : Bs) : Except Int Nat :=
  match h : tagM l with
  | .error c => .error c
  | .ok (n, kind, k) => if kind = 4 then (if n = num then .ok k else .error 3) else
    match restM d n kind (l.drop k) with
    | .error c => .error c
    | .ok (_, _, j) => match grpM d num (l.drop (k + j)) with
      | .error c => .error c
      | .ok m => .ok (k + j + m)
termination_by (l.length, 0)
decreasing_by
  · have := tagM_ok h; simp_wf; refine Prod.Lex.left _ _ ?_; omega
  · have := tagM_ok h; simp_wf; refine Prod.Lex.left _ _ ?_; omega
end

structure Rec where
  num : Nat
  kind : Nat
  n : Nat
  s : Bs
  raw : Bs

/-- A record, and how many bytes. -/
def recM (d : Int) (l : Bs) : Except Int (Rec × Nat) :=
  match tagM l with
  | .error c => .error c
  | .ok (num, kind, k) => match restM d num kind (l.drop k) with
    | .error c => .error c
    | .ok (n, s, j) => .ok (⟨num, kind, n, s, l.take (k + j)⟩, k + j)

theorem restM_le : ∀ (m : Nat) (l : Bs), l.length ≤ m → (∀ (d : Int) (num kind n : Nat) (s : Bs) (k : Nat), restM d num kind l = .ok (n, s, k) → k ≤ l.length ∧ n < 2 ^ 64 ∧ s.length ≤ l.length) ∧ (∀ (d : Int) (num k : Nat), grpM d num l = .ok k → 0 < k ∧ k ≤ l.length) := by
  intro m
  induction m with
  | zero =>
    intro l hl
    have : l = [] := List.eq_nil_of_length_eq_zero (by omega)
    subst this
    have hg : ∀ (d : Int) (num k : Nat), grpM d num [] = .ok k → 0 < k ∧ k ≤ ([] : Bs).length := by
      intro d num k h
      rw [grpM] at h
      simp [tagM, vget, vr] at h
    refine ⟨?_, hg⟩
    intro d num kind n s k h
    rw [restM] at h
    split at h
    · simp [vget, vr] at h
    · split at h
      · simp at h
      · split at h
        · simp at h
        · split at h
          · simp [vget, vr] at h
          · split at h
            · split at h
              · cases h
              · split at h
                · cases h
                · rename_i hq; have := hg _ _ _ hq; simp at this
                  omega
            · cases h
  | succ m ih =>
    intro l hl
    have hg : ∀ (d : Int) (num k : Nat), grpM d num l = .ok k → 0 < k ∧ k ≤ l.length := by
      intro d num k h
      rw [grpM] at h
      split at h
      · cases h
      · rename_i n kind j ht
        have h1 := tagM_ok ht
        split at h
        · split at h
          · cases h; omega
          · cases h
        · split at h
          · cases h
          · rename_i x y i hr
            have h2 := (ih (l.drop j) (by simp; omega)).1 _ _ _ _ _ _ hr
            split at h
            · cases h
            · rename_i q hq
              have h3 := (ih (l.drop (j + i)) (by simp; omega)).2 _ _ _ hq
              cases h
              simp only [List.length_drop] at h2 h3
              omega
    refine ⟨?_, hg⟩
    intro d num kind n s k h
    rw [restM] at h
    split at h
    · split at h
      · cases h
      · rename_i a b hv
        have := vget_ok hv
        simp only [Except.ok.injEq, Prod.mk.injEq] at h
        obtain ⟨rfl, rfl, rfl⟩ := h
        simp; omega
    · split at h
      · split at h
        · simp only [Except.ok.injEq, Prod.mk.injEq] at h
          obtain ⟨rfl, rfl, rfl⟩ := h
          have := le_lt (l.take 8)
          rename_i h8
          have h9 : (l.take 8).length = 8 := by simp; omega
          rw [h9] at this
          simp; omega
        · cases h
      · split at h
        · split at h
          · simp only [Except.ok.injEq, Prod.mk.injEq] at h
            obtain ⟨rfl, rfl, rfl⟩ := h
            have := le_lt (l.take 4)
            rename_i h8
            have h9 : (l.take 4).length = 4 := by simp; omega
            rw [h9] at this
            simp; omega
          · cases h
        · split at h
          · split at h
            · cases h
            · rename_i a b hv
              have := vget_ok hv
              split at h
              · simp only [Except.ok.injEq, Prod.mk.injEq] at h
                obtain ⟨rfl, rfl, rfl⟩ := h
                simp; omega
              · cases h
          · split at h
            · split at h
              · cases h
              · split at h
                · cases h
                · rename_i hq; have := hg _ _ _ hq
                  simp only [Except.ok.injEq, Prod.mk.injEq] at h
                  obtain ⟨rfl, rfl, rfl⟩ := h
                  simp; omega
            · cases h

theorem recM_ok {d : Int} {l : Bs} {r : Rec} {k : Nat} (h : recM d l = .ok (r, k)) : 0 < k ∧ k ≤ l.length ∧ 1 ≤ r.num ∧ r.num ≤ 536870911 ∧ r.kind < 8 ∧ r.n < 2 ^ 64 ∧ r.s.length ≤ l.length ∧ r.raw = l.take k := by
  unfold recM at h
  split at h
  · cases h
  · rename_i num kind j ht
    have h1 := tagM_ok ht
    split at h
    · cases h
    · rename_i n s i hr
      have h2 := (restM_le _ (l.drop j) (Nat.le_refl _)).1 _ _ _ _ _ _ hr
      simp only [Except.ok.injEq, Prod.mk.injEq] at h
      obtain ⟨rfl, rfl⟩ := h
      simp only [List.length_drop] at h2
      refine ⟨by omega, by omega, h1.1, h1.2.1, h1.2.2.1, h2.2.1, by simp only; omega, rfl⟩

/-- Records, one behind the other. -/
def allM (d : Int) (l : Bs) : Except Int (List Rec) :=
  if l = [] then .ok [] else
  match h : recM d l with
  | .error c => .error c
  | .ok (r, k) => match allM d (l.drop k) with
    | .error c => .error c
    | .ok rs => .ok (r :: rs)
termination_by l.length
decreasing_by have := recM_ok h; simp only [List.length_drop]; omega
end Go.Proofs.Gm
/- Lists in memory: bytes of a string; a list of the call's own, appended to; what was there before the call. -/
set_option linter.unusedVariables false
set_option linter.unusedSimpArgs false
namespace Go.Proofs.Gw
open Go Go.RowKit Go.IntWalk Go.Proofs.Gm

class TBytes (P : Program) (t : TypeId) (n : outParam Nat) : Prop where out : (P.info? t).map (·.bytes) = some n

theorem lk_of {ρ : List (Nat × Value)} {t : Nat} {v v' : Value} (h : lk ρ t = some v) (e : v = v') : lk ρ t = some v' := e ▸ h

section
variable {C : Ctx} {K : List KI} {ρ : List (Nat × Value)} {Hs HS : List HP} {ops : Array Oper} {rest : List Oper} {fuel : Nat} {listed : Array Bool} {d : Nat} {op : Op} {ty : TypeId} {pos : String} {af : Array Edge}
theorem wanted_undef {ops : Array Oper} {ρ : List (Nat × Value)} {n : Nat} {a : Act} (he : Env n ρ a) {dst : Option Tmp} {j t : Nat} {z : Bool} (hj : (ops[j]?).bind (·.dst) = some t) (ht : lk ρ t = some undef) :
    Region.wanted ⟨dst, op, ty, pos, af, some (j, z)⟩ (yielded ops a.tmps) = false := by
  have := he.get t _ ht
  simp only [Region.wanted, yielded, hj, Option.bind_some, this]
  cases z <;> rfl
/-- A guard that was itself passed over. -/
theorem GL.sgu {j t : Nat} {z : Bool} (hj : (ops[j]?).bind (·.dst) = some t) (ht : lk ρ t = some undef) (hd : Nat.ble (d + 1) C.n = true) (k : GL C ops rest K ((d, undef) :: ρ) Hs) : GL C ops (⟨some d, op, ty, pos, af, some (j, z)⟩ :: rest) K ρ Hs :=
  fun a w he hs => by
    unfold wpList
    rw [wanted_undef he hj ht]
    exact k _ w (he.put d hd undef) hs
theorem GA.takesu (i : Nat) {j t : Nat} {z : Bool} (hi : ops[i]? = some ⟨some d, op, ty, pos, af, some (j, z)⟩) (hs : Region.noSelect ops = true) (hf : Region.free .any ops listed i = true) (hr : (Region.ready .any ops listed).contains i = true)
    (hj : (ops[j]?).bind (·.dst) = some t) (ht : lk ρ t = some undef)
    (hd : Nat.ble (d + 1) C.n = true) (k : GA C ops HS fuel (listed.setIfInBounds i true) K ((d, undef) :: ρ) Hs) : GA C ops HS (fuel + 1) listed K ρ Hs := fun a w he hS hS' =>
  wpAnyH_take hi hs hf hr (fun c a w => QK.panic C K c a _ _ w) (.inr ⟨wanted_undef he hj ht, rfl⟩) hS' (k _ w (he.put d hd undef) hS hS')
end

/-- A row of bytes that is read. -/
def BRow (b : Nat) (l : Bs) : HP where
  holds ok w := ok b ∧ ∃ (cs : Array Value) (T : TypeId) (fr : Nat × Nat), w.heap[b]? = some (.cells cs T fr) ∧ ∀ (j : Nat) (c : UInt8), l[j]? = some c → cs[j]? = some (Value.int .u8 (c.toNat : Int))
  loc ok w w' h := fun ⟨h1, cs, T, fr, h2, h3⟩ => ⟨h1, cs, T, fr, by rw [h b h1]; exact h2, h3⟩

section
variable {C : Ctx} {K : List KI} {ρ : List (Nat × Value)} {Hs : List HP} {ty : TypeId}
theorem St.new_of {w w' : World} (h : St C Hs w) {A : HP} (ho : w'.os = w.os) (ht : w'.tape = w.tape) (hp : w'.output = w.output) (hz : w.heap.size ≤ w'.heap.size) (hk : ∀ k, k < w.heap.size → w'.heap[k]? = w.heap[k]?)
    (ok : Nat → Prop) (hok : ∀ k, ok k → w.heap.size ≤ k ∧ k < w'.heap.size) (hA : A.holds ok w') : St C (A :: Hs) w' := by
  refine ⟨h.glb, h.chg.trans (E := fun _ => False) ⟨ho, ht, hp, hz, fun k hk' _ => hk k hk'⟩ (fun _ _ c => c.elim), ok, fun k c => ⟨.inr (by have := h.chg.size; have := (hok k c).1; omega), (hok k c).2⟩, hA, ?_⟩
  exact (h.sat.grow hz (fun k _ hl => hk k hl)).mono (fun k _ hk => ⟨hk.1, fun c => by have := (hok k c).1; omega⟩)
theorem OpW.bytesOf {S D e : TypeId} {x : Operand} {s : ByteArray} [hS : TStr C.P S] [hD : TSl C.P D e] [hE : TInt C.P e .u8] (hx : ev ρ x = some (.string s)) :
    OpW C ρ Hs (.convert S D x) ty (fun q : Nat × Nat => .slice (some ⟨q.1, 0, none⟩) s.size q.2) (fun q => BRow q.1 (bs s) :: Hs) (fun _ => True) := fun a w he hs => by
  have h := Lib.run_convert_string_bytes (P := C.P) w S D e s hS.out hD.out hE.out
  refine ⟨(w.heap.size, grownCap w s.size 0 e), Lib.bytesWorld w e s, fun dst pos af g => .inl (by simp only [execOp, he.eval hx, Sem.run_bind, h, Result.andThen, Sem.run_pure]), ?_, trivial⟩
  refine hs.new_of rfl rfl rfl (by rw [Lib.bytesWorld_size]; omega) (fun k hk => Lib.bytesWorld_at_old w e s k hk) (fun k => k = w.heap.size) (fun k hk => by subst hk; rw [Lib.bytesWorld_size]; omega) ⟨rfl, _, _, _, Lib.bytesWorld_at_new w e s, fun j c hj => ?_⟩
  have hl : j < (bs s).length := (List.getElem?_eq_some_iff.1 hj).1
  have h2 := (List.getElem?_eq_some_iff.1 hj).2
  unfold Lib.bytesCells
  rw [Array.getElem?_append_left (by simpa [bs] using hl)]
  simp only [Array.getElem?_map]
  have : s.data[j]? = some c := by simpa [bs] using hj
  rw [this]; rfl
/-- A byte of such a row. -/
theorem BRow.cell {b : Nat} {l : Bs} {ok : Nat → Prop} {w : World} (h : (BRow b l).holds ok w) {j : Nat} {c : UInt8} (hj : l[j]? = some c) : w.cell? ⟨b, j, none⟩ = some (.int .u8 (c.toNat : Int)) := by
  obtain ⟨h1, cs, T, fr, h2, h3⟩ := h
  rw [cell?_of_heap h2]; exact h3 j c hj
theorem OpV.ldByte (i : Nat) {t : TypeId} {x : Operand} {b j : Nat} {l : Bs} {c : UInt8} [hz : TSz C.P t false 1] (hi : Hs[i]? = some (BRow b l)) (hx : ev ρ x = some (.pointer (some ⟨b, j, none⟩))) (hj : l[j]? = some c) : OpV C ρ (St C Hs) (.load t x) ty (.int .u8 (c.toNat : Int)) :=
  OpV.load1 hx fun w hs => by
    obtain ⟨ok, _, h1⟩ := Sat.at i hi hs.sat
    exact BRow.cell h1 hj

/-- A list of the call's own: n elements of type e. -/
def Own (e : TypeId) (size : Nat) (v : Value) (n : Nat) (xs : List Value) : HP where
  holds ok w := w.ownsRow 0 e size v n xs ∧ ∀ k, v.ownBlock = some k → ok k
  loc ok w w' h := fun ⟨h1, h2⟩ => ⟨⟨h1.1, by
    rcases h1.2 with h3 | ⟨g, cap, cur, e1, e2, e3, e4⟩
    · exact .inl h3
    · refine .inr ⟨g, cap, cur, e1, e2, ?_, e4⟩
      rw [h g (h2 g (by rw [e1]; rfl))]; exact e3⟩, h2⟩
theorem Own.nil (e : TypeId) (size : Nat) (w : World) : (Own e size (.slice none 0 0) 0 []).holds (fun _ => False) w := ⟨World.ownsRow_nil w 0 e size, fun k h => by simp [Value.ownBlock] at h⟩
theorem Own.form {e : TypeId} {size n : Nat} {v : Value} {xs : List Value} {ok : Nat → Prop} {w : World} (h : (Own e size v n xs).holds ok w) : ∃ A c, v = .slice A n c ∧ xs.length = n * size ∧ (0 < n → ∃ g, A = some ⟨g, 0, none⟩) := by
  rcases h.1.2 with ⟨rfl, rfl⟩ | ⟨g, cap, cur, rfl, _⟩
  · exact ⟨none, 0, rfl, h.1.1, fun h => absurd h (by omega)⟩
  · exact ⟨_, cap, rfl, h.1.1, fun _ => ⟨g, rfl⟩⟩
theorem Own.cell {e : TypeId} {size n c g : Nat} {xs : List Value} {ok : Nat → Prop} {w : World} (h : (Own e size (.slice (some ⟨g, 0, none⟩) n c) n xs).holds ok w) {j : Nat} {u : Value} (hj : xs[j]? = some u) : w.cell? ⟨g, j, none⟩ = some u := by
  have hl : j < xs.length := (List.getElem?_eq_some_iff.1 hj).1
  rw [h.1.cellAt j (by rw [← h.1.1]; exact hl)]; exact hj

theorem OpW.buildSlice {t e : TypeId} {len : Nat} {g : Bool} {size : Nat} {zs : List Value} {parts : List (Nat × Operand)} {vs : List (Nat × Value)} (cs : List Value) [ht : TSl C.P t e] [hz : TSz C.P e g size] [hzz : TZero C.P e zs]
    (hv : evp ρ parts = some vs) (hr : ∀ w : World, (Instr.buildSlice t len (vs.toArray)).run C.P w = .ok (.slice (some ⟨w.heap.size, 0, none⟩) len len) (w.alloc (.cells cs.toArray e))) :
    OpW C ρ Hs (.buildSlice t len parts.toArray) ty (fun b : Nat => .slice (some ⟨b, 0, none⟩) len len) (fun b => Blk b e cs.length (args0 0 cs) :: Hs) (fun _ => True) := fun a w he hs => by
  refine ⟨w.heap.size, w.alloc (.cells cs.toArray e), fun dst pos af g => .inl ?_, hs.new cs e, trivial⟩
  have hpp : (parts.toArray.map fun (i, x) => (i, a.eval x)) = vs.toArray := by
    rw [List.map_toArray, evp_map he hv]
  simp only [execOp, hpp, Sem.run_bind, hr, Result.andThen, Sem.run_pure]

theorem OpW.append (i j : Nat) {t e : TypeId} {g : Bool} {size bytes n m c b T k : Nat} {zs xs : List Value} {v : Value} {x y : Operand} {u : List (Nat × Value)} (news : List Value) [ht : TSl C.P t e] [hz : TSz C.P e g size] [hzz : TZero C.P e zs] [hb : TBytes C.P e bytes]
    (hi : Hs[i]? = some (Own e size v n xs)) (hj : Hs[j]? = some (Blk b T k u)) (hij : Nat.beq i j = false) (hx : ev ρ x = some v) (hy : ev ρ y = some (.slice (some ⟨b, 0, none⟩) m c)) (hn : lkN u 0 news) (hl : Nat.beq news.length (m * size) = true) (h1 : news.all one = true)
    (hs0 : Nat.ble 1 size = true) (hzl : Nat.beq zs.length size = true) (hb0 : Nat.ble 1 bytes = true) (hbytes : (n + m) * bytes ≤ 140737488355328) :
    OpW C ρ Hs (.call ⟨.builtin .append, #[x, y], #[t, t]⟩) ty (fun q : Option Addr × Nat => .slice q.1 (n + m) q.2) (fun q => Hs.set i (Own e size (.slice q.1 (n + m) q.2) (n + m) (xs ++ news))) (fun _ => True) := fun a w he hs => by
  obtain ⟨ok, hok, hown, hblk⟩ := Sat.at i hi hs.sat
  obtain ⟨ok2, hok2, hbk, cur, hcur, hsz, hu⟩ := Sat.at j hj hs.sat
  have hz1 := hz.out
  have hzz1 := hzz.out
  have hb1 := hb.out
  unfold zeroCells? at hzz1
  cases hq : C.P.info? e with
  | none => simp [hq] at hb1
  | some q =>
    have hby : q.bytes = bytes := by simpa [hq] using hb1
    have hsize : q.size = size := by
      have h2 := (run_sizeOf hz1 w).1
      simpa [sizeOf, typeInfo, hq] using h2
    cases hz0 : q.zero with
    | none => simp [hq, hz0] at hzz1
    | some z =>
      have hzs : z.cells.size = size := by
        have : z.cells.toList = zs := by simpa [hq, hz0] using hzz1
        rw [← Array.length_toList, this]; exact Nat.eq_of_beq_eq_true hzl
      have hbb : 1 ≤ bytes := Nat.le_of_ble_eq_true hb0
      have h63 : n + m ≤ maxLen := by
        have : n + m ≤ (n + m) * bytes := Nat.le_mul_of_pos_right _ hbb
        simp only [maxLen]; omega
      obtain ⟨v', w', hr, hown', hg, _, hat⟩ := run_append_own_at (P := C.P) w 0 t ty e q z size bytes ht.out hq hz0 hsize hby hzs (Nat.le_of_ble_eq_true hs0) v n xs hown ⟨b, 0, none⟩ m c news (Nat.eq_of_beq_eq_true hl)
        (fun j' v' hj' => by rw [Addr.add_lit, cell?_of_heap hcur]; exact hu _ _ (lkN_get hn hj')) (fun v' hv' => by rw [← one_iff]; exact (List.all_eq_true.1 h1) v' hv') h63 hbytes (Nat.zero_le _)
      have hform : ∃ A c', v' = .slice A (n + m) c' := by
        rcases hown'.2 with ⟨rfl, h0⟩ | ⟨g', cap', cur', rfl, _⟩
        · exact ⟨none, 0, by rw [h0]⟩
        · exact ⟨_, _, rfl⟩
      obtain ⟨A, c', rfl⟩ := hform
      refine ⟨(A, c'), w', fun dst pos af g => .inl ?_, ?_, trivial⟩
      · simp only [execOp, resolve, invoke, builtin, Sem.run_bind, Sem.run_pure, Result.andThen, List.map_toArray, List.map_cons, List.map_nil, he.eval hx, he.eval hy, hr]
      · refine hs.upd i hi hg.os hg.tape hg.output hg.size fun ok' hk' ⟨h5, h6⟩ => ?_
        refine ⟨fun k => (Value.slice A (n + m) c').ownBlock = some k ∧ (k < w.heap.size → ok' k), fun k hk => ⟨(hown'.lt k hk.1).2, hk.2⟩, fun k hk hn' => ?_, hown', fun k hk => ⟨hk, fun hlt => ?_⟩⟩
        · refine hg.block k hk fun e => hn' (h6 k e.symm)
        · rcases hat with e1 | e1
          · rw [e1] at hk; exact h6 k hk
          · rw [e1] at hk; injection hk with hk; omega
end
end Go.Proofs.Gw
/- Lists in memory, more: slice literals, one list behind another, a string behind bytes; pointers compared; what strings.Builder asks. -/
set_option linter.unusedVariables false
set_option linter.unusedSimpArgs false
namespace Go.Proofs.Gw
open Go Go.RowKit Go.IntWalk Go.Proofs.Gm

class TPtr (P : Program) (t : TypeId) (e : outParam TypeId) : Prop where out : P.underlying t = some (.pointer e)
class TByte (P : Program) (t : TypeId) : Prop where out : (P.info? t).map (fun i => (i.zero, i.size, i.bytes)) = some (some (.int .u8 0), 1, 1)
class TUns (P : Program) (t : TypeId) : Prop where out : P.underlying t = some .unsafePointer

/-- Nothing is known. -/
def Emp : HP where
  holds _ _ := True
  loc _ _ _ _ _ := trivial

/-- So many cells of zero values. -/
def zrow (zs : List Value) (n : Nat) : List Value := (List.range n).map fun i => zs.getD (i % zs.length) default
theorem zrow_eq (zs : List Value) (n : Nat) (hp : 0 < zs.length) : ((Array.range n).map (zs.toArray[· % zs.toArray.size]!)) = (zrow zs n).toArray := by
  apply Array.ext'
  simp only [zrow, Array.toList_map, Array.toList_range]
  refine List.map_congr_left fun i _ => ?_
  have : i % zs.length < zs.length := Nat.mod_lt _ hp
  simp [this]

section
variable {C : Ctx} {K : List KI} {ρ : List (Nat × Value)} {Hs : List HP} {ty : TypeId}
theorem OpW.bslice {t e : TypeId} {len : Nat} {g : Bool} {size : Nat} {zs : List Value} {parts : List (Nat × Operand)} {vs : List (Nat × Value)} (cs : List Value) [ht : TSl C.P t e] [hz : TSz C.P e g size] [hzz : TZero C.P e zs]
    (hv : evp ρ parts = some vs) (hc : fillL (fun i => some (i * size, size)) (zrow zs (len * size)) vs = some cs) (h1 : Nat.ble 1 (len * size) = true) (h2 : Nat.ble (len * size) 16777216 = true) (hl : Nat.beq zs.length size = true) :
    OpW C ρ Hs (.buildSlice t len parts.toArray) ty (fun b : Nat => .slice (some ⟨b, 0, none⟩) len len) (fun b => Blk b e cs.length (args0 0 cs) :: Hs) (fun _ => True) := by
  have hz1 := hz.out
  have hzz1 := hzz.out
  unfold zeroCells? at hzz1
  refine OpW.buildSlice (g := g) (size := size) (zs := zs) cs hv fun w => ?_
  have h1' := Nat.le_of_ble_eq_true h1
  have h2' := Nat.le_of_ble_eq_true h2
  have hl' := Nat.eq_of_beq_eq_true hl
  have hsz : 0 < size := by
    rcases Nat.eq_zero_or_pos size with h | h
    · rw [h] at h1'; simp at h1'
    · exact h
  cases hq : C.P.info? e with
  | none => simp [hq] at hzz1
  | some q =>
    have hsize : q.size = size := by
      have h2 := (run_sizeOf hz1 w).1
      simpa [sizeOf, typeInfo, hq] using h2
    cases hz0 : q.zero with
    | none => simp [hq, hz0] at hzz1
    | some z =>
      have hzc : z.cells = zs.toArray := by
        have : z.cells.toList = zs := by simpa [hq, hz0] using hzz1
        rw [← this]
      have hfill : Instr.fill (fun i => some (i * size, size)) ((Array.range (len * size)).map (zs.toArray[· % zs.toArray.size]!)) vs = some cs.toArray := by
        rw [zrow_eq zs _ (by omega), fill_toArray, hc]; rfl
      subst hsize
      exact run_buildSlice w t e len _ cs.toArray q z ht.out hq hz0 (by omega) (by omega) (by rw [hzc]; exact hfill)
/-- A slice literal of one element. -/
theorem OpW.bone {t e : TypeId} {g : Bool} {size : Nat} {zs : List Value} {x : Operand} {v : Value} (cs : List Value) [ht : TSl C.P t e] [hz : TSz C.P e g size] [hzz : TZero C.P e zs]
    (hv : ev ρ x = some v) (hc : cellsL v = cs) (h1 : Nat.ble 1 size = true) (h2 : Nat.ble size 1000 = true) (hl : Nat.beq zs.length size = true) (hk : Nat.beq cs.length size = true) :
    OpW C ρ Hs (.buildSlice t 1 #[(0, x)]) ty (fun b : Nat => .slice (some ⟨b, 0, none⟩) 1 1) (fun b => Blk b e cs.length (args0 0 cs) :: Hs) (fun _ => True) := by
  have h2' := Nat.le_of_ble_eq_true h2
  have hk' := Nat.eq_of_beq_eq_true hk
  have hl' := Nat.eq_of_beq_eq_true hl
  refine OpW.bslice (g := g) (size := size) (zs := zs) (parts := [(0, x)]) (vs := [(0, v)]) cs (by simp [evp, hv]) ?_ (by rwa [Nat.one_mul]) (by rw [Nat.one_mul, Nat.ble_eq]; omega) hl
  have hzl : (zrow zs (1 * size)).length = size := by simp [zrow]
  have hput : ∀ (cs zr : List Value), cs.length = zr.length → putL zr 0 cs = cs := by
    intro cs
    induction cs with
    | nil => intro zr h; cases zr with
      | nil => rfl
      | cons _ _ => simp at h
    | cons c cs ih => intro zr h; cases zr with
      | nil => simp at h
      | cons z zr => simp only [putL]; rw [ih zr (by simpa using h)]
  simp only [fillL, hc, Nat.zero_mul, Nat.zero_add]
  rw [if_neg (by simp only [hk', hzl]; simp), hput _ _ (by rw [hzl, hk'])]

/-- A list of the call's own behind another one. -/
theorem OpW.appendO (i j : Nat) {t e : TypeId} {g : Bool} {size bytes n m : Nat} {zs xs ys : List Value} {v v2 : Value} {x y : Operand} [ht : TSl C.P t e] [hz : TSz C.P e g size] [hzz : TZero C.P e zs] [hb : TBytes C.P e bytes]
    (hi : Hs[i]? = some (Own e size v n xs)) (hj : Hs[j]? = some (Own e size v2 m ys)) (hx : ev ρ x = some v) (hy : ev ρ y = some v2) (h1 : ys.all one = true)
    (hs0 : Nat.ble 1 size = true) (hzl : Nat.beq zs.length size = true) (hb0 : Nat.ble 1 bytes = true) (hbytes : (n + m) * bytes ≤ 140737488355328) :
    OpW C ρ Hs (.call ⟨.builtin .append, #[x, y], #[t, t]⟩) ty (fun q : Option Addr × Nat => .slice q.1 (n + m) q.2) (fun q => Hs.set i (Own e size (.slice q.1 (n + m) q.2) (n + m) (xs ++ ys))) (fun _ => True) := fun a w he hs => by
  obtain ⟨ok, hok, hown, hblk⟩ := Sat.at i hi hs.sat
  obtain ⟨ok2, hok2, hown2, hblk2⟩ := Sat.at j hj hs.sat
  have hz1 := hz.out
  have hzz1 := hzz.out
  have hb1 := hb.out
  unfold zeroCells? at hzz1
  cases hq : C.P.info? e with
  | none => simp [hq] at hb1
  | some q =>
    have hby : q.bytes = bytes := by simpa [hq] using hb1
    have hsize : q.size = size := by
      have h2 := (run_sizeOf hz1 w).1
      simpa [sizeOf, typeInfo, hq] using h2
    cases hz0 : q.zero with
    | none => simp [hq, hz0] at hzz1
    | some z =>
      have hzs : z.cells.size = size := by
        have : z.cells.toList = zs := by simpa [hq, hz0] using hzz1
        rw [← Array.length_toList, this]; exact Nat.eq_of_beq_eq_true hzl
      have hbb : 1 ≤ bytes := Nat.le_of_ble_eq_true hb0
      have h63 : n + m ≤ maxLen := by
        have : n + m ≤ (n + m) * bytes := Nat.le_mul_of_pos_right _ hbb
        simp only [maxLen]; omega
      have key : ∃ v' w', (Builtin.append_ #[t, t] ty #[v, v2]).run C.P w = .ok v' w' ∧ w'.ownsRow 0 e size v' (n + m) (xs ++ ys) ∧ w.grownBy w' v.ownBlock ∧ (v'.ownBlock = v.ownBlock ∨ v'.ownBlock = some w.heap.size) := by
        rcases hown2.2 with ⟨rfl, rfl⟩ | ⟨g2, cap, cur, rfl, h3⟩
        · have hy0 : ys = [] := List.eq_nil_of_length_eq_zero (by rw [hown2.1]; simp)
          subst hy0
          rw [List.append_nil, Nat.add_zero]
          exact ⟨v, w, run_append_owned_none (P := C.P) w 0 t ty e q size ht.out hq v n xs hown, hown, ⟨rfl, rfl, rfl, Nat.le_refl _, fun _ _ _ => rfl⟩, .inl rfl⟩
        · obtain ⟨v', w', hr, hown', hg, _, hat⟩ := run_append_own_at (P := C.P) w 0 t ty e q z size bytes ht.out hq hz0 hsize hby hzs (Nat.le_of_ble_eq_true hs0) v n xs hown ⟨g2, 0, none⟩ m cap ys hown2.1
            (fun j' v' hj' => by rw [Addr.add_lit, Nat.zero_add]; rw [hown2.cellAt j' (by rw [← hown2.1]; exact (List.getElem?_eq_some_iff.1 hj').1)]; exact hj') (fun v' hv' => by rw [← one_iff]; exact (List.all_eq_true.1 h1) v' hv') h63 hbytes (Nat.zero_le _)
          exact ⟨v', w', hr, hown', hg, hat⟩
      obtain ⟨v', w', hr, hown', hg, hat⟩ := key
      have hform : ∃ A c', v' = .slice A (n + m) c' := by
        rcases hown'.2 with ⟨rfl, h0⟩ | ⟨g', cap', cur', rfl, _⟩
        · exact ⟨none, 0, by rw [h0]⟩
        · exact ⟨_, _, rfl⟩
      obtain ⟨A, c', rfl⟩ := hform
      refine ⟨(A, c'), w', fun dst pos af g => .inl ?_, ?_, trivial⟩
      · simp only [execOp, resolve, invoke, builtin, Sem.run_bind, Sem.run_pure, Result.andThen, List.map_toArray, List.map_cons, List.map_nil, he.eval hx, he.eval hy, hr]
      · refine hs.upd i hi hg.os hg.tape hg.output hg.size fun ok' hk' ⟨h5, h6⟩ => ?_
        refine ⟨fun k => (Value.slice A (n + m) c').ownBlock = some k ∧ (k < w.heap.size → ok' k), fun k hk => ⟨(hown'.lt k hk.1).2, hk.2⟩, fun k hk hn' => ?_, hown', fun k hk => ⟨hk, fun hlt => ?_⟩⟩
        · refine hg.block k hk fun e => hn' (h6 k e.symm)
        · rcases hat with e1 | e1
          · rw [e1] at hk; exact h6 k hk
          · rw [e1] at hk; injection hk with hk; omega

/-- Bytes as cells. -/
abbrev byC (l : Bs) : List Value := Lib.byteCells l
theorem append_str_at {P : Program} {w : World} {t u ty e : TypeId} {i : TypeInfo} {v : Value} {n : Nat} {xs : List Value} {s : ByteArray} {v' : Value} {w' : World} (ht : P.underlying t = some (.slice e)) (hu : P.underlying u = some .string) (hi : P.info? e = some i) (hz : i.zero = some (.int .u8 0))
    (hsize : i.size = 1) (hby : i.bytes = 1) (hown : w.ownsRow 0 e 1 v n xs) (hb : n + s.size ≤ 140737488355328) (hr : (Builtin.append_ #[t, u] ty #[v, .string s]).run P w = .ok v' w') : (v'.ownBlock = v.ownBlock ∨ v'.ownBlock = some w.heap.size) ∧ (s.size = 0 → v' = v) := by
  rcases hown.2 with ⟨rfl, rfl⟩ | ⟨g, cap, cur, rfl, hbg, hg, hnc, hcm, hcs, htake⟩
  · by_cases hm : s.size = 0
    · have hf := Lib.run_firstCells_string (P := P) w 1 s
      rw [hm] at hf
      have : (Builtin.append_ #[t, u] ty #[.slice none 0 0, .string s]).run P w = .ok (.slice none 0 0) w := by
        simp [Builtin.append_, run_underlying ht, run_underlying hu, sizeOf, typeInfo, hi, hsize, Builtin.lenOf, hm, hf]
      rw [this] at hr
      simp only [Result.ok.injEq] at hr
      rw [← hr.1]; exact ⟨.inl rfl, fun _ => rfl⟩
    · have h2 := run_append_nil_string (P := P) w t u ty e i (.int .u8 0) ht hu hi hz s (by omega) (by omega) (by rw [hby]; omega)
      rw [h2] at hr
      simp only [Result.ok.injEq] at hr
      rw [← hr.1]; exact ⟨.inr rfl, fun h => absurd h hm⟩
  · by_cases hroom : n + s.size ≤ cap
    · have hcs' : cur.size = cap := by simpa using hcs
      have h2 := Lib.run_append_room_string (P := P) w t u ty e i ht hu hi hsize g n cap cur hg s hroom (by omega)
      rw [h2] at hr
      simp only [Result.ok.injEq] at hr
      rw [← hr.1]; exact ⟨.inl rfl, fun h => by rw [h, Nat.add_zero]⟩
    · have hxl : xs.length = n := by simpa using hown.1
      have holds : ∀ j u, xs[j]? = some u → w.cell? ((⟨g, 0, none⟩ : Addr).add j) = some u := hown.cells (g := g) rfl
      have h2 := Lib.run_append_grow_string (P := P) w t u ty e i (.int .u8 0) ht hu hi hz ⟨g, 0, none⟩ n cap xs (by rw [hsize]; simpa using hxl) holds s (by omega) (by omega) (by rw [hby]; exact growslice_fits (by omega) (by omega))
      rw [h2] at hr
      simp only [Result.ok.injEq] at hr
      rw [← hr.1]; exact ⟨.inr rfl, fun h => by omega⟩
/-- A string behind bytes. -/
theorem OpW.appendS (i : Nat) {t u e : TypeId} {l : Bs} {s : ByteArray} {v : Value} {x y : Operand} [ht : TSl C.P t e] [hS : TStr C.P u] [hb : TByte C.P e]
    (hi : Hs[i]? = some (Own e 1 v l.length (byC l))) (hx : ev ρ x = some v) (hy : ev ρ y = some (.string s)) (hbytes : l.length + s.size ≤ 140737488355328) :
    OpW C ρ Hs (.call ⟨.builtin .append, #[x, y], #[t, u]⟩) ty (fun q : Option Addr × Nat => .slice q.1 (l ++ bs s).length q.2) (fun q => Hs.set i (Own e 1 (.slice q.1 (l ++ bs s).length q.2) (l ++ bs s).length (byC (l ++ bs s)))) (fun q => s.size = 0 → v = .slice q.1 (l ++ bs s).length q.2) := fun a w he hs => by
  obtain ⟨ok, hok, hown, hblk⟩ := Sat.at i hi hs.sat
  have hlen : (l ++ bs s).length = l.length + s.size := by rw [List.length_append, bs_length]
  have hcell : byC (l ++ bs s) = byC l ++ Lib.strCells s := by
    rw [byC, Lib.byteCells_append, Lib.strCells_eq]; rfl
  obtain ⟨q, hq, hq3⟩ := Option.map_eq_some_iff.1 hb.out
  simp only [Prod.mk.injEq] at hq3
  obtain ⟨hz0, hsize, hby⟩ := hq3
  obtain ⟨v', w', hr, hown', hg, hiff⟩ := Lib.run_append_own_string (P := C.P) w 0 t u ty e q ht.out hS.out hq hz0 hsize hby v l.length (byC l) hown s (by unfold maxLen; omega) hbytes (Nat.zero_le _)
  obtain ⟨hat, hsame⟩ := append_str_at ht.out hS.out hq hz0 hsize hby hown hbytes hr
  rw [← hlen, ← hcell] at hown'
  have hform : ∃ A c', v' = .slice A (l ++ bs s).length c' := by
    rcases hown'.2 with ⟨rfl, h0⟩ | ⟨g', cap', cur', rfl, _⟩
    · exact ⟨none, 0, by rw [h0]⟩
    · exact ⟨_, _, rfl⟩
  obtain ⟨A, c', rfl⟩ := hform
  refine ⟨(A, c'), w', fun dst pos af g => .inl ?_, ?_, fun h2 => (hsame h2).symm⟩
  · simp only [execOp, resolve, invoke, builtin, Sem.run_bind, Sem.run_pure, Result.andThen, List.map_toArray, List.map_cons, List.map_nil, he.eval hx, he.eval hy, hr]
  · refine hs.upd i hi hg.os hg.tape hg.output hg.size fun ok' hk' ⟨h5, h6⟩ => ?_
    refine ⟨fun k => (Value.slice A (l ++ bs s).length c').ownBlock = some k ∧ (k < w.heap.size → ok' k), fun k hk => ⟨(hown'.lt k hk.1).2, hk.2⟩, fun k hk hn' => ?_, hown', fun k hk => ⟨hk, fun hlt => ?_⟩⟩
    · refine hg.block k hk fun e => hn' (h6 k e.symm)
    · rcases hat with e1 | e1
      · rw [e1] at hk; exact h6 k hk
      · rw [e1] at hk; injection hk with hk; omega
end

/-! pointers -/
section
variable {C : Ctx} {K : List KI} {ρ : List (Nat × Value)} {Hs : List HP} {S : World → Prop} {ty T T' : TypeId} {x y : Operand}
theorem OpV.eqlPNil {a : Option Addr} {e : TypeId} [hT : TPtr C.P T e] (hx : ev ρ x = some (.pointer a)) : OpV C ρ S (.binOp .eql T x (.const (.pointer none)) T') ty (.bool (a.isNone)) :=
  OpV.bin hx rfl (fun w => by rw [eqGuard_at_pointer]; rfl) fun w => by
    have h : (Op.equal T (.pointer a) (.pointer none)).run C.P w = .ok a.isNone w := by
      show (Op.equalIn (9999 + 1) T _ _).run C.P w = _
      rw [Op.equalIn]
      cases a <;> simp [run_underlying hT.out, Result.andThen]
    simp only [binOp, Sem.run_bind, h, Result.andThen, Sem.run_pure]
theorem OpV.neqPSame {a : Addr} {e : TypeId} {g : Bool} {n : Nat} [hT : TPtr C.P T e] [hz : TSz C.P e g n] (hx : ev ρ x = some (.pointer (some a))) (hy : ev ρ y = some (.pointer (some a))) : OpV C ρ S (.binOp .neq T x y T') ty (.bool false) :=
  OpV.bin hx hy (fun w => by rw [eqGuard_at_pointer]; rfl) fun w => by
    cases hq : C.P.info? e with
    | none => have := (run_sizeOf hz.out w).1; simp [sizeOf, typeInfo, hq] at this
    | some j => exact Lib.run_neq_ptr_same w a hT.out hq
theorem OpV.toUnsafe (i : Nat) {D e : TypeId} {g : Bool} {n b off TT k : Nat} {u : List (Nat × Value)} [hT : TPtr C.P T e] [hD : TUns C.P D] [hz : TSz C.P e g (n + 1)] (hi : Hs[i]? = some (Blk b TT k u)) (hx : ev ρ x = some (.pointer (some ⟨b, off, none⟩))) (ho : Nat.ble (off + 1) k = true) :
    OpV C ρ (St C Hs) (.convert T D x) ty (.pointer (some ⟨b, off, none⟩)) := fun a w he hs dst pos af gd => by
  obtain ⟨ok, _, h1, cs, h2, h3, h4⟩ := Sat.at i hi hs.sat
  have ho' := Nat.le_of_ble_eq_true ho
  have hsz := (run_sizeOf hz.out w).1
  cases hq : C.P.info? e with
  | none => simp [sizeOf, typeInfo, hq] at hsz
  | some j =>
    have hj : j.size = n + 1 := by simpa [sizeOf, typeInfo, hq] using hsz
    have h := Lib.run_to_unsafe (P := C.P) w (src := T) (dst := D) (t := e) (e := TT) (j := j) (cells := cs.size) ⟨b, off, none⟩ hT.out hD.out hq (by omega) (by simp [World.shape?, h2]) (by simp only; omega)
    simp only [execOp, he.eval hx, Sem.run_bind, h, Result.andThen, Sem.run_pure]
theorem OpV.fromUnsafe (i : Nat) {D e : TypeId} {g : Bool} {n b off TT k : Nat} {u : List (Nat × Value)} [hT : TUns C.P T] [hD : TPtr C.P D e] [hz : TSz C.P e g n] (hi : Hs[i]? = some (Blk b TT k u)) (hx : ev ρ x = some (.pointer (some ⟨b, off, none⟩))) (hl : liesAt C.P C.P.depth TT (k / C.P.cellsOf TT) off e 1 = true) :
    OpV C ρ (St C Hs) (.convert T D x) ty (.pointer (some ⟨b, off, none⟩)) := fun a w he hs dst pos af gd => by
  obtain ⟨ok, _, h1, cs, h2, h3, h4⟩ := Sat.at i hi hs.sat
  have hsz := (run_sizeOf hz.out w).1
  cases hq : C.P.info? e with
  | none => simp [sizeOf, typeInfo, hq] at hsz
  | some j =>
    have h := Lib.run_from_unsafe (P := C.P) w (src := T) (dst := D) (u := e) (e := TT) (j := j) (cells := cs.size) ⟨b, off, none⟩ hT.out hD.out hq (by simp [World.shape?, h2]) (by rw [h3]; exact hl)
    simp only [execOp, he.eval hx, Sem.run_bind, h, Result.andThen, Sem.run_pure]
/-- abi.NoEscape. -/
theorem OpV.noEscape {f : FuncId} {fn : Func} {v : Value} {ts : Array TypeId} (hf : C.P.funcs[f]? = some fn) (hname : (fn.name == "runtime.NumGoroutine") = false) (hb : fn.body.isNone = true) (hn : Extern.findNext fn = none) (he' : Extern.find fn = some Extern.AbiNoEscape.same) (hx : ev ρ x = some v) :
    OpV C ρ S (.call ⟨.value (.func f), #[x], ts⟩) ty v := fun a w he hs dst pos af gd => by
  have h := run_callFunc_extern (P := C.P) hf hname hb hn he' #[v] w
  rw [Lib.run_noEscape] at h
  have hF : a.eval (.func f) = .func (.func f) #[] #[] := rfl
  simp only [execOp, resolve, hF, Deferred.ofValue, Sem.run_bind, Sem.run_pure, Result.andThen, invoke, List.map_toArray, List.map_cons, List.map_nil, he.eval hx, Array.append_empty, Array.empty_append, h]
/-- The address of a list's first element. -/
theorem OpV.sliceData (i : Nat) {e : TypeId} {n c : Nat} {A : Option Addr} {xs : List Value} {ts : Array TypeId} (hi : Hs[i]? = some (Own e 1 (.slice A n c) n xs)) (hx : ev ρ x = some (.slice A n c)) (hA : n = 0 → A = none ∨ c ≠ 0) :
    OpV C ρ (St C Hs) (.call ⟨.builtin .unsafeSliceData, #[x], ts⟩) ty (.pointer A) := fun a w he hs dst pos af gd => by
  obtain ⟨ok, _, h1⟩ := Sat.at i hi hs.sat
  have h : (Builtin.unsafeSliceData_ ts ty #[.slice A n c]).run C.P w = .ok (.pointer A) w := by
    cases A with
    | none => exact Lib.run_unsafeSliceData_nil w ts ty n c
    | some g =>
      refine Lib.run_unsafeSliceData_row w ts ty g n c ?_
      rcases h1.1.2 with ⟨h2, _⟩ | ⟨g', cap, cur, h2, _, _, h3, _⟩
      · simp at h2
      · simp only [Value.slice.injEq] at h2
        by_cases h0 : n = 0
        · rcases hA h0 with h4 | h4
          · simp at h4
          · exact h4
        · omega
  simp only [execOp, resolve, he.eval hx, invoke, builtin, Sem.run_bind, Sem.run_pure, Result.andThen, List.map_toArray, List.map_cons, List.map_nil, h]
theorem freeze_at (w : World) (g n k : Nat) (h : k ≠ g) : (w.freeze ⟨g, 0, none⟩ n).heap[k]? = w.heap[k]? := by
  unfold World.freeze
  split
  · rfl
  · simp only [Array.getElem?_modify]; rw [if_neg (fun e => h e.symm)]
theorem freeze_parts (w : World) (p : Addr) (n : Nat) : (w.freeze p n).os = w.os ∧ (w.freeze p n).tape = w.tape ∧ (w.freeze p n).output = w.output ∧ (w.freeze p n).heap.size = w.heap.size := by
  unfold World.freeze
  split <;> simp
/-- The bytes of a list of the call's own as a string; the list is gone. -/
theorem OpW.unsafeString (i : Nat) {tp tn e : TypeId} {n c : Nat} {A : Option Addr} {l : Bs} [hP : TPtr C.P tp e] [hb : TByte C.P e] (hc : C.P.cellsOf e = 1) (hi : Hs[i]? = some (Own e 1 (.slice A n c) n (byC l))) (hn : n = l.length) (hx : ev ρ x = some (.pointer A)) (hy : ev ρ y = some (.int .i64 (n : Int))) :
    OpW C ρ Hs (.call ⟨.builtin .unsafeString, #[x, y], #[tp, tn]⟩) ty (fun _ : Unit => .string ⟨l.toArray⟩) (fun _ => Hs.set i Emp) (fun _ => True) := fun a w he hs => by
  subst hn
  obtain ⟨ok, hok, hown, hblk⟩ := Sat.at i hi hs.sat
  by_cases h0 : l = []
  · subst h0
    have h := Lib.run_unsafeString_none (P := C.P) w tp tn ty A
    refine ⟨(), w, fun dst pos af g => .inl ?_, ?_, trivial⟩
    · have h' : (Builtin.unsafeString_ #[tp, tn] ty #[.pointer A, .int .i64 (([] : Bs).length : Int)]).run C.P w = .ok (.string .empty) w := h
      simp only [execOp, resolve, invoke, builtin, Sem.run_bind, Sem.run_pure, Result.andThen, List.map_toArray, List.map_cons, List.map_nil, he.eval hx, he.eval hy, h']
      rfl
    · exact hs.upd i hi rfl rfl rfl (Nat.le_refl _) fun ok' hk' _ => ⟨fun _ => False, fun _ c => c.elim, fun _ _ _ => rfl, trivial⟩
  · have hl : 0 < l.length := List.length_pos_iff.2 h0
    obtain ⟨g, cap, cur, h2, hbg, hg, hnc, hcm, hcs, htake⟩ : ∃ g cap cur, Value.slice A l.length c = .slice (some ⟨g, 0, none⟩) l.length cap ∧ 0 ≤ g ∧ w.heap[g]? = some (.cells cur e (0, 0)) ∧ l.length ≤ cap ∧ cap ≤ maxLen ∧ cur.size = cap * 1 ∧ cur.toList.take (l.length * 1) = byC l := by
      rcases hown.2 with ⟨_, hz⟩ | ⟨g, cap, cur, hv, r⟩
      · omega
      · exact ⟨g, cap, cur, hv, r⟩
    simp only [Value.slice.injEq] at h2
    obtain ⟨rfl, _, rfl⟩ := h2
    have h := Lib.run_unsafeString_row (P := C.P) w tp tn ty e hP.out hc g cur.size (by simp [World.shape?, hg]) l h0 (by omega) (by unfold maxLen at hcm; omega) (fun j x' hx' => hown.cells (g := g) rfl j (.int .u8 x'.toNat) (by simp [byC, Lib.byteCells, hx']))
    obtain ⟨f1, f2, f3, f4⟩ := freeze_parts w ⟨g, 0, none⟩ l.length
    refine ⟨(), w.freeze ⟨g, 0, none⟩ l.length, fun dst pos af gd => .inl ?_, ?_, trivial⟩
    · simp only [execOp, resolve, invoke, builtin, Sem.run_bind, Sem.run_pure, Result.andThen, List.map_toArray, List.map_cons, List.map_nil, he.eval hx, he.eval hy, h]
    · exact hs.upd i hi f1 f2 f3 (by omega) fun ok' hk' h5 => ⟨fun _ => False, fun _ c => c.elim, fun k hk hn' => freeze_at w g l.length k fun e => hn' (e ▸ h5.2 g rfl), trivial⟩
end
end Go.Proofs.Gw
/- How many bytes an element has. Printed by wip/tools/geninst.py. -/
namespace Go.Proofs.Gw
open Go
instance : TBytes Tryz.prog 3 8 := ⟨by kernel_rfl⟩
instance : TBytes Tryz.prog 5 1 := ⟨by kernel_rfl⟩
instance : TBytes Tryz.prog 9 16 := ⟨by kernel_rfl⟩
instance : TBytes Tryz.prog 24 8 := ⟨by kernel_rfl⟩
instance : TBytes Tryz.prog 26 16 := ⟨by kernel_rfl⟩
instance : TBytes Tryz.prog 35 16 := ⟨by kernel_rfl⟩
instance : TBytes Tryz.prog 80 120 := ⟨by kernel_rfl⟩
instance : TBytes Tryz.prog 82 160 := ⟨by kernel_rfl⟩
instance : TBytes Tryz.prog 89 96 := ⟨by kernel_rfl⟩
instance : TBytes Tryz.prog 101 56 := ⟨by kernel_rfl⟩
instance : TBytes Tryz.prog 169 56 := ⟨by kernel_rfl⟩
instance : TBytes Tryz.prog 329 16 := ⟨by kernel_rfl⟩
instance : TByte Tryz.prog 5 := ⟨by kernel_rfl⟩
instance : TByte Tryz.prog 6 := ⟨by kernel_rfl⟩
instance : TPtr Tryz.prog 15 305 := ⟨by kernel_rfl⟩
instance : TPtr Tryz.prog 16 308 := ⟨by kernel_rfl⟩
instance : TPtr Tryz.prog 17 316 := ⟨by kernel_rfl⟩
instance : TPtr Tryz.prog 74 93 := ⟨by kernel_rfl⟩
instance : TPtr Tryz.prog 119 45 := ⟨by kernel_rfl⟩
instance : TPtr Tryz.prog 132 135 := ⟨by kernel_rfl⟩
instance : TPtr Tryz.prog 141 137 := ⟨by kernel_rfl⟩
instance : TPtr Tryz.prog 187 190 := ⟨by kernel_rfl⟩
instance : TPtr Tryz.prog 188 187 := ⟨by kernel_rfl⟩
instance : TUns Tryz.prog 192 := ⟨by kernel_rfl⟩
instance : TByte Tryz.prog 200 := ⟨by kernel_rfl⟩
instance : TPtr Tryz.prog 220 222 := ⟨by kernel_rfl⟩
instance : TPtr Tryz.prog 224 5 := ⟨by kernel_rfl⟩
instance : TPtr Tryz.prog 253 320 := ⟨by kernel_rfl⟩
instance : TPtr Tryz.prog 271 273 := ⟨by kernel_rfl⟩
instance : TPtr Tryz.prog 277 169 := ⟨by kernel_rfl⟩
instance : TByte Tryz.prog 311 := ⟨by kernel_rfl⟩
instance : TPtr Tryz.prog 321 325 := ⟨by kernel_rfl⟩
instance : TPtr Tryz.prog 330 35 := ⟨by kernel_rfl⟩
end Go.Proofs.Gw
/- Library entries, methods of interface values, type assertions, the package variable. -/
set_option linter.unusedVariables false
set_option linter.unusedSimpArgs false
namespace Go.Proofs.Gw
open Go Go.RowKit Go.IntWalk Go.Proofs.Gm

class ExtIs (P : Program) (f : FuncId) (e : outParam (Array Value → Sem Value)) : Prop where out : ∀ (vs : Array Value) (w : World), (callFunc f vs).run P w = ((e vs).run P w).andThen fun v w' => .ok (.value v) w'
theorem ExtIs.mk' {P : Program} {f : FuncId} {fn : Func} {e : Array Value → Sem Value} (hf : P.funcs[f]? = some fn) (hname : (fn.name == "runtime.NumGoroutine") = false) (hb : fn.body.isNone = true) (hn : Extern.findNext fn = none) (he : Extern.find fn = some e) : ExtIs P f e :=
  ⟨fun vs w => run_callFunc_extern hf hname hb hn he vs w⟩

section
variable {C : Ctx} {K : List KI} {ρ : List (Nat × Value)} {Hs : List HP} {S : World → Prop} {ty : TypeId} {x : Operand} {xs : List Operand} {vs : List Value} {ts : Array TypeId} {f : FuncId} {e : Array Value → Sem Value} {v r u : Value} {t : TypeId} {name : String} {fuel : Nat}
theorem run_ext_op [h : ExtIs C.P f e] {a : Act} (he : Env C.n ρ a) (hv : evs ρ xs = some vs) (w : World) (dst pos af gd) : (execOp a.eval ⟨dst, .call ⟨.value (.func f), xs.toArray, ts⟩, ty, pos, af, gd⟩).run C.P w = ((e vs.toArray).run C.P w).andThen fun v w' => .ok (.value v) w' := by
  have hF : a.eval (.func f) = .func (.func f) #[] #[] := rfl
  simp only [execOp, resolve, hF, Deferred.ofValue, Sem.run_bind, Sem.run_pure, Result.andThen_ok, invoke, List.map_toArray, evs_map he hv, Array.append_empty, Array.empty_append, h.out]
theorem OpV.ext [h : ExtIs C.P f e] (hv : evs ρ xs = some vs) (hr : ∀ w, S w → (e vs.toArray).run C.P w = .ok v w) : OpV C ρ S (.call ⟨.value (.func f), xs.toArray, ts⟩) ty v := fun a w he hs dst pos af gd => by
  rw [run_ext_op he hv, hr w hs]; rfl
theorem OpW.ext [h : ExtIs C.P f e] {X : Type} {val : X → Value} {Hs' : X → List HP} {p : X → Prop} (hv : evs ρ xs = some vs) (hr : ∀ w, St C Hs w → ∃ x w', (e vs.toArray).run C.P w = .ok (val x) w' ∧ St C (Hs' x) w' ∧ p x) : OpW C ρ Hs (.call ⟨.value (.func f), xs.toArray, ts⟩) ty val Hs' p := fun a w he hs => by
  obtain ⟨y, w', h1, h2, h3⟩ := hr w hs
  exact ⟨y, w', fun dst pos af gd => .inl (by rw [run_ext_op he hv, h1]; rfl), h2, h3⟩
/-- An entry that makes one variable. -/
theorem OpW.extNew [h : ExtIs C.P f e] {val : Nat → Value} {cs : List Value} {T : TypeId} (hv : evs ρ xs = some vs) (hr : ∀ w, (e vs.toArray).run C.P w = .ok (val w.heap.size) (w.alloc (.cells cs.toArray T))) : OpW C ρ Hs (.call ⟨.value (.func f), xs.toArray, ts⟩) ty val (fun b => Blk b T cs.length (args0 0 cs) :: Hs) (fun _ => True) :=
  OpW.ext hv fun w hs => ⟨w.heap.size, _, hr w, hs.new cs T, trivial⟩
theorem run_inv_op {a : Act} (he : Env C.n ρ a) (hx : ev ρ x = some (.iface t u)) (hv : evs ρ xs = some vs) (w : World) (hm : (method (C.P.types.size + Made.depth) t u name).run C.P w = .ok (f, r) w) (dst pos af gd) : (execOp a.eval ⟨dst, .call ⟨.invoke x name, xs.toArray, ts⟩, ty, pos, af, gd⟩).run C.P w = (callFunc f (#[r] ++ vs.toArray)).run C.P w := by
  simp only [execOp, resolve, he.eval hx, Sem.run_bind, Sem.run_pure, Result.andThen_ok, invoke, List.map_toArray, evs_map he hv]
  simp [callMethod, hm, Result.andThen]
theorem OpV.inv [h : ExtIs C.P f e] (hx : ev ρ x = some (.iface t u)) (hv : evs ρ xs = some vs) (hm : ∀ w, (method (C.P.types.size + Made.depth) t u name).run C.P w = .ok (f, r) w) (hr : ∀ w, S w → (e (r :: vs).toArray).run C.P w = .ok v w) : OpV C ρ S (.call ⟨.invoke x name, xs.toArray, ts⟩) ty v := fun a w he hs dst pos af gd => by
  rw [run_inv_op he hx hv w (hm w), h.out]
  have : (#[r] ++ vs.toArray) = (r :: vs).toArray := by simp
  rw [this, hr w hs]; rfl
theorem OpV.tassert {X T : TypeId} {ok : Bool} (hx : ev ρ x = some v) (hr : ∀ w, (Instr.typeAssert v X T ok).run C.P w = .ok r w) : OpV C ρ S (.typeAssert x X T ok) ty r := fun a w he hs dst pos af gd => by
  simp only [execOp, he.eval hx, Sem.run_bind, hr, Result.andThen_ok, Sem.run_pure]
theorem OpV.ldG {t : TypeId} [hz : TSz C.P t false 1] : OpV C ρ (St C Hs) (.load t (.global 0)) ty gval :=
  OpV.load1 (p := ⟨0, 0, none⟩) rfl fun w (hs : St C Hs w) => by
    obtain ⟨cs, T, fr, h1, h2⟩ := hs.glb.cell
    rw [cell?_of_heap (by rw [hs.chg.block 0 hs.glb.lt hs.glb.out]; exact h1)]; exact h2
/-- A method that is a Go function. -/
theorem GL.inv {ops : Array Oper} {rest : List Oper} {d : Nat} {pos : String} {af : Array Edge} {X : Type} {val : X → Value} {p : X → Prop} {As Hs0 : List HP} {Bs : X → List HP} [h : FnIs C.P f] (hx : ev ρ x = some (.iface t u)) (hv : evs ρ xs = some vs) (hm : ∀ w, (method (C.P.types.size + Made.depth) t u name).run C.P w = .ok (f, r) w)
    (ht : ∀ w, St C (As ++ Hs0) w → Tri C.P f (r :: vs) As val Bs p w)
    (hd : Nat.ble (d + 1) C.n = true) (k : ∀ x, p x → GL C ops rest K ((d, val x) :: ρ) (Bs x ++ Hs0)) : GL C ops (⟨some d, .call ⟨.invoke x name, xs.toArray, ts⟩, ty, pos, af, none⟩ :: rest) K ρ (As ++ Hs0) := fun a w he hs => by
  refine wpList_none rfl ?_
  have : (#[r] ++ vs.toArray) = (r :: vs).toArray := by simp
  simp only [Oper.wp, run_inv_op (ty := ty) he hx hv w (hm w), this, run_callFunc, Oper.upon]
  exact (hs.call (ht w hs)).mono fun e w' ⟨y, h1, h2, h3⟩ => by subst h1; exact k y h3 _ w' (he.put d hd _) h2
end

/-! assertions handed over, spelt otherwise -/
theorem Tri.ent {P : Program} {f : FuncId} {vs : List Value} {As As' : List HP} {Y : Type} {val : Y → Value} {Cs : Y → List HP} {q : Y → Prop} {w : World} (h : Ent As As') (k : Tri P f vs As' val Cs q w) : Tri P f vs As val Cs q w := fun D hD hA => k D hD (h D w hA)
/-- A state that is opened. -/
theorem GC.opn {C : Ctx} {K : List KI} {ρ : List (Nat × Value)} {Hs : List HP} {c : Code} {X : Type} {Hs' : X → List HP} {p : X → Prop} (h : ∀ D w, Sat D w Hs → ∃ x, p x ∧ Sat D w (Hs' x)) (k : ∀ x, p x → GC C c K ρ (Hs' x)) : GC C c K ρ Hs := fun a w he hs => by
  obtain ⟨x, h1, h2⟩ := h _ _ hs.sat
  exact k x h1 a w he ⟨hs.glb, hs.chg, h2⟩
theorem GL.opn {C : Ctx} {K : List KI} {ρ : List (Nat × Value)} {Hs : List HP} {ops : Array Oper} {rest : List Oper} {X : Type} {Hs' : X → List HP} {p : X → Prop} (h : ∀ D w, Sat D w Hs → ∃ x, p x ∧ Sat D w (Hs' x)) (k : ∀ x, p x → GL C ops rest K ρ (Hs' x)) : GL C ops rest K ρ Hs := fun a w he hs => by
  obtain ⟨x, h1, h2⟩ := h _ _ hs.sat
  exact k x h1 a w he ⟨hs.glb, hs.chg, h2⟩
theorem Tri.opn {P : Program} {f : FuncId} {vs : List Value} {As : List HP} {X Y : Type} {Hs' : X → List HP} {p : X → Prop} {val : Y → Value} {Cs : Y → List HP} {q : Y → Prop} {w : World} (h : ∀ D w, Sat D w As → ∃ x, p x ∧ Sat D w (Hs' x)) (k : ∀ x, p x → Tri P f vs (Hs' x) val Cs q w) : Tri P f vs As val Cs q w := fun D hD hA => by
  obtain ⟨x, h1, h2⟩ := h _ _ hA
  exact k x h1 D hD h2
end Go.Proofs.Gw
/- Guarded operations that are no mere values. -/
set_option linter.unusedVariables false
set_option linter.unusedSimpArgs false
namespace Go.Proofs.Gw
open Go Go.RowKit Go.IntWalk Go.Proofs.Gm

theorem wp_guard {P : Program} {dst : Option Tmp} {op : Op} {ty : TypeId} {pos : String} {af : Array Edge} {g : Option (Nat × Bool)} {a : Act} {w : World} {K : Act → World → Prop} {Q : Exit → Act → World → Prop} : (⟨dst, op, ty, pos, af, g⟩ : Oper).wp P a w K Q = (⟨dst, op, ty, pos, af, none⟩ : Oper).wp P a w K Q := rfl

section
variable {C : Ctx} {K : List KI} {ρ : List (Nat × Value)} {Hs HS : List HP} {ops : Array Oper} {rest : List Oper} {fuel : Nat} {listed : Array Bool} {d : Nat} {dst : Option Tmp} {op : Op} {ty : TypeId} {pos : String} {af : Array Edge}
/-- A guard that is met: as if there were none. -/
theorem GL.gd {j t : Nat} {z : Bool} (hj : (ops[j]?).bind (·.dst) = some t) (ht : lk ρ t = some (.bool z)) (k : GL C ops (⟨dst, op, ty, pos, af, none⟩ :: rest) K ρ Hs) : GL C ops (⟨dst, op, ty, pos, af, some (j, z)⟩ :: rest) K ρ Hs := fun a w he hs => by
  have h := k a w he hs
  unfold wpList at h ⊢
  have hy : Region.wanted ⟨dst, op, ty, pos, af, some (j, z)⟩ (yielded ops a.tmps) = true := by
    rw [wanted_of he hj ht]; cases z <;> rfl
  rw [if_pos hy]
  have hn : Region.wanted ⟨dst, op, ty, pos, af, none⟩ (yielded ops a.tmps) = true := rfl
  rw [if_pos hn] at h
  exact h
variable {i : Nat} {X : Type} {val : X → Value} {Hs' : X → List HP} {p : X → Prop}
/-- Number i is a guarded call. -/
theorem GAi.callVg {j t : Nat} {z : Bool} {f : FuncId} {F : Operand} {first captured : List Value} {xs : List Operand} {ts : Array TypeId} {vs : List Value} {As Hs0 : List HP} {Bs : X → List HP} [h : FnIs C.P f] (hi : ops[i]? = some ⟨some d, .call ⟨.value F, xs.toArray, ts⟩, ty, pos, af, some (j, z)⟩) (hj : (ops[j]?).bind (·.dst) = some t) (htt : lk ρ t = some (.bool z)) (hF : ev ρ F = some (.func (.func f) first.toArray captured.toArray)) (hv : evs ρ xs = some vs) (ht : ∀ w, St C (As ++ Hs0) w → Tri C.P f (first ++ vs ++ captured) As val Bs p w)
    (hd : Nat.ble (d + 1) C.n = true) (hS : ∀ x, p x → Ent (Bs x ++ Hs0) HS) (k : ∀ x, p x → GA C ops HS fuel (listed.setIfInBounds i true) K ((d, val x) :: ρ) (Bs x ++ Hs0)) : GAi C ops HS fuel listed K ρ (As ++ Hs0) i := fun a w he hs => by
  unfold wpOp
  have hy : Region.wanted ⟨some d, .call ⟨.value F, xs.toArray, ts⟩, ty, pos, af, some (j, z)⟩ (yielded ops a.tmps) = true := by
    rw [wanted_of he hj htt]; cases z <;> rfl
  simp only [hi]
  rw [if_pos hy]
  refine .inl ?_
  simp only [Oper.wp, run_call (ty := ty) (he.eval hF) (evs_map he hv) w, Oper.upon]
  refine (hs.call (ht w hs)).mono fun e w' ⟨x, h1, h2, h3⟩ => ?_
  subst h1
  exact ⟨h2.ent (hS x h3), k x h3 _ w' (he.put d hd _) h2 (h2.ent (hS x h3))⟩
theorem GAi.callg {j t : Nat} {z : Bool} {f : FuncId} {xs : List Operand} {ts : Array TypeId} {vs : List Value} {As Hs0 : List HP} {Bs : X → List HP} [h : FnIs C.P f] (hi : ops[i]? = some ⟨some d, .call ⟨.value (.func f), xs.toArray, ts⟩, ty, pos, af, some (j, z)⟩) (hj : (ops[j]?).bind (·.dst) = some t) (htt : lk ρ t = some (.bool z)) (hv : evs ρ xs = some vs) (ht : ∀ w, St C (As ++ Hs0) w → Tri C.P f vs As val Bs p w)
    (hd : Nat.ble (d + 1) C.n = true) (hS : ∀ x, p x → Ent (Bs x ++ Hs0) HS) (k : ∀ x, p x → GA C ops HS fuel (listed.setIfInBounds i true) K ((d, val x) :: ρ) (Bs x ++ Hs0)) : GAi C ops HS fuel listed K ρ (As ++ Hs0) i :=
  GAi.callVg (first := []) (captured := []) hi hj htt rfl hv (by simpa using ht) hd hS k
end
end Go.Proofs.Gw
