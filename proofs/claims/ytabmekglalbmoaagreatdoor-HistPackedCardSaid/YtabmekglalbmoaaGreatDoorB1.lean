/- Texts that a claim of this seat leans on: G1, G2, G3, G4. No statement is claimed in this text. -/
import Derived.Calls
import Derived.Tactics
import Derived.Orders
import Derived.OrdersHeld
import Derived.Below
import Derived.WalkKit
import Derived.WalkLawsBesides
import Derived.WalkSpells
/- The walk's own calculus: what is known of a frame's slots and of the heap (a list of separate assertions), and the rules for the program's control: sequence, branch, block, loop, return. -/
set_option linter.unusedVariables false
set_option linter.unusedSimpArgs false
namespace Go.Proofs.Gw
open Go Go.RowKit

/-- The value of a slot in a list of slots, the newest first. -/
def lk : List (Nat × Value) → Nat → Option Value
  | [], _ => none
  | (s, v) :: r, t => bif Nat.beq s t then some v else lk r t

theorem lk_cons (s : Nat) (v : Value) (r : List (Nat × Value)) (t : Nat) : lk ((s, v) :: r) t = if s = t then some v else lk r t := by
  simp only [lk]
  by_cases h : s = t
  · subst h; simp
  · rw [if_neg h]
    have : Nat.beq s t = false := by
      cases e : Nat.beq s t with
      | false => rfl
      | true => exact absurd (Nat.eq_of_beq_eq_true e) h
    rw [this]; rfl

/-- What is known of a frame. -/
structure Env (n : Nat) (ρ : List (Nat × Value)) (a : Act) : Prop where
  defers : a.defers = []
  size : a.tmps.size = n
  get : ∀ t v, lk ρ t = some v → a.tmps[t]? = some v

/-- The value of an operand. -/
def ev (ρ : List (Nat × Value)) : Operand → Option Value
  | .tmp t => lk ρ t
  | .const v => some v
  | .global g => some (.pointer (some ⟨g, 0, none⟩))
  | .func f => some (.func (.func f) #[] #[])

theorem Env.eval {n : Nat} {ρ : List (Nat × Value)} {a : Act} (h : Env n ρ a) {x : Operand} {v : Value} (hx : ev ρ x = some v) : a.eval x = v := by
  cases x with
  | tmp t =>
    have := h.get t v hx
    simp [Act.eval, Array.getD_eq_getD_getElem?, this]
  | const c => simpa [ev, Act.eval] using hx
  | global g => simpa [ev, Act.eval] using hx
  | func f => simpa [ev, Act.eval] using hx

theorem Env.put {n : Nat} {ρ : List (Nat × Value)} {a : Act} (h : Env n ρ a) (d : Nat) (hd : Nat.ble (d + 1) n = true) (v : Value) : Env n ((d, v) :: ρ) (a.put (some d) v) := by
  have hd' : d < n := Nat.le_of_ble_eq_true hd
  refine ⟨h.defers, by simp [Act.put, h.size], fun t u hu => ?_⟩
  rw [lk_cons] at hu
  simp only [Act.put]
  by_cases e : d = t
  · subst e
    rw [if_pos rfl] at hu
    injection hu with hu
    subst hu
    simp [Array.getElem?_setIfInBounds, h.size, hd']
  · rw [if_neg e] at hu
    rw [Array.getElem?_setIfInBounds_ne e]
    exact h.get t u hu

theorem Env.put_none {n : Nat} {ρ : List (Nat × Value)} {a : Act} (h : Env n ρ a) (v : Value) : Env n ρ (a.put none v) := h

/-- Fewer slots are known. -/
def Sub (ρ ρ' : List (Nat × Value)) : Prop := ∀ t v, lk ρ' t = some v → lk ρ t = some v
theorem Sub.refl (ρ : List (Nat × Value)) : Sub ρ ρ := fun _ _ h => h
theorem Sub.nil (ρ : List (Nat × Value)) : Sub ρ [] := fun _ _ h => by simp [lk] at h
theorem Sub.cons {ρ ρ' : List (Nat × Value)} {t : Nat} {v : Value} (h : lk ρ t = some v) (hs : Sub ρ ρ') : Sub ρ ((t, v) :: ρ') := by
  intro s u hu
  rw [lk_cons] at hu
  by_cases e : t = s
  · subst e; rw [if_pos rfl] at hu; rw [h, hu]
  · rw [if_neg e] at hu; exact hs s u hu
theorem Env.sub {n : Nat} {ρ ρ' : List (Nat × Value)} {a : Act} (h : Env n ρ a) (hs : Sub ρ ρ') : Env n ρ' a := ⟨h.defers, h.size, fun t v hv => h.get t v (hs t v hv)⟩

/-! ### Heap assertions -/

/-- An assertion on the heap that hangs on the blocks of a footprint alone. -/
structure HP where
  holds : (Nat → Prop) → World → Prop
  loc : ∀ (ok : Nat → Prop) (w w' : World), (∀ k, ok k → w'.heap[k]? = w.heap[k]?) → holds ok w → holds ok w'

/-- Separate assertions, all of blocks of D. -/
def Sat (D : Nat → Prop) (w : World) : List HP → Prop
  | [] => True
  | h :: hs => ∃ ok : Nat → Prop, (∀ k, ok k → D k ∧ k < w.heap.size) ∧ h.holds ok w ∧ Sat (fun k => D k ∧ ¬ ok k) w hs

theorem Sat.mono {w : World} : ∀ {hs : List HP} {D D' : Nat → Prop}, (∀ k, k < w.heap.size → D k → D' k) → Sat D w hs → Sat D' w hs
  | [], _, _, _, _ => trivial
  | h :: hs, D, D', hu, ⟨ok, h1, h2, h3⟩ => ⟨ok, fun k hk => ⟨hu k (h1 k hk).2 (h1 k hk).1, (h1 k hk).2⟩, h2, Sat.mono (fun k hk c => ⟨hu k hk c.1, c.2⟩) h3⟩

/-- The world goes on; the blocks of D that were there stay. -/
theorem Sat.grow {w w' : World} (hz : w.heap.size ≤ w'.heap.size) : ∀ {hs : List HP} {D : Nat → Prop}, (∀ k, D k → k < w.heap.size → w'.heap[k]? = w.heap[k]?) → Sat D w hs → Sat (fun k => D k ∧ k < w.heap.size) w' hs
  | [], _, _, _ => trivial
  | h :: hs, D, hk, ⟨ok, h1, h2, h3⟩ => ⟨ok, fun k hk => ⟨⟨(h1 k hk).1, (h1 k hk).2⟩, Nat.lt_of_lt_of_le (h1 k hk).2 hz⟩,
      h.loc ok w w' (fun k hko => hk k (h1 k hko).1 (h1 k hko).2) h2, (Sat.grow hz (fun k a b => hk k a.1 b) h3).mono (fun k _ c => ⟨⟨c.1.1, c.2⟩, c.1.2⟩)⟩

theorem Sat.tail {D : Nat → Prop} {w : World} {h : HP} {hs : List HP} (s : Sat D w (h :: hs)) : Sat D w hs := by
  obtain ⟨ok, h1, h2, h3⟩ := s
  exact h3.mono fun k _ hk => hk.1

theorem Sat.swap {D : Nat → Prop} {w : World} {h1 h2 : HP} {hs : List HP} (s : Sat D w (h1 :: h2 :: hs)) : Sat D w (h2 :: h1 :: hs) := by
  obtain ⟨o1, a1, b1, o2, a2, b2, r⟩ := s
  refine ⟨o2, fun k hk => ⟨(a2 k hk).1.1, (a2 k hk).2⟩, b2, o1, fun k hk => ⟨⟨(a1 k hk).1, fun c => (a2 k c).1.2 hk⟩, (a1 k hk).2⟩, b1, ?_⟩
  exact r.mono fun k _ hk => ⟨⟨hk.1.1, hk.2⟩, hk.1.2⟩

/-- One list of assertions gives another, in whatever world. -/
def Ent (Hs Hs' : List HP) : Prop := ∀ D w, Sat D w Hs → Sat D w Hs'
theorem Ent.refl (Hs : List HP) : Ent Hs Hs := fun _ _ h => h
theorem Ent.trans {A B C : List HP} (h : Ent A B) (k : Ent B C) : Ent A C := fun D w s => k D w (h D w s)
theorem Ent.tail (h : HP) (Hs : List HP) : Ent (h :: Hs) Hs := fun _ _ s => s.tail
theorem Ent.nil (Hs : List HP) : Ent Hs [] := fun _ _ _ => trivial
theorem Ent.swap (h1 h2 : HP) (Hs : List HP) : Ent (h1 :: h2 :: Hs) (h2 :: h1 :: Hs) := fun _ _ s => s.swap
theorem Ent.cons (h : HP) {A B : List HP} (e : Ent A B) : Ent (h :: A) (h :: B) := fun D w ⟨ok, h1, h2, h3⟩ => ⟨ok, h1, h2, e _ w h3⟩
/-- An assertion weakened. -/
theorem Ent.head {h h' : HP} (e : ∀ ok w, h.holds ok w → h'.holds ok w) {A B : List HP} (r : Ent A B) : Ent (h :: A) (h' :: B) := fun D w ⟨ok, h1, h2, h3⟩ => ⟨ok, h1, e ok w h2, r _ w h3⟩
/-- Number i comes to the front. -/
theorem Ent.front : ∀ (i : Nat) (Hs : List HP) (h : HP), Hs[i]? = some h → Ent Hs (h :: Hs.eraseIdx i)
  | _, [], h, e => by simp at e
  | 0, g :: Hs, h, e => by
    simp at e; subst e; exact Ent.refl _
  | i + 1, g :: Hs, h, e => by
    have := Ent.front i Hs h (by simpa using e)
    exact (Ent.cons g this).trans (Ent.swap _ _ _)
/-- The front goes to number i. -/
theorem Ent.back : ∀ (i : Nat) (h : HP) (Hs : List HP) (g : HP), Hs[i]? = some g → Ent (h :: Hs.eraseIdx i) (Hs.set i h)
  | _, h, [], g, e => by simp at e
  | 0, h, f :: Hs, g, e => by simpa using Ent.refl _
  | i + 1, h, f :: Hs, g, e => by
    have := Ent.back i h Hs g (by simpa using e)
    exact (Ent.swap _ _ _).trans (by simpa using Ent.cons f this)

/-- A fact of one assertion, met in a list. -/
theorem Sat.at {D : Nat → Prop} {w : World} {Hs : List HP} (i : Nat) {h : HP} (e : Hs[i]? = some h) (s : Sat D w Hs) : ∃ ok : Nat → Prop, (∀ k, ok k → D k ∧ k < w.heap.size) ∧ h.holds ok w := by
  obtain ⟨ok, h1, h2, _⟩ := Ent.front i Hs h e _ _ s
  exact ⟨ok, h1, h2⟩

/-- What has become of the world: of the blocks that were there, only D's may have turned. -/
structure Chg (D : Nat → Prop) (w w' : World) : Prop where
  os : w'.os = w.os
  tape : w'.tape = w.tape
  output : w'.output = w.output
  size : w.heap.size ≤ w'.heap.size
  block : ∀ k, k < w.heap.size → ¬ D k → w'.heap[k]? = w.heap[k]?
theorem Chg.refl (D : Nat → Prop) (w : World) : Chg D w w := ⟨rfl, rfl, rfl, Nat.le_refl _, fun _ _ _ => rfl⟩
theorem Chg.trans {D E : Nat → Prop} {a b c : World} (h : Chg D a b) (k : Chg E b c) (hE : ∀ j, j < a.heap.size → E j → D j) : Chg D a c :=
  ⟨k.os.trans h.os, k.tape.trans h.tape, k.output.trans h.output, Nat.le_trans h.size k.size, fun i hi hd => (k.block i (Nat.lt_of_lt_of_le hi h.size) (fun c => hd (hE i hi c))).trans (h.block i hi hd)⟩
theorem Chg.below {D : Nat → Prop} {w w' : World} (h : Chg D w w') (hD : ∀ k, ¬ D k) : Below w.heap.size w w' := ⟨h.os, h.tape, h.output, h.size, fun k hk => h.block k hk (hD k)⟩
theorem Chg.of_below {D : Nat → Prop} {w w' : World} (h : Below w.heap.size w w') : Chg D w w' := ⟨h.os, h.tape, h.output, h.size, fun k hk _ => h.block k hk⟩

/-- The one package variable that the program reads (errors.errorType): it holds what it is laid with, and is nobody's to turn. -/
def gval : Value := .iface 252 (.agg #[.pointer (some ⟨2, 35, none⟩)])
structure Glb (D : Nat → Prop) (w : World) : Prop where
  out : ¬ D 0
  cell : ∃ cs T fr, w.heap[0]? = some (.cells cs T fr) ∧ cs[0]? = some gval
theorem Glb.lt {D : Nat → Prop} {w : World} (h : Glb D w) : 0 < w.heap.size := by
  obtain ⟨cs, T, fr, h1, _⟩ := h.cell
  rcases Nat.eq_zero_or_pos w.heap.size with h0 | h0
  · rw [Array.getElem?_eq_none (by omega)] at h1; cases h1
  · exact h0
theorem Glb.on {D E : Nat → Prop} {w w' : World} (h : Glb D w) (c : Chg D w w') (hE : ¬ E 0) : Glb E w' := ⟨hE, by
  obtain ⟨cs, T, fr, h1, h2⟩ := h.cell
  exact ⟨cs, T, fr, by rw [c.block 0 h.lt h.out]; exact h1, h2⟩⟩

/-! ### Control -/

/-- What surrounds the code at hand. -/
inductive KI where
  | seq (y : Code)
  | blk (id : Nat)
  | loop (I : Act → World → Prop)

/-- The call at hand: program, function, post, number of slots, the world in which it began, the blocks handed over. -/
structure Ctx where
  P : Program
  fn : Func
  R : Ending → World → Prop
  n : Nat
  w0 : World
  D : Nat → Prop

/-- The state of the world within a call. -/
structure St (C : Ctx) (Hs : List HP) (w : World) : Prop where
  glb : Glb C.D C.w0
  chg : Chg C.D C.w0 w
  sat : Sat (fun k => C.D k ∨ C.w0.heap.size ≤ k) w Hs

theorem St.ent {C : Ctx} {w : World} {A B : List HP} (h : St C A w) (e : Ent A B) : St C B w := ⟨h.glb, h.chg, e _ _ h.sat⟩

def QK (C : Ctx) : List KI → Exit → Act → World → Prop
  | [] => bodyPost C.P C.fn C.R
  | .seq y :: K => Exit.then (fun a w => y.wp C.P (QK C K) a w) (QK C K)
  | .blk id :: K => Exit.inBlock id (QK C K)
  | .loop I :: K => Exit.then I (QK C K)

theorem QK.panic (C : Ctx) : ∀ (K : List KI) (c : List PanicEntry) (a : Act) (d : Option Tmp) (v : Value) (w : World), QK C K (.panic c) (a.put d v) w → QK C K (.panic c) a w
  | [], c, a, d, v, w, h => by cases d <;> exact h
  | .seq y :: K, c, a, d, v, w, h => QK.panic C K c a d v w h
  | .blk id :: K, c, a, d, v, w, h => QK.panic C K c a d v w h
  | .loop I :: K, c, a, d, v, w, h => QK.panic C K c a d v w h

theorem QK.ret (C : Ctx) : ∀ (K : List KI) (a : Act) (w : World), bodyPost C.P C.fn C.R .ret a w → QK C K .ret a w
  | [], a, w, h => h
  | .seq y :: K, a, w, h => QK.ret C K a w h
  | .blk id :: K, a, w, h => QK.ret C K a w h
  | .loop I :: K, a, w, h => QK.ret C K a w h

def GC (C : Ctx) (c : Code) (K : List KI) (ρ : List (Nat × Value)) (Hs : List HP) : Prop := ∀ a w, Env C.n ρ a → St C Hs w → c.wp C.P (QK C K) a w
def GN (C : Ctx) (K : List KI) (ρ : List (Nat × Value)) (Hs : List HP) : Prop := ∀ a w, Env C.n ρ a → St C Hs w → QK C K .normal a w
def GX (C : Ctx) (id : Nat) (K : List KI) (ρ : List (Nat × Value)) (Hs : List HP) : Prop := ∀ a w, Env C.n ρ a → St C Hs w → QK C K (.exit id) a w
def GR (C : Ctx) (ρ : List (Nat × Value)) (Hs : List HP) : Prop := ∀ a w, Env C.n ρ a → St C Hs w → bodyPost C.P C.fn C.R .ret a w
/-- Within a region: the operations that are left. -/
def GL (C : Ctx) (ops : Array Oper) (rest : List Oper) (K : List KI) (ρ : List (Nat × Value)) (Hs : List HP) : Prop := ∀ a w, Env C.n ρ a → St C Hs w → wpList C.P ops (QK C K) rest a w

section
variable {C : Ctx} {K : List KI} {ρ : List (Nat × Value)} {Hs : List HP}

theorem GC.seq {x y : Code} (h : GC C x (.seq y :: K) ρ Hs) : GC C (.seq x y) K ρ Hs := fun a w he hs => wp_seq (h a w he hs)
theorem GC.skip (h : GN C K ρ Hs) : GC C .skip K ρ Hs := fun a w he hs => wp_skip (h a w he hs)
theorem GC.block {id : Nat} {c : Code} (h : GC C c (.blk id :: K) ρ Hs) : GC C (.block id c) K ρ Hs := fun a w he hs => wp_block (h a w he hs)
theorem GC.exit {id : Nat} (h : GX C id K ρ Hs) : GC C (.exit id) K ρ Hs := fun a w he hs => wp_exit (h a w he hs)
theorem GC.ret (h : GR C ρ Hs) : GC C .ret K ρ Hs := fun a w he hs => wp_ret (QK.ret C K a w (h a w he hs))
theorem GC.region {id : Nat} {l : List Oper} (h : GL C l.toArray l K ρ Hs) : GC C (.region id l.toArray false) K ρ Hs := fun a w he hs => wp_region_lit (h a w he hs)
theorem GC.cond {c : Operand} {x y : Code} {b : Bool} (hc : ev ρ c = some (.bool b)) (hx : b = true → GC C x K ρ Hs) (hy : b = false → GC C y K ρ Hs) : GC C (.cond c x y) K ρ Hs :=
  fun a w he hs => wp_cond_split (he.eval hc) (fun h => hx h a w he hs) (fun h => hy h a w he hs)
theorem GC.condD {c : Operand} {x y : Code} {q : Prop} {dq : Decidable q} (hc : ev ρ c = some (.bool (@decide q dq))) (hx : q → GC C x K ρ Hs) (hy : ¬ q → GC C y K ρ Hs) : GC C (.cond c x y) K ρ Hs :=
  GC.cond hc (fun h => hx (of_decide_eq_true h)) (fun h => hy (of_decide_eq_false h))
theorem GL.nil {ops : Array Oper} (h : GN C K ρ Hs) : GL C ops [] K ρ Hs := fun a w he hs => h a w he hs
theorem GN.seq {y : Code} (h : GC C y K ρ Hs) : GN C (.seq y :: K) ρ Hs := fun a w he hs => h a w he hs
theorem GN.blk {id : Nat} (h : GN C K ρ Hs) : GN C (.blk id :: K) ρ Hs := fun a w he hs => h a w he hs
theorem GX.seq {id : Nat} {y : Code} (h : GX C id K ρ Hs) : GX C id (.seq y :: K) ρ Hs := fun a w he hs => h a w he hs
theorem GX.loop {id : Nat} {I : Act → World → Prop} (h : GX C id K ρ Hs) : GX C id (.loop I :: K) ρ Hs := fun a w he hs => h a w he hs
theorem GX.blk {id : Nat} (h : GN C K ρ Hs) : GX C id (.blk id :: K) ρ Hs := fun a w he hs => by
  show (if id = id then QK C K .normal a w else _); rw [if_pos rfl]; exact h a w he hs
theorem GX.other {id id' : Nat} (hne : Nat.beq id id' = false) (h : GX C id K ρ Hs) : GX C id (.blk id' :: K) ρ Hs := fun a w he hs => by
  show (if id = id' then _ else QK C K (.exit id) a w); rw [if_neg (fun e => by subst e; rw [Nat.beq_refl] at hne; cases hne)]; exact h a w he hs
theorem GN.nil (h : GR C ρ Hs) : GN C [] ρ Hs := fun a w he hs => h a w he hs

theorem GC.sub {c : Code} {ρ' : List (Nat × Value)} {Hs' : List HP} (hr : Sub ρ ρ') (hh : Ent Hs Hs') (h : GC C c K ρ' Hs') : GC C c K ρ Hs := fun a w he hs => h a w (he.sub hr) (hs.ent hh)
theorem GL.sub {ops : Array Oper} {rest : List Oper} {ρ' : List (Nat × Value)} {Hs' : List HP} (hr : Sub ρ ρ') (hh : Ent Hs Hs') (h : GL C ops rest K ρ' Hs') : GL C ops rest K ρ Hs := fun a w he hs => h a w (he.sub hr) (hs.ent hh)
theorem GN.sub {ρ' : List (Nat × Value)} {Hs' : List HP} (hr : Sub ρ ρ') (hh : Ent Hs Hs') (h : GN C K ρ' Hs') : GN C K ρ Hs := fun a w he hs => h a w (he.sub hr) (hs.ent hh)
theorem GC.ent {c : Code} {Hs' : List HP} (hh : Ent Hs Hs') (h : GC C c K ρ Hs') : GC C c K ρ Hs := fun a w he hs => h a w he (hs.ent hh)
theorem GL.ent {ops : Array Oper} {rest : List Oper} {Hs' : List HP} (hh : Ent Hs Hs') (h : GL C ops rest K ρ Hs') : GL C ops rest K ρ Hs := fun a w he hs => h a w he (hs.ent hh)
theorem GN.ent {Hs' : List HP} (hh : Ent Hs Hs') (h : GN C K ρ Hs') : GN C K ρ Hs := fun a w he hs => h a w he (hs.ent hh)
/-- A slot's value, spelt otherwise. -/
theorem Sub.set {t : Nat} {v v' : Value} (h : lk ρ t = some v) (e : v = v') : Sub ρ ((t, v') :: ρ) := Sub.cons (by rw [h, e]) (Sub.refl ρ)
theorem GC.set {c : Code} (t : Nat) (v' : Value) {v : Value} (h : lk ρ t = some v) (e : v = v') (k : GC C c K ((t, v') :: ρ) Hs) : GC C c K ρ Hs := GC.sub (Sub.set h e) (Ent.refl _) k
theorem GL.set {ops : Array Oper} {rest : List Oper} (t : Nat) (v' : Value) {v : Value} (h : lk ρ t = some v) (e : v = v') (k : GL C ops rest K ((t, v') :: ρ) Hs) : GL C ops rest K ρ Hs := GL.sub (Sub.set h e) (Ent.refl _) k
theorem GN.set (t : Nat) (v' : Value) {v : Value} (h : lk ρ t = some v) (e : v = v') (k : GN C K ((t, v') :: ρ) Hs) : GN C K ρ Hs := GN.sub (Sub.set h e) (Ent.refl _) k

/-- A loop, its state told by a ghost: what is known of the slots and the heap, and a measure that goes down. -/
def LoopI (C : Ctx) {γ : Type} (p : γ → Prop) (ρI : γ → List (Nat × Value)) (HI : γ → List HP) (μ : γ → Nat) (g : γ) : Act → World → Prop :=
  fun a w => ∃ g', p g' ∧ μ g' < μ g ∧ Env C.n (ρI g') a ∧ St C (HI g') w

theorem GC.loop {γ : Type} (p : γ → Prop) (ρI : γ → List (Nat × Value)) (HI : γ → List HP) (μ : γ → Nat) {body : Code} (g0 : γ) (hp : p g0)
    (hr : Sub ρ (ρI g0)) (hh : Ent Hs (HI g0)) (round : ∀ g, p g → GC C body (.loop (LoopI C p ρI HI μ g) :: K) (ρI g) (HI g)) : GC C (.loop body) K ρ Hs := by
  intro a w he hs b k cs
  have key : ∀ m g a w, μ g = m → p g → Env C.n (ρI g) a → St C (HI g) w →
      ∃ e a' w', QK C K e a' w' ∧ Arrives C.P (lone (b.at a (.code body :: .inLoop body :: k)) cs w) b k cs e a' w' := by
    intro m
    induction m using Nat.strongRecOn with
    | _ m ih =>
      intro g a w hm hpg he hs
      obtain ⟨e, a₁, w₁, hq, harr⟩ := round g hpg a w he hs b (.inLoop body :: k) cs
      cases e with
      | normal =>
        obtain ⟨g', hp', hlt, he', hs'⟩ := hq
        obtain ⟨e₂, a₂, w₂, hq₂, harr₂⟩ := ih (μ g') (hm ▸ hlt) g' a₁ w₁ rfl hp' he' hs'
        exact ⟨e₂, a₂, w₂, hq₂, .of_steps (Steps.trans harr (.one step_inLoop)) harr₂⟩
      | exit id => exact ⟨_, a₁, w₁, hq, .pass (x := .inLoop body) rfl (fun _ _ => .inl (by simp)) harr⟩
      | goto l => exact ⟨_, a₁, w₁, hq, .pass (x := .inLoop body) rfl (fun _ _ => .inl (by simp)) harr⟩
      | ret => exact ⟨_, a₁, w₁, hq, .pass (x := .inLoop body) rfl (fun _ _ => .inl (by simp)) harr⟩
      | panic ch => exact ⟨_, a₁, w₁, hq, .pass (x := .inLoop body) rfl (fun _ _ => .inl (by simp)) harr⟩
      | outgrown => exact ⟨_, a₁, w₁, hq, .pass (x := .inLoop body) rfl (fun _ _ => .inl (by simp)) harr⟩
  obtain ⟨e, a', w', hq, harr⟩ := key _ g0 a w rfl hp (he.sub hr) (hs.ent hh)
  exact ⟨e, a', w', hq, .of_steps (.one step_loop) harr⟩

theorem GN.loop {γ : Type} {p : γ → Prop} {ρI : γ → List (Nat × Value)} {HI : γ → List HP} {μ : γ → Nat} {g : γ} (g' : γ) (hp : p g') (hm : μ g' < μ g)
    (hr : Sub ρ (ρI g')) (hh : Ent Hs (HI g')) : GN C (.loop (LoopI C p ρI HI μ g) :: K) ρ Hs :=
  fun a w he hs => ⟨g', hp, hm, he.sub hr, hs.ent hh⟩
end

/-! ### A call, from outside -/

/-- The slots at the beginning: the arguments. -/
def args0 : Nat → List Value → List (Nat × Value)
  | _, [] => []
  | i, v :: vs => (i, v) :: args0 (i + 1) vs

theorem lk_args0 : ∀ (vs : List Value) (i t : Nat) (v : Value), lk (args0 i vs) t = some v → i ≤ t ∧ vs[t - i]? = some v
  | [], i, t, v, h => by simp [args0, lk] at h
  | u :: vs, i, t, v, h => by
    rw [args0, lk_cons] at h
    by_cases e : i = t
    · subst e; rw [if_pos rfl] at h; simp [h]
    · rw [if_neg e] at h
      obtain ⟨h1, h2⟩ := lk_args0 vs (i + 1) t v h
      refine ⟨by omega, ?_⟩
      have : t - i = (t - (i + 1)) + 1 := by omega
      rw [this]; simpa using h2

/-- What a call does: handed the assertions As (of blocks of D), it returns 'val x' for some x of which p holds, hands back the assertions 'Bs x' (of D's blocks and new ones), and turns no other block. -/
def Tri (P : Program) (f : FuncId) (vs : List Value) (As : List HP) {X : Type} (val : X → Value) (Bs : X → List HP) (p : X → Prop) (w : World) : Prop :=
  ∀ D : Nat → Prop, (∀ k, D k → k < w.heap.size) ∧ Glb D w → Sat D w As →
    Calls P f vs.toArray w fun e w' => ∃ x, e = .returned (val x) ∧ Chg D w w' ∧ Sat (fun k => D k ∨ w.heap.size ≤ k) w' (Bs x) ∧ p x

theorem Tri.mono {P : Program} {f : FuncId} {vs : List Value} {As : List HP} {X Y : Type} {val : X → Value} {Bs : X → List HP} {p : X → Prop} {val' : Y → Value} {Bs' : Y → List HP} {q : Y → Prop} {w : World}
    (h : Tri P f vs As val Bs p w) (k : ∀ x, p x → ∃ y, val x = val' y ∧ Ent (Bs x) (Bs' y) ∧ q y) : Tri P f vs As val' Bs' q w := fun D hD hA =>
  (h D hD hA).mono fun e w' ⟨x, h1, h2, h3, h4⟩ => by
    obtain ⟨y, e1, e2, e3⟩ := k x h4
    exact ⟨y, by rw [h1, e1], h2, e2 _ _ h3, e3⟩

theorem tri_of_G {P : Program} {f : FuncId} {fn : Func} {c : Code} {vs : List Value} {As : List HP} {X : Type} {val : X → Value} {Bs : X → List HP} {p : X → Prop} {w : World} (n : Nat)
    (hf : P.funcs[f]? = some fn) (hb : fn.body = some c) (hn : fn.ntmps = n) (hl : Nat.ble vs.length n = true)
    (h : ∀ D : Nat → Prop, GC ⟨P, fn, fun e w' => ∃ x, e = .returned (val x) ∧ Chg D w w' ∧ Sat (fun k => D k ∨ w.heap.size ≤ k) w' (Bs x) ∧ p x, n, w, D⟩ c [] (args0 0 vs) As) : Tri P f vs As val Bs p w := by
  intro D hD hA
  have hl' : vs.length ≤ n := Nat.le_of_ble_eq_true hl
  refine calls_of_wp hf hb (h D _ w ⟨rfl, ?_, fun t v hv => ?_⟩ ⟨hD.2, Chg.refl _ _, hA.mono fun k _ hk => .inl hk⟩)
  · simp; omega
  · obtain ⟨_, h2⟩ := lk_args0 vs 0 t v hv
    have : t < vs.length := by
      have := (List.getElem?_eq_some_iff.1 (by simpa using h2)).1
      simpa using this
    simp only [Array.getElem?_append]
    rw [if_pos (by simpa using this)]
    simpa using h2

/-- A call that is handed nothing turns no block that was there. -/
theorem tri_of_G0 {P : Program} {f : FuncId} {fn : Func} {c : Code} {vs : List Value} {X : Type} {val : X → Value} {Bs : X → List HP} {p : X → Prop} {w : World} (n : Nat)
    (hf : P.funcs[f]? = some fn) (hb : fn.body = some c) (hn : fn.ntmps = n) (hl : Nat.ble vs.length n = true)
    (h : GC ⟨P, fn, fun e w' => ∃ x, e = .returned (val x) ∧ Chg (fun _ => False) w w' ∧ Sat (fun k => False ∨ w.heap.size ≤ k) w' (Bs x) ∧ p x, n, w, fun _ => False⟩ c [] (args0 0 vs) []) : Tri P f vs [] val Bs p w := by
  intro D hD hA
  have hl' : vs.length ≤ n := Nat.le_of_ble_eq_true hl
  refine (calls_of_wp hf hb (h _ w ⟨rfl, ?_, fun t v hv => ?_⟩ ⟨⟨id, hD.2.cell⟩, Chg.refl _ _, trivial⟩)).mono fun e w' ⟨x, h1, h2, h3, h4⟩ => ⟨x, h1, ⟨h2.os, h2.tape, h2.output, h2.size, fun k hk _ => h2.block k hk id⟩, h3.mono fun k _ hk => hk.elim (fun c => c.elim) .inr, h4⟩
  · simp; omega
  · obtain ⟨_, h2⟩ := lk_args0 vs 0 t v hv
    have : t < vs.length := by
      have := (List.getElem?_eq_some_iff.1 (by simpa using h2)).1
      simpa using this
    simp only [Array.getElem?_append]
    rw [if_pos (by simpa using this)]
    simpa using h2
theorem St.old {C : Ctx} {Hs : List HP} {w : World} (h : St C Hs w) (hD : ∀ k, ¬ C.D k) {k : Nat} (hk : k < C.w0.heap.size) : w.heap[k]? = C.w0.heap[k]? := h.chg.block k hk (hD k)

/-- The end: what is returned. -/
theorem GR.of {C : Ctx} {X : Type} {val : X → Value} {Bs : X → List HP} {p : X → Prop} {ρ : List (Nat × Value)} {Hs : List HP} {v : Value}
    (hR : C.R = fun e w' => ∃ x, e = .returned (val x) ∧ Chg C.D C.w0 w' ∧ Sat (fun k => C.D k ∨ C.w0.heap.size ≤ k) w' (Bs x) ∧ p x)
    (hv : ∀ a w, Env C.n ρ a → St C Hs w → (results C.fn a.tmps).run C.P w = .ok v w) (x : X) (hx : v = val x) (he : Ent Hs (Bs x)) (hp : p x) : GR C ρ Hs := fun a w ha hs =>
  ⟨ha.defers, v, hv a w ha hs, by rw [hR]; exact ⟨x, by rw [hx], hs.chg, he _ _ hs.sat, hp⟩⟩

end Go.Proofs.Gw
/- The walk's calculus, operation by operation: what each yields, from what is known of the slots and of the heap. -/
set_option linter.unusedVariables false
set_option linter.unusedSimpArgs false
namespace Go.Proofs.Gw
open Go Go.RowKit

/-! ### What is asked of the program's types -/
class TStr (P : Program) (t : TypeId) : Prop where out : P.underlying t = some .string
class TBool (P : Program) (t : TypeId) : Prop where out : P.underlying t = some .bool
class TInt (P : Program) (t : TypeId) (k : outParam IntKind) : Prop where out : P.underlying t = some (.int k)
class TSl (P : Program) (t : TypeId) (e : outParam TypeId) : Prop where out : P.underlying t = some (.slice e)
class TIface (P : Program) (t : TypeId) : Prop where out : (match P.underlying t with | some (.interface _) => true | _ => false) = true
class TConc (P : Program) (t : TypeId) : Prop where out : P.concrete t = true
def szOf (P : Program) (t : TypeId) : Option (Bool × Nat) :=
  match P.underlying t, P.info? t with
  | some (.struct _), some i => some (true, i.size)
  | some (.array _ _), some i => some (true, i.size)
  | some _, some i => some (false, i.size)
  | _, _ => none
class TSz (P : Program) (t : TypeId) (g : outParam Bool) (n : outParam Nat) : Prop where out : szOf P t = some (g, n)
def zeroCells? (P : Program) (t : TypeId) : Option (List Value) := ((P.info? t).bind (·.zero)).map fun z => z.cells.toList
class TZero (P : Program) (t : TypeId) (cs : outParam (List Value)) : Prop where out : zeroCells? P t = some cs
def fieldOff (P : Program) (S f : Nat) : Option Nat :=
  match P.underlying S with
  | some (.struct fs) => match fs[f]? with
    | some fd => match P.info? fd.type with
      | some i => if i.size = 0 then none else some fd.offset
      | none => none
    | none => none
  | _ => none
class FOff (P : Program) (S f : Nat) (o : outParam Nat) : Prop where out : fieldOff P S f = some o
class FnIs (P : Program) (f : FuncId) : Prop where out : (match P.funcs[f]? with | some fn => !(fn.name == "runtime.NumGoroutine") && !fn.body.isNone | none => false) = true

theorem run_sizeOf {P : Program} {t : TypeId} {g : Bool} {n : Nat} (h : szOf P t = some (g, n)) (w : World) : (sizeOf t).run P w = .ok n w ∧ (isAgg t).run P w = .ok g w := by
  unfold szOf at h
  cases hu : P.underlying t with
  | none => simp [hu] at h
  | some d =>
    cases hi : P.info? t with
    | none => cases d <;> simp [hu, hi] at h
    | some i =>
      refine ⟨?_, ?_⟩
      · have : i.size = n := by cases d <;> simp [hu, hi] at h <;> exact h.2
        simp [sizeOf, typeInfo, hi, this]
      · simp only [isAgg, Sem.run_bind, run_underlying hu, Result.andThen]
        cases d <;> simp [hu, hi] at h <;> simp [h.1]

/-! ### What an operation yields -/

/-- In each frame of which ρ is known, and each world that meets S, the operation yields v and leaves the world. -/
def OpV (C : Ctx) (ρ : List (Nat × Value)) (S : World → Prop) (op : Op) (ty : TypeId) (v : Value) : Prop :=
  ∀ a w, Env C.n ρ a → S w → ∀ dst pos af g, (execOp a.eval ⟨dst, op, ty, pos, af, g⟩).run C.P w = .ok (.value v) w

section
variable {C : Ctx} {K : List KI} {ρ : List (Nat × Value)} {Hs : List HP} {S : World → Prop} {ty : TypeId}

theorem OpV.move {x : Operand} {v : Value} (h : ev ρ x = some v) : OpV C ρ S (.move x) ty v := fun a w he _ _ _ _ _ => by simp [execOp, he.eval h]
theorem OpV.assign {x : Operand} {v : Value} (h : ev ρ x = some v) : OpV C ρ S (.assign x) ty v := fun a w he _ _ _ _ _ => by simp [execOp, he.eval h]
theorem OpV.pick {c x y : Operand} {b : Bool} {v u : Value} (hc : ev ρ c = some (.bool b)) (hx : ev ρ x = some v) (hy : ev ρ y = some u) : OpV C ρ S (.pick c x y) ty (bif b then v else u) := fun a w he _ _ _ _ _ => by
  simp only [execOp, he.eval hc, he.eval hx, he.eval hy, asBool]; cases b <;> simp
theorem OpV.pickT {c x y : Operand} {v : Value} (hc : ev ρ c = some (.bool true)) (hx : ev ρ x = some v) : OpV C ρ S (.pick c x y) ty v := fun a w he _ _ _ _ _ => by
  simp [execOp, he.eval hc, he.eval hx, asBool]
theorem OpV.pickF {c x y : Operand} {v : Value} (hc : ev ρ c = some (.bool false)) (hx : ev ρ y = some v) : OpV C ρ S (.pick c x y) ty v := fun a w he _ _ _ _ _ => by
  simp [execOp, he.eval hc, he.eval hx, asBool]
theorem OpV.nilCheck {x : Operand} {p : Addr} (h : ev ρ x = some (.pointer (some p))) : OpV C ρ S (.nilCheck x) ty (.pointer (some p)) := fun a w he _ _ _ _ _ => by simp [execOp, he.eval h]
theorem OpV.nilCheckF {x : Operand} {f : FuncId} {fs cs : Array Value} (h : ev ρ x = some (.func (.func f) fs cs)) : OpV C ρ S (.nilCheck x) ty (.func (.func f) fs cs) := fun a w he _ _ _ _ _ => by simp [execOp, he.eval h]
theorem OpV.extract {x : Operand} {vs : List Value} {i : Nat} {v : Value} (h : ev ρ x = some (.tuple vs.toArray)) (hi : vs[i]? = some v) : OpV C ρ S (.extract x i) ty v := fun a w he _ _ _ _ _ => by
  simp [execOp, he.eval h, Instr.extract, hi]
theorem OpV.fieldAddr {T f o b off : Nat} {x : Operand} [hF : FOff C.P T f o] (h : ev ρ x = some (.pointer (some ⟨b, off, none⟩))) : OpV C ρ S (.fieldAddr T x f) ty (.pointer (some ⟨b, off + o, none⟩)) := fun a w he _ _ _ _ _ => by
  have ho := hF.out
  unfold fieldOff at ho
  cases hu : C.P.underlying T with
  | none => simp [hu] at ho
  | some d =>
    cases d with
    | struct fs =>
      cases hf : fs[f]? with
      | none => simp [hu, hf] at ho
      | some fd =>
        cases hi : C.P.info? fd.type with
        | none => simp [hu, hf, hi] at ho
        | some i =>
          by_cases hz : i.size = 0
          · simp [hu, hf, hi, hz] at ho
          · have hoo : fd.offset = o := by simpa [hu, hf, hi, hz] using ho
            have e : ∀ q : Value, (Instr.fieldAt T (.pointer (some ⟨b, off, none⟩)) f).run C.P w = .ok (.pointer (some ⟨b, off + o, none⟩)) w := fun _ => by
              have hs : (sizeOf fd.type).run C.P w = .ok i.size w := by simp [sizeOf, typeInfo, hi]
              simp only [Instr.fieldAt, Sem.run_bind, run_underlying hu, Result.andThen, hf, Instr.sureAddr, Sem.run_pure, fieldPlace, hs, if_neg hz, Addr.add_lit, hoo]
            simp [execOp, he.eval h, e undef]
    | _ => simp [hu] at ho
theorem OpV.not {T : TypeId} {x : Operand} {b : Bool} (h : ev ρ x = some (.bool b)) : OpV C ρ S (.unOp .not T x) ty (.bool (!b)) := fun a w he _ _ _ _ _ => by
  simp [execOp, he.eval h, Op.unary]
theorem OpV.neg {T : TypeId} {x : Operand} {k : IntKind} {n : Int} (h : ev ρ x = some (.int k n)) : OpV C ρ S (.unOp .neg T x) ty (.int k (k.wrap (0 - n))) := fun a w he _ _ _ _ _ => by
  simp [execOp, he.eval h, Op.unary, Op.intArith]
theorem OpV.makeInterface {T : TypeId} {x : Operand} {v : Value} [hT : TConc C.P T] (h : ev ρ x = some v) : OpV C ρ S (.makeInterface T x) ty (.iface T v) := fun a w he _ _ _ _ _ => by
  simp [execOp, he.eval h, run_makeInterface w T v hT.out]
theorem OpV.makeFunc {f : Fn} : OpV C ρ S (.makeFunc f #[] #[]) ty (.func f #[] #[]) := fun a w he _ _ _ _ _ => by simp [execOp, Instr.makeFunc]
theorem OpV.makeFunc1 {f : Fn} {x : Operand} {v : Value} (h : ev ρ x = some v) : OpV C ρ S (.makeFunc f #[] #[x]) ty (.func f #[] #[v]) := fun a w he _ _ _ _ _ => by simp [execOp, Instr.makeFunc, he.eval h]

/-! whole numbers -/
theorem OpV.bin {op : BinOp} {T T' : TypeId} {x y : Operand} {u v r : Value} (hx : ev ρ x = some u) (hy : ev ρ y = some v) (hg : ∀ w : World, (eqGuard op T x y u v).run C.P w = .ok () w) (hr : ∀ w : World, (binOp op T u v).run C.P w = .ok r w) :
    OpV C ρ S (.binOp op T x y T') ty r := fun a w he _ _ _ _ _ => by
  simp only [execOp, he.eval hx, he.eval hy, Sem.run_bind, hg, Result.andThen, hr, Sem.run_pure]
theorem OpV.binI {op : BinOp} {T T' : TypeId} {x y : Operand} {k j : IntKind} {m n : Int} {r : Value} (hx : ev ρ x = some (.int k m)) (hy : ev ρ y = some (.int j n)) (hr : ∀ w : World, (binOp op T (.int k m) (.int j n)).run C.P w = .ok r w) :
    OpV C ρ S (.binOp op T x y T') ty r := OpV.bin hx hy (fun w => by rw [eqGuard_at_int]; rfl) hr
section
variable {T T' : TypeId} {x y : Operand} {k : IntKind} {m n : Int}
theorem OpV.addW (hx : ev ρ x = some (.int k m)) (hy : ev ρ y = some (.int k n)) : OpV C ρ S (.binOp .add T x y T') ty (.int k (k.wrap (m + n))) := OpV.binI hx hy fun w => by rw [binOp_add]; rfl
theorem OpV.subW (hx : ev ρ x = some (.int k m)) (hy : ev ρ y = some (.int k n)) : OpV C ρ S (.binOp .sub T x y T') ty (.int k (k.wrap (m - n))) := OpV.binI hx hy fun w => by rw [binOp_sub]; rfl
theorem OpV.mulW (hx : ev ρ x = some (.int k m)) (hy : ev ρ y = some (.int k n)) : OpV C ρ S (.binOp .mul T x y T') ty (.int k (k.wrap (m * n))) := OpV.binI hx hy fun w => by rw [binOp_mul]; rfl
/-- A sum that stays in its kind. -/
theorem OpV.add {z : Int} (hx : ev ρ x = some (.int k m)) (hy : ev ρ y = some (.int k n)) (hz : k.wrap (m + n) = z) : OpV C ρ S (.binOp .add T x y T') ty (.int k z) := hz ▸ OpV.addW hx hy
theorem OpV.sub {z : Int} (hx : ev ρ x = some (.int k m)) (hy : ev ρ y = some (.int k n)) (hz : k.wrap (m - n) = z) : OpV C ρ S (.binOp .sub T x y T') ty (.int k z) := hz ▸ OpV.subW hx hy
theorem OpV.mul {z : Int} (hx : ev ρ x = some (.int k m)) (hy : ev ρ y = some (.int k n)) (hz : k.wrap (m * n) = z) : OpV C ρ S (.binOp .mul T x y T') ty (.int k z) := hz ▸ OpV.mulW hx hy
theorem OpV.quo {z : Int} (hx : ev ρ x = some (.int k m)) (hy : ev ρ y = some (.int k n)) (h0 : n ≠ 0) (hz : k.wrap (m.tdiv n) = z) : OpV C ρ S (.binOp .quo T x y T') ty (.int k z) := OpV.binI hx hy fun w => by rw [binOp_quo, Op.intDiv, if_neg h0, ← hz]; rfl
theorem OpV.rem {z : Int} (hx : ev ρ x = some (.int k m)) (hy : ev ρ y = some (.int k n)) (h0 : n ≠ 0) (hz : m.tmod n = z) : OpV C ρ S (.binOp .rem T x y T') ty (.int k z) := OpV.binI hx hy fun w => by rw [binOp_rem, Op.intDiv, if_neg h0, ← hz]; rfl
theorem OpV.and (hx : ev ρ x = some (.int k m)) (hy : ev ρ y = some (.int k n)) : OpV C ρ S (.binOp .and T x y T') ty (.int k (bits .and k m n)) := OpV.binI hx hy fun w => by rw [binOp_and, intBits_and]; rfl
theorem OpV.or (hx : ev ρ x = some (.int k m)) (hy : ev ρ y = some (.int k n)) : OpV C ρ S (.binOp .or T x y T') ty (.int k (bits .or k m n)) := OpV.binI hx hy fun w => by rw [binOp_or, intBits_or]; rfl
theorem OpV.xor (hx : ev ρ x = some (.int k m)) (hy : ev ρ y = some (.int k n)) : OpV C ρ S (.binOp .xor T x y T') ty (.int k (bits .xor k m n)) := OpV.binI hx hy fun w => by rw [binOp_xor, intBits_xor]; rfl
theorem OpV.andNot (hx : ev ρ x = some (.int k m)) (hy : ev ρ y = some (.int k n)) : OpV C ρ S (.binOp .andNot T x y T') ty (.int k (bits .andNot k m n)) := OpV.binI hx hy fun w => by rw [binOp_andNot, intBits_andNot]; rfl
theorem OpV.shl {j : IntKind} {z : Int} (hx : ev ρ x = some (.int k m)) (hy : ev ρ y = some (.int j n)) (h0 : 0 ≤ n) (hz : k.wrap (m * 2 ^ min n.toNat k.bits) = z) : OpV C ρ S (.binOp .shl T x y T') ty (.int k z) := OpV.binI hx hy fun w => by rw [binOp_shl, shift_shl_any k j m n h0, hz]; rfl
theorem OpV.shr {j : IntKind} {z : Int} (hx : ev ρ x = some (.int k m)) (hy : ev ρ y = some (.int j n)) (h0 : 0 ≤ n) (hz : m / 2 ^ min n.toNat k.bits = z) : OpV C ρ S (.binOp .shr T x y T') ty (.int k z) := OpV.binI hx hy fun w => by rw [binOp_shr, shift_shr_any k j m n h0, hz]; rfl
theorem OpV.eql (hx : ev ρ x = some (.int k m)) (hy : ev ρ y = some (.int k n)) : OpV C ρ S (.binOp .eql T x y T') ty (.bool (decide (m = n))) := OpV.binI hx hy fun w => by rw [binOp_eql]; rfl
theorem OpV.neq (hx : ev ρ x = some (.int k m)) (hy : ev ρ y = some (.int k n)) : OpV C ρ S (.binOp .neq T x y T') ty (.bool (decide (m ≠ n))) := OpV.binI hx hy fun w => by
  have : (m != n) = decide (m ≠ n) := by rw [Bool.eq_iff_iff]; simp
  rw [binOp_neq, this]; rfl
theorem OpV.lss (hx : ev ρ x = some (.int k m)) (hy : ev ρ y = some (.int k n)) : OpV C ρ S (.binOp .lss T x y T') ty (.bool (decide (m < n))) := OpV.binI hx hy fun w => by rw [binOp_lss]; rfl
theorem OpV.leq (hx : ev ρ x = some (.int k m)) (hy : ev ρ y = some (.int k n)) : OpV C ρ S (.binOp .leq T x y T') ty (.bool (decide (m ≤ n))) := OpV.binI hx hy fun w => by rw [binOp_leq]; rfl
theorem OpV.gtr (hx : ev ρ x = some (.int k m)) (hy : ev ρ y = some (.int k n)) : OpV C ρ S (.binOp .gtr T x y T') ty (.bool (decide (n < m))) := OpV.binI hx hy fun w => by rw [binOp_gtr]; rfl
theorem OpV.geq (hx : ev ρ x = some (.int k m)) (hy : ev ρ y = some (.int k n)) : OpV C ρ S (.binOp .geq T x y T') ty (.bool (decide (n ≤ m))) := OpV.binI hx hy fun w => by rw [binOp_geq]; rfl
theorem OpV.convInt {s d : TypeId} {j : IntKind} {z : Int} [hs : TInt C.P s k] [hd : TInt C.P d j] (hx : ev ρ x = some (.int k m)) (hz : j.wrap m = z) : OpV C ρ S (.convert s d x) ty (.int j z) := fun a w he _ _ _ _ _ => by
  simp [execOp, he.eval hx, convert, run_underlying hs.out, run_underlying hd.out, Conv.intToInt, hz]
theorem OpV.min2 {ts : Array TypeId} (hx : ev ρ x = some (.int k m)) (hy : ev ρ y = some (.int k n)) : OpV C ρ S (.call ⟨.builtin .min, #[x, y], ts⟩) ty (.int k (min m n)) := fun a w he _ _ _ _ _ => by
  simp [execOp, resolve, he.eval hx, he.eval hy, invoke, builtin, Builtin.min_, Builtin.min2]
  split <;> omega
theorem OpV.max2 {ts : Array TypeId} (hx : ev ρ x = some (.int k m)) (hy : ev ρ y = some (.int k n)) : OpV C ρ S (.call ⟨.builtin .max, #[x, y], ts⟩) ty (.int k (max m n)) := fun a w he _ _ _ _ _ => by
  have := run_max_int2 (P := C.P) w ts ty k k m n
  simp [execOp, resolve, he.eval hx, he.eval hy, invoke, builtin, this]
  split <;> omega
end

/-! bools, strings, interfaces -/
section
variable {T T' : TypeId} {x y : Operand}
theorem OpV.eqlB {a b : Bool} [hT : TBool C.P T] (hx : ev ρ x = some (.bool a)) (hy : ev ρ y = some (.bool b)) : OpV C ρ S (.binOp .eql T x y T') ty (.bool (a == b)) := fun c w he _ _ _ _ _ => by
  simp [execOp, he.eval hx, he.eval hy, eqGuard_at_bool, run_eql_bool w T a b hT.out]
theorem OpV.neqB {a b : Bool} [hT : TBool C.P T] (hx : ev ρ x = some (.bool a)) (hy : ev ρ y = some (.bool b)) : OpV C ρ S (.binOp .neq T x y T') ty (.bool (!(a == b))) := fun c w he _ _ _ _ _ => by
  simp [execOp, he.eval hx, he.eval hy, eqGuard_at_bool, run_neq_bool w T a b hT.out]
theorem beq_toList (a b : ByteArray) : (a.toList == b.toList) = decide (a = b) := by
  rw [Bool.eq_iff_iff]
  simp only [beq_iff_eq, decide_eq_true_eq]
  refine ⟨fun h => ?_, fun h => h ▸ rfl⟩
  rw [ByteArray.toList_eq, ByteArray.toList_eq] at h
  cases a; cases b
  simp only at h
  congr
  exact Array.toList_inj.1 h
theorem OpV.eqlS {a b : ByteArray} (hx : ev ρ x = some (.string a)) (hy : ev ρ y = some (.string b)) : OpV C ρ S (.binOp .eql T x y T') ty (.bool (decide (a = b))) := fun c w he _ _ _ _ _ => by
  simp only [execOp, he.eval hx, he.eval hy, eqGuard_at_string, binOp_string_eql, beq_toList]; simp
theorem OpV.neqS {a b : ByteArray} (hx : ev ρ x = some (.string a)) (hy : ev ρ y = some (.string b)) : OpV C ρ S (.binOp .neq T x y T') ty (.bool (decide (a ≠ b))) := fun c w he _ _ _ _ _ => by
  simp only [execOp, he.eval hx, he.eval hy, eqGuard_at_string, binOp_string_neq, beq_toList]; simp
theorem OpV.addS {a b : ByteArray} (hx : ev ρ x = some (.string a)) (hy : ev ρ y = some (.string b)) (hn : a.size + b.size ≤ 9223372036854775807) : OpV C ρ S (.binOp .add T x y T') ty (.string (a ++ b)) := fun c w he _ _ _ _ _ => by
  simp only [execOp, he.eval hx, he.eval hy, eqGuard_add, binOp_string_add, Op.stringOp]
  rw [if_neg (by rw [IntKind.max_i64]; omega)]
  simp
/-- A string's byte as a number; 0 past the end. -/
def bt (s : ByteArray) (i : Int) : Int := if h : i.toNat < s.size then ((s[i.toNat]'h).toNat : Int) else 0
theorem bt_range (s : ByteArray) (i : Int) : 0 ≤ bt s i ∧ bt s i ≤ 255 := by
  unfold bt
  split
  · rename_i h
    have := (s[i.toNat]'h).toNat_lt
    omega
  · omega
theorem OpV.indexS {s : ByteArray} {k : IntKind} {i : Int} [hT : TStr C.P T] (hx : ev ρ x = some (.string s)) (hy : ev ρ y = some (.int k i)) (h0 : 0 ≤ i) (h1 : i < s.size) : OpV C ρ S (.index T x y) ty (.int .u8 (bt s i)) := fun c w he _ _ _ _ _ => by
  simp only [execOp, he.eval hx, he.eval hy, Sem.run_bind, run_index_string w T s k i hT.out, dif_pos (And.intro h0 h1)]
  simp [bt, show i.toNat < s.size by omega]
theorem OpV.lenS {s : ByteArray} [hT : TStr C.P T] (hx : ev ρ x = some (.string s)) : OpV C ρ S (.call ⟨.builtin .len, #[x], #[T]⟩) ty (.int .i64 s.size) := fun c w he _ _ _ _ _ => by
  simp [execOp, resolve, he.eval hx, invoke, builtin, run_len_string w T ty s hT.out, goInt]
theorem OpV.lenSl {e : TypeId} {A : Option Addr} {n c : Nat} [hT : TSl C.P T e] (hx : ev ρ x = some (.slice A n c)) : OpV C ρ S (.call ⟨.builtin .len, #[x], #[T]⟩) ty (.int .i64 n) := fun c w he _ _ _ _ _ => by
  simp [execOp, resolve, he.eval hx, invoke, builtin, Builtin.len_, run_underlying hT.out, goInt]
theorem OpV.capSl {e : TypeId} {A : Option Addr} {n c : Nat} [hT : TSl C.P T e] (hx : ev ρ x = some (.slice A n c)) : OpV C ρ S (.call ⟨.builtin .cap, #[x], #[T]⟩) ty (.int .i64 c) := fun c w he _ _ _ _ _ => by
  simp [execOp, resolve, he.eval hx, invoke, builtin, Builtin.cap_, run_underlying hT.out, goInt]
theorem run_eqNil {P : Program} {T : TypeId} {w : World} {v : Value} (h : (match P.underlying T with | some (.interface _) => true | _ => false) = true) (hv : v = .nilIface ∨ ∃ t u, v = .iface t u) :
    (Op.equal T v .nilIface).run P w = .ok (match v with | .nilIface => true | _ => false) w := by
  cases hu : P.underlying T with
  | none => simp [hu] at h
  | some d =>
    cases d <;> simp [hu] at h
    show (Op.equalIn (9999 + 1) T v .nilIface).run P w = _
    rcases hv with rfl | ⟨t, u, rfl⟩ <;> (rw [Op.equalIn]; simp only [Sem.run_bind, run_underlying hu, Result.andThen, Sem.run_pure])
def isNil (v : Value) : Bool := match v with | .nilIface => true | _ => false
theorem OpV.neqNil {v : Value} [hT : TIface C.P T] (hx : ev ρ x = some v) (hv : v = .nilIface ∨ ∃ t u, v = .iface t u) : OpV C ρ S (.binOp .neq T x (.const .nilIface) T') ty (.bool (!isNil v)) :=
  OpV.bin hx rfl (fun w => by rcases hv with rfl | ⟨t, u, rfl⟩ <;> simp [eqGuard_nil_constR, eqGuard_at_iface]) fun w => by
    have h := run_eqNil (w := w) hT.out hv
    rcases hv with rfl | ⟨t, u, rfl⟩ <;> simp only [binOp, Sem.run_bind, h, Result.andThen, Sem.run_pure] <;> rfl
theorem OpV.eqlNil {v : Value} [hT : TIface C.P T] (hx : ev ρ x = some v) (hv : v = .nilIface ∨ ∃ t u, v = .iface t u) : OpV C ρ S (.binOp .eql T x (.const .nilIface) T') ty (.bool (isNil v)) :=
  OpV.bin hx rfl (fun w => by rcases hv with rfl | ⟨t, u, rfl⟩ <;> simp [eqGuard_nil_constR, eqGuard_at_iface]) fun w => by
    have h := run_eqNil (w := w) hT.out hv
    rcases hv with rfl | ⟨t, u, rfl⟩ <;> simp only [binOp, Sem.run_bind, h, Result.andThen, Sem.run_pure] <;> rfl
theorem OpV.sliceS {s : ByteArray} {k k' : IntKind} {i j : Int} {lo hi : Operand} [hT : TStr C.P T] (hx : ev ρ x = some (.string s)) (hlo : ev ρ lo = some (.int k i)) (hhi : ev ρ hi = some (.int k' j)) (h0 : 0 ≤ i) (h1 : i ≤ j) (h2 : j ≤ s.size) :
    OpV C ρ S (.slice T x (some lo) (some hi) none) ty (.string (s.extract i.toNat j.toNat)) := fun c w he _ _ _ _ _ => by
  have h := run_slice_string (P := C.P) w T s k k' i j hT.out h0 h1 h2
  simp [execOp, he.eval hx, he.eval hlo, he.eval hhi, run_sliceAt_string w T _ _ _ _ hT.out, h]
theorem OpV.sliceSL {s : ByteArray} {k : IntKind} {i : Int} {lo : Operand} [hT : TStr C.P T] (hx : ev ρ x = some (.string s)) (hlo : ev ρ lo = some (.int k i)) (h0 : 0 ≤ i) (h2 : i ≤ s.size) :
    OpV C ρ S (.slice T x (some lo) none none) ty (.string (s.extract i.toNat s.size)) := fun c w he _ _ _ _ _ => by
  have h := run_slice_string_l (P := C.P) w T s hT.out k i h0 h2
  simp [execOp, he.eval hx, he.eval hlo, run_sliceAt_string w T _ _ _ _ hT.out, h]
theorem OpV.sliceSH {s : ByteArray} {k : IntKind} {j : Int} {hi : Operand} [hT : TStr C.P T] (hx : ev ρ x = some (.string s)) (hhi : ev ρ hi = some (.int k j)) (h0 : 0 ≤ j) (h2 : j ≤ s.size) :
    OpV C ρ S (.slice T x none (some hi) none) ty (.string (s.extract 0 j.toNat)) := fun c w he _ _ _ _ _ => by
  have h := run_slice_string_h (P := C.P) w T s hT.out k j h0 h2
  simp [execOp, he.eval hx, he.eval hhi, run_sliceAt_string w T _ _ _ _ hT.out, h]
theorem OpV.indexAddr {e : TypeId} {g : Bool} {sz b o n c : Nat} {k : IntKind} {i : Int} [hT : TSl C.P T e] [hE : TSz C.P e g sz] (hx : ev ρ x = some (.slice (some ⟨b, o, none⟩) n c)) (hy : ev ρ y = some (.int k i)) (h0 : 0 ≤ i) (h1 : i < n) :
    OpV C ρ S (.indexAddr T x y) ty (.pointer (some ⟨b, o + i.toNat * sz, none⟩)) := fun a w he _ _ _ _ _ => by
  simp only [execOp, he.eval hx, he.eval hy, Instr.indexAt, asIntOf, Sem.run_bind, Sem.run_pure, Result.andThen, run_underlying hT.out, (run_sizeOf hE.out w).1]
  rw [if_pos ⟨h0, h1⟩]
  simp only [Sem.run_bind, (run_sizeOf hE.out w).1, Result.andThen, Sem.run_pure, Addr.add_lit]
end
end

/-! ### Blocks of the call's own -/

/-- A block of n cells of type T, of which some are known. -/
def Blk (b : Nat) (T : TypeId) (n : Nat) (u : List (Nat × Value)) : HP where
  holds ok w := ok b ∧ ∃ cs : Array Value, w.heap[b]? = some (.cells cs T (0, 0)) ∧ cs.size = n ∧ ∀ o v, lk u o = some v → cs[o]? = some v
  loc ok w w' h := fun ⟨h1, cs, h2, h3⟩ => ⟨h1, cs, by rw [h b h1]; exact h2, h3⟩

theorem cell?_of_heap {w : World} {b : Nat} {cs : Array Value} {T : TypeId} {fr : Nat × Nat} (h : w.heap[b]? = some (.cells cs T fr)) (o : Nat) : w.cell? ⟨b, o, none⟩ = cs[o]? := by
  simp [World.cell?, h]
theorem frozen?_of_heap {w : World} {b : Nat} {cs : Array Value} {T : TypeId} (h : w.heap[b]? = some (.cells cs T (0, 0))) (o : Nat) : w.frozen? ⟨b, o, none⟩ = false := by
  simp [World.frozen?, h]

theorem run_loadVar1 {P : Program} {t : TypeId} {w : World} {p : Addr} {v : Value} (h : szOf P t = some (false, 1)) (hc : w.cell? p = some v) : (loadVar t p).run P w = .ok v w := by
  simp [loadVar, (run_sizeOf h w).2, hc]
theorem run_loadVarN {P : Program} {t : TypeId} {w : World} {p : Addr} {vs : List Value} (h : szOf P t = some (true, vs.length)) (hc : ∀ j v, vs[j]? = some v → w.cell? (p.add j) = some v) : (loadVar t p).run P w = .ok (.agg vs.toArray) w := by
  have := run_loadCells_list (P := P) w p vs hc
  simp only [loadVar, Sem.run_bind, (run_sizeOf h w).2, (run_sizeOf h w).1, Result.andThen, if_true, this, Sem.run_pure]

/-- The known cells from an offset on. -/
def lkN (u : List (Nat × Value)) : Nat → List Value → Prop
  | _, [] => True
  | o, v :: vs => lk u o = some v ∧ lkN u (o + 1) vs
theorem lkN_get {u : List (Nat × Value)} : ∀ {vs : List Value} {o j : Nat} {v : Value}, lkN u o vs → vs[j]? = some v → lk u (o + j) = some v
  | [], _, _, _, _, h => by simp at h
  | x :: vs, o, 0, v, h, e => by simp at e; subst e; exact h.1
  | x :: vs, o, j + 1, v, h, e => by
    have := lkN_get (j := j) h.2 (by simpa using e)
    rwa [show o + (j + 1) = o + 1 + j by omega]

section
variable {C : Ctx} {K : List KI} {ρ : List (Nat × Value)} {Hs : List HP} {S : World → Prop} {ty t : TypeId} {x : Operand} {b off T n : Nat} {u : List (Nat × Value)}

theorem OpV.load1 {p : Addr} {v : Value} [hz : TSz C.P t false 1] (hx : ev ρ x = some (.pointer (some p))) (hc : ∀ w, S w → w.cell? p = some v) : OpV C ρ S (.load t x) ty v := fun a w he hs _ _ _ _ => by
  simp [execOp, he.eval hx, Instr.loadAt, Instr.sureAddr, run_loadVar1 hz.out (hc w hs)]
theorem OpV.loadN {k : Nat} {b off : Nat} {vs : List Value} [hz : TSz C.P t true k] (hx : ev ρ x = some (.pointer (some ⟨b, off, none⟩))) (hk : Nat.beq vs.length k = true) (hc : ∀ w, S w → ∀ j v, vs[j]? = some v → w.cell? ⟨b, off + j, none⟩ = some v) : OpV C ρ S (.load t x) ty (.agg vs.toArray) := fun a w he hs _ _ _ _ => by
  have hk' : vs.length = k := Nat.eq_of_beq_eq_true hk
  have := run_loadVarN (P := C.P) (t := t) (w := w) (p := ⟨b, off, none⟩) (vs := vs) (hk' ▸ hz.out) (fun j v hj => by rw [Addr.add_lit]; exact hc w hs j v hj)
  simp only [execOp, he.eval hx, Instr.loadAt, Instr.sureAddr, Sem.run_bind, Sem.run_pure, Result.andThen, this]

/-- A load out of block number i of the list. -/
theorem OpV.ld (i : Nat) {v : Value} [hz : TSz C.P t false 1] (hi : Hs[i]? = some (Blk b T n u)) (hx : ev ρ x = some (.pointer (some ⟨b, off, none⟩))) (hv : lk u off = some v) : OpV C ρ (St C Hs) (.load t x) ty v :=
  OpV.load1 hx fun w hs => by
    obtain ⟨ok, _, h1, cs, h2, h3, h4⟩ := Sat.at i hi hs.sat
    rw [cell?_of_heap h2]; exact h4 _ _ hv
theorem OpV.ldN (i : Nat) {k : Nat} (vs : List Value) [hz : TSz C.P t true k] (hi : Hs[i]? = some (Blk b T n u)) (hx : ev ρ x = some (.pointer (some ⟨b, off, none⟩))) (hk : Nat.beq vs.length k = true) (hv : lkN u off vs) : OpV C ρ (St C Hs) (.load t x) ty (.agg vs.toArray) :=
  OpV.loadN hx hk fun w hs j v hj => by
    obtain ⟨ok, _, h1, cs, h2, h3, h4⟩ := Sat.at i hi hs.sat
    rw [cell?_of_heap h2]; exact h4 _ _ (lkN_get hv hj)
end

/-! loads of what was there when a call began that is handed nothing -/
section
variable {C : Ctx} {ρ : List (Nat × Value)} {Hs : List HP} {ty t : TypeId} {x : Operand} {b off : Nat}
theorem OpV.ldO {v : Value} [hz : TSz C.P t false 1] (hD : ∀ k, ¬ C.D k) (hc : C.w0.cell? ⟨b, off, none⟩ = some v) (hx : ev ρ x = some (.pointer (some ⟨b, off, none⟩))) : OpV C ρ (St C Hs) (.load t x) ty v :=
  OpV.load1 hx fun w hs => by
    rw [← hc]
    have hlt : b < C.w0.heap.size := by
      rcases Nat.lt_or_ge b C.w0.heap.size with h | h
      · exact h
      · simp [World.cell?, Array.getElem?_eq_none h] at hc
    simp only [World.cell?, hs.old hD hlt]
theorem OpV.ldON {k : Nat} (vs : List Value) [hz : TSz C.P t true k] (hD : ∀ k, ¬ C.D k) (hc : ∀ j v, vs[j]? = some v → C.w0.cell? ⟨b, off + j, none⟩ = some v) (hx : ev ρ x = some (.pointer (some ⟨b, off, none⟩))) (hk : Nat.beq vs.length k = true) : OpV C ρ (St C Hs) (.load t x) ty (.agg vs.toArray) :=
  OpV.loadN hx hk fun w hs j v hj => by
    have hc := hc j v hj
    rw [← hc]
    have hlt : b < C.w0.heap.size := by
      rcases Nat.lt_or_ge b C.w0.heap.size with h | h
      · exact h
      · simp [World.cell?, Array.getElem?_eq_none h] at hc
    simp only [World.cell?, hs.old hD hlt]
end

/-! ### Steps within a region -/
section
variable {C : Ctx} {K : List KI} {ρ : List (Nat × Value)} {Hs : List HP} {ops : Array Oper} {rest : List Oper} {d : Nat} {op : Op} {ty : TypeId} {pos : String} {af : Array Edge}

theorem wpList_none {P : Program} {Q : Exit → Act → World → Prop} {o : Oper} {a : Act} {w : World} (hg : o.guard = none) (h : o.wp P a w (wpList P ops Q rest) Q) : wpList P ops Q (o :: rest) a w := by
  unfold wpList
  rw [if_pos (by simp [Region.wanted, hg])]
  exact .inl h

theorem GL.v {v : Value} (h : OpV C ρ (St C Hs) op ty v) (hd : Nat.ble (d + 1) C.n = true) (k : GL C ops rest K ((d, v) :: ρ) Hs) : GL C ops (⟨some d, op, ty, pos, af, none⟩ :: rest) K ρ Hs :=
  fun a w he hs => by
    refine wpList_none rfl ?_
    simp only [Oper.wp, h a w he hs, Oper.upon]
    exact k _ w (he.put d hd v) hs

/-- A guard that is met; one that is not. -/
theorem GL.vg {v : Value} {j t : Nat} {z : Bool} (hj : (ops[j]?).bind (·.dst) = some t) (ht : lk ρ t = some (.bool z)) (h : OpV C ρ (St C Hs) op ty v) (hd : Nat.ble (d + 1) C.n = true) (k : GL C ops rest K ((d, v) :: ρ) Hs) : GL C ops (⟨some d, op, ty, pos, af, some (j, z)⟩ :: rest) K ρ Hs :=
  fun a w he hs => by
    unfold wpList
    have hy : Region.wanted ⟨some d, op, ty, pos, af, some (j, z)⟩ (yielded ops a.tmps) = true := by
      simp only [Region.wanted, yielded, hj]
      have := he.get t _ ht
      simp [Array.getD_eq_getD_getElem?, this]
    rw [if_pos hy]
    refine .inl ?_
    simp only [Oper.wp, h a w he hs, Oper.upon]
    exact k _ w (he.put d hd v) hs
theorem GL.sg {j t : Nat} {z y : Bool} (hj : (ops[j]?).bind (·.dst) = some t) (ht : lk ρ t = some (.bool y)) (hne : (z == y) = false) (hd : Nat.ble (d + 1) C.n = true) (k : GL C ops rest K ((d, undef) :: ρ) Hs) : GL C ops (⟨some d, op, ty, pos, af, some (j, z)⟩ :: rest) K ρ Hs :=
  fun a w he hs => by
    unfold wpList
    have hy : Region.wanted ⟨some d, op, ty, pos, af, some (j, z)⟩ (yielded ops a.tmps) = false := by
      have := he.get t _ ht
      simp only [Region.wanted, yielded, hj, Option.bind_some, this]
      cases y <;> cases z <;> first | rfl | cases hne
    rw [hy]
    exact k _ w (he.put d hd undef) hs

/-- A slot's bool, parted. -/
theorem GL.part (t : Nat) {b : Bool} (ht : lk ρ t = some (.bool b)) (hT : b = true → GL C ops rest K ((t, .bool true) :: ρ) Hs) (hF : b = false → GL C ops rest K ((t, .bool false) :: ρ) Hs) : GL C ops rest K ρ Hs := by
  cases b with
  | true => exact GL.sub (Sub.cons ht (Sub.refl _)) (Ent.refl _) (hT rfl)
  | false => exact GL.sub (Sub.cons ht (Sub.refl _)) (Ent.refl _) (hF rfl)

theorem GL.partD (t : Nat) {q : Prop} {dq : Decidable q} (ht : lk ρ t = some (.bool (@decide q dq))) (hT : q → GL C ops rest K ((t, .bool true) :: ρ) Hs) (hF : ¬ q → GL C ops rest K ((t, .bool false) :: ρ) Hs) : GL C ops rest K ρ Hs :=
  GL.part t ht (fun h => hT (of_decide_eq_true h)) (fun h => hF (of_decide_eq_false h))

/-! a new block -/
theorem World.heap_alloc_new (w : World) (o : Obj) : (w.alloc o).heap[w.heap.size]? = some o := by
  show (w.heap.push o)[w.heap.size]? = some o
  simp
theorem Chg.alloc (D : Nat → Prop) (w : World) (o : Obj) : Chg D w (w.alloc o) := ⟨rfl, rfl, rfl, by simp, fun k hk _ => Below.heap_alloc _ _ _ hk⟩
theorem St.new {w : World} (h : St C Hs w) (cs : List Value) (T : TypeId) : St C (Blk w.heap.size T cs.length (args0 0 cs) :: Hs) (w.alloc (.cells cs.toArray T)) := by
  refine ⟨h.glb, h.chg.trans (Chg.alloc (fun _ => False) w _) (fun _ _ c => c.elim), fun k => k = w.heap.size, fun k hk => ⟨by subst hk; exact .inr h.chg.size, by subst hk; simp⟩, ⟨rfl, cs.toArray, World.heap_alloc_new w _, by simp, fun o v hv => ?_⟩, ?_⟩
  · have := (lk_args0 cs 0 o v hv).2
    simpa using this
  · exact (h.sat.grow (w' := w.alloc (.cells cs.toArray T)) (by simp) (fun k _ hk => Below.heap_alloc _ _ _ hk)).mono (fun k _ hk => ⟨hk.1, by omega⟩)
end
end Go.Proofs.Gw
/- The walk's calculus: operations that make or write memory, calls, what is returned. -/
set_option linter.unusedVariables false
set_option linter.unusedSimpArgs false
namespace Go.Proofs.Gw
open Go Go.RowKit

/-- The operation runs, yields 'val x' for some x of which p holds, and leaves the assertions 'Hs' x'. -/
def OpW (C : Ctx) (ρ : List (Nat × Value)) (Hs : List HP) (op : Op) (ty : TypeId) {X : Type} (val : X → Value) (Hs' : X → List HP) (p : X → Prop) : Prop :=
  ∀ a w, Env C.n ρ a → St C Hs w → ∃ x w', (∀ dst pos af g, (execOp a.eval ⟨dst, op, ty, pos, af, g⟩).run C.P w = .ok (.value (val x)) w' ∨ ((execOp a.eval ⟨dst, op, ty, pos, af, g⟩).run C.P w = .ok .skip w' ∧ val x = undef)) ∧ St C (Hs' x) w' ∧ p x

/-- The operands' values. -/
def evs (ρ : List (Nat × Value)) : List Operand → Option (List Value)
  | [] => some []
  | x :: xs => match ev ρ x with
    | some v => match evs ρ xs with
      | some vs => some (v :: vs)
      | none => none
    | none => none
theorem evs_map {C : Ctx} {ρ : List (Nat × Value)} {a : Act} (he : Env C.n ρ a) : ∀ {xs : List Operand} {vs : List Value}, evs ρ xs = some vs → xs.map a.eval = vs
  | [], vs, h => by simp [evs] at h; subst h; rfl
  | x :: xs, vs, h => by
    rw [evs] at h
    cases hx : ev ρ x with
    | none => rw [hx] at h; cases h
    | some v =>
      rw [hx] at h
      cases hxs : evs ρ xs with
      | none => simp [hxs] at h
      | some us =>
        simp [hxs] at h
        subst h
        rw [List.map_cons, he.eval hx, evs_map he hxs]

/-- What may be stored in one cell. -/
def one : Value → Bool
  | .agg _ => false
  | .tuple _ => false
  | _ => true
theorem one_iff (v : Value) : one v = v.oneCell' := by cases v <;> rfl

def stU : Nat → List Value → List (Nat × Value) → List (Nat × Value)
  | _, [], u => u
  | o, v :: vs, u => (o, v) :: stU (o + 1) vs u
theorem lk_stU : ∀ (vs : List Value) (o : Nat) (u : List (Nat × Value)) (t : Nat) (v : Value), lk (stU o vs u) t = some v → (o ≤ t ∧ vs[t - o]? = some v) ∨ ((t < o ∨ o + vs.length ≤ t) ∧ lk u t = some v)
  | [], o, u, t, v, h => .inr ⟨by simp; omega, h⟩
  | x :: vs, o, u, t, v, h => by
    rw [stU, lk_cons] at h
    by_cases e : o = t
    · subst e; rw [if_pos rfl] at h; exact .inl ⟨Nat.le_refl _, by simpa using h⟩
    · rw [if_neg e] at h
      rcases lk_stU vs (o + 1) u t v h with ⟨h1, h2⟩ | ⟨h1, h2⟩
      · refine .inl ⟨by omega, ?_⟩
        rw [show t - o = (t - (o + 1)) + 1 by omega]; simpa using h2
      · refine .inr ⟨?_, h2⟩
        simp only [List.length_cons]; omega

/-- One assertion of the list is turned: the blocks of its own alone, and new ones. -/
theorem St.upd {C : Ctx} {Hs : List HP} {w w' : World} (h : St C Hs w) (i : Nat) {A A' : HP} (hi : Hs[i]? = some A)
    (ho : w'.os = w.os) (ht : w'.tape = w.tape) (hp : w'.output = w.output) (hz : w.heap.size ≤ w'.heap.size)
    (f : ∀ ok : Nat → Prop, (∀ k, ok k → k < w.heap.size) → A.holds ok w → ∃ ok' : Nat → Prop, (∀ k, ok' k → k < w'.heap.size ∧ (k < w.heap.size → ok k)) ∧ (∀ k, k < w.heap.size → ¬ ok k → w'.heap[k]? = w.heap[k]?) ∧ A'.holds ok' w') : St C (Hs.set i A') w' := by
  obtain ⟨ok, h1, h2, h3⟩ := Ent.front i Hs A hi _ _ h.sat
  obtain ⟨ok', g1, g2, g3⟩ := f ok (fun k hk => (h1 k hk).2) h2
  refine ⟨h.glb, h.chg.trans (E := ok) ⟨ho, ht, hp, hz, g2⟩ fun k hk hok => ?_, Ent.back i A' Hs A hi _ _ ⟨ok', fun k hk => ⟨?_, (g1 k hk).1⟩, g3, ?_⟩⟩
  · rcases (h1 k hok).1 with hd | hd
    · exact hd
    · exact absurd hk (by omega)
  · by_cases hl : k < w.heap.size
    · exact (h1 k ((g1 k hk).2 hl)).1
    · exact .inr (by have := h.chg.size; omega)
  · exact (h3.grow hz (fun k hk hl => g2 k hl hk.2)).mono fun k _ hk => ⟨hk.1.1, fun c => hk.1.2 ((g1 k c).2 hk.2)⟩

section
variable {C : Ctx} {K : List KI} {ρ : List (Nat × Value)} {Hs : List HP} {ops : Array Oper} {rest : List Oper} {d : Nat} {op : Op} {ty : TypeId} {pos : String} {af : Array Edge} {X : Type} {val : X → Value} {Hs' : X → List HP} {p : X → Prop}

theorem GL.w (h : OpW C ρ Hs op ty val Hs' p) (hd : Nat.ble (d + 1) C.n = true) (k : ∀ x, p x → GL C ops rest K ((d, val x) :: ρ) (Hs' x)) : GL C ops (⟨some d, op, ty, pos, af, none⟩ :: rest) K ρ Hs :=
  fun a w he hs => by
    obtain ⟨x, w', h1, h2, h3⟩ := h a w he hs
    refine wpList_none rfl ?_
    rcases h1 (some d) pos af none with h1 | ⟨h1, h4⟩
    · simp only [Oper.wp, h1, Oper.upon]
      exact k x h3 _ w' (he.put d hd _) h2
    · simp only [Oper.wp, h1, Oper.upon]
      have := k x h3 _ w' (he.put d hd _) h2
      rwa [h4] at this
theorem GL.w0 (h : OpW C ρ Hs op ty val Hs' p) (k : ∀ x, p x → GL C ops rest K ρ (Hs' x)) : GL C ops (⟨none, op, ty, pos, af, none⟩ :: rest) K ρ Hs :=
  fun a w he hs => by
    obtain ⟨x, w', h1, h2, h3⟩ := h a w he hs
    refine wpList_none rfl ?_
    rcases h1 none pos af none with h1 | ⟨h1, h4⟩
    · simp only [Oper.wp, h1, Oper.upon]
      exact k x h3 _ w' he h2
    · simp only [Oper.wp, h1, Oper.upon]
      exact k x h3 _ w' he h2

theorem OpW.alloc {e : TypeId} {cs : List Value} [hz : TZero C.P e cs] : OpW C ρ Hs (.alloc e) ty (fun b : Nat => .pointer (some ⟨b, 0, none⟩)) (fun b => Blk b e cs.length (args0 0 cs) :: Hs) (fun _ => True) := fun a w he hs => by
  refine ⟨w.heap.size, w.alloc (.cells cs.toArray e), fun dst pos af g => .inl ?_, hs.new cs e, trivial⟩
  have h := hz.out
  unfold zeroCells? at h
  cases hi : C.P.info? e with
  | none => simp [hi] at h
  | some i =>
    cases hz0 : i.zero with
    | none => simp [hi, hz0] at h
    | some z =>
      have hz1 : z.cells = cs.toArray := by
        have : z.cells.toList = cs := by simpa [hi, hz0] using h
        rw [← this]
      simp [execOp, Instr.alloc, zeroValue, typeInfo, hi, hz0, newVar, newRow, newObj, hz1, Sem.run]
theorem OpW.box {e : TypeId} {x : Operand} {v : Value} {cs : List Value} (hx : ev ρ x = some v) (hc : v.cells = cs.toArray) : OpW C ρ Hs (.box e x) ty (fun b : Nat => .pointer (some ⟨b, 0, none⟩)) (fun b => Blk b e cs.length (args0 0 cs) :: Hs) (fun _ => True) := fun a w he hs => by
  refine ⟨w.heap.size, w.alloc (.cells cs.toArray e), fun dst pos af g => .inl ?_, hs.new cs e, trivial⟩
  simp [execOp, Instr.box, he.eval hx, newVar, newRow, newObj, hc, Sem.run]

theorem OpW.store (i : Nat) {t T b off n m : Nat} {g : Bool} {u : List (Nat × Value)} {x y : Operand} {v : Value} {cs : List Value} [hz : TSz C.P t g m] (hi : Hs[i]? = some (Blk b T n u)) (hx : ev ρ x = some (.pointer (some ⟨b, off, none⟩))) (hy : ev ρ y = some v) (hc : v.cells = cs.toArray)
    (hm : Nat.beq cs.length m = true) (ho : Nat.ble (off + m) n = true) (h1 : cs.all one = true) :
    OpW C ρ Hs (.store t x y) ty (fun _ : Unit => undef) (fun _ => Hs.set i (Blk b T n (stU off cs u))) (fun _ => True) := fun a w he hs => by
  have hm' : cs.length = m := Nat.eq_of_beq_eq_true hm
  have ho' : off + m ≤ n := Nat.le_of_ble_eq_true ho
  obtain ⟨ok, hok, hbk, cur, hcur, hsz, hu⟩ := Sat.at i hi hs.sat
  have hst := run_storeCells_at C.P b off T cs 0 cur w hcur (by omega) (fun v hv => by rw [← one_iff]; exact (List.all_eq_true.1 h1) v hv)
  simp only [Nat.add_zero] at hst
  refine ⟨(), w.setRow b (cur.toList.take off ++ cs ++ cur.toList.drop (off + cs.length)).toArray, fun dst pos af g => .inr ⟨?_, rfl⟩, ?_, trivial⟩
  · simp only [execOp, he.eval hx, he.eval hy, Instr.storeAt, Instr.sureAddr, storeVar, Sem.run_bind, Sem.run_pure, Result.andThen, (run_sizeOf hz.out w).1, hc, List.size_toArray, hm', ne_eq, not_true_eq_false, if_false, hst]
  · refine hs.upd i hi rfl rfl rfl (by simp) fun ok hk ⟨h2, cur', hcur', hsz', hu'⟩ => ?_
    rw [hcur] at hcur'
    injection hcur' with e; injection e with e _ _; subst e
    refine ⟨ok, fun k hkk => ⟨by simpa using hk k hkk, fun _ => hkk⟩, fun k _ hnk => setRow_other w b k _ (fun e => hnk (e ▸ h2)), h2, _, setRow_heap w b cur _ T _ hcur, ?_, fun o v hv => ?_⟩
    · simp; omega
    · rcases lk_stU cs off u o v hv with ⟨h3, h4⟩ | ⟨h3, h4⟩
      · have hlt : o - off < cs.length := (List.getElem?_eq_some_iff.1 h4).1
        rw [List.getElem?_toArray, List.append_assoc, List.getElem?_append_right (by simp; omega)]
        rw [List.getElem?_append_left (by simp; omega)]
        simp only [List.length_take, Array.length_toList]
        rw [show o - min off cur.size = o - off by omega]; exact h4
      · have h5 := hu o v h4
        have hlt : o < cur.size := (Array.getElem?_eq_some_iff.1 h5).1
        rw [List.getElem?_toArray]
        rcases h3 with h3 | h3
        · rw [List.append_assoc, List.getElem?_append_left (by simp; omega), List.getElem?_take_of_lt h3]; simpa using h5
        · rw [List.getElem?_append_right (by simp; omega), List.getElem?_drop]
          simp only [List.length_append, List.length_take, Array.length_toList]
          rw [show off + cs.length + (o - (min off cur.size + cs.length)) = o by omega]; simpa using h5

/-! a struct's value, built of its parts -/
def cellsL : Value → List Value
  | .agg cs => cs.toList
  | v => [v]
theorem cellsL_eq (v : Value) : v.cells.toList = cellsL v := by cases v <;> rfl
def putL : List Value → Nat → List Value → List Value
  | [], _, _ => []
  | c :: cs, 0, [] => c :: cs
  | c :: cs, 0, v :: vs => v :: putL cs 0 vs
  | c :: cs, o + 1, vs => c :: putL cs o vs
theorem putL_set : ∀ (cs : List Value) (o : Nat) (v : Value) (vs : List Value), putL (cs.set o v) (o + 1) vs = putL cs o (v :: vs)
  | [], o, v, vs => by simp [putL]
  | c :: cs, 0, v, vs => by simp [putL]
  | c :: cs, o + 1, v, vs => by simp [putL, putL_set cs o v vs]
theorem putL_nil : ∀ (cs : List Value) (o : Nat), putL cs o [] = cs
  | [], o => by simp [putL]
  | c :: cs, 0 => by simp [putL]
  | c :: cs, o + 1 => by simp [putL, putL_nil cs o]
theorem foldl_putL : ∀ (vs : List Value) (k off : Nat) (cs : List Value), (vs.zipIdx k).foldl (fun (cs : List Value) (x : Value × Nat) => cs.set (off + x.2) x.1) cs = putL cs (off + k) vs
  | [], k, off, cs => by simp [putL_nil]
  | v :: vs, k, off, cs => by
    rw [List.zipIdx_cons, List.foldl_cons, foldl_putL vs (k + 1) off]
    rw [← Nat.add_assoc, putL_set]
def fillL (place : Nat → Option (Nat × Nat)) (cells : List Value) : List (Nat × Value) → Option (List Value)
  | [] => some cells
  | (i, v) :: rest =>
    match place i with
    | none => none
    | some (off, size) =>
      if (cellsL v).length ≠ size || off + (cellsL v).length > cells.length then none
      else fillL place (putL cells off (cellsL v)) rest

/-! calls of Go functions -/
theorem run_callFunc {P : Program} {f : FuncId} [h : FnIs P f] (vs : Array Value) (w : World) : (callFunc f vs).run P w = .ok (.enter f vs) w := by
  have h := h.out
  cases hf : P.funcs[f]? with
  | none => simp [hf] at h
  | some fn =>
    simp only [hf, Bool.and_eq_true, Bool.not_eq_true'] at h
    simp only [callFunc, program, Sem.run, Sem.run_bind, Result.andThen, hf, h.1, h.2, Bool.false_eq_true, if_false]
    rfl
theorem run_call {P : Program} {f : FuncId} [h : FnIs P f] {a : Act} {F : Operand} {xs : List Operand} {ts : Array TypeId} {first captured : List Value} {vs : List Value} (hF : a.eval F = .func (.func f) first.toArray captured.toArray) (hv : xs.map a.eval = vs) (w : World) (dst pos af g) :
    (execOp a.eval ⟨dst, .call ⟨.value F, xs.toArray, ts⟩, ty, pos, af, g⟩).run P w = .ok (.enter f (first ++ vs ++ captured).toArray) w := by
  simp only [execOp, resolve, hF, Deferred.ofValue, Sem.run_bind, Sem.run_pure, Result.andThen, invoke, run_callFunc, List.map_toArray, hv, List.append_toArray]

/-- What is handed over, and what is not. -/
theorem Sat.split : ∀ {As Hs : List HP} {D : Nat → Prop} {w : World}, Sat D w (As ++ Hs) → ∃ E : Nat → Prop, (∀ k, E k → D k ∧ k < w.heap.size) ∧ Sat E w As ∧ Sat (fun k => D k ∧ ¬ E k) w Hs
  | [], Hs, D, w, h => ⟨fun _ => False, fun _ c => c.elim, trivial, h.mono fun k _ hk => ⟨hk, id⟩⟩
  | A :: As, Hs, D, w, ⟨ok, h1, h2, h3⟩ => by
    obtain ⟨E, e1, e2, e3⟩ := Sat.split (As := As) h3
    refine ⟨fun k => ok k ∨ E k, fun k hk => hk.elim (fun c => h1 k c) (fun c => ⟨(e1 k c).1.1, (e1 k c).2⟩), ⟨ok, fun k hk => ⟨.inl hk, (h1 k hk).2⟩, h2, e2.mono fun k _ hk => ⟨.inr hk, (e1 k hk).1.2⟩⟩, e3.mono fun k _ hk => ⟨hk.1.1, fun c => c.elim hk.1.2 hk.2⟩⟩
theorem Sat.join : ∀ {Bs Hs : List HP} {D E : Nat → Prop} {w : World}, (∀ k, E k → D k) → Sat E w Bs → Sat (fun k => D k ∧ ¬ E k) w Hs → Sat D w (Bs ++ Hs)
  | [], Hs, D, E, w, _, _, h => h.mono fun k _ hk => hk.1
  | B :: Bs, Hs, D, E, w, hE, ⟨ok, h1, h2, h3⟩, h => ⟨ok, fun k hk => ⟨hE k (h1 k hk).1, (h1 k hk).2⟩, h2, Sat.join (E := fun k => E k ∧ ¬ ok k) (fun k hk => ⟨hE k hk.1, hk.2⟩) h3 (h.mono fun k _ hk => ⟨⟨hk.1, fun c => hk.2 (h1 k c).1⟩, fun c => hk.2 c.1⟩)⟩

theorem wpList_call {f : FuncId} [h : FnIs C.P f] {F : Operand} {xs : List Operand} {ts : Array TypeId} {first captured vs : List Value} {a : Act} {w : World} {Q : Exit → Act → World → Prop} {dst : Option Tmp}
    (he : Env C.n ρ a) (hF : ev ρ F = some (.func (.func f) first.toArray captured.toArray)) (hv : evs ρ xs = some vs)
    (hc : Calls C.P f (first ++ vs ++ captured).toArray w fun e w' => ∃ v, e = .returned v ∧ wpList C.P ops Q rest (a.put dst v) w') : wpList C.P ops Q (⟨dst, .call ⟨.value F, xs.toArray, ts⟩, ty, pos, af, none⟩ :: rest) a w := by
  refine wpList_none rfl ?_
  simp only [Oper.wp, run_call (ty := ty) (he.eval hF) (evs_map he hv) w, Oper.upon]
  refine hc.mono fun e w' ⟨v, h1, h2⟩ => ?_
  subst h1
  exact h2

theorem St.call {As Hs0 : List HP} {w : World} (hs : St C (As ++ Hs0) w) {f : FuncId} {vs : List Value} {Bs : X → List HP} (ht : Tri C.P f vs As val Bs p w) :
    Calls C.P f vs.toArray w fun e w' => ∃ x, e = .returned (val x) ∧ St C (Bs x ++ Hs0) w' ∧ p x := by
  obtain ⟨E, e1, e2, e3⟩ := Sat.split hs.sat
  refine (ht E ⟨fun k hk => (e1 k hk).2, hs.glb.on hs.chg fun c => ((e1 0 c).1).elim hs.glb.out (fun c => by have := hs.glb.lt; omega)⟩ e2).mono fun e w' ⟨x, h1, h2, h3, h4⟩ => ⟨x, h1, ⟨hs.glb, hs.chg.trans h2 fun k hk hE => (e1 k hE).1.resolve_right (by omega), ?_⟩, h4⟩
  have hz := hs.chg.size
  refine Sat.join (E := fun k => E k ∨ w.heap.size ≤ k) (fun k hk => hk.elim (fun c => (e1 k c).1) (fun c => .inr (by omega))) h3 ?_
  exact (e3.grow h2.size (fun k hk hl => h2.block k hl hk.2)).mono fun k _ hk => ⟨hk.1.1, fun c => c.elim hk.1.2 (fun c => by have := hk.2; omega)⟩

/-- A call of a Go function, by what is known of it; the assertions handed over stand in front. -/
theorem GL.call {f : FuncId} {xs : List Operand} {ts : Array TypeId} {vs : List Value} {As Hs0 : List HP} {Bs : X → List HP} [h : FnIs C.P f] (hv : evs ρ xs = some vs) (ht : ∀ w, St C (As ++ Hs0) w → Tri C.P f vs As val Bs p w)
    (hd : Nat.ble (d + 1) C.n = true) (k : ∀ x, p x → GL C ops rest K ((d, val x) :: ρ) (Bs x ++ Hs0)) : GL C ops (⟨some d, .call ⟨.value (.func f), xs.toArray, ts⟩, ty, pos, af, none⟩ :: rest) K ρ (As ++ Hs0) := fun a w he hs => by
  refine wpList_call he (first := []) (captured := []) rfl hv ?_
  simp only [List.nil_append, List.append_nil]
  refine (hs.call (ht w hs)).mono fun e w' ⟨x, h1, h2, h3⟩ => ⟨val x, h1, k x h3 _ w' (he.put d hd _) h2⟩
theorem GL.call0 {f : FuncId} {xs : List Operand} {ts : Array TypeId} {vs : List Value} {As Hs0 : List HP} {Bs : X → List HP} [h : FnIs C.P f] (hv : evs ρ xs = some vs) (ht : ∀ w, St C (As ++ Hs0) w → Tri C.P f vs As val Bs p w)
    (k : ∀ x, p x → GL C ops rest K ρ (Bs x ++ Hs0)) : GL C ops (⟨none, .call ⟨.value (.func f), xs.toArray, ts⟩, ty, pos, af, none⟩ :: rest) K ρ (As ++ Hs0) := fun a w he hs => by
  refine wpList_call he (first := []) (captured := []) rfl hv ?_
  simp only [List.nil_append, List.append_nil]
  refine (hs.call (ht w hs)).mono fun e w' ⟨x, h1, h2, h3⟩ => ⟨val x, h1, k x h3 _ w' he h2⟩
/-- A call of a function value. -/
theorem GL.callV {f : FuncId} {F : Operand} {first captured : List Value} {xs : List Operand} {ts : Array TypeId} {vs : List Value} {As Hs0 : List HP} {Bs : X → List HP} [h : FnIs C.P f] (hF : ev ρ F = some (.func (.func f) first.toArray captured.toArray)) (hv : evs ρ xs = some vs) (ht : ∀ w, St C (As ++ Hs0) w → Tri C.P f (first ++ vs ++ captured) As val Bs p w)
    (hd : Nat.ble (d + 1) C.n = true) (k : ∀ x, p x → GL C ops rest K ((d, val x) :: ρ) (Bs x ++ Hs0)) : GL C ops (⟨some d, .call ⟨.value F, xs.toArray, ts⟩, ty, pos, af, none⟩ :: rest) K ρ (As ++ Hs0) := fun a w he hs => by
  refine wpList_call he hF hv ?_
  refine (hs.call (ht w hs)).mono fun e w' ⟨x, h1, h2, h3⟩ => ⟨val x, h1, k x h3 _ w' (he.put d hd _) h2⟩

/-! what is returned -/
theorem GR.one {t : Nat} {v : Value} {q : X → Prop} {Bs : X → List HP} (hR : C.R = fun e w' => ∃ x, e = .returned (val x) ∧ Chg C.D C.w0 w' ∧ Sat (fun k => C.D k ∨ C.w0.heap.size ≤ k) w' (Bs x) ∧ q x) (hr : C.fn.results = #[.tmp t]) (hv : lk ρ t = some v) (x : X) (hx : v = val x) (he : Ent Hs (Bs x)) (hq : q x) : GR C ρ Hs :=
  GR.of hR (fun a w ha hs => by
    rw [results_tmp hr]
    simp [Array.getD_eq_getD_getElem?, ha.get t v hv]) x hx he hq
theorem GR.two {t t' : Nat} {v v' : Value} {q : X → Prop} {Bs : X → List HP} (hR : C.R = fun e w' => ∃ x, e = .returned (val x) ∧ Chg C.D C.w0 w' ∧ Sat (fun k => C.D k ∨ C.w0.heap.size ≤ k) w' (Bs x) ∧ q x) (hr : C.fn.results = #[.tmp t, .tmp t']) (hv : lk ρ t = some v) (hv' : lk ρ t' = some v') (x : X) (hx : .tuple #[v, v'] = val x) (he : Ent Hs (Bs x)) (hq : q x) : GR C ρ Hs :=
  GR.of hR (fun a w ha hs => by
    rw [results_tmp2 hr]
    simp [Array.getD_eq_getD_getElem?, ha.get t v hv, ha.get t' v' hv']) x hx he hq
theorem GR.three {t t' t'' : Nat} {v v' v'' : Value} {q : X → Prop} {Bs : X → List HP} (hR : C.R = fun e w' => ∃ x, e = .returned (val x) ∧ Chg C.D C.w0 w' ∧ Sat (fun k => C.D k ∨ C.w0.heap.size ≤ k) w' (Bs x) ∧ q x) (hr : C.fn.results = #[.tmp t, .tmp t', .tmp t'']) (hv : lk ρ t = some v) (hv' : lk ρ t' = some v') (hv'' : lk ρ t'' = some v'') (x : X) (hx : .tuple #[v, v', v''] = val x) (he : Ent Hs (Bs x)) (hq : q x) : GR C ρ Hs :=
  GR.of hR (fun a w ha hs => by
    simp [results, hr, Array.getD_eq_getD_getElem?, ha.get t v hv, ha.get t' v' hv', ha.get t'' v'' hv'']) x hx he hq
theorem GR.none {q : X → Prop} {Bs : X → List HP} (hR : C.R = fun e w' => ∃ x, e = .returned (val x) ∧ Chg C.D C.w0 w' ∧ Sat (fun k => C.D k ∨ C.w0.heap.size ≤ k) w' (Bs x) ∧ q x) (hr : C.fn.results = #[]) (x : X) (hx : .tuple #[] = val x) (he : Ent Hs (Bs x)) (hq : q x) : GR C ρ Hs :=
  GR.of hR (fun a w ha hs => by rw [results_none hr]) x hx he hq
/-- A struct that lies in a block of the list, and one value besides. -/
theorem run_cell_of {i b T n m t : Nat} {u : List (Nat × Value)} {cs : List Value} {a : Act} {w : World} [hz : TSz C.P t true m] (hi : Hs[i]? = some (Blk b T n u)) (hs : St C Hs w) (hm : Nat.beq cs.length m = true) (hv : lkN u 0 cs) : (loadVar t ⟨b, 0, none⟩).run C.P w = .ok (.agg cs.toArray) w := by
  have hm' : cs.length = m := Nat.eq_of_beq_eq_true hm
  refine run_loadVarN (hm' ▸ hz.out) fun j v hj => ?_
  obtain ⟨ok, _, h1, cur, h2, h3, h4⟩ := Sat.at i hi hs.sat
  rw [Addr.add_lit, cell?_of_heap h2]; exact h4 _ _ (lkN_get hv hj)
theorem GR.cell1 (i : Nat) {tp t b T n m : Nat} {u : List (Nat × Value)} (cs : List Value) {q : X → Prop} {Bs : X → List HP} (hR : C.R = fun e w' => ∃ x, e = .returned (val x) ∧ Chg C.D C.w0 w' ∧ Sat (fun k => C.D k ∨ C.w0.heap.size ≤ k) w' (Bs x) ∧ q x) [hz : TSz C.P t true m] (hr : C.fn.results = #[.cell tp t]) (hp : lk ρ tp = some (.pointer (some ⟨b, 0, .none⟩)))
    (hi : Hs[i]? = some (Blk b T n u)) (hm : Nat.beq cs.length m = true) (hv : lkN u 0 cs) (x : X) (hx : .agg cs.toArray = val x) (he : Ent Hs (Bs x)) (hq : q x) : GR C ρ Hs :=
  GR.of hR (fun a w ha hs => by
    have h := run_cell_of (t := t) (a := a) hi hs hm hv
    simp [results, hr, Array.getD_eq_getD_getElem?, ha.get tp _ hp, asAddr, h]) x hx he hq
theorem GR.cell2 (i : Nat) {tp t t' b T n m : Nat} {u : List (Nat × Value)} {v' : Value} (cs : List Value) {q : X → Prop} {Bs : X → List HP} (hR : C.R = fun e w' => ∃ x, e = .returned (val x) ∧ Chg C.D C.w0 w' ∧ Sat (fun k => C.D k ∨ C.w0.heap.size ≤ k) w' (Bs x) ∧ q x) [hz : TSz C.P t true m] (hr : C.fn.results = #[.cell tp t, .tmp t']) (hp : lk ρ tp = some (.pointer (some ⟨b, 0, .none⟩))) (hv' : lk ρ t' = some v')
    (hi : Hs[i]? = some (Blk b T n u)) (hm : Nat.beq cs.length m = true) (hv : lkN u 0 cs) (x : X) (hx : .tuple #[.agg cs.toArray, v'] = val x) (he : Ent Hs (Bs x)) (hq : q x) : GR C ρ Hs :=
  GR.of hR (fun a w ha hs => by
    have h := run_cell_of (t := t) (a := a) hi hs hm hv
    simp [results, hr, Array.getD_eq_getD_getElem?, ha.get tp _ hp, ha.get t' _ hv', asAddr, h]) x hx he hq
theorem GR.cell3 (i : Nat) {tp t t' t'' b T n m : Nat} {u : List (Nat × Value)} {v' v'' : Value} (cs : List Value) {q : X → Prop} {Bs : X → List HP} (hR : C.R = fun e w' => ∃ x, e = .returned (val x) ∧ Chg C.D C.w0 w' ∧ Sat (fun k => C.D k ∨ C.w0.heap.size ≤ k) w' (Bs x) ∧ q x) [hz : TSz C.P t true m] (hr : C.fn.results = #[.cell tp t, .tmp t', .tmp t'']) (hp : lk ρ tp = some (.pointer (some ⟨b, 0, .none⟩))) (hv' : lk ρ t' = some v') (hv'' : lk ρ t'' = some v'')
    (hi : Hs[i]? = some (Blk b T n u)) (hm : Nat.beq cs.length m = true) (hv : lkN u 0 cs) (x : X) (hx : .tuple #[.agg cs.toArray, v', v''] = val x) (he : Ent Hs (Bs x)) (hq : q x) : GR C ρ Hs :=
  GR.of hR (fun a w ha hs => by
    have h := run_cell_of (t := t) (a := a) hi hs hm hv
    simp [results, hr, Array.getD_eq_getD_getElem?, ha.get tp _ hp, ha.get t' _ hv', ha.get t'' _ hv'', asAddr, h]) x hx he hq
end
end Go.Proofs.Gw
/- The walk's calculus: regions whose order of evaluation is drawn; appends to a list of the call's own; lists that are read. -/
set_option linter.unusedVariables false
set_option linter.unusedSimpArgs false
namespace Go.Proofs.Gw
open Go Go.RowKit

class Mixed (P : Program) : Prop where out : P.follows .mixedOrders = true

/-- Within a region that draws: which have come up; HS is what holds throughout. -/
def GA (C : Ctx) (ops : Array Oper) (HS : List HP) (fuel : Nat) (listed : Array Bool) (K : List KI) (ρ : List (Nat × Value)) (Hs : List HP) : Prop :=
  ∀ a w, Env C.n ρ a → St C Hs w → St C HS w → wpAnyH C.P .any ops (QK C K) (St C HS) fuel listed a w

section
variable {C : Ctx} {K : List KI} {ρ : List (Nat × Value)} {Hs HS : List HP} {ops : Array Oper} {fuel : Nat} {listed : Array Bool} {d : Nat} {op : Op} {ty : TypeId} {pos : String} {af : Array Edge}

theorem St.drew {w : World} (h : St C Hs w) : St C Hs { w with drawn := w.drawn + 1 } :=
  ⟨h.glb, ⟨h.chg.os, h.chg.tape, h.chg.output, h.chg.size, h.chg.block⟩, by
    have : ∀ (hs : List HP) (D : Nat → Prop), Sat D w hs → Sat D { w with drawn := w.drawn + 1 } hs := by
      intro hs
      induction hs with
      | nil => exact fun _ _ => trivial
      | cons A hs ih => exact fun D ⟨ok, h1, h2, h3⟩ => ⟨ok, h1, A.loc ok w _ (fun _ _ => rfl) h2, ih _ h3⟩
    exact this _ _ h.sat⟩

theorem GC.draw (HS : List HP) {id : Nat} {l : List Oper} {m : Nat} [hm : Mixed C.P] (hl : l.length = m) (hS : Ent Hs HS) (h : GA C l.toArray HS m (Array.replicate m false) K ρ Hs) : GC C (.region id l.toArray true) K ρ Hs := fun a w he hs => by
  subst hl
  refine wp_region_held (S := St C HS) hm.out ?_
  have := h a _ he hs.drew (hs.drew.ent hS)
  simpa using this

theorem GA.take (i : Nat) {v : Value} (hi : ops[i]? = some ⟨some d, op, ty, pos, af, none⟩) (hs : Region.noSelect ops = true) (hf : Region.free .any ops listed i = true) (hr : (Region.ready .any ops listed).contains i = true)
    (hv : OpV C ρ (St C HS) op ty v) (hd : Nat.ble (d + 1) C.n = true) (k : GA C ops HS fuel (listed.setIfInBounds i true) K ((d, v) :: ρ) Hs) : GA C ops HS (fuel + 1) listed K ρ Hs := fun a w he hS hS' =>
  wpAnyH_take hi hs hf hr (fun c a w => QK.panic C K c a _ _ w) (.inl ⟨rfl, fun w hw => hv a w he hw _ _ _ _⟩) hS' (k _ w (he.put d hd v) hS hS')

theorem wanted_of {ops : Array Oper} {ρ : List (Nat × Value)} {n : Nat} {a : Act} (he : Env n ρ a) {dst : Option Tmp} {j t : Nat} {z y : Bool} (hj : (ops[j]?).bind (·.dst) = some t) (ht : lk ρ t = some (.bool y)) :
    Region.wanted ⟨dst, op, ty, pos, af, some (j, z)⟩ (yielded ops a.tmps) = (y == z) := by
  have := he.get t _ ht
  simp only [Region.wanted, yielded, hj, Option.bind_some, this]
  cases y <;> cases z <;> rfl

theorem GA.takeg (i : Nat) {v : Value} {j t : Nat} {z : Bool} (hi : ops[i]? = some ⟨some d, op, ty, pos, af, some (j, z)⟩) (hs : Region.noSelect ops = true) (hf : Region.free .any ops listed i = true) (hr : (Region.ready .any ops listed).contains i = true)
    (hj : (ops[j]?).bind (·.dst) = some t) (ht : lk ρ t = some (.bool z))
    (hv : OpV C ρ (St C HS) op ty v) (hd : Nat.ble (d + 1) C.n = true) (k : GA C ops HS fuel (listed.setIfInBounds i true) K ((d, v) :: ρ) Hs) : GA C ops HS (fuel + 1) listed K ρ Hs := fun a w he hS hS' =>
  wpAnyH_take hi hs hf hr (fun c a w => QK.panic C K c a _ _ w) (.inl ⟨by rw [wanted_of he hj ht]; cases z <;> rfl, fun w hw => hv a w he hw _ _ _ _⟩) hS' (k _ w (he.put d hd v) hS hS')
theorem GA.takes (i : Nat) {j t : Nat} {z y : Bool} (hi : ops[i]? = some ⟨some d, op, ty, pos, af, some (j, z)⟩) (hs : Region.noSelect ops = true) (hf : Region.free .any ops listed i = true) (hr : (Region.ready .any ops listed).contains i = true)
    (hj : (ops[j]?).bind (·.dst) = some t) (ht : lk ρ t = some (.bool y)) (hne : (y == z) = false)
    (hd : Nat.ble (d + 1) C.n = true) (k : GA C ops HS fuel (listed.setIfInBounds i true) K ((d, undef) :: ρ) Hs) : GA C ops HS (fuel + 1) listed K ρ Hs := fun a w he hS hS' =>
  wpAnyH_take hi hs hf hr (fun c a w => QK.panic C K c a _ _ w) (.inr ⟨by rw [wanted_of he hj ht]; exact hne, rfl⟩) hS' (k _ w (he.put d hd undef) hS hS')

theorem GA.done (hr : Region.ready .any ops listed = []) (k : GN C K ρ Hs) : GA C ops HS fuel listed K ρ Hs := fun a w he hS _ => wpAnyH_done hr (k a w he hS) _

/-- What follows when number i has come up. -/
def GAi (C : Ctx) (ops : Array Oper) (HS : List HP) (fuel : Nat) (listed : Array Bool) (K : List KI) (ρ : List (Nat × Value)) (Hs : List HP) (i : Nat) : Prop :=
  ∀ a w, Env C.n ρ a → St C Hs w → wpOp C.P ops (QK C K) i (fun a' w' => St C HS w' ∧ wpAnyH C.P .any ops (QK C K) (St C HS) fuel (listed.setIfInBounds i true) a' w') a w

theorem GA.one (i : Nat) (hr : Region.ready .any ops listed = [i]) (k : GAi C ops HS fuel listed K ρ Hs i) : GA C ops HS (fuel + 1) listed K ρ Hs := fun a w he hS _ =>
  wpAnyH_all hr (by simp) fun j hj => by
    simp only [List.mem_singleton] at hj; subst hj; exact k a w he hS
theorem GA.two (i j : Nat) (hr : Region.ready .any ops listed = [i, j]) (k : GAi C ops HS fuel listed K ρ Hs i) (k' : GAi C ops HS fuel listed K ρ Hs j) : GA C ops HS (fuel + 1) listed K ρ Hs := fun a w he hS _ =>
  wpAnyH_all hr (by simp) fun l hl => by
    simp only [List.mem_cons, List.not_mem_nil, or_false] at hl
    rcases hl with rfl | rfl
    · exact k a w he hS
    · exact k' a w he hS
theorem GA.three (i j l : Nat) (hr : Region.ready .any ops listed = [i, j, l]) (k : GAi C ops HS fuel listed K ρ Hs i) (k' : GAi C ops HS fuel listed K ρ Hs j) (k'' : GAi C ops HS fuel listed K ρ Hs l) : GA C ops HS (fuel + 1) listed K ρ Hs := fun a w he hS _ =>
  wpAnyH_all hr (by simp) fun m hm => by
    simp only [List.mem_cons, List.not_mem_nil, or_false] at hm
    rcases hm with rfl | rfl | rfl
    · exact k a w he hS
    · exact k' a w he hS
    · exact k'' a w he hS

theorem GA.part (t : Nat) {b : Bool} (ht : lk ρ t = some (.bool b)) (hT : b = true → GA C ops HS fuel listed K ((t, .bool true) :: ρ) Hs) (hF : b = false → GA C ops HS fuel listed K ((t, .bool false) :: ρ) Hs) : GA C ops HS fuel listed K ρ Hs := fun a w he hS hS' => by
  cases b with
  | true => exact hT rfl a w (he.sub (Sub.cons ht (Sub.refl _))) hS hS'
  | false => exact hF rfl a w (he.sub (Sub.cons ht (Sub.refl _))) hS hS'
theorem GA.partD (t : Nat) {q : Prop} {dq : Decidable q} (ht : lk ρ t = some (.bool (@decide q dq))) (hT : q → GA C ops HS fuel listed K ((t, .bool true) :: ρ) Hs) (hF : ¬ q → GA C ops HS fuel listed K ((t, .bool false) :: ρ) Hs) : GA C ops HS fuel listed K ρ Hs :=
  GA.part t ht (fun h => hT (of_decide_eq_true h)) (fun h => hF (of_decide_eq_false h))
theorem GA.sub {ρ' : List (Nat × Value)} {Hs' : List HP} (hr : Sub ρ ρ') (hh : Ent Hs Hs') (h : GA C ops HS fuel listed K ρ' Hs') : GA C ops HS fuel listed K ρ Hs := fun a w he hs hS => h a w (he.sub hr) (hs.ent hh) hS
theorem GA.ent {Hs' : List HP} (hh : Ent Hs Hs') (h : GA C ops HS fuel listed K ρ Hs') : GA C ops HS fuel listed K ρ Hs := fun a w he hs hS => h a w he (hs.ent hh) hS

section
variable {i : Nat} {X : Type} {val : X → Value} {Hs' : X → List HP} {p : X → Prop}
/-- Number i turns the world. -/
theorem GAi.w (hi : ops[i]? = some ⟨some d, op, ty, pos, af, none⟩) (h : OpW C ρ Hs op ty val Hs' p) (hd : Nat.ble (d + 1) C.n = true) (hS : ∀ x, p x → Ent (Hs' x) HS) (k : ∀ x, p x → GA C ops HS fuel (listed.setIfInBounds i true) K ((d, val x) :: ρ) (Hs' x)) : GAi C ops HS fuel listed K ρ Hs i := fun a w he hs => by
  obtain ⟨x, w', h1, h2, h3⟩ := h a w he hs
  unfold wpOp
  simp only [hi, Region.wanted, if_true]
  refine .inl ?_
  have hk := k x h3 _ w' (he.put d hd _) h2 (h2.ent (hS x h3))
  rcases h1 (some d) pos af none with h1 | ⟨h1, h4⟩
  · simp only [Oper.wp, h1, Oper.upon]; exact ⟨h2.ent (hS x h3), hk⟩
  · simp only [Oper.wp, h1, Oper.upon]; rw [h4] at hk; exact ⟨h2.ent (hS x h3), hk⟩
theorem GAi.w0 (hi : ops[i]? = some ⟨none, op, ty, pos, af, none⟩) (h : OpW C ρ Hs op ty val Hs' p) (hS : ∀ x, p x → Ent (Hs' x) HS) (k : ∀ x, p x → GA C ops HS fuel (listed.setIfInBounds i true) K ρ (Hs' x)) : GAi C ops HS fuel listed K ρ Hs i := fun a w he hs => by
  obtain ⟨x, w', h1, h2, h3⟩ := h a w he hs
  unfold wpOp
  simp only [hi, Region.wanted, if_true]
  refine .inl ?_
  have hk := k x h3 _ w' he h2 (h2.ent (hS x h3))
  rcases h1 none pos af none with h1 | ⟨h1, h4⟩
  · simp only [Oper.wp, h1, Oper.upon]; exact ⟨h2.ent (hS x h3), hk⟩
  · simp only [Oper.wp, h1, Oper.upon]; exact ⟨h2.ent (hS x h3), hk⟩
/-- Number i yields a value as things stand. -/
theorem GAi.v {v : Value} (hi : ops[i]? = some ⟨some d, op, ty, pos, af, none⟩) (h : OpV C ρ (St C Hs) op ty v) (hd : Nat.ble (d + 1) C.n = true) (hS : Ent Hs HS) (k : GA C ops HS fuel (listed.setIfInBounds i true) K ((d, v) :: ρ) Hs) : GAi C ops HS fuel listed K ρ Hs i :=
  GAi.w (X := Unit) (val := fun _ => v) (Hs' := fun _ => Hs) (p := fun _ => True) hi (fun a w he hs => ⟨(), w, fun dst pos af g => .inl (h a w he hs dst pos af g), hs, trivial⟩) hd (fun _ _ => hS) fun _ _ => k
/-- Number i is a call. -/
theorem GAi.callV {f : FuncId} {F : Operand} {first captured : List Value} {xs : List Operand} {ts : Array TypeId} {vs : List Value} {As Hs0 : List HP} {Bs : X → List HP} [h : FnIs C.P f] (hi : ops[i]? = some ⟨some d, .call ⟨.value F, xs.toArray, ts⟩, ty, pos, af, none⟩) (hF : ev ρ F = some (.func (.func f) first.toArray captured.toArray)) (hv : evs ρ xs = some vs) (ht : ∀ w, St C (As ++ Hs0) w → Tri C.P f (first ++ vs ++ captured) As val Bs p w)
    (hd : Nat.ble (d + 1) C.n = true) (hS : ∀ x, p x → Ent (Bs x ++ Hs0) HS) (k : ∀ x, p x → GA C ops HS fuel (listed.setIfInBounds i true) K ((d, val x) :: ρ) (Bs x ++ Hs0)) : GAi C ops HS fuel listed K ρ (As ++ Hs0) i := fun a w he hs => by
  unfold wpOp
  simp only [hi, Region.wanted, if_true]
  refine .inl ?_
  simp only [Oper.wp, run_call (ty := ty) (he.eval hF) (evs_map he hv) w, Oper.upon]
  refine (hs.call (ht w hs)).mono fun e w' ⟨x, h1, h2, h3⟩ => ?_
  subst h1
  exact ⟨h2.ent (hS x h3), k x h3 _ w' (he.put d hd _) h2 (h2.ent (hS x h3))⟩
theorem GAi.call {f : FuncId} {xs : List Operand} {ts : Array TypeId} {vs : List Value} {As Hs0 : List HP} {Bs : X → List HP} [h : FnIs C.P f] (hi : ops[i]? = some ⟨some d, .call ⟨.value (.func f), xs.toArray, ts⟩, ty, pos, af, none⟩) (hv : evs ρ xs = some vs) (ht : ∀ w, St C (As ++ Hs0) w → Tri C.P f vs As val Bs p w)
    (hd : Nat.ble (d + 1) C.n = true) (hS : ∀ x, p x → Ent (Bs x ++ Hs0) HS) (k : ∀ x, p x → GA C ops HS fuel (listed.setIfInBounds i true) K ((d, val x) :: ρ) (Bs x ++ Hs0)) : GAi C ops HS fuel listed K ρ (As ++ Hs0) i :=
  GAi.callV (first := []) (captured := []) hi rfl hv (by simpa using ht) hd hS k
end
end

/-! ### A struct's value out of its parts -/
def buildL (P : Program) (t : TypeId) (zs : List Value) (parts : List (Nat × Value)) : Option (List Value) :=
  match P.underlying t with
  | some (.struct fs) => fillL (fun i => (fs[i]?).bind fun f => (P.info? f.type).map fun g => (f.offset, g.size)) zs parts
  | _ => none

/-- Where the fields of a struct type lie: numbers, offsets, sizes. -/
def placesOf (P : Program) (t : TypeId) : Option (List (Nat × Nat)) :=
  match P.underlying t with
  | some (.struct fs) => fs.toList.mapM fun f => (P.info? f.type).map fun g => (f.offset, g.size)
  | _ => none
class TPlaces (P : Program) (t : TypeId) (ps : outParam (List (Nat × Nat))) : Prop where out : placesOf P t = some ps

theorem foldl_set_toArray : ∀ (l : List (Value × Nat)) (off : Nat) (cs : List Value),
    (l.foldl (fun (cs : Array Value) (x : Value × Nat) => cs.setIfInBounds (off + x.2) x.1) cs.toArray) = (l.foldl (fun (cs : List Value) (x : Value × Nat) => cs.set (off + x.2) x.1) cs).toArray
  | [], off, cs => rfl
  | x :: l, off, cs => by
    simp only [List.foldl_cons, List.setIfInBounds_toArray]
    exact foldl_set_toArray l off _
theorem fill_toArray (place : Nat → Option (Nat × Nat)) : ∀ (parts : List (Nat × Value)) (cs : List Value), Instr.fill place cs.toArray parts = (fillL place cs parts).map List.toArray
  | [], cs => rfl
  | (i, v) :: rest, cs => by
    rw [Instr.fill, fillL]
    cases h : place i with
    | none => rfl
    | some q =>
      obtain ⟨off, size⟩ := q
      have hz : v.cells.size = (cellsL v).length := by rw [← cellsL_eq]; simp
      simp only [List.size_toArray, hz]
      split
      · rfl
      · have h2 : v.cells.zipIdx.foldl (fun (cs : Array Value) (x : Value × Nat) => cs.setIfInBounds (off + x.2) x.1) cs.toArray = (putL cs off (cellsL v)).toArray := by
          rw [← Array.foldl_toList, foldl_set_toArray, Array.toList_zipIdx, cellsL_eq, foldl_putL]
          rfl
        have := fill_toArray place rest (putL cs off (cellsL v))
        rw [← h2] at this
        exact this

/-- The parts' values. -/
def evp (ρ : List (Nat × Value)) : List (Nat × Operand) → Option (List (Nat × Value))
  | [] => some []
  | (i, x) :: xs => match ev ρ x with
    | some v => match evp ρ xs with
      | some vs => some ((i, v) :: vs)
      | none => none
    | none => none
theorem evp_map {C : Ctx} {ρ : List (Nat × Value)} {a : Act} (he : Env C.n ρ a) : ∀ {xs : List (Nat × Operand)} {vs : List (Nat × Value)}, evp ρ xs = some vs → xs.map (fun (i, x) => (i, a.eval x)) = vs
  | [], vs, h => by simp [evp] at h; subst h; rfl
  | (i, x) :: xs, vs, h => by
    rw [evp] at h
    cases hx : ev ρ x with
    | none => rw [hx] at h; cases h
    | some v =>
      rw [hx] at h
      cases hxs : evp ρ xs with
      | none => simp [hxs] at h
      | some us =>
        simp [hxs] at h
        subst h
        rw [List.map_cons, evp_map he hxs]
        simp only [he.eval hx]

theorem run_mapM_sizes {P : Program} (w : World) : ∀ (fs : List Field) (ps : List (Nat × Nat)), fs.mapM (fun f => (P.info? f.type).map fun g => (f.offset, g.size)) = some ps →
    (fs.mapM (fun f => do pure (f.offset, ← sizeOf f.type) : Field → Sem (Nat × Nat))).run P w = .ok ps w
  | [], ps, h => by simp at h; subst h; rfl
  | f :: fs, ps, h => by
    rw [List.mapM_cons] at h
    cases hg : P.info? f.type with
    | none => simp [hg] at h
    | some g =>
      cases hr : fs.mapM (fun f => (P.info? f.type).map fun g => (f.offset, g.size)) with
      | none => simp [hg, hr] at h
      | some qs =>
        have : (f.offset, g.size) :: qs = ps := by simpa [hg, hr] using h
        subst this
        have ih := run_mapM_sizes w fs qs hr
        have hs : (sizeOf f.type).run P w = .ok g.size w := by simp [sizeOf, typeInfo, hg]
        rw [List.mapM_cons]
        simp only [Sem.run_bind, hs, Result.andThen, Sem.run_pure, ih]

section
variable {C : Ctx} {ρ : List (Nat × Value)} {S : World → Prop} {ty : TypeId}
theorem OpV.build {t : TypeId} {parts : List (Nat × Operand)} {vs : List (Nat × Value)} {zs cs : List Value} {ps : List (Nat × Nat)} [hz : TZero C.P t zs] [hp : TPlaces C.P t ps] (hv : evp ρ parts = some vs) (hc : fillL (fun i => ps[i]?) zs vs = some cs) : OpV C ρ S (.build t parts.toArray) ty (.agg cs.toArray) := fun a w he _ _ _ _ _ => by
  have h1 := hz.out
  have h2 := hp.out
  unfold placesOf at h2
  cases hu : C.P.underlying t with
  | none => simp [hu] at h2
  | some dd =>
    cases dd with
    | struct fs =>
      simp only [hu] at h2
      unfold zeroCells? at h1
      cases hi : C.P.info? t with
      | none => simp [hi] at h1
      | some i =>
        cases hz0 : i.zero with
        | none => simp [hi, hz0] at h1
        | some z =>
          have hz1 : z.cells = zs.toArray := by
            have : z.cells.toList = zs := by simpa [hi, hz0] using h1
            rw [← this]
          have hm := run_mapM_sizes w fs.toList ps h2
          have hm' : (fs.mapM (fun f => do pure (f.offset, ← sizeOf f.type) : Field → Sem (Nat × Nat))).run C.P w = .ok ps.toArray w := by
            rw [Array.mapM_eq_mapM_toList]
            simp only [Sem.run_map, hm, Result.andThen]
          have hfill : Instr.fill (fun x => ps.toArray[x]?) zs.toArray vs = some cs.toArray := by
            rw [fill_toArray]
            have : (fun i : Nat => ps[i]?) = fun x => ps.toArray[x]? := by funext i; simp
            rw [← this, hc]; rfl
          have hzv : (zeroValue t).run C.P w = .ok z w := by simp [zeroValue, typeInfo, hi, hz0]
          have hpp : (parts.toArray.map fun (i, x) => (i, a.eval x)) = vs.toArray := by
            rw [List.map_toArray, evp_map he hv]
          simp only [execOp, hpp, Instr.build, Sem.run_bind, hzv, Result.andThen, run_underlying hu, hm', hz1, List.toList_toArray, hfill, Sem.run_pure]
    | _ => simp [hu] at h2
theorem OpV.field {t f o sz : Nat} {g : Bool} {x : Operand} {cs : List Value} {v : Value} [hF : FOff C.P t f o] (hx : ev ρ x = some (.agg cs.toArray)) (hv : ∀ w : World, (Instr.field t (.agg cs.toArray) f).run C.P w = .ok v w) : OpV C ρ S (.field t x f) ty v := fun a w he _ _ _ _ _ => by
  simp only [execOp, he.eval hx, Sem.run_bind, hv, Result.andThen, Sem.run_pure]
end
end Go.Proofs.Gw
