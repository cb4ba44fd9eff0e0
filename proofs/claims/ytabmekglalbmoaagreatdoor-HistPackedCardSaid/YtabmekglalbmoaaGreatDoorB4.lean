/- Texts that a claim of this seat leans on: E1, M3, M4, F1, F2, F3. No statement is claimed in this text. -/
import Derived.Test.YtabmekglalbmoaaGreatDoorB3
import Derived.RowKitTokens
import Derived.Stop.Asserts
import Derived.Test.YtabmekglalbmoaaGreatDoorB2
/- What the library's reflection answers at this program's two targets of errors.As. -/
set_option linter.unusedVariables false
set_option linter.unusedSimpArgs false
namespace Go.Proofs.Gw
open Go Go.RowKit Go.IntWalk Go.Proofs.Gm Go.Extern

instance : ExtIs Tryz.prog 146 (fun args => ReflectliteValue.unpack (args.getD 0 (.tuple #[]))) := ExtIs.mk' Tryz.func146 (by kernel_rfl) (by kernel_rfl) (by kernel_rfl) (by kernel_rfl)
instance : ExtIs Tryz.prog 147 (ReflectliteValue.methodAny (ReflectliteValue.valueError "reflectlite.Value.Type" 0) (fun t _ _ _ => ReflectliteType.toType t)) := ExtIs.mk' Tryz.func147 (by kernel_rfl) (by kernel_rfl) (by kernel_rfl) (by kernel_rfl)
instance : ExtIs Tryz.prog 148 (ReflectliteValue.method (ReflectliteValue.valueError "reflectlite.Value.IsNil" 0) ReflectliteValue.isNil) := ExtIs.mk' Tryz.func148 (by kernel_rfl) (by kernel_rfl) (by kernel_rfl) (by kernel_rfl)
instance : ExtIs Tryz.prog 264 (ReflectliteType.abiMethod fun t => do pure (.int .u8 (← Rtype.kind t))) := ExtIs.mk' Tryz.func264 (by kernel_rfl) (by kernel_rfl) (by kernel_rfl) (by kernel_rfl)
instance : ExtIs Tryz.prog 277 (ReflectliteType.method ReflectliteType.elem) := ExtIs.mk' Tryz.func277 (by kernel_rfl) (by kernel_rfl) (by kernel_rfl) (by kernel_rfl)
instance : ExtIs Tryz.prog 278 (ReflectliteType.relation "Implements" ReflectliteType.implements_) := ExtIs.mk' Tryz.func278 (by kernel_rfl) (by kernel_rfl) (by kernel_rfl) (by kernel_rfl)
instance : ExtIs Tryz.prog 196 ReflectliteType.typeOf := ExtIs.mk' Tryz.func196 (by kernel_rfl) (by kernel_rfl) (by kernel_rfl) (by kernel_rfl)
instance : ExtIs Tryz.prog 275 (ReflectliteType.relation "AssignableTo" ReflectliteType.assignableTo) := ExtIs.mk' Tryz.func275 (by kernel_rfl) (by kernel_rfl) (by kernel_rfl) (by kernel_rfl)
instance : ExtIs Tryz.prog 197 (ReflectliteValue.method (ReflectliteValue.valueError "reflectlite.Value.Elem" 0) ReflectliteValue.elem) := ExtIs.mk' Tryz.func197 (by kernel_rfl) (by kernel_rfl) (by kernel_rfl) (by kernel_rfl)
instance : ExtIs Tryz.prog 198 ReflectliteValue.set := ExtIs.mk' Tryz.func198 (by kernel_rfl) (by kernel_rfl) (by kernel_rfl) (by kernel_rfl)

abbrev hnd (t : Nat) : Value := .pointer (some ⟨2, t, none⟩)
abbrev rty (t : Nat) : Value := .iface 252 (.agg #[hnd t])
abbrev rval (t : Nat) (p : Addr) (fl : Int) : Value := .agg #[hnd t, .pointer (some p), .int .u64 fl]

/-- What is asked of a target: a pointer type tt to a type te; te's kind, and te's flag as a variable's. -/
structure AsT (tt te : Nat) (kd fl : Nat) : Prop where
  valueOf : ∀ (t : Addr) (w : World), (ReflectliteValue.unpack (.iface tt (.pointer (some t)))).run Tryz.prog w = .ok (rval tt ⟨w.heap.size, 0, none⟩ 150) (w.alloc (.cells #[.pointer (some t)] tt))
  type : ∀ (a : Addr) (w : World), (ReflectliteValue.methodAny (ReflectliteValue.valueError "reflectlite.Value.Type" 0) (fun t _ _ _ => ReflectliteType.toType t) #[rval tt a 150]).run Tryz.prog w = .ok (rty tt) w
  kind : ∀ w, ((ReflectliteType.abiMethod fun t => do pure (.int .u8 (← Rtype.kind t))) #[hnd tt]).run Tryz.prog w = .ok (.int .u8 22) w
  kindE : ∀ w, ((ReflectliteType.abiMethod fun t => do pure (.int .u8 (← Rtype.kind t))) #[hnd te]).run Tryz.prog w = .ok (.int .u8 kd) w
  kd20 : (kd : Int) ≠ 20
  elem : ∀ w, (ReflectliteType.method ReflectliteType.elem #[.agg #[hnd tt]]).run Tryz.prog w = .ok (rty te) w
  impl : ∀ w, (ReflectliteType.relation "Implements" ReflectliteType.implements_ #[.agg #[hnd te], gval]).run Tryz.prog w = .ok (.bool true) w
  parts : ∀ (a : Addr) w, (ReflectliteValue.parts (rval tt a 150)).run Tryz.prog w = .ok (some (tt, a, 150)) w
  partsE : ∀ (a : Addr) w, (ReflectliteValue.parts (rval te a fl)).run Tryz.prog w = .ok (some (te, a, fl)) w
  elemOf : ∀ w, (Rtype.elem? tt).run Tryz.prog w = .ok (some te) w
  mkE : ∀ (p : Addr) w, (ReflectliteValue.mk te p ReflectliteValue.flagAddr).run Tryz.prog w = .ok (rval te p fl) w
  und : Tryz.prog.underlying tt = some (.pointer te)
  flA : fl / ReflectliteValue.flagAddr % 2 = 1
  asg : ∀ w, (ReflectliteType.relation "AssignableTo" ReflectliteType.assignableTo #[.agg #[hnd te], rty te]).run Tryz.prog w = .ok (.bool true) w
  direct : ∀ w, (Rtype.directlyAssignable te te).run Tryz.prog w = .ok true w

theorem asT_place : AsT 188 187 22 406 where
  valueOf := fun t w => by kernel_rfl
  type := fun a w => by kernel_rfl
  kind := fun w => by kernel_rfl
  kindE := fun w => by kernel_rfl
  kd20 := by decide
  elem := fun w => by kernel_rfl
  impl := fun w => by kernel_rfl
  parts := fun a w => by kernel_rfl
  partsE := fun a w => by kernel_rfl
  elemOf := fun w => by kernel_rfl
  mkE := fun a w => by kernel_rfl
  und := by kernel_rfl
  flA := by decide
  asg := fun w => by kernel_rfl
  direct := fun w => by kernel_rfl
theorem asT_code : AsT 119 45 2 386 where
  valueOf := fun t w => by kernel_rfl
  type := fun a w => by kernel_rfl
  kind := fun w => by kernel_rfl
  kindE := fun w => by kernel_rfl
  kd20 := by decide
  elem := fun w => by kernel_rfl
  impl := fun w => by kernel_rfl
  parts := fun a w => by kernel_rfl
  partsE := fun a w => by kernel_rfl
  elemOf := fun w => by kernel_rfl
  mkE := fun a w => by kernel_rfl
  und := by kernel_rfl
  flA := by decide
  asg := fun w => by kernel_rfl
  direct := fun w => by kernel_rfl

/-- What is asked of an error's own value u of type te. -/
structure AsU (te fl2 : Nat) (u : Value) : Prop where
  valueOf : ∀ (w : World), (ReflectliteValue.unpack (.iface te u)).run Tryz.prog w = .ok (rval te ⟨w.heap.size, 0, none⟩ fl2) (w.alloc (.cells #[u] te))
  parts : ∀ (a : Addr) w, (ReflectliteValue.parts (rval te a fl2)).run Tryz.prog w = .ok (some (te, a, fl2)) w
  typeOf : ∀ w, (ReflectliteType.typeOf #[.iface te u]).run Tryz.prog w = .ok (rty te) w
theorem asU_place (p : Addr) : AsU 187 150 (.pointer (some p)) where
  valueOf := fun w => by kernel_rfl
  parts := fun a w => by kernel_rfl
  typeOf := fun w => by kernel_rfl
theorem asU_code (c : Int) : AsU 45 130 (.int .i64 c) where
  valueOf := fun w => by kernel_rfl
  parts := fun a w => by kernel_rfl
  typeOf := fun w => by kernel_rfl
/-- An error's type that is not the target's; which methods it has. -/
theorem typeOf_any (t : Nat) (u : Value) (w : World) : (ReflectliteType.typeOf #[.iface t u]).run Tryz.prog w = .ok (rty t) w := by kernel_rfl
theorem asg_45_187 (w : World) : (ReflectliteType.relation "AssignableTo" ReflectliteType.assignableTo #[.agg #[hnd 45], rty 187]).run Tryz.prog w = .ok (.bool false) w := by kernel_rfl
theorem asg_187_45 (w : World) : (ReflectliteType.relation "AssignableTo" ReflectliteType.assignableTo #[.agg #[hnd 187], rty 45]).run Tryz.prog w = .ok (.bool false) w := by kernel_rfl
theorem asg_271_45 (w : World) : (ReflectliteType.relation "AssignableTo" ReflectliteType.assignableTo #[.agg #[hnd 271], rty 45]).run Tryz.prog w = .ok (.bool false) w := by kernel_rfl
theorem ta_as_45 (u : Value) (w : World) : (Instr.typeAssert (.iface 45 u) 35 257 true).run Tryz.prog w = .ok (.tuple #[.nilIface, .bool false]) w := run_typeAssert_lacksB (want := #[("As", 259)]) (by kernel_rfl) (by kernel_rfl) (by kernel_rfl) u 35 w
theorem ta_un_45 (u : Value) (w : World) : (Instr.typeAssert (.iface 45 u) 35 260 true).run Tryz.prog w = .ok (.tuple #[.nilIface, .bool false]) w := run_typeAssert_lacksB (want := #[("Unwrap", 261)]) (by kernel_rfl) (by kernel_rfl) (by kernel_rfl) u 35 w
theorem ta_us_45 (u : Value) (w : World) : (Instr.typeAssert (.iface 45 u) 35 262 true).run Tryz.prog w = .ok (.tuple #[.nilIface, .bool false]) w := run_typeAssert_lacksB (want := #[("Unwrap", 264)]) (by kernel_rfl) (by kernel_rfl) (by kernel_rfl) u 35 w
theorem ta_as_187 (u : Value) (w : World) : (Instr.typeAssert (.iface 187 u) 35 257 true).run Tryz.prog w = .ok (.tuple #[.nilIface, .bool false]) w := run_typeAssert_lacksB (want := #[("As", 259)]) (by kernel_rfl) (by kernel_rfl) (by kernel_rfl) u 35 w
theorem ta_un_187 (u : Value) (w : World) : (Instr.typeAssert (.iface 187 u) 35 260 true).run Tryz.prog w = .ok (.tuple #[.iface 187 u, .bool true]) w := by kernel_rfl
theorem ta_as_271 (u : Value) (w : World) : (Instr.typeAssert (.iface 271 u) 35 257 true).run Tryz.prog w = .ok (.tuple #[.nilIface, .bool false]) w := run_typeAssert_lacksB (want := #[("As", 259)]) (by kernel_rfl) (by kernel_rfl) (by kernel_rfl) u 35 w
theorem ta_un_271 (u : Value) (w : World) : (Instr.typeAssert (.iface 271 u) 35 260 true).run Tryz.prog w = .ok (.tuple #[.iface 271 u, .bool true]) w := by kernel_rfl
theorem m_unw_187 (b : Nat) (w : World) : (method (Tryz.prog.types.size + Made.depth) 187 (.pointer (some ⟨b, 0, none⟩)) "Unwrap").run Tryz.prog w = .ok (270, .pointer (some ⟨b, 0, none⟩)) w := by kernel_rfl
theorem m_unw_271 (b : Nat) (w : World) : (method (Tryz.prog.types.size + Made.depth) 271 (.pointer (some ⟨b, 0, none⟩)) "Unwrap").run Tryz.prog w = .ok (286, .pointer (some ⟨b, 0, none⟩)) w := by kernel_rfl
theorem m_kind (t : Nat) (w : World) : (method (Tryz.prog.types.size + Made.depth) 252 (.agg #[hnd t]) "Kind").run Tryz.prog w = .ok (264, hnd t) w := by kernel_rfl
theorem m_elem (t : Nat) (w : World) : (method (Tryz.prog.types.size + Made.depth) 252 (.agg #[hnd t]) "Elem").run Tryz.prog w = .ok (277, .agg #[hnd t]) w := by kernel_rfl
theorem m_impl (t : Nat) (w : World) : (method (Tryz.prog.types.size + Made.depth) 252 (.agg #[hnd t]) "Implements").run Tryz.prog w = .ok (278, .agg #[hnd t]) w := by kernel_rfl
theorem m_asg (t : Nat) (w : World) : (method (Tryz.prog.types.size + Made.depth) 252 (.agg #[hnd t]) "AssignableTo").run Tryz.prog w = .ok (275, .agg #[hnd t]) w := by kernel_rfl

end Go.Proofs.Gw
/- Messages by their records, in plain terms. -/
set_option linter.unusedVariables false
namespace Go.Proofs.Gm

/-- The error codes of a reader. -/
def good (c : Int) : Prop := c = 1 ∨ c = 3 ∨ c = 4 ∨ c = 5 ∨ c = 6
instance (c : Int) : Decidable (good c) := by unfold good; infer_instance

/-- What a table takes of a message's records; the others, as they stand. -/
def takenM (t : Nat → Nat → Bool) (rs : List Rec) : List Rec := rs.filter fun r => t r.num r.kind
def restR (t : Nat → Nat → Bool) (rs : List Rec) : Bs := (rs.filter fun r => !t r.num r.kind).flatMap (·.raw)

def rec00 : Rec := ⟨0, 0, 0, [], []⟩
/-- The last record of a number. -/
def lastM (rs : List Rec) (num : Nat) : Rec := ((rs.filter fun r => r.num = num).getLast?).getD rec00
/-- The records of a number. -/
def ofNum (rs : List Rec) (num : Nat) : List Rec := rs.filter fun r => r.num = num

/-- The one that counts of several numbers. -/
structure OneR where
  num : Nat
  n : Nat
  s : Bs
  all : List Bs
def one0 : OneR := ⟨0, 0, [], []⟩
def oneS (nums : List Nat) (o : OneR) (r : Rec) : OneR := if nums.contains r.num then (if r.num = o.num then ⟨r.num, r.n, r.s, o.all ++ [r.s]⟩ else ⟨r.num, r.n, r.s, [r.s]⟩) else o
def oneM (nums : List Nat) (rs : List Rec) : OneR := rs.foldl (oneS nums) one0
theorem oneM_snoc (nums : List Nat) (rs : List Rec) (r : Rec) : oneM nums (rs ++ [r]) = oneS nums (oneM nums rs) r := by unfold oneM; rw [List.foldl_append]; rfl

/-- Reading a message: the error, the other records, the taken ones. -/
def readE (d : Int) (l : Bs) : Option (Option Int) := if d < 0 then some (some 6) else match allM d l with
  | .error c => some (some c)
  | .ok _ => none
def readU (t : Nat → Nat → Bool) (d : Int) (l : Bs) : Bs := if d < 0 then [] else match allM d l with
  | .error _ => []
  | .ok rs => restR t rs
def readT (t : Nat → Nat → Bool) (d : Int) (l : Bs) : List Rec := if d < 0 then [] else match allM d l with
  | .error _ => []
  | .ok rs => takenM t rs

theorem takenM_snoc (t : Nat → Nat → Bool) (l : List Rec) (r : Rec) : takenM t (l ++ [r]) = if t r.num r.kind then takenM t l ++ [r] else takenM t l := by
  unfold takenM; rw [List.filter_append]; by_cases h : t r.num r.kind <;> simp [h]
theorem restR_snoc (t : Nat → Nat → Bool) (l : List Rec) (r : Rec) : restR t (l ++ [r]) = if t r.num r.kind then restR t l else restR t l ++ r.raw := by
  unfold restR; rw [List.filter_append, List.flatMap_append]; by_cases h : t r.num r.kind <;> simp [h]
end Go.Proofs.Gm
/- Texts in plain terms. -/
set_option linter.unusedVariables false
namespace Go.Proofs.Gm

def sizeM (c : Nat) : Nat := if 244 < c ∨ (128 ≤ c ∧ c < 194) then 0 else if 240 ≤ c then 4 else if 224 ≤ c then 3 else if 194 ≤ c then 2 else 1
def follM (c : Nat) : Bool := decide (128 ≤ c ∧ c ≤ 191)
def secM (a c : Nat) : Bool := if a = 224 then decide (160 ≤ c) && follM c else if a = 237 then decide (c ≤ 159) && follM c else if a = 240 then decide (144 ≤ c) && follM c else if a = 244 then decide (c ≤ 143) && follM c else follM c
/-- How many bytes the sign in front has; 0: it is none. -/
def signM : Bs → Nat
  | [] => 0
  | a :: l =>
    let n := sizeM a.toNat
    if l.length + 1 < n then 0
    else if 1 < n ∧ secM a.toNat ((l[0]?).map (·.toNat) |>.getD 0) = false then 0
    else if ((l.drop 1).take (n - 2)).all (fun c => follM c.toNat) then n else 0
theorem sizeM_le (c : Nat) : sizeM c ≤ 4 := by unfold sizeM; (repeat' split) <;> omega
theorem signM_le (l : Bs) : signM l ≤ l.length := by
  cases l with
  | nil => simp [signM]
  | cons a l =>
    simp only [signM]
    repeat' split
    all_goals simp only [List.length_cons]; omega
/-- Are all signs right? -/
def textM (l : Bs) : Bool := if h : l = [] then true else if h2 : signM l = 0 then false else textM (l.drop (signM l))
termination_by l.length
decreasing_by
  have := signM_le l
  have : 0 < l.length := List.length_pos_iff.2 h
  simp only [List.length_drop]; omega
end Go.Proofs.Gm
/- Contracts of the program's first functions: errors, numbers in few bytes. -/
set_option linter.unusedVariables false
set_option linter.unusedSimpArgs false
namespace Go.Proofs.Gw
open Go Go.RowKit Go.IntWalk Go.Proofs.Gm

/-- An error's value. -/
def Er (v : Value) (e : GE) : HP where
  holds ok w := evr 45 187 190 271 273 e v ok w
  loc ok w w' h h1 := evr_loc e v ok ok w w' (fun _ h => h) h h1
theorem Er.iface {v : Value} {e : GE} {ok : Nat → Prop} {w : World} (h : (Er v e).holds ok w) : ∃ t u, v = .iface t u := by
  cases e with
  | code c => exact ⟨_, _, h⟩
  | at_ p e => obtain ⟨b, v', h1, _⟩ := h; exact ⟨_, _, h1⟩
  | in_ n e => obtain ⟨b, v', h1, _⟩ := h; exact ⟨_, _, h1⟩
theorem Er.code (c : Int) (w : World) : (Er (.iface 45 (.int .i64 c)) (.code c)).holds (fun _ => False) w := rfl

theorem At_tri (p : Int) (v : Value) (e : GE) (w : World) : Tri Tryz.prog 177 [.int .i64 p, v] [Er v e] (fun v' => v') (fun v' => [Er v' (.at_ p e)]) (fun v' => ∃ t u, v' = .iface t u) w := by
  refine tri_of_G 12 Tryz.func177 rfl Tryz.ntmps177 rfl (fun D => ?_)
  refine GC.fact 0 rfl (fun ok w h => Er.iface h) (fun hv => ?_)
  obtain ⟨t, u, rfl⟩ := hv
  refine GC.seq (GC.region (GL.v (.assign rfl) rfl (GL.nil (GN.seq (GC.seq (GC.seq (GC.region (GL.v (.move rfl) rfl (GL.v (.eqlNil rfl (by first | exact .inl rfl | exact .inr ⟨_, _, rfl⟩ | assumption)) rfl (GL.nil (GN.seq (?_))))))))))))
  refine GC.cond rfl (fun h => Bool.noConfusion (h.symm.trans (rfl) : true = false)) (fun _ => ?_)
  refine GC.skip (GN.seq (GC.seq (GC.region (GL.v (.move rfl) rfl (GL.v (.move rfl) rfl (GL.v (.build (cs := [_, _]) rfl rfl) rfl (GL.w (.box rfl rfl) rfl (fun b10 _ => GL.v (.makeInterface rfl) rfl (GL.v (.assign rfl) rfl (GL.nil (GN.seq (GC.ret (?_)))))))))))))
  refine GR.one rfl rfl rfl _ rfl (Ent.merge ?_ _) ⟨_, _, rfl⟩
  rintro o1 o2 w ⟨h1, cs, h2, h3, h4⟩ h5
  refine ⟨_, _, rfl, .inl h1, ?_, evr_loc _ _ _ _ _ _ (fun _ h => .inr h) (fun _ _ => rfl) h5⟩
  rw [h2]
  have e : cs = #[.int .i64 p, .iface t u] := by
    refine Array.ext' (List.ext_getElem? fun i => ?_)
    rcases i with _ | _ | i
    · simpa using h4 0 _ rfl
    · simpa using h4 1 _ rfl
    · simp [h3]
  rw [e]

theorem In_tri (p : Int) (v : Value) (e : GE) (w : World) : Tri Tryz.prog 178 [.int .i64 p, v] [Er v e] (fun v' => v') (fun v' => [Er v' (.in_ p e)]) (fun v' => ∃ t u, v' = .iface t u) w := by
  refine tri_of_G 12 Tryz.func178 rfl Tryz.ntmps178 rfl (fun D => ?_)
  refine GC.fact 0 rfl (fun ok w h => Er.iface h) (fun hv => ?_)
  obtain ⟨t, u, rfl⟩ := hv
  refine GC.seq (GC.region (GL.v (.assign rfl) rfl (GL.nil (GN.seq (GC.seq (GC.seq (GC.region (GL.v (.move rfl) rfl (GL.v (.eqlNil rfl (by first | exact .inl rfl | exact .inr ⟨_, _, rfl⟩ | assumption)) rfl (GL.nil (GN.seq (?_))))))))))))
  refine GC.cond rfl (fun h => Bool.noConfusion (h.symm.trans (rfl) : true = false)) (fun _ => ?_)
  refine GC.skip (GN.seq (GC.seq (GC.region (GL.v (.move rfl) rfl (GL.v (.move rfl) rfl (GL.v (.build (cs := [_, _]) rfl rfl) rfl (GL.w (.box rfl rfl) rfl (fun b10 _ => GL.v (.makeInterface rfl) rfl (GL.v (.assign rfl) rfl (GL.nil (GN.seq (GC.ret (?_)))))))))))))
  refine GR.one rfl rfl rfl _ rfl (Ent.merge ?_ _) ⟨_, _, rfl⟩
  rintro o1 o2 w ⟨h1, cs, h2, h3, h4⟩ h5
  refine ⟨_, _, rfl, .inl h1, ?_, evr_loc _ _ _ _ _ _ (fun _ h => .inr h) (fun _ _ => rfl) h5⟩
  rw [h2]
  have e : cs = #[.int .i64 p, .iface t u] := by
    refine Array.ext' (List.ext_getElem? fun i => ?_)
    rcases i with _ | _ | i
    · simpa using h4 0 _ rfl
    · simpa using h4 1 _ rfl
    · simp [h3]
  rw [e]

/-- What 'read' answers. -/
def rdV (l : Bs) : Value := match vget l with
  | .ok (n, k) => .tuple #[.int .u64 (n : Int), .int .i64 (k : Int), .nilIface]
  | .error c => .tuple #[.int .u64 0, .int .i64 0, .iface 45 (.int .i64 c)]

theorem step_or (acc i : Nat) (c : UInt8) (hi : i ≤ 9) (h9 : ¬ (i = 9 ∧ 1 < c.toNat)) (ha : acc < 128 ^ i) :
    bits .or .u64 (acc : Int) (IntKind.u64.wrap (bits .andNot .u8 (c.toNat : Int) 128 * 2 ^ min ((7 : Int) * (i : Int)).toNat IntKind.u64.bits)) = ((acc + c.toNat % 128 * 128 ^ i : Nat) : Int) := by
  have hc : c.toNat < 256 := c.toNat_lt
  have e1 : ((7 : Int) * (i : Int)).toNat = 7 * i := by omega
  have e2 : min (7 * i) IntKind.u64.bits = 7 * i := by
    have : IntKind.u64.bits = 64 := rfl
    omega
  have e3 : (128 : Nat) ^ i = 2 ^ (7 * i) := by rw [Nat.pow_mul]
  rw [andNot_u8_128 _ hc, e1, e2]
  have hb : c.toNat % 128 * 128 ^ i < 2 ^ 64 := by
    by_cases e : i = 9
    · subst e
      have : c.toNat ≤ 1 := by omega
      have h2 : c.toNat % 128 * 128 ^ 9 ≤ 1 * 128 ^ 9 := Nat.mul_le_mul_right _ (by omega)
      omega
    · have h2 : c.toNat % 128 * 128 ^ i ≤ 127 * 128 ^ i := Nat.mul_le_mul_right _ (by omega)
      have h3 : 128 ^ (i + 1) ≤ 128 ^ 9 := Nat.pow_le_pow_right (by omega) (by omega)
      rw [Nat.pow_succ] at h3
      omega
  have e4 : (((c.toNat % 128 : Nat) : Int) * 2 ^ (7 * i)) = ((c.toNat % 128 * 128 ^ i : Nat) : Int) := by
    rw [e3]; push_cast; rfl
  rw [e4, u64_nat _ hb]
  have ha' : acc < 2 ^ 64 := by
    have h3 : 128 ^ i ≤ 128 ^ 9 := Nat.pow_le_pow_right (by omega) hi
    omega
  rw [or_u64 _ _ ha' hb, e3, or_apart _ _ _ (e3 ▸ ha)]

theorem read_tri (s : ByteArray) (w : World) (hs : s.size ≤ 9223372036854775807) : Tri Tryz.prog 244 [.string s] [] (fun _ : Unit => rdV (bs s)) (fun _ => []) (fun _ => True) w := by
  refine tri_of_G 39 Tryz.func244 rfl Tryz.ntmps244 rfl (fun D => ?_)
  refine GC.seq (GC.region (GL.v (.assign rfl) rfl (GL.v (.assign rfl) rfl (GL.v (.assign rfl) rfl (GL.nil (GN.seq (GC.seq (GC.region (GL.v (.assign rfl) rfl (GL.nil (GN.seq (GC.seq (GC.seq (GC.region (GL.v (.move rfl) rfl (GL.v (.lenS rfl) rfl (GL.v (.min2 rfl rfl) rfl (GL.v (.move rfl) rfl (GL.nil (GN.seq (GC.block (?_))))))))))))))))))))))
  refine GC.loop (γ := Nat × Nat) (fun g => g.1 ≤ min s.size 10 ∧ g.1 ≤ 9 ∧ g.2 < 128 ^ g.1 ∧ vget (bs s) = vr g.1 g.2 ((bs s).drop g.1)) (fun g => [(0, .string s), (5, .int .u64 (g.2 : Int)), (10, .int .i64 (min (s.size : Int) 10)), (11, .int .i64 (g.1 : Int))]) (fun _ => []) (fun g => s.size - g.1) (0, 0) ⟨by omega, by omega, by decide, by simp [vget]⟩ (Sub.cons rfl (Sub.cons rfl (Sub.cons rfl (Sub.cons rfl (Sub.nil _))))) (Ent.refl _) ?_
  rintro ⟨i, acc⟩ ⟨h1, h2, h3, h4⟩
  simp only at h1 h2 h3 h4 ⊢
  refine GC.seq (GC.region (GL.v (.lss rfl rfl) rfl (GL.nil (GN.seq (GC.seq (?_))))))
  refine GC.condD rfl (fun hlt => ?_) (fun hlt => ?_)
  · have hl : i < s.size := by omega
    obtain ⟨c, hd, hb⟩ := drop_cons_of_lt s i hl
    have hc : c.toNat < 256 := c.toNat_lt
    have hbt := bt_range s i
    have hbb := bits_u8_range .andNot (bt s i) 128
    refine GC.skip (GN.seq (GC.seq (GC.block (GC.seq (GC.region (GL.v (.move rfl) rfl (GL.v (.assign rfl) rfl (GL.nil (GN.seq (GC.seq (GC.region (GL.v (.move rfl) rfl (GL.v (.move rfl) rfl (GL.v (.indexS rfl rfl (by omega) (by omega)) rfl (GL.v (.assign rfl) rfl (GL.nil (GN.seq (GC.seq (GC.seq (GC.region (GL.v (.move rfl) rfl (GL.v (.eql rfl rfl) rfl (GL.v (.move rfl) rfl (?_))))))))))))))))))))))))
    refine GL.partD 19 rfl (fun h9 => ?_) (fun h9 => ?_)
    · refine GL.vg rfl rfl (.move rfl) rfl (GL.vg rfl rfl (.gtr rfl rfl) rfl (GL.v (.pickT rfl rfl) rfl (GL.nil (GN.seq (?_)))))
      refine GC.condD rfl (fun hgt => ?_) (fun hgt => ?_)
      · refine GC.seq (GC.region (GL.v (.makeInterface rfl) rfl (GL.v (.assign rfl) rfl (GL.v (.assign rfl) rfl (GL.v (.assign rfl) rfl (GL.nil (GN.seq (GC.ret (?_)))))))))
        refine GR.three rfl rfl rfl rfl rfl () ?_ (Ent.refl _) trivial
        have e : vget (bs s) = .error 4 := by rw [h4, hd, vr, if_pos ⟨by omega, by omega⟩]
        simp only [rdV, e]
      · have hn : ¬ (i = 9 ∧ 1 < c.toNat) := by omega
        refine GC.skip (GN.seq (GC.seq (GC.region (GL.v (.move rfl) rfl (GL.v (.move rfl) rfl (GL.v (.andNot rfl rfl) rfl (GL.v (.convInt rfl (u64_in _ (by omega))) rfl (GL.v (.move rfl) rfl (GL.v (.mul rfl rfl (i64_in _ (by omega))) rfl (GL.v (.shl rfl rfl (by omega) rfl) rfl (GL.v (.or rfl rfl) rfl (GL.v (.assign rfl) rfl (GL.nil (GN.seq (GC.seq (GC.region (GL.v (.move rfl) rfl (GL.v (.lss rfl rfl) rfl (GL.nil (GN.seq (?_)))))))))))))))))))))
        refine GC.condD rfl (fun hlt2 => ?_) (fun hlt2 => ?_)
        · refine GC.seq (GC.region (GL.v (.move rfl) rfl (GL.v (.move rfl) rfl (GL.v (.add rfl rfl (i64_in _ (by omega))) rfl (GL.v (.assign rfl) rfl (GL.v (.assign rfl) rfl (GL.v (.assign rfl) rfl (GL.nil (GN.seq (GC.ret (?_)))))))))))
          refine GR.three rfl rfl rfl rfl rfl () ?_ (Ent.refl _) trivial
          have e : vget (bs s) = .ok (acc + c.toNat % 128 * 128 ^ i, i + 1) := by rw [h4, hd, vr, if_neg hn, if_pos (by omega)]
          simp only [rdV, e, hb, step_or acc i c h2 hn h3]
          rfl
        · exfalso; omega
    · have hn : ¬ (i = 9 ∧ 1 < c.toNat) := by omega
      refine GL.sg rfl rfl rfl rfl (GL.sg rfl rfl rfl rfl (GL.v (.pickF rfl rfl) rfl (GL.nil (GN.seq (GC.cond rfl (fun h => by first | (have := of_decide_eq_false h; contradiction) | (have := of_decide_eq_true h; contradiction) | (cases h; done)) (fun _ => ?_))))))
      refine GC.skip (GN.seq (GC.seq (GC.region (GL.v (.move rfl) rfl (GL.v (.move rfl) rfl (GL.v (.andNot rfl rfl) rfl (GL.v (.convInt rfl (u64_in _ (by omega))) rfl (GL.v (.move rfl) rfl (GL.v (.mul rfl rfl (i64_in _ (by omega))) rfl (GL.v (.shl rfl rfl (by omega) rfl) rfl (GL.v (.or rfl rfl) rfl (GL.v (.assign rfl) rfl (GL.nil (GN.seq (GC.seq (GC.region (GL.v (.move rfl) rfl (GL.v (.lss rfl rfl) rfl (GL.nil (GN.seq (?_)))))))))))))))))))))
      refine GC.condD rfl (fun hlt2 => ?_) (fun hlt2 => ?_)
      · refine GC.seq (GC.region (GL.v (.move rfl) rfl (GL.v (.move rfl) rfl (GL.v (.add rfl rfl (i64_in _ (by omega))) rfl (GL.v (.assign rfl) rfl (GL.v (.assign rfl) rfl (GL.v (.assign rfl) rfl (GL.nil (GN.seq (GC.ret (?_)))))))))))
        refine GR.three rfl rfl rfl rfl rfl () ?_ (Ent.refl _) trivial
        have e : vget (bs s) = .ok (acc + c.toNat % 128 * 128 ^ i, i + 1) := by rw [h4, hd, vr, if_neg hn, if_pos (by omega)]
        simp only [rdV, e, hb, step_or acc i c h2 hn h3]
        rfl
      · refine GC.skip (GN.blk (GN.seq (GC.region (GL.v (.add rfl rfl (i64_in _ (by omega))) rfl (GL.v (.move rfl) rfl (GL.nil (?_)))))))
        refine GN.loop (i + 1, acc + c.toNat % 128 * 128 ^ i) ⟨by simp only; omega, by simp only; omega, ?_, ?_⟩ (by simp only; omega) (Sub.cons rfl (Sub.cons ?_ (Sub.cons rfl (Sub.cons rfl (Sub.nil _))))) (Ent.refl _)
        · have h2 : c.toNat % 128 * 128 ^ i ≤ 127 * 128 ^ i := Nat.mul_le_mul_right _ (by omega)
          simp only; rw [Nat.pow_succ]; omega
        · simp only; rw [h4, hd, vr, if_neg hn, if_neg (by omega)]
        · rw [← step_or acc i c h2 hn h3, ← hb]; rfl
  · refine GC.exit (GX.seq (GX.loop (GX.blk (GN.seq (GC.seq (GC.region (GL.v (.makeInterface rfl) rfl (GL.v (.assign rfl) rfl (GL.v (.assign rfl) rfl (GL.v (.assign rfl) rfl (GL.nil (GN.seq (GC.ret (?_))))))))))))))
    refine GR.three rfl rfl rfl rfl rfl () ?_ (Ent.refl _) trivial
    have e : vget (bs s) = .error 1 := by
      have hdr : (bs s).drop i = [] := List.drop_eq_nil_of_le (by rw [bs_length]; omega)
      rw [h4, hdr, vr]
    simp only [rdV, e]

theorem Get_ok (s : ByteArray) (at_ : Nat) (n k : Nat) (w : World) (hs : s.size ≤ 9223372036854775000) (ha : at_ ≤ s.size) (hv : vget ((bs s).drop at_) = .ok (n, k)) :
    Tri Tryz.prog 239 [.string s, .int .i64 (at_ : Int)] [] (fun _ : Unit => .tuple #[.int .u64 (n : Int), .int .i64 ((at_ : Int) + (k : Int)), .nilIface]) (fun _ => []) (fun _ => True) w := by
  have hx : bs (s.extract (at_ : Int).toNat s.size) = (bs s).drop at_ := by
    rw [bs_extract, List.take_of_length_le (by rw [bs_length]; omega)]; rfl
  have hk := vget_ok hv
  have hl : ((bs s).drop at_).length = s.size - at_ := by rw [List.length_drop, bs_length]
  refine tri_of_G 38 Tryz.func239 rfl Tryz.ntmps239 rfl (fun D => ?_)
  refine GC.seq (GC.region (GL.v (.assign rfl) rfl (GL.v (.assign rfl) rfl (GL.v (.assign rfl) rfl (GL.nil (GN.seq (GC.seq (GC.seq (GC.region (GL.v (.move rfl) rfl (GL.v (.lss rfl rfl) rfl (GL.v (.move rfl) rfl (?_)))))))))))))
  refine GL.partD 12 rfl (fun h0 => ?_) (fun h0 => ?_)
  · exfalso; omega
  · refine GL.vg rfl rfl (.move rfl) rfl (GL.vg rfl rfl (.move rfl) rfl (GL.vg rfl rfl (.lenS rfl) rfl (GL.vg rfl rfl (.gtr rfl rfl) rfl (GL.v (.pickF rfl rfl) rfl (GL.nil (GN.seq (?_)))))))
    refine GC.condD rfl (fun h1 => ?_) (fun h1 => ?_)
    · exfalso; omega
    · refine GC.skip (GN.seq (GC.seq (GC.region (GL.v (.move rfl) rfl (GL.v (.move rfl) rfl (GL.v (.sliceSL rfl rfl (by omega) (by omega)) rfl (?_)))))))
      refine GL.call (As := []) rfl (fun w hst => read_tri _ w (by rw [ByteArray.size_extract]; omega)) rfl (fun _ _ => ?_)
      refine GL.set 25 (.tuple #[.int .u64 (n : Int), .int .i64 (k : Int), .nilIface]) rfl (by rw [hx]; unfold rdV; rw [hv]) ?_
      refine GL.v (.move rfl) rfl (GL.v (.extract rfl rfl) rfl (GL.v (.extract rfl rfl) rfl (GL.v (.extract rfl rfl) rfl (GL.v (.assign rfl) rfl (GL.v (.assign rfl) rfl (GL.v (.assign rfl) rfl (GL.nil (GN.seq (GC.seq (GC.seq (GC.region (GL.v (.move rfl) rfl (GL.v (.neqNil rfl (by first | exact .inl rfl | exact .inr ⟨_, _, rfl⟩ | assumption)) rfl (GL.nil (GN.seq (?_))))))))))))))))
      refine GC.cond rfl (fun h => Bool.noConfusion (h.symm.trans (rfl) : true = false)) (fun _ => ?_)
      refine GC.skip (GN.seq (GC.seq (GC.region (GL.v (.move rfl) rfl (GL.v (.move rfl) rfl (GL.v (.move rfl) rfl (GL.v (.add rfl rfl (i64_in _ (by omega))) rfl (GL.v (.assign rfl) rfl (GL.v (.assign rfl) rfl (GL.v (.assign rfl) rfl (GL.nil (GN.seq (GC.ret (?_))))))))))))))
      refine GR.three rfl rfl rfl rfl rfl () rfl (Ent.refl _) trivial
theorem Get_err (s : ByteArray) (at_ : Nat) (c : Int) (w : World) (hs : s.size ≤ 9223372036854775000) (ha : at_ ≤ s.size) (hv : vget ((bs s).drop at_) = .error c) :
    Tri Tryz.prog 239 [.string s, .int .i64 (at_ : Int)] [] (fun v : Value => .tuple #[.int .u64 0, .int .i64 0, v]) (fun v => [Er v (.at_ at_ (.code c))]) (fun v => ∃ t u, v = .iface t u) w := by
  have hx : bs (s.extract (at_ : Int).toNat s.size) = (bs s).drop at_ := by
    rw [bs_extract, List.take_of_length_le (by rw [bs_length]; omega)]; rfl
  refine tri_of_G 38 Tryz.func239 rfl Tryz.ntmps239 rfl (fun D => ?_)
  refine GC.seq (GC.region (GL.v (.assign rfl) rfl (GL.v (.assign rfl) rfl (GL.v (.assign rfl) rfl (GL.nil (GN.seq (GC.seq (GC.seq (GC.region (GL.v (.move rfl) rfl (GL.v (.lss rfl rfl) rfl (GL.v (.move rfl) rfl (?_)))))))))))))
  refine GL.partD 12 rfl (fun h0 => ?_) (fun h0 => ?_)
  · exfalso; omega
  · refine GL.vg rfl rfl (.move rfl) rfl (GL.vg rfl rfl (.move rfl) rfl (GL.vg rfl rfl (.lenS rfl) rfl (GL.vg rfl rfl (.gtr rfl rfl) rfl (GL.v (.pickF rfl rfl) rfl (GL.nil (GN.seq (?_)))))))
    refine GC.condD rfl (fun h1 => ?_) (fun h1 => ?_)
    · exfalso; omega
    · refine GC.skip (GN.seq (GC.seq (GC.region (GL.v (.move rfl) rfl (GL.v (.move rfl) rfl (GL.v (.sliceSL rfl rfl (by omega) (by omega)) rfl (?_)))))))
      refine GL.call (As := []) rfl (fun w hst => read_tri _ w (by rw [ByteArray.size_extract]; omega)) rfl (fun _ _ => ?_)
      refine GL.set 25 (.tuple #[.int .u64 0, .int .i64 0, .iface 45 (.int .i64 c)]) rfl (by rw [hx]; unfold rdV; rw [hv]) ?_
      refine GL.v (.move rfl) rfl (GL.v (.extract rfl rfl) rfl (GL.v (.extract rfl rfl) rfl (GL.v (.extract rfl rfl) rfl (GL.v (.assign rfl) rfl (GL.v (.assign rfl) rfl (GL.v (.assign rfl) rfl (GL.nil (GN.seq (GC.seq (GC.seq (GC.region (GL.v (.move rfl) rfl (GL.v (.neqNil rfl (by first | exact .inl rfl | exact .inr ⟨_, _, rfl⟩ | assumption)) rfl (GL.nil (GN.seq (?_))))))))))))))))
      refine GC.cond rfl (fun _ => ?_) (fun h => Bool.noConfusion (h.symm.trans (rfl) : false = true))
      refine GC.seq (GC.region (GL.v (.move rfl) rfl (GL.v (.move rfl) rfl (?_))))
      refine GL.ent (Ent.intro (Er.code c) _) ?_
      refine GL.call (As := [_]) rfl (fun w hst => At_tri _ _ _ w) rfl (fun v hv2 => ?_)
      refine GL.v (.assign rfl) rfl (GL.v (.assign rfl) rfl (GL.v (.assign rfl) rfl (GL.nil (GN.seq (GC.ret (?_))))))
      refine GR.three rfl rfl rfl rfl rfl v rfl (Ent.refl _) hv2

end Go.Proofs.Gw
/- Contracts of package wire's reader: numbers, bytes, tags. -/
set_option linter.unusedVariables false
set_option linter.unusedSimpArgs false
namespace Go.Proofs.Gw
open Go Go.RowKit Go.IntWalk Go.Proofs.Gm

/-- A reader that is in order; one that has met an error of this code. -/
abbrev RdO (g : Nat) (s : ByteArray) (at_ : Int) (d : Int) : HP := Blk g 222 4 [(0, .string s), (1, .int .i64 at_), (2, .nilIface), (3, .int .i64 d)]
abbrev RdE1 (g : Nat) (s : ByteArray) (d c : Int) (x : Int × Value × Nat) : List HP := [Blk g 222 4 [(0, .string s), (1, .int .i64 x.1), (2, x.2.1), (3, .int .i64 d)], Er x.2.1 (.at_ x.2.2 (.code c))]
abbrev RdE2 (s : ByteArray) (x : Int × Value × Nat) : Prop := 0 ≤ x.1 ∧ x.1 ≤ s.size ∧ x.2.2 ≤ s.size ∧ ∃ t u, x.2.1 = .iface t u
def RdE (g : Nat) (s : ByteArray) (d c : Int) : HP := ExH (RdE1 g s d c) (RdE2 s)
abbrev ptr (g : Nat) : Value := .pointer (some ⟨g, 0, none⟩)
abbrev codeV (c : Int) : Value := .iface 45 (.int .i64 c)
def mx : Nat := 1099511627776

theorem failsO (g : Nat) (s : ByteArray) (at_ d c : Int) (p : Nat) (w : World) (h0 : 0 ≤ at_) (h1 : at_ ≤ s.size) (hp : p ≤ s.size) : Tri Tryz.prog 235 [ptr g, .int .i64 (p : Int), codeV c] [RdO g s at_ d] (fun _ : Unit => .tuple #[]) (fun _ => [RdE g s d c]) (fun _ => True) w := by
  refine tri_of_G 17 Tryz.func235 rfl Tryz.ntmps235 rfl (fun D => ?_)
  refine GC.seq (GC.region (GL.v (.move rfl) rfl (GL.v (.nilCheck rfl) rfl (GL.v (.fieldAddr rfl) rfl (GL.v (.ld 0 rfl rfl rfl) rfl (GL.v (.eqlNil rfl (by first | exact .inl rfl | exact .inr ⟨_, _, rfl⟩ | assumption)) rfl (GL.nil (GN.seq (?_)))))))))
  refine GC.cond rfl (fun _ => ?_) (fun h => Bool.noConfusion (h.symm.trans (rfl) : false = true))
  refine GC.region (GL.v (.move rfl) rfl (GL.v (.move rfl) rfl (GL.v (.move rfl) rfl (?_))))
  refine GL.ent (Ent.intro (Er.code c) _) ?_
  refine GL.call (As := [_]) rfl (fun w hst => At_tri _ _ _ w) rfl (fun v hv => ?_)
  obtain ⟨t, u, rfl⟩ := hv
  refine GL.ent (Ent.swap _ _ _) ?_
  refine GL.v (.nilCheck rfl) rfl (GL.v (.fieldAddr rfl) rfl (GL.w0 (.store 0 rfl rfl rfl rfl rfl rfl rfl) (fun _ _ => GL.nil (?_))))
  exact GN.nil (GR.none rfl rfl () rfl (Ent.trans (by repeat (first | exact Ent.nil _ | (with_reducible exact Ent.refl _) | refine Ent.blk (by repeat (first | exact Sub.nil _ | refine Sub.cons rfl ?_)) ?_ | refine Ent.cons _ ?_ | refine Ent.trans (Ent.tail _ _) ?_)) (Ent.close (Bs := RdE1 g s d c) (p := RdE2 s) (at_, .iface t u, p) ⟨h0, h1, hp, _, _, rfl⟩ [])) trivial)
theorem failsE (g : Nat) (s : ByteArray) (d c : Int) (p : Int) (v : Value) (w : World) : Tri Tryz.prog 235 [ptr g, .int .i64 p, v] [RdE g s d c] (fun _ : Unit => .tuple #[]) (fun _ => [RdE g s d c]) (fun _ => True) w := by
  refine Tri.open ?_
  rintro ⟨at_, u, q⟩ ⟨h0, h1, h2, t, u', rfl⟩
  refine tri_of_G 17 Tryz.func235 rfl Tryz.ntmps235 rfl (fun D => ?_)
  refine GC.seq (GC.region (GL.v (.move rfl) rfl (GL.v (.nilCheck rfl) rfl (GL.v (.fieldAddr rfl) rfl (GL.v (.ld 0 rfl rfl rfl) rfl (GL.v (.eqlNil rfl (by first | exact .inl rfl | exact .inr ⟨_, _, rfl⟩ | assumption)) rfl (GL.nil (GN.seq (?_)))))))))
  refine GC.cond rfl (fun h => Bool.noConfusion (h.symm.trans (rfl) : true = false)) (fun _ => ?_)
  refine GC.skip (?_)
  exact GN.nil (GR.none rfl rfl () rfl (Ent.close (Bs := RdE1 g s d c) (p := RdE2 s) (at_, .iface t u', q) ⟨h0, h1, h2, _, _, rfl⟩ []) trivial)

theorem rvarint_ok (g : Nat) (s : ByteArray) (at_ n k : Nat) (d : Int) (w : World) (hs : s.size ≤ mx) (ha : at_ ≤ s.size) (hv : vget ((bs s).drop at_) = .ok (n, k)) : Tri Tryz.prog 224 [ptr g] [RdO g s at_ d] (fun _ : Unit => .int .u64 (n : Int)) (fun _ => [RdO g s ((at_ : Int) + k) d]) (fun _ => True) w := by
  unfold mx at hs
  refine tri_of_G 35 Tryz.func224 rfl Tryz.ntmps224 rfl (fun D => ?_)
  refine GC.seq (GC.region (GL.v (.assign rfl) rfl (GL.nil (GN.seq (GC.seq (GC.seq (GC.region (GL.v (.move rfl) rfl (GL.v (.nilCheck rfl) rfl (GL.v (.fieldAddr rfl) rfl (GL.v (.ld 0 rfl rfl rfl) rfl (GL.v (.neqNil rfl (by first | exact .inl rfl | exact .inr ⟨_, _, rfl⟩ | assumption)) rfl (GL.nil (GN.seq (?_)))))))))))))))
  refine GC.cond rfl (fun h => Bool.noConfusion (h.symm.trans (rfl) : true = false)) (fun _ => ?_)
  refine GC.skip (GN.seq (GC.seq (?_)))
  refine GC.draw _ (m := 16) rfl (Ent.refl _) ?_
  refine GA.take 0 rfl (by kernel_rfl) (by kernel_rfl) (by kernel_rfl) (.move rfl) rfl (GA.take 1 rfl (by kernel_rfl) (by kernel_rfl) (by kernel_rfl) (.nilCheck rfl) rfl (GA.take 2 rfl (by kernel_rfl) (by kernel_rfl) (by kernel_rfl) (.fieldAddr rfl) rfl (GA.take 3 rfl (by kernel_rfl) (by kernel_rfl) (by kernel_rfl) (.ld 0 rfl rfl rfl) rfl (GA.take 4 rfl (by kernel_rfl) (by kernel_rfl) (by kernel_rfl) (.move rfl) rfl (GA.take 5 rfl (by kernel_rfl) (by kernel_rfl) (by kernel_rfl) (.nilCheck rfl) rfl (GA.take 6 rfl (by kernel_rfl) (by kernel_rfl) (by kernel_rfl) (.fieldAddr rfl) rfl (GA.take 7 rfl (by kernel_rfl) (by kernel_rfl) (by kernel_rfl) (.ld 0 rfl rfl rfl) rfl (?_))))))))
  refine GA.one 8 (by kernel_rfl) ?_
  refine GAi.call (As := []) rfl rfl (fun w hst => Get_ok s at_ n k w (by omega) ha hv) rfl (fun _ _ => Ent.refl _) (fun _ _ => ?_)
  refine GA.take 9 rfl (by kernel_rfl) (by kernel_rfl) (by kernel_rfl) (.move rfl) rfl (GA.take 10 rfl (by kernel_rfl) (by kernel_rfl) (by kernel_rfl) (.extract rfl rfl) rfl (GA.take 11 rfl (by kernel_rfl) (by kernel_rfl) (by kernel_rfl) (.extract rfl rfl) rfl (GA.take 12 rfl (by kernel_rfl) (by kernel_rfl) (by kernel_rfl) (.extract rfl rfl) rfl (GA.take 13 rfl (by kernel_rfl) (by kernel_rfl) (by kernel_rfl) (.assign rfl) rfl (GA.take 14 rfl (by kernel_rfl) (by kernel_rfl) (by kernel_rfl) (.assign rfl) rfl (GA.take 15 rfl (by kernel_rfl) (by kernel_rfl) (by kernel_rfl) (.assign rfl) rfl (GA.done (by kernel_rfl) (?_))))))))
  refine GN.seq (GC.seq (GC.seq (GC.region (GL.v (.move rfl) rfl (GL.v (.neqNil rfl (by first | exact .inl rfl | exact .inr ⟨_, _, rfl⟩ | assumption)) rfl (GL.nil (GN.seq (?_))))))))
  refine GC.cond rfl (fun h => Bool.noConfusion (h.symm.trans (rfl) : true = false)) (fun _ => ?_)
  refine GC.skip (GN.seq (GC.seq (GC.region (GL.v (.move rfl) rfl (GL.v (.move rfl) rfl (GL.v (.nilCheck rfl) rfl (GL.v (.fieldAddr rfl) rfl (GL.w0 (.store 0 rfl rfl rfl rfl rfl rfl rfl) (fun _ _ => GL.nil (GN.seq (GC.seq (GC.region (GL.v (.move rfl) rfl (GL.v (.assign rfl) rfl (GL.nil (GN.seq (GC.ret (?_))))))))))))))))))
  exact GR.one rfl rfl rfl () rfl (by repeat (first | exact Ent.nil _ | (with_reducible exact Ent.refl _) | refine Ent.blk (by repeat (first | exact Sub.nil _ | refine Sub.cons rfl ?_)) ?_ | refine Ent.cons _ ?_ | refine Ent.trans (Ent.tail _ _) ?_)) trivial
theorem rvarint_err (g : Nat) (s : ByteArray) (at_ : Nat) (c : Int) (d : Int) (w : World) (hs : s.size ≤ mx) (ha : at_ ≤ s.size) (hv : vget ((bs s).drop at_) = .error c) : Tri Tryz.prog 224 [ptr g] [RdO g s at_ d] (fun _ : Unit => .int .u64 0) (fun _ => [RdE g s d c]) (fun _ => True) w := by
  unfold mx at hs
  refine tri_of_G 35 Tryz.func224 rfl Tryz.ntmps224 rfl (fun D => ?_)
  refine GC.seq (GC.region (GL.v (.assign rfl) rfl (GL.nil (GN.seq (GC.seq (GC.seq (GC.region (GL.v (.move rfl) rfl (GL.v (.nilCheck rfl) rfl (GL.v (.fieldAddr rfl) rfl (GL.v (.ld 0 rfl rfl rfl) rfl (GL.v (.neqNil rfl (by first | exact .inl rfl | exact .inr ⟨_, _, rfl⟩ | assumption)) rfl (GL.nil (GN.seq (?_)))))))))))))))
  refine GC.cond rfl (fun h => Bool.noConfusion (h.symm.trans (rfl) : true = false)) (fun _ => ?_)
  refine GC.skip (GN.seq (GC.seq (?_)))
  refine GC.draw _ (m := 16) rfl (Ent.refl _) ?_
  refine GA.take 0 rfl (by kernel_rfl) (by kernel_rfl) (by kernel_rfl) (.move rfl) rfl (GA.take 1 rfl (by kernel_rfl) (by kernel_rfl) (by kernel_rfl) (.nilCheck rfl) rfl (GA.take 2 rfl (by kernel_rfl) (by kernel_rfl) (by kernel_rfl) (.fieldAddr rfl) rfl (GA.take 3 rfl (by kernel_rfl) (by kernel_rfl) (by kernel_rfl) (.ld 0 rfl rfl rfl) rfl (GA.take 4 rfl (by kernel_rfl) (by kernel_rfl) (by kernel_rfl) (.move rfl) rfl (GA.take 5 rfl (by kernel_rfl) (by kernel_rfl) (by kernel_rfl) (.nilCheck rfl) rfl (GA.take 6 rfl (by kernel_rfl) (by kernel_rfl) (by kernel_rfl) (.fieldAddr rfl) rfl (GA.take 7 rfl (by kernel_rfl) (by kernel_rfl) (by kernel_rfl) (.ld 0 rfl rfl rfl) rfl (?_))))))))
  refine GA.one 8 (by kernel_rfl) ?_
  refine GAi.call (As := []) rfl rfl (fun w hst => Get_err s at_ c w (by omega) ha hv) rfl (fun v hvv => Ent.tail _ _) (fun v hvv => ?_)
  refine GA.take 9 rfl (by kernel_rfl) (by kernel_rfl) (by kernel_rfl) (.move rfl) rfl (GA.take 10 rfl (by kernel_rfl) (by kernel_rfl) (by kernel_rfl) (.extract rfl rfl) rfl (GA.take 11 rfl (by kernel_rfl) (by kernel_rfl) (by kernel_rfl) (.extract rfl rfl) rfl (GA.take 12 rfl (by kernel_rfl) (by kernel_rfl) (by kernel_rfl) (.extract rfl rfl) rfl (GA.take 13 rfl (by kernel_rfl) (by kernel_rfl) (by kernel_rfl) (.assign rfl) rfl (GA.take 14 rfl (by kernel_rfl) (by kernel_rfl) (by kernel_rfl) (.assign rfl) rfl (GA.take 15 rfl (by kernel_rfl) (by kernel_rfl) (by kernel_rfl) (.assign rfl) rfl (GA.done (by kernel_rfl) (?_))))))))
  obtain ⟨t, u, rfl⟩ := hvv
  refine GN.seq (GC.seq (GC.seq (GC.region (GL.v (.move rfl) rfl (GL.v (.neqNil rfl (by first | exact .inl rfl | exact .inr ⟨_, _, rfl⟩ | assumption)) rfl (GL.nil (GN.seq (?_))))))))
  refine GC.cond rfl (fun _ => ?_) (fun h => Bool.noConfusion (h.symm.trans (rfl) : false = true))
  refine GC.seq (GC.region (GL.v (.move rfl) rfl (GL.v (.move rfl) rfl (GL.v (.nilCheck rfl) rfl (GL.v (.fieldAddr rfl) rfl (GL.w0 (.store 1 rfl rfl rfl rfl rfl rfl rfl) (fun _ _ => GL.nil (GN.seq (GC.seq (GC.region (GL.v (.assign rfl) rfl (GL.nil (GN.seq (GC.ret (?_)))))))))))))))
  refine GR.one rfl rfl rfl () rfl ?_ trivial
  exact (Ent.swap _ _ _).trans (Ent.trans (by repeat (first | exact Ent.nil _ | (with_reducible exact Ent.refl _) | refine Ent.blk (by repeat (first | exact Sub.nil _ | refine Sub.cons rfl ?_)) ?_ | refine Ent.cons _ ?_ | refine Ent.trans (Ent.tail _ _) ?_)) (Ent.close (Bs := RdE1 g s d c) (p := RdE2 s) ((at_ : Int), .iface t u, at_) ⟨by simp, by simpa using ha, ha, _, _, rfl⟩ []))
theorem rvarintE (g : Nat) (s : ByteArray) (d c : Int) (w : World) : Tri Tryz.prog 224 [ptr g] [RdE g s d c] (fun _ : Unit => .int .u64 0) (fun _ => [RdE g s d c]) (fun _ => True) w := by
  refine Tri.open ?_
  rintro ⟨at_, u, q⟩ ⟨h0, h1, h2, t, u', rfl⟩
  refine tri_of_G 35 Tryz.func224 rfl Tryz.ntmps224 rfl (fun D => ?_)
  refine GC.seq (GC.region (GL.v (.assign rfl) rfl (GL.nil (GN.seq (GC.seq (GC.seq (GC.region (GL.v (.move rfl) rfl (GL.v (.nilCheck rfl) rfl (GL.v (.fieldAddr rfl) rfl (GL.v (.ld 0 rfl rfl rfl) rfl (GL.v (.neqNil rfl (by first | exact .inl rfl | exact .inr ⟨_, _, rfl⟩ | assumption)) rfl (GL.nil (GN.seq (?_)))))))))))))))
  refine GC.cond rfl (fun _ => ?_) (fun h => Bool.noConfusion (h.symm.trans (rfl) : false = true))
  refine GC.seq (GC.region (GL.v (.assign rfl) rfl (GL.nil (GN.seq (GC.ret (?_))))))
  exact GR.one rfl rfl rfl () rfl (Ent.close (Bs := RdE1 g s d c) (p := RdE2 s) (at_, .iface t u', q) ⟨h0, h1, h2, _, _, rfl⟩ []) trivial

end Go.Proofs.Gw
/- Contracts of package wire's reader: bytes, numbers of so many bytes, tags. -/
set_option linter.unusedVariables false
set_option linter.unusedSimpArgs false
namespace Go.Proofs.Gw
open Go Go.RowKit Go.IntWalk Go.Proofs.Gm

abbrev strV (s : ByteArray) : Value := .string s
def emptyS : ByteArray := ⟨#[]⟩

theorem take_ok (g : Nat) (s : ByteArray) (at_ n : Nat) (d : Int) (w : World) (hs : s.size ≤ mx) (ha : at_ ≤ s.size) (hn : n ≤ s.size - at_) : Tri Tryz.prog 234 [ptr g, .int .u64 (n : Int)] [RdO g s at_ d] (fun _ : Unit => .string (s.extract at_ (at_ + n))) (fun _ => [RdO g s ((at_ : Int) + n) d]) (fun _ => True) w := by
  unfold mx at hs
  refine tri_of_G 62 Tryz.func234 rfl Tryz.ntmps234 rfl (fun D => ?_)
  refine GC.seq (GC.region (GL.v (.assign rfl) rfl (GL.nil (GN.seq (GC.seq (GC.seq (?_)))))))
  refine GC.draw _ (m := 20) rfl (Ent.refl _) ?_
  refine GA.take 0 rfl (by kernel_rfl) (by kernel_rfl) (by kernel_rfl) (.move rfl) rfl (GA.take 1 rfl (by kernel_rfl) (by kernel_rfl) (by kernel_rfl) (.nilCheck rfl) rfl (GA.take 2 rfl (by kernel_rfl) (by kernel_rfl) (by kernel_rfl) (.fieldAddr rfl) rfl (GA.take 3 rfl (by kernel_rfl) (by kernel_rfl) (by kernel_rfl) (.ld 0 rfl rfl rfl) rfl (GA.take 4 rfl (by kernel_rfl) (by kernel_rfl) (by kernel_rfl) (.eqlNil rfl (by first | exact .inl rfl | exact .inr ⟨_, _, rfl⟩ | assumption)) rfl (GA.take 5 rfl (by kernel_rfl) (by kernel_rfl) (by kernel_rfl) (.move rfl) rfl (?_))))))
  refine GA.part 10 rfl (fun h => ?_) (fun h => by cases h)
  refine GA.takeg 6 rfl (by kernel_rfl) (by kernel_rfl) (by kernel_rfl) rfl rfl (.move rfl) rfl (GA.takeg 7 rfl (by kernel_rfl) (by kernel_rfl) (by kernel_rfl) rfl rfl (.move rfl) rfl (GA.takeg 8 rfl (by kernel_rfl) (by kernel_rfl) (by kernel_rfl) rfl rfl (.nilCheck rfl) rfl (GA.takeg 9 rfl (by kernel_rfl) (by kernel_rfl) (by kernel_rfl) rfl rfl (.fieldAddr rfl) rfl (GA.takeg 10 rfl (by kernel_rfl) (by kernel_rfl) (by kernel_rfl) rfl rfl (.ld 0 rfl rfl rfl) rfl (GA.takeg 11 rfl (by kernel_rfl) (by kernel_rfl) (by kernel_rfl) rfl rfl (.lenS rfl) rfl (GA.takeg 12 rfl (by kernel_rfl) (by kernel_rfl) (by kernel_rfl) rfl rfl (.move rfl) rfl (GA.takeg 13 rfl (by kernel_rfl) (by kernel_rfl) (by kernel_rfl) rfl rfl (.nilCheck rfl) rfl (GA.takeg 14 rfl (by kernel_rfl) (by kernel_rfl) (by kernel_rfl) rfl rfl (.fieldAddr rfl) rfl (GA.takeg 15 rfl (by kernel_rfl) (by kernel_rfl) (by kernel_rfl) rfl rfl (.ld 0 rfl rfl rfl) rfl (GA.takeg 16 rfl (by kernel_rfl) (by kernel_rfl) (by kernel_rfl) rfl rfl (.sub rfl rfl (i64_in _ (by omega))) rfl (GA.takeg 17 rfl (by kernel_rfl) (by kernel_rfl) (by kernel_rfl) rfl rfl (.convInt rfl (u64_in _ (by omega))) rfl (GA.takeg 18 rfl (by kernel_rfl) (by kernel_rfl) (by kernel_rfl) rfl rfl (.gtr rfl rfl) rfl (GA.take 19 rfl (by kernel_rfl) (by kernel_rfl) (by kernel_rfl) (.pickT rfl rfl) rfl (GA.done (by kernel_rfl) (?_)))))))))))))))
  refine GN.seq (?_)
  refine GC.cond rfl (fun h => Bool.noConfusion (h.symm.trans (decide_eq_false ((by omega))) : true = false)) (fun _ => ?_)
  refine GC.skip (GN.seq (GC.seq (GC.seq (GC.region (GL.v (.move rfl) rfl (GL.v (.nilCheck rfl) rfl (GL.v (.fieldAddr rfl) rfl (GL.v (.ld 0 rfl rfl rfl) rfl (GL.v (.neqNil rfl (by first | exact .inl rfl | exact .inr ⟨_, _, rfl⟩ | assumption)) rfl (GL.nil (GN.seq (?_))))))))))))
  refine GC.cond rfl (fun h => Bool.noConfusion (h.symm.trans (rfl) : true = false)) (fun _ => ?_)
  refine GC.skip (GN.seq (GC.seq (GC.region (GL.v (.move rfl) rfl (GL.v (.nilCheck rfl) rfl (GL.v (.fieldAddr rfl) rfl (GL.v (.ld 0 rfl rfl rfl) rfl (GL.v (.move rfl) rfl (GL.v (.convInt rfl (i64_in _ (by omega))) rfl (GL.v (.add rfl rfl (i64_in _ (by omega))) rfl (GL.v (.nilCheck rfl) rfl (GL.v (.fieldAddr rfl) rfl (GL.w0 (.store 0 rfl rfl rfl rfl rfl rfl rfl) (fun _ _ => GL.nil (GN.seq (GC.seq (?_)))))))))))))))))
  refine GC.draw _ (m := 17) rfl (Ent.refl _) ?_
  refine GA.take 0 rfl (by kernel_rfl) (by kernel_rfl) (by kernel_rfl) (.move rfl) rfl (GA.take 1 rfl (by kernel_rfl) (by kernel_rfl) (by kernel_rfl) (.nilCheck rfl) rfl (GA.take 2 rfl (by kernel_rfl) (by kernel_rfl) (by kernel_rfl) (.fieldAddr rfl) rfl (GA.take 3 rfl (by kernel_rfl) (by kernel_rfl) (by kernel_rfl) (.ld 0 rfl rfl rfl) rfl (GA.take 4 rfl (by kernel_rfl) (by kernel_rfl) (by kernel_rfl) (.move rfl) rfl (GA.take 5 rfl (by kernel_rfl) (by kernel_rfl) (by kernel_rfl) (.nilCheck rfl) rfl (GA.take 6 rfl (by kernel_rfl) (by kernel_rfl) (by kernel_rfl) (.fieldAddr rfl) rfl (GA.take 7 rfl (by kernel_rfl) (by kernel_rfl) (by kernel_rfl) (.ld 0 rfl rfl rfl) rfl (GA.take 8 rfl (by kernel_rfl) (by kernel_rfl) (by kernel_rfl) (.move rfl) rfl (GA.take 9 rfl (by kernel_rfl) (by kernel_rfl) (by kernel_rfl) (.convInt rfl (i64_in _ (by omega))) rfl (GA.take 10 rfl (by kernel_rfl) (by kernel_rfl) (by kernel_rfl) (.sub rfl rfl (i64_in _ (by omega))) rfl (GA.take 11 rfl (by kernel_rfl) (by kernel_rfl) (by kernel_rfl) (.move rfl) rfl (GA.take 12 rfl (by kernel_rfl) (by kernel_rfl) (by kernel_rfl) (.nilCheck rfl) rfl (GA.take 13 rfl (by kernel_rfl) (by kernel_rfl) (by kernel_rfl) (.fieldAddr rfl) rfl (GA.take 14 rfl (by kernel_rfl) (by kernel_rfl) (by kernel_rfl) (.ld 0 rfl rfl rfl) rfl (GA.take 15 rfl (by kernel_rfl) (by kernel_rfl) (by kernel_rfl) (.sliceS rfl rfl rfl (by omega) (by omega) (by omega)) rfl (GA.take 16 rfl (by kernel_rfl) (by kernel_rfl) (by kernel_rfl) (.assign rfl) rfl (GA.done (by kernel_rfl) (?_))))))))))))))))))
  refine GN.seq (GC.ret (?_))
  refine GR.one rfl rfl rfl () ?_ (by repeat (first | exact Ent.nil _ | (with_reducible exact Ent.refl _) | refine Ent.blk (by repeat (first | exact Sub.nil _ | refine Sub.cons rfl ?_)) ?_ | refine Ent.cons _ ?_ | refine Ent.trans (Ent.tail _ _) ?_)) trivial
  have e1 : ((at_ : Int) + (n : Int) - (n : Int)).toNat = at_ := by omega
  have e2 : ((at_ : Int) + (n : Int)).toNat = at_ + n := by omega
  rw [e1, e2]
theorem take_err (g : Nat) (s : ByteArray) (at_ n : Nat) (d : Int) (w : World) (hs : s.size ≤ mx) (ha : at_ ≤ s.size) (hn : s.size - at_ < n) : Tri Tryz.prog 234 [ptr g, .int .u64 (n : Int)] [RdO g s at_ d] (fun _ : Unit => .string emptyS) (fun _ => [RdE g s d 1]) (fun _ => True) w := by
  unfold mx at hs
  refine tri_of_G 62 Tryz.func234 rfl Tryz.ntmps234 rfl (fun D => ?_)
  refine GC.seq (GC.region (GL.v (.assign rfl) rfl (GL.nil (GN.seq (GC.seq (GC.seq (?_)))))))
  refine GC.draw _ (m := 20) rfl (Ent.refl _) ?_
  refine GA.take 0 rfl (by kernel_rfl) (by kernel_rfl) (by kernel_rfl) (.move rfl) rfl (GA.take 1 rfl (by kernel_rfl) (by kernel_rfl) (by kernel_rfl) (.nilCheck rfl) rfl (GA.take 2 rfl (by kernel_rfl) (by kernel_rfl) (by kernel_rfl) (.fieldAddr rfl) rfl (GA.take 3 rfl (by kernel_rfl) (by kernel_rfl) (by kernel_rfl) (.ld 0 rfl rfl rfl) rfl (GA.take 4 rfl (by kernel_rfl) (by kernel_rfl) (by kernel_rfl) (.eqlNil rfl (by first | exact .inl rfl | exact .inr ⟨_, _, rfl⟩ | assumption)) rfl (GA.take 5 rfl (by kernel_rfl) (by kernel_rfl) (by kernel_rfl) (.move rfl) rfl (?_))))))
  refine GA.part 10 rfl (fun h => ?_) (fun h => by cases h)
  refine GA.takeg 6 rfl (by kernel_rfl) (by kernel_rfl) (by kernel_rfl) rfl rfl (.move rfl) rfl (GA.takeg 7 rfl (by kernel_rfl) (by kernel_rfl) (by kernel_rfl) rfl rfl (.move rfl) rfl (GA.takeg 8 rfl (by kernel_rfl) (by kernel_rfl) (by kernel_rfl) rfl rfl (.nilCheck rfl) rfl (GA.takeg 9 rfl (by kernel_rfl) (by kernel_rfl) (by kernel_rfl) rfl rfl (.fieldAddr rfl) rfl (GA.takeg 10 rfl (by kernel_rfl) (by kernel_rfl) (by kernel_rfl) rfl rfl (.ld 0 rfl rfl rfl) rfl (GA.takeg 11 rfl (by kernel_rfl) (by kernel_rfl) (by kernel_rfl) rfl rfl (.lenS rfl) rfl (GA.takeg 12 rfl (by kernel_rfl) (by kernel_rfl) (by kernel_rfl) rfl rfl (.move rfl) rfl (GA.takeg 13 rfl (by kernel_rfl) (by kernel_rfl) (by kernel_rfl) rfl rfl (.nilCheck rfl) rfl (GA.takeg 14 rfl (by kernel_rfl) (by kernel_rfl) (by kernel_rfl) rfl rfl (.fieldAddr rfl) rfl (GA.takeg 15 rfl (by kernel_rfl) (by kernel_rfl) (by kernel_rfl) rfl rfl (.ld 0 rfl rfl rfl) rfl (GA.takeg 16 rfl (by kernel_rfl) (by kernel_rfl) (by kernel_rfl) rfl rfl (.sub rfl rfl (i64_in _ (by omega))) rfl (GA.takeg 17 rfl (by kernel_rfl) (by kernel_rfl) (by kernel_rfl) rfl rfl (.convInt rfl (u64_in _ (by omega))) rfl (GA.takeg 18 rfl (by kernel_rfl) (by kernel_rfl) (by kernel_rfl) rfl rfl (.gtr rfl rfl) rfl (GA.take 19 rfl (by kernel_rfl) (by kernel_rfl) (by kernel_rfl) (.pickT rfl rfl) rfl (GA.done (by kernel_rfl) (?_)))))))))))))))
  refine GN.seq (?_)
  refine GC.cond rfl (fun _ => ?_) (fun h => Bool.noConfusion (h.symm.trans (decide_eq_true ((by omega))) : false = true))
  refine GC.region (GL.v (.move rfl) rfl (GL.v (.move rfl) rfl (GL.v (.nilCheck rfl) rfl (GL.v (.fieldAddr rfl) rfl (GL.v (.ld 0 rfl rfl rfl) rfl (GL.v (.makeInterface rfl) rfl (?_)))))))
  refine GL.call (As := [_]) rfl (fun w hst => failsO g s at_ d 1 at_ w (by omega) (by omega) ha) rfl (fun _ _ => ?_)
  refine GL.open ?_
  rintro ⟨at2, u, q⟩ ⟨h0, h1, h2, t, u', rfl⟩
  refine GL.nil (GN.seq (GC.seq (GC.seq (GC.region (GL.v (.move rfl) rfl (GL.v (.nilCheck rfl) rfl (GL.v (.fieldAddr rfl) rfl (GL.v (.ld 0 rfl rfl rfl) rfl (GL.v (.neqNil rfl (by first | exact .inl rfl | exact .inr ⟨_, _, rfl⟩ | assumption)) rfl (GL.nil (GN.seq (?_))))))))))))
  refine GC.cond rfl (fun _ => ?_) (fun h => Bool.noConfusion (h.symm.trans (rfl) : false = true))
  refine GC.seq (GC.region (GL.v (.assign rfl) rfl (GL.nil (GN.seq (GC.ret (?_))))))
  refine GR.one rfl rfl rfl () rfl (Ent.close (Bs := RdE1 g s d 1) (p := RdE2 s) (at2, .iface t u', q) ⟨h0, h1, h2, _, _, rfl⟩ []) trivial
theorem takeE (g : Nat) (s : ByteArray) (n : Int) (d c : Int) (w : World) : Tri Tryz.prog 234 [ptr g, .int .u64 n] [RdE g s d c] (fun _ : Unit => .string emptyS) (fun _ => [RdE g s d c]) (fun _ => True) w := by
  refine Tri.open ?_
  rintro ⟨at_, u, q⟩ ⟨h0, h1, h2, t, u', rfl⟩
  refine tri_of_G 62 Tryz.func234 rfl Tryz.ntmps234 rfl (fun D => ?_)
  refine GC.seq (GC.region (GL.v (.assign rfl) rfl (GL.nil (GN.seq (GC.seq (GC.seq (?_)))))))
  refine GC.draw _ (m := 20) rfl (Ent.refl _) ?_
  refine GA.take 0 rfl (by kernel_rfl) (by kernel_rfl) (by kernel_rfl) (.move rfl) rfl (GA.take 1 rfl (by kernel_rfl) (by kernel_rfl) (by kernel_rfl) (.nilCheck rfl) rfl (GA.take 2 rfl (by kernel_rfl) (by kernel_rfl) (by kernel_rfl) (.fieldAddr rfl) rfl (GA.take 3 rfl (by kernel_rfl) (by kernel_rfl) (by kernel_rfl) (.ld 0 rfl rfl rfl) rfl (GA.take 4 rfl (by kernel_rfl) (by kernel_rfl) (by kernel_rfl) (.eqlNil rfl (by first | exact .inl rfl | exact .inr ⟨_, _, rfl⟩ | assumption)) rfl (GA.take 5 rfl (by kernel_rfl) (by kernel_rfl) (by kernel_rfl) (.move rfl) rfl (?_))))))
  refine GA.part 10 rfl (fun h => by cases h) (fun h => ?_)
  refine GA.takes 6 rfl (by kernel_rfl) (by kernel_rfl) (by kernel_rfl) rfl rfl rfl rfl (GA.takes 7 rfl (by kernel_rfl) (by kernel_rfl) (by kernel_rfl) rfl rfl rfl rfl (GA.takes 8 rfl (by kernel_rfl) (by kernel_rfl) (by kernel_rfl) rfl rfl rfl rfl (GA.takes 9 rfl (by kernel_rfl) (by kernel_rfl) (by kernel_rfl) rfl rfl rfl rfl (GA.takes 10 rfl (by kernel_rfl) (by kernel_rfl) (by kernel_rfl) rfl rfl rfl rfl (GA.takes 11 rfl (by kernel_rfl) (by kernel_rfl) (by kernel_rfl) rfl rfl rfl rfl (GA.takes 12 rfl (by kernel_rfl) (by kernel_rfl) (by kernel_rfl) rfl rfl rfl rfl (GA.takes 13 rfl (by kernel_rfl) (by kernel_rfl) (by kernel_rfl) rfl rfl rfl rfl (GA.takes 14 rfl (by kernel_rfl) (by kernel_rfl) (by kernel_rfl) rfl rfl rfl rfl (GA.takes 15 rfl (by kernel_rfl) (by kernel_rfl) (by kernel_rfl) rfl rfl rfl rfl (GA.takes 16 rfl (by kernel_rfl) (by kernel_rfl) (by kernel_rfl) rfl rfl rfl rfl (GA.takes 17 rfl (by kernel_rfl) (by kernel_rfl) (by kernel_rfl) rfl rfl rfl rfl (GA.takes 18 rfl (by kernel_rfl) (by kernel_rfl) (by kernel_rfl) rfl rfl rfl rfl (GA.take 19 rfl (by kernel_rfl) (by kernel_rfl) (by kernel_rfl) (.pickF rfl rfl) rfl (GA.done (by kernel_rfl) (?_)))))))))))))))
  refine GN.seq (GC.cond rfl (fun h => by first | (have := of_decide_eq_false h; contradiction) | (have := of_decide_eq_true h; contradiction) | (cases h; done)) (fun _ => ?_))
  refine GC.skip (GN.seq (GC.seq (GC.seq (GC.region (GL.v (.move rfl) rfl (GL.v (.nilCheck rfl) rfl (GL.v (.fieldAddr rfl) rfl (GL.v (.ld 0 rfl rfl rfl) rfl (GL.v (.neqNil rfl (by first | exact .inl rfl | exact .inr ⟨_, _, rfl⟩ | assumption)) rfl (GL.nil (GN.seq (?_))))))))))))
  refine GC.cond rfl (fun _ => ?_) (fun h => Bool.noConfusion (h.symm.trans (rfl) : false = true))
  refine GC.seq (GC.region (GL.v (.assign rfl) rfl (GL.nil (GN.seq (GC.ret (?_))))))
  refine GR.one rfl rfl rfl () rfl (Ent.close (Bs := RdE1 g s d c) (p := RdE2 s) (at_, .iface t u', q) ⟨h0, h1, h2, _, _, rfl⟩ []) trivial

/-! little -/
theorem le_snoc (l : Bs) (c : UInt8) : le (l ++ [c]) = le l + c.toNat * 256 ^ l.length := by
  induction l with
  | nil => simp [le]
  | cons x l ih =>
    simp only [List.cons_append, le, ih, List.length_cons, Nat.pow_succ, Nat.mul_add]
    rw [Nat.add_assoc, Nat.mul_comm (256 ^ l.length) 256, Nat.mul_left_comm]
theorem step_le (l : Bs) (c : UInt8) (i : Nat) (hi : l.length = i) (h8 : i < 8) :
    bits .or .u64 (le l : Int) (IntKind.u64.wrap ((c.toNat : Int) * 2 ^ min ((8 : Int) * (i : Int)).toNat IntKind.u64.bits)) = ((le (l ++ [c]) : Nat) : Int) := by
  have hc : c.toNat < 256 := c.toNat_lt
  have e1 : ((8 : Int) * (i : Int)).toNat = 8 * i := by omega
  have e2 : min (8 * i) IntKind.u64.bits = 8 * i := by
    have : IntKind.u64.bits = 64 := rfl
    omega
  have e3 : (256 : Nat) ^ i = 2 ^ (8 * i) := by rw [Nat.pow_mul]
  rw [e1, e2]
  have h3 : 256 ^ (i + 1) ≤ 256 ^ 8 := Nat.pow_le_pow_right (by omega) (by omega)
  rw [Nat.pow_succ] at h3
  have hb : c.toNat * 256 ^ i < 2 ^ 64 := by
    have h2 : c.toNat * 256 ^ i ≤ 255 * 256 ^ i := Nat.mul_le_mul_right _ (by omega)
    omega
  have e4 : ((c.toNat : Int) * 2 ^ (8 * i)) = ((c.toNat * 256 ^ i : Nat) : Int) := by
    rw [e3]; push_cast; rfl
  rw [e4, u64_nat _ hb]
  have hl := le_lt l
  rw [hi] at hl
  rw [or_u64 _ _ (by omega) hb, e3, or_apart _ _ _ (e3 ▸ hl), le_snoc, hi, e3]

/-- The loop over the bytes that were taken. -/
theorem little_ok (g : Nat) (s : ByteArray) (at_ n : Nat) (d : Int) (w : World) (hs : s.size ≤ mx) (ha : at_ ≤ s.size) (hn : n ≤ s.size - at_) (h8 : n ≤ 8) : Tri Tryz.prog 209 [ptr g, .int .i64 (n : Int)] [RdO g s at_ d] (fun _ : Unit => .int .u64 (le (((bs s).drop at_).take n) : Nat)) (fun _ => [RdO g s ((at_ : Int) + n) d]) (fun _ => True) w := by
  have hz : (s.extract at_ (at_ + n)).size = n := by rw [ByteArray.size_extract]; omega
  have hx : bs (s.extract at_ (at_ + n)) = ((bs s).drop at_).take n := by rw [bs_extract, List.drop_take]; congr 1; omega
  have hl : (((bs s).drop at_).take n).length = n := by rw [← hx, bs_length, hz]
  refine tri_of_G 28 Tryz.func209 rfl Tryz.ntmps209 rfl (fun D => ?_)
  refine GC.seq (GC.region (GL.v (.assign rfl) rfl (GL.nil (GN.seq (GC.seq (GC.region (GL.v (.assign rfl) rfl (GL.nil (GN.seq (GC.seq (GC.seq (GC.region (GL.v (.move rfl) rfl (GL.v (.move rfl) rfl (GL.v (.convInt rfl (u64_in _ (by unfold mx at hs; omega))) rfl (?_))))))))))))))))
  refine GL.call (As := [_]) rfl (fun w hst => take_ok g s at_ n d w hs ha hn) rfl (fun _ _ => ?_)
  refine GL.w (.bytesOf rfl) rfl (fun q _ => ?_)
  refine GL.v (.lenSl rfl) rfl (GL.v (.move rfl) rfl (GL.nil (GN.seq (GC.block (?_)))))
  refine GC.loop (γ := Nat) (fun i => i ≤ n) (fun i => [(5, .int .u64 (le ((((bs s).drop at_).take n).take i) : Nat)), (12, .slice (some ⟨q.1, 0, none⟩) n q.2), (13, .int .i64 (n : Int)), (14, .int .i64 (i : Int))]) (fun _ => [BRow q.1 (((bs s).drop at_).take n), RdO g s ((at_ : Int) + n) d]) (fun i => n - i) 0 (Nat.zero_le _) (Sub.cons rfl (Sub.cons (lk_of rfl (by rw [hz])) (Sub.cons (lk_of rfl (by rw [hz])) (Sub.cons rfl (Sub.nil _))))) (by rw [← hx]; exact Ent.refl _) ?_
  intro i hi
  refine GC.seq (GC.region (GL.v (.lss rfl rfl) rfl (GL.nil (GN.seq (GC.seq (?_))))))
  refine GC.condD rfl (fun hlt => ?_) (fun hlt => ?_)
  · have hlt' : i < n := by omega
    obtain ⟨c, hc⟩ : ∃ c, (((bs s).drop at_).take n)[i]? = some c := ⟨_, List.getElem?_eq_getElem (by omega)⟩
    have hcb : c.toNat < 256 := c.toNat_lt
    have htk : (((bs s).drop at_).take n).take (i + 1) = (((bs s).drop at_).take n).take i ++ [c] := by rw [List.take_add_one, hc]; rfl
    have hti : ((((bs s).drop at_).take n).take i).length = i := by rw [List.length_take, hl]; omega
    refine GC.skip (GN.seq (GC.seq (GC.block (GC.seq (GC.region (GL.v (.move rfl) rfl (GL.v (.indexAddr rfl rfl (by omega) (by omega)) rfl (?_))))))))
    refine GL.v (.ldByte 0 (j := i) (c := c) rfl (by show _ = some (Value.pointer (some ⟨q.1, i, none⟩)); simp [ev, lk]) hc) rfl ?_
    refine GL.v (.assign rfl) rfl (GL.v (.assign rfl) rfl (GL.nil (GN.seq (GC.region (GL.v (.move rfl) rfl (GL.v (.move rfl) rfl (GL.v (.convInt rfl (u64_in _ (by omega))) rfl (GL.v (.move rfl) rfl (GL.v (.mul rfl rfl (i64_in _ (by omega))) rfl (GL.v (.shl rfl rfl (by omega) rfl) rfl (GL.v (.or rfl rfl) rfl (GL.v (.assign rfl) rfl (GL.nil (GN.blk (GN.seq (GC.region (GL.v (.add rfl rfl (i64_in _ (by omega))) rfl (GL.v (.move rfl) rfl (GL.nil (?_))))))))))))))))))))
    refine GN.loop (i + 1) (by omega) (by omega) (Sub.cons ?_ (Sub.cons rfl (Sub.cons rfl (Sub.cons rfl (Sub.nil _))))) (Ent.refl _)
    rw [htk, ← step_le _ c i hti (by omega)]; rfl
  · refine GC.exit (GX.seq (GX.loop (GX.blk (GN.seq (GC.seq (GC.region (GL.v (.move rfl) rfl (GL.v (.assign rfl) rfl (GL.nil (GN.seq (GC.ret (?_))))))))))))
    refine GN.nil (GR.one rfl rfl rfl () ?_ (by repeat (first | exact Ent.nil _ | (with_reducible exact Ent.refl _) | refine Ent.blk (by repeat (first | exact Sub.nil _ | refine Sub.cons rfl ?_)) ?_ | refine Ent.cons _ ?_ | refine Ent.trans (Ent.tail _ _) ?_)) trivial)
    rw [List.take_of_length_le (by omega)]

theorem little_none (g : Nat) (s : ByteArray) (n : Nat) (A : HP) (d c : Int) (w : World) (hn : n ≤ 8) (ht : ∀ w, Tri Tryz.prog 234 [ptr g, .int .u64 (n : Int)] [A] (fun _ : Unit => .string emptyS) (fun _ => [RdE g s d c]) (fun _ => True) w) :
    Tri Tryz.prog 209 [ptr g, .int .i64 (n : Int)] [A] (fun _ : Unit => .int .u64 0) (fun _ => [RdE g s d c]) (fun _ => True) w := by
  refine tri_of_G 28 Tryz.func209 rfl Tryz.ntmps209 rfl (fun D => ?_)
  refine GC.seq (GC.region (GL.v (.assign rfl) rfl (GL.nil (GN.seq (GC.seq (GC.region (GL.v (.assign rfl) rfl (GL.nil (GN.seq (GC.seq (GC.seq (GC.region (GL.v (.move rfl) rfl (GL.v (.move rfl) rfl (GL.v (.convInt rfl (u64_in _ (by omega))) rfl (?_))))))))))))))))
  refine GL.call (As := [_]) rfl (fun w hst => ht w) rfl (fun _ _ => ?_)
  refine GL.w (.bytesOf rfl) rfl (fun q _ => ?_)
  refine GL.v (.lenSl rfl) rfl (GL.v (.move rfl) rfl (GL.nil (GN.seq (GC.block (?_)))))
  refine GC.loop (γ := Unit) (fun i => True) (fun i => [(5, .int .u64 0), (13, .int .i64 0), (14, .int .i64 0)]) (fun _ => [RdE g s d c]) (fun i => 0) () trivial (Sub.cons rfl (Sub.cons (lk_of rfl rfl) (Sub.cons rfl (Sub.nil _)))) (Ent.tail _ _) ?_
  intro _ _
  refine GC.seq (GC.region (GL.v (.lss rfl rfl) rfl (GL.nil (GN.seq (GC.seq (?_))))))
  refine GC.cond rfl (fun h => Bool.noConfusion (h.symm.trans (decide_eq_false ((by omega))) : true = false)) (fun _ => ?_)
  refine GC.exit (GX.seq (GX.loop (GX.blk (GN.seq (GC.seq (GC.region (GL.v (.move rfl) rfl (GL.v (.assign rfl) rfl (GL.nil (GN.seq (GC.ret (?_))))))))))))
  exact GN.nil (GR.one rfl rfl rfl () rfl (Ent.refl _) trivial)
theorem little_err (g : Nat) (s : ByteArray) (at_ n : Nat) (d : Int) (w : World) (hs : s.size ≤ mx) (ha : at_ ≤ s.size) (hn : s.size - at_ < n) (h8 : n ≤ 8) : Tri Tryz.prog 209 [ptr g, .int .i64 (n : Int)] [RdO g s at_ d] (fun _ : Unit => .int .u64 0) (fun _ => [RdE g s d 1]) (fun _ => True) w :=
  little_none g s n _ d 1 w h8 fun w => take_err g s at_ n d w hs ha hn
theorem littleE (g : Nat) (s : ByteArray) (n : Nat) (d c : Int) (w : World) (h8 : n ≤ 8) : Tri Tryz.prog 209 [ptr g, .int .i64 (n : Int)] [RdE g s d c] (fun _ : Unit => .int .u64 0) (fun _ => [RdE g s d c]) (fun _ => True) w :=
  little_none g s n _ d c w h8 fun w => takeE g s n d c w

/-! tag -/
theorem shr3 (n : Nat) : ((n : Int) / 2 ^ min (3 : Int).toNat IntKind.u64.bits) = ((n / 8 : Nat) : Int) := by
  have : min (3 : Int).toNat IntKind.u64.bits = 3 := rfl
  rw [this]; norm_cast
theorem and7 (n : Nat) (h : n < 2 ^ 64) : bits .and .u64 (n : Int) 7 = ((n % 8 : Nat) : Int) := by
  have := and_u64 n 7 h (by omega)
  rw [show ((7 : Nat) : Int) = 7 from rfl] at this
  rw [this, show (7 : Nat) = 2 ^ 3 - 1 from rfl, Nat.and_two_pow_sub_one_eq_mod]
theorem and29 (n : Nat) (h : n < 2 ^ 64) : bits .and .u64 (n : Int) 536870911 = ((n % 536870912 : Nat) : Int) := by
  have := and_u64 n 536870911 h (by omega)
  rw [show ((536870911 : Nat) : Int) = 536870911 from rfl] at this
  rw [this, show (536870911 : Nat) = 2 ^ 29 - 1 from rfl, Nat.and_two_pow_sub_one_eq_mod]

theorem zero29 : IntKind.i64.wrap (bits .and .u64 ((0 : Int) / 2 ^ min (3 : Int).toNat IntKind.u64.bits) 536870911) = 0 := by decide +kernel
theorem zero7 : IntKind.i64.wrap (bits .and .u64 (0 : Int) 7) = 0 := by decide +kernel
theorem tag_ok (g : Nat) (s : ByteArray) (at_ n t k : Nat) (d : Int) (w : World) (hs : s.size ≤ mx) (ha : at_ ≤ s.size) (hv : tagM ((bs s).drop at_) = .ok (n, t, k)) : Tri Tryz.prog 212 [ptr g] [RdO g s at_ d] (fun _ : Unit => .tuple #[.int .i64 (n : Int), .int .i64 (t : Int)]) (fun _ => [RdO g s ((at_ : Int) + k) d]) (fun _ => True) w := by
  obtain ⟨m, hm, h1, h2, h3, h4⟩ : ∃ m, vget ((bs s).drop at_) = .ok (m, k) ∧ n = m / 8 ∧ t = m % 8 ∧ 1 ≤ m / 8 ∧ m / 8 ≤ 536870911 := by
    unfold tagM at hv
    split at hv
    · cases hv
    · rename_i m j hm
      split at hv
      · cases hv
      · simp only [Except.ok.injEq, Prod.mk.injEq] at hv
        obtain ⟨rfl, rfl, rfl⟩ := hv
        exact ⟨m, hm, rfl, rfl, by omega, by omega⟩
  have hm64 := (vget_ok hm).1
  have e3 := shr3 m
  have e7 := and7 m hm64
  have e29 := and29 (m / 8) (by omega)
  refine tri_of_G 38 Tryz.func212 rfl Tryz.ntmps212 rfl (fun D => ?_)
  refine GC.seq (GC.region (GL.v (.assign rfl) rfl (GL.v (.assign rfl) rfl (GL.nil (GN.seq (GC.seq (GC.region (GL.v (.move rfl) rfl (GL.v (.nilCheck rfl) rfl (GL.v (.fieldAddr rfl) rfl (GL.v (.ld 0 rfl rfl rfl) rfl (GL.v (.assign rfl) rfl (GL.nil (GN.seq (GC.seq (GC.region (GL.v (.move rfl) rfl (?_))))))))))))))))))
  refine GL.call (As := [_]) rfl (fun w hst => rvarint_ok g s at_ m k d w hs ha hm) rfl (fun _ _ => ?_)
  refine GL.v (.assign rfl) rfl (GL.nil (GN.seq (GC.seq (GC.seq (GC.region (GL.v (.move rfl) rfl (GL.v (.nilCheck rfl) rfl (GL.v (.fieldAddr rfl) rfl (GL.v (.ld 0 rfl rfl rfl) rfl (GL.v (.eqlNil rfl (by first | exact .inl rfl | exact .inr ⟨_, _, rfl⟩ | assumption)) rfl (GL.v (.move rfl) rfl (?_))))))))))))
  refine GL.part 17 rfl (fun h => ?_) (fun h => by cases h)
  refine GL.vg rfl rfl (.move rfl) rfl (GL.vg rfl rfl (.shr rfl rfl (by omega) rfl) rfl (GL.vg rfl rfl (.lss rfl rfl) rfl (GL.vg rfl rfl (.move rfl) rfl (?_))))
  refine GL.partD 21 rfl (fun h5 => ?_) (fun h5 => ?_)
  · exfalso; rw [e3] at h5; omega
  · refine GL.vg rfl rfl (.move rfl) rfl (GL.vg rfl rfl (.shr rfl rfl (by omega) rfl) rfl (GL.vg rfl rfl (.gtr rfl rfl) rfl (GL.vg rfl rfl (.pickF rfl rfl) rfl (GL.v (.pickT rfl rfl) rfl (GL.nil (GN.seq (?_)))))))
    refine GC.condD rfl (fun h6 => ?_) (fun h6 => ?_)
    · exfalso; rw [e3] at h6; omega
    · refine GC.skip (GN.seq (GC.seq (GC.region (GL.v (.move rfl) rfl (GL.v (.shr rfl rfl (by omega) rfl) rfl (GL.v (.and rfl rfl) rfl (GL.v (.convInt rfl rfl) rfl (GL.v (.move rfl) rfl (GL.v (.and rfl rfl) rfl (GL.v (.convInt rfl rfl) rfl (GL.v (.assign rfl) rfl (GL.v (.assign rfl) rfl (GL.nil (GN.seq (GC.ret (?_))))))))))))))))
      refine GR.two rfl rfl rfl rfl () ?_ (by repeat (first | exact Ent.nil _ | (with_reducible exact Ent.refl _) | refine Ent.blk (by repeat (first | exact Sub.nil _ | refine Sub.cons rfl ?_)) ?_ | refine Ent.cons _ ?_ | refine Ent.trans (Ent.tail _ _) ?_)) trivial
      rw [e3, e29, e7, i64_nat _ (by omega), i64_nat _ (by omega), h1, h2, Nat.mod_eq_of_lt (by omega)]
theorem tag_bad (g : Nat) (s : ByteArray) (at_ : Nat) (c : Int) (d : Int) (w : World) (hs : s.size ≤ mx) (ha : at_ ≤ s.size) (hv : tagM ((bs s).drop at_) = .error c) : Tri Tryz.prog 212 [ptr g] [RdO g s at_ d] (fun x : Nat × Nat => .tuple #[.int .i64 (x.1 : Int), .int .i64 (x.2 : Int)]) (fun _ => [RdE g s d c]) (fun x => x.2 < 8) w := by
  unfold tagM at hv
  split at hv
  · rename_i c' hm
    simp only [Except.error.injEq] at hv
    subst hv
    refine tri_of_G 38 Tryz.func212 rfl Tryz.ntmps212 rfl (fun D => ?_)
    refine GC.seq (GC.region (GL.v (.assign rfl) rfl (GL.v (.assign rfl) rfl (GL.nil (GN.seq (GC.seq (GC.region (GL.v (.move rfl) rfl (GL.v (.nilCheck rfl) rfl (GL.v (.fieldAddr rfl) rfl (GL.v (.ld 0 rfl rfl rfl) rfl (GL.v (.assign rfl) rfl (GL.nil (GN.seq (GC.seq (GC.region (GL.v (.move rfl) rfl (?_))))))))))))))))))
    refine GL.call (As := [_]) rfl (fun w hst => rvarint_err g s at_ c' d w hs ha hm) rfl (fun _ _ => ?_)
    refine GL.open ?_
    rintro ⟨at2, u, q⟩ ⟨h0, h1, h2, t, u', rfl⟩
    refine GL.v (.assign rfl) rfl (GL.nil (GN.seq (GC.seq (GC.seq (GC.region (GL.v (.move rfl) rfl (GL.v (.nilCheck rfl) rfl (GL.v (.fieldAddr rfl) rfl (GL.v (.ld 0 rfl rfl rfl) rfl (GL.v (.eqlNil rfl (by first | exact .inl rfl | exact .inr ⟨_, _, rfl⟩ | assumption)) rfl (GL.v (.move rfl) rfl (?_))))))))))))
    refine GL.part 17 rfl (fun h => by cases h) (fun h => ?_)
    refine GL.sg rfl rfl rfl rfl (GL.sg rfl rfl rfl rfl (GL.sg rfl rfl rfl rfl (GL.sg rfl rfl rfl rfl (GL.sgu rfl rfl rfl (GL.sgu rfl rfl rfl (GL.sgu rfl rfl rfl (GL.sg rfl rfl rfl rfl (GL.v (.pickF rfl rfl) rfl (GL.nil (GN.seq (GC.cond rfl (fun h => by first | (have := of_decide_eq_false h; contradiction) | (have := of_decide_eq_true h; contradiction) | (cases h; done)) (fun _ => ?_))))))))))))
    refine GC.skip (GN.seq (GC.seq (GC.region (GL.v (.move rfl) rfl (GL.v (.shr rfl rfl (by omega) rfl) rfl (GL.v (.and rfl rfl) rfl (GL.v (.convInt rfl rfl) rfl (GL.v (.move rfl) rfl (GL.v (.and rfl rfl) rfl (GL.v (.convInt rfl rfl) rfl (GL.v (.assign rfl) rfl (GL.v (.assign rfl) rfl (GL.nil (GN.seq (GC.ret (?_))))))))))))))))
    refine GR.two rfl rfl rfl rfl (0, 0) ?_ (Ent.close (Bs := RdE1 g s d c') (p := RdE2 s) (at2, .iface t u', q) ⟨h0, h1, h2, _, _, rfl⟩ []) ?_
    · rw [zero29, zero7]; rfl
    · show 0 < 8; omega
  · rename_i m k hm
    split at hv
    · rename_i hor
      simp only [Except.error.injEq] at hv
      subst hv
      have hm64 := (vget_ok hm).1
      have hkl := (vget_ok hm).2.2.1
      rw [List.length_drop, bs_length] at hkl
      have e3 := shr3 m
      have e7 := and7 m hm64
      have e29 := and29 (m / 8) (by omega)
      have hfin : ∀ {C : Ctx} {ρ : List (Nat × Value)} {Hs : List HP}, True := trivial
      refine tri_of_G 38 Tryz.func212 rfl Tryz.ntmps212 rfl (fun D => ?_)
      refine GC.seq (GC.region (GL.v (.assign rfl) rfl (GL.v (.assign rfl) rfl (GL.nil (GN.seq (GC.seq (GC.region (GL.v (.move rfl) rfl (GL.v (.nilCheck rfl) rfl (GL.v (.fieldAddr rfl) rfl (GL.v (.ld 0 rfl rfl rfl) rfl (GL.v (.assign rfl) rfl (GL.nil (GN.seq (GC.seq (GC.region (GL.v (.move rfl) rfl (?_))))))))))))))))))
      refine GL.call (As := [_]) rfl (fun w hst => rvarint_ok g s at_ m k d w hs ha hm) rfl (fun _ _ => ?_)
      refine GL.v (.assign rfl) rfl (GL.nil (GN.seq (GC.seq (GC.seq (GC.region (GL.v (.move rfl) rfl (GL.v (.nilCheck rfl) rfl (GL.v (.fieldAddr rfl) rfl (GL.v (.ld 0 rfl rfl rfl) rfl (GL.v (.eqlNil rfl (by first | exact .inl rfl | exact .inr ⟨_, _, rfl⟩ | assumption)) rfl (GL.v (.move rfl) rfl (?_))))))))))))
      refine GL.part 17 rfl (fun h => ?_) (fun h => by cases h)
      refine GL.vg rfl rfl (.move rfl) rfl (GL.vg rfl rfl (.shr rfl rfl (by omega) rfl) rfl (GL.vg rfl rfl (.lss rfl rfl) rfl (GL.vg rfl rfl (.move rfl) rfl (?_))))
      refine GL.partD 21 rfl (fun h5 => ?_) (fun h5 => ?_)
      · refine GL.sg rfl rfl rfl rfl (GL.sg rfl rfl rfl rfl (GL.sg rfl rfl rfl rfl (GL.vg rfl rfl (.pickT rfl rfl) rfl (GL.v (.pickT rfl rfl) rfl (GL.nil (GN.seq (GC.cond rfl (fun _ => ?_) (fun h => by first | (have := of_decide_eq_false h; contradiction) | (have := of_decide_eq_true h; contradiction) | (cases h; done)))))))))
        refine GC.region (GL.v (.move rfl) rfl (GL.v (.move rfl) rfl (GL.v (.makeInterface rfl) rfl (?_))))
        refine GL.call (As := [_]) rfl (fun w hst => failsO g s _ d 3 at_ w (by omega) (by omega) ha) rfl (fun _ _ => ?_)
        refine GL.nil (GN.seq (GC.seq (GC.region (GL.v (.move rfl) rfl (GL.v (.shr rfl rfl (by omega) rfl) rfl (GL.v (.and rfl rfl) rfl (GL.v (.convInt rfl rfl) rfl (GL.v (.move rfl) rfl (GL.v (.and rfl rfl) rfl (GL.v (.convInt rfl rfl) rfl (GL.v (.assign rfl) rfl (GL.v (.assign rfl) rfl (GL.nil (GN.seq (GC.ret (?_))))))))))))))))
        refine GR.two rfl rfl rfl rfl (m / 8 % 536870912, m % 8) ?_ (Ent.refl _) (Nat.mod_lt _ (by omega))
        rw [e3, e29, e7, i64_nat _ (by omega), i64_nat _ (by omega)]
      · refine GL.vg rfl rfl (.move rfl) rfl (GL.vg rfl rfl (.shr rfl rfl (by omega) rfl) rfl (GL.vg rfl rfl (.gtr rfl rfl) rfl (GL.vg rfl rfl (.pickF rfl rfl) rfl (GL.v (.pickT rfl rfl) rfl (GL.nil (GN.seq (?_)))))))
        refine GC.condD rfl (fun h6 => ?_) (fun h6 => ?_)
        · refine GC.region (GL.v (.move rfl) rfl (GL.v (.move rfl) rfl (GL.v (.makeInterface rfl) rfl (?_))))
          refine GL.call (As := [_]) rfl (fun w hst => failsO g s _ d 3 at_ w (by omega) (by omega) ha) rfl (fun _ _ => ?_)
          refine GL.nil (GN.seq (GC.seq (GC.region (GL.v (.move rfl) rfl (GL.v (.shr rfl rfl (by omega) rfl) rfl (GL.v (.and rfl rfl) rfl (GL.v (.convInt rfl rfl) rfl (GL.v (.move rfl) rfl (GL.v (.and rfl rfl) rfl (GL.v (.convInt rfl rfl) rfl (GL.v (.assign rfl) rfl (GL.v (.assign rfl) rfl (GL.nil (GN.seq (GC.ret (?_))))))))))))))))
          refine GR.two rfl rfl rfl rfl (m / 8 % 536870912, m % 8) ?_ (Ent.refl _) (Nat.mod_lt _ (by omega))
          rw [e3, e29, e7, i64_nat _ (by omega), i64_nat _ (by omega)]
        · exfalso; rw [e3] at h5 h6; omega
    · cases hv
theorem tagE (g : Nat) (s : ByteArray) (d c : Int) (w : World) : Tri Tryz.prog 212 [ptr g] [RdE g s d c] (fun _ : Unit => .tuple #[.int .i64 0, .int .i64 0]) (fun _ => [RdE g s d c]) (fun _ => True) w := by
  refine Tri.open ?_
  rintro ⟨at_, u, q⟩ ⟨h0, h1, h2, t, u', rfl⟩
  refine tri_of_G 38 Tryz.func212 rfl Tryz.ntmps212 rfl (fun D => ?_)
  refine GC.seq (GC.region (GL.v (.assign rfl) rfl (GL.v (.assign rfl) rfl (GL.nil (GN.seq (GC.seq (GC.region (GL.v (.move rfl) rfl (GL.v (.nilCheck rfl) rfl (GL.v (.fieldAddr rfl) rfl (GL.v (.ld 0 rfl rfl rfl) rfl (GL.v (.assign rfl) rfl (GL.nil (GN.seq (GC.seq (GC.region (GL.v (.move rfl) rfl (?_))))))))))))))))))
  refine GL.ent (Ent.close (Bs := RdE1 g s d c) (p := RdE2 s) (at_, .iface t u', q) ⟨h0, h1, h2, _, _, rfl⟩ []) ?_
  refine GL.call (As := [_]) rfl (fun w hst => rvarintE g s d c w) rfl (fun _ _ => ?_)
  refine GL.open ?_
  rintro ⟨at2, u, q⟩ ⟨h0, h1, h2, t, u', rfl⟩
  refine GL.v (.assign rfl) rfl (GL.nil (GN.seq (GC.seq (GC.seq (GC.region (GL.v (.move rfl) rfl (GL.v (.nilCheck rfl) rfl (GL.v (.fieldAddr rfl) rfl (GL.v (.ld 0 rfl rfl rfl) rfl (GL.v (.eqlNil rfl (by first | exact .inl rfl | exact .inr ⟨_, _, rfl⟩ | assumption)) rfl (GL.v (.move rfl) rfl (?_))))))))))))
  refine GL.part 17 rfl (fun h => by cases h) (fun h => ?_)
  refine GL.sg rfl rfl rfl rfl (GL.sg rfl rfl rfl rfl (GL.sg rfl rfl rfl rfl (GL.sg rfl rfl rfl rfl (GL.sgu rfl rfl rfl (GL.sgu rfl rfl rfl (GL.sgu rfl rfl rfl (GL.sg rfl rfl rfl rfl (GL.v (.pickF rfl rfl) rfl (GL.nil (GN.seq (GC.cond rfl (fun h => by first | (have := of_decide_eq_false h; contradiction) | (have := of_decide_eq_true h; contradiction) | (cases h; done)) (fun _ => ?_))))))))))))
  refine GC.skip (GN.seq (GC.seq (GC.region (GL.v (.move rfl) rfl (GL.v (.shr rfl rfl (by omega) rfl) rfl (GL.v (.and rfl rfl) rfl (GL.v (.convInt rfl rfl) rfl (GL.v (.move rfl) rfl (GL.v (.and rfl rfl) rfl (GL.v (.convInt rfl rfl) rfl (GL.v (.assign rfl) rfl (GL.v (.assign rfl) rfl (GL.nil (GN.seq (GC.ret (?_))))))))))))))))
  refine GR.two rfl rfl rfl rfl () ?_ (Ent.close (Bs := RdE1 g s d c) (p := RdE2 s) (at2, .iface t u', q) ⟨h0, h1, h2, _, _, rfl⟩ []) trivial
  rw [zero29, zero7]

end Go.Proofs.Gw
