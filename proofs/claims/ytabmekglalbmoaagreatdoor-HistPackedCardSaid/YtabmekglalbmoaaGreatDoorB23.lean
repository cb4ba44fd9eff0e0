/- Texts that a claim of this seat leans on: M7, HA, HB, HC. No statement is claimed in this text. -/
import Derived.Test.YtabmekglalbmoaaGreatDoorB22
import Derived.Test.YtabmekglalbmoaaGreatDoorB16
/- What may be and what is written: attributes, exemplars, points; how much there is. -/
set_option linter.unusedVariables false
namespace Go.Proofs.Gw
open Go Go.RowKit Go.Proofs.Gm

def nestV (l : List Val) (m : List Key) (inner : Bs) : Bool := decide (l.length = 0) && (decide (m.length = 0) && decide (inner = []))
def bareV : Val → Bool
  | .mk kind s b n l m inner unk =>
    if kind = 1 then textM s && (decide (n = 0) && (!b && nestV l m inner))
    else if kind = 7 then decide (n = 0) && (!b && nestV l m inner)
    else if kind = 2 then decide (s = []) && (decide (n = 0) && nestV l m inner)
    else if kind = 3 ∨ kind = 4 then decide (s = []) && (!b && nestV l m inner)
    else if kind = 0 then decide (s = []) && (decide (n = 0) && (!b && nestV l m inner))
    else if kind = 5 then decide (s = []) && (decide (n = 0) && (!b && decide (m.length = 0)))
    else if kind = 6 then decide (s = []) && (decide (n = 0) && (!b && decide (l.length = 0)))
    else false
mutual
def mayV : Val → Int → Bool
  | .mk kind s b n l m inner unk, d => decide (0 ≤ d) && (bareV (.mk kind s b n l m inner unk) && (mayR valT d unk && (decide (kind ≠ 5 ∧ kind ≠ 6) || (decide (1 ≤ d) && (mayR loneT (d - 1) inner && (mayLV l (d - 2) && mayLK m (d - 2)))))))
def mayLV : List Val → Int → Bool
  | [], _ => true
  | a :: l, d => mayV a d && mayLV l d
def mayK : Key → Int → Bool
  | .mk key has v unk, d => decide (0 ≤ d) && (textM key && (mayR keyT d unk && (if has then mayV v (d - 1) else sameV v val0)))
def mayLK : List Key → Int → Bool
  | [], _ => true
  | a :: l, d => mayK a d && mayLK l d
end
theorem mayLV_all (l : List Val) (d : Int) : mayLV l d = l.all (fun a => mayV a d) := by
  induction l with
  | nil => rw [mayLV]; rfl
  | cons a l ih => rw [mayLV, ih, List.all_cons]
theorem mayLK_all (l : List Key) (d : Int) : mayLK l d = l.all (fun a => mayK a d) := by
  induction l with
  | nil => rw [mayLK]; rfl
  | cons a l ih => rw [mayLK, ih, List.all_cons]
mutual
def valW : Val → Bs
  | .mk kind s b n l m inner unk =>
    (if kind = 1 ∨ kind = 7 then bytW kind.toNat s else if kind = 2 then varW 2 (if b then 1 else n) else if kind = 3 then varW 3 n else if kind = 4 then fixW 4 n
      else if kind = 5 then bytW 5 (lvW l ++ inner) else if kind = 6 then bytW 6 (lkW m ++ inner) else []) ++ unk
def lvW : List Val → Bs
  | [] => []
  | a :: l => bytW 1 (valW a) ++ lvW l
def keyW : Key → Bs
  | .mk key has v unk => textW 1 key ++ (if has then bytW 2 (valW v) else []) ++ unk
def lkW : List Key → Bs
  | [] => []
  | a :: l => bytW 1 (keyW a) ++ lkW l
end
def partsW (num : Nat) (l : List Bs) : Bs := l.flatMap (bytW num)
theorem lvW_parts (l : List Val) : lvW l = partsW 1 (l.map valW) := by
  induction l with
  | nil => rw [lvW]; rfl
  | cons a l ih => rw [lvW, ih]; rfl
theorem lkW_parts (l : List Key) : lkW l = partsW 1 (l.map keyW) := by
  induction l with
  | nil => rw [lkW]; rfl
  | cons a l ih => rw [lkW, ih]; rfl
mutual
def szV : Val → Nat
  | .mk _ s _ _ l m i u => 60 + s.length + i.length + u.length + szLV l + szLK m
def szLV : List Val → Nat
  | [] => 0
  | a :: l => szV a + szLV l
def szK : Key → Nat
  | .mk k _ v u => 40 + k.length + u.length + szV v
def szLK : List Key → Nat
  | [] => 0
  | a :: l => szK a + szLK l
end
theorem szLV_mem : ∀ {l : List Val} {a : Val}, a ∈ l → szV a ≤ szLV l
  | b :: l, a, h => by
    rw [szLV]
    rcases List.mem_cons.1 h with rfl | h
    · omega
    · have := szLV_mem h; omega
theorem szLK_mem : ∀ {l : List Key} {a : Key}, a ∈ l → szK a ≤ szLK l
  | b :: l, a, h => by
    rw [szLK]
    rcases List.mem_cons.1 h with rfl | h
    · omega
    · have := szLK_mem h; omega
theorem szV_pos (a : Val) : 60 ≤ szV a := by cases a; rw [szV]; omega
theorem szK_pos (a : Key) : 100 ≤ szK a := by obtain ⟨k, h, v, u⟩ := a; rw [szK]; have := szV_pos v; omega
theorem szLV_len : ∀ l : List Val, 60 * l.length ≤ szLV l
  | [] => by rw [szLV]; simp
  | a :: l => by rw [szLV, List.length_cons]; have := szV_pos a; have := szLV_len l; omega
theorem szLK_len : ∀ l : List Key, 100 * l.length ≤ szLK l
  | [] => by rw [szLK]; simp
  | a :: l => by rw [szLK, List.length_cons]; have := szK_pos a; have := szLK_len l; omega
theorem textW_len (num : Nat) (s : Bs) (h : s.length < 2 ^ 64) : (textW num s).length ≤ 20 + s.length := by
  unfold textW; split
  · simp
  · exact bytW_len num s h
theorem fixedW_len (num n : Nat) : (fixedW num n).length ≤ 18 := by
  unfold fixedW; split
  · exact fixW_len num n
  · simp
theorem optW_len (num : Nat) (o : OptN) : (optW num o).length ≤ 18 := by
  unfold optW; split
  · exact fixW_len num _
  · simp
theorem vW_len (num n : Nat) (h : n < 2 ^ 64) : (vW num n).length ≤ 20 := by
  unfold vW; split
  · exact varW_len num n h
  · simp
/- Numbers below 2 ^ 64. -/
mutual
def fitV : Val → Prop
  | .mk _ _ _ n l m _ _ => n < 2 ^ 64 ∧ fitLV l ∧ fitLK m
def fitLV : List Val → Prop
  | [] => True
  | a :: l => fitV a ∧ fitLV l
def fitK : Key → Prop
  | .mk _ _ v _ => fitV v
def fitLK : List Key → Prop
  | [] => True
  | a :: l => fitK a ∧ fitLK l
end
theorem fitLV_mem : ∀ {l : List Val} {a : Val}, fitLV l → a ∈ l → fitV a
  | b :: l, a, h, h2 => by
    rw [fitLV] at h
    rcases List.mem_cons.1 h2 with rfl | h2
    · exact h.1
    · exact fitLV_mem h.2 h2
theorem fitLK_mem : ∀ {l : List Key} {a : Key}, fitLK l → a ∈ l → fitK a
  | b :: l, a, h, h2 => by
    rw [fitLK] at h
    rcases List.mem_cons.1 h2 with rfl | h2
    · exact h.1
    · exact fitLK_mem h.2 h2
theorem fitV_bare {kind : Int} {s : Bs} {b : Bool} {n : Nat} {l : List Val} {m : List Key} {i u : Bs} (h : fitV (.mk kind s b n l m i u)) : n < 2 ^ 64 ∧ fitLV l ∧ fitLK m := by rw [fitV] at h; exact h
mutual
theorem valW_len : ∀ x : Val, fitV x → szV x ≤ 1000000000 → (valW x).length + 40 ≤ szV x
  | .mk kind s b n l m inner unk, hf, h => by
    rw [szV] at h ⊢
    obtain ⟨hf0, hf1, hf2⟩ := fitV_bare hf
    have h1 := lvW_len l hf1 (by omega)
    have h2 := lkW_len m hf2 (by omega)
    rw [valW, List.length_append]
    split
    · have := bytW_len kind.toNat s (by omega); omega
    split
    · have := varW_len 2 (if b then 1 else n) (by split <;> omega); omega
    split
    · have := varW_len 3 n hf0; omega
    split
    · have := fixW_len 4 n; omega
    split
    · have := bytW_len 5 (lvW l ++ inner) (by rw [List.length_append]; omega)
      rw [List.length_append] at this; omega
    split
    · have := bytW_len 6 (lkW m ++ inner) (by rw [List.length_append]; omega)
      rw [List.length_append] at this; omega
    · simp only [List.length_nil]; omega
theorem lvW_len : ∀ l : List Val, fitLV l → szLV l ≤ 1000000000 → (lvW l).length ≤ szLV l
  | [], _, _ => by rw [lvW]; simp
  | a :: l, hf, h => by
    rw [szLV] at h ⊢
    rw [fitLV] at hf
    have h1 := valW_len a hf.1 (by omega)
    have h2 := lvW_len l hf.2 (by omega)
    rw [lvW, List.length_append]
    have := bytW_len 1 (valW a) (by omega)
    omega
theorem keyW_len : ∀ x : Key, fitK x → szK x ≤ 1000000000 → (keyW x).length + 40 ≤ szK x
  | .mk key has v unk, hf, h => by
    rw [szK] at h ⊢
    rw [fitK] at hf
    have h1 := valW_len v hf (by omega)
    rw [keyW, List.length_append, List.length_append]
    have h2 := textW_len 1 key (by omega)
    have h3 : (if has then bytW 2 (valW v) else []).length ≤ 20 + (valW v).length := by
      split
      · exact bytW_len 2 (valW v) (by omega)
      · simp
    omega
theorem lkW_len : ∀ l : List Key, fitLK l → szLK l ≤ 1000000000 → (lkW l).length ≤ szLK l
  | [], _, _ => by rw [lkW]; simp
  | a :: l, hf, h => by
    rw [szLK] at h ⊢
    rw [fitLK] at hf
    have h1 := keyW_len a hf.1 (by omega)
    have h2 := lkW_len l hf.2 (by omega)
    rw [lkW, List.length_append]
    have := bytW_len 1 (keyW a) (by omega)
    omega
end
theorem partsW_snoc (num : Nat) (l : List Bs) (s : Bs) : partsW num (l ++ [s]) = partsW num l ++ bytW num s := by
  unfold partsW; rw [List.flatMap_append]; simp
def wOnly (b : Bool) (l : Bs) : Bs := if b then l else []
/-- An exemplar. -/
def mayNum (kind : Int) (n : Nat) : Bool := decide (0 ≤ kind) && (decide (kind ≤ 2) && (decide (0 < kind) || decide (n = 0)))
def mayX (x : Exem) (d : Int) : Bool := decide (0 ≤ d) && (mayNum x.kind x.n && (mayLK x.attrs (d - 1) && mayR exemT d x.unk))
def exemW (x : Exem) : Bs := fixedW 2 x.time ++ wOnly (decide (x.kind = 1)) (fixW 3 x.n) ++ textW 4 x.span ++ textW 5 x.trace ++ wOnly (decide (x.kind = 2)) (fixW 6 x.n) ++ partsW 7 (x.attrs.map keyW) ++ x.unk
def fitX (x : Exem) : Prop := x.time < 2 ^ 64 ∧ x.n < 2 ^ 64 ∧ fitLK x.attrs
def szX (x : Exem) : Nat := 60 + x.span.length + x.trace.length + x.unk.length + szLK x.attrs
def szLX (l : List Exem) : Nat := (l.map szX).sum
theorem szLX_mem {l : List Exem} {a : Exem} (h : a ∈ l) : szX a ≤ szLX l := by
  induction l with
  | nil => cases h
  | cons b l ih =>
    simp only [szLX, List.map_cons, List.sum_cons] at ih ⊢
    rcases List.mem_cons.1 h with rfl | h
    · omega
    · have := ih h; omega
theorem szLX_len (l : List Exem) : 60 * l.length ≤ szLX l := by
  induction l with
  | nil => simp [szLX]
  | cons b l ih =>
    simp only [szLX, List.map_cons, List.sum_cons, List.length_cons] at ih ⊢
    have : 60 ≤ szX b := by unfold szX; omega
    omega
theorem wOnly_len (b : Bool) (l : Bs) : (wOnly b l).length ≤ l.length := by unfold wOnly; split <;> simp
theorem partsK_len (num : Nat) : ∀ l : List Key, fitLK l → szLK l ≤ 1000000000 → (partsW num (l.map keyW)).length ≤ szLK l
  | [], _, _ => by simp [partsW]
  | a :: l, hf, h => by
    rw [szLK] at h ⊢
    rw [fitLK] at hf
    have h1 := keyW_len a hf.1 (by omega)
    have h2 := partsK_len num l hf.2 (by omega)
    simp only [partsW] at h2 ⊢
    rw [List.map_cons, List.flatMap_cons, List.length_append]
    have := bytW_len num (keyW a) (by omega)
    omega
theorem exemW_len (x : Exem) (hf : fitX x) (h : szX x ≤ 1000000000) : (exemW x).length ≤ szX x + 40 := by
  unfold szX at *
  obtain ⟨h1, h2, h3⟩ := hf
  have a1 := fixedW_len 2 x.time
  have a2 := wOnly_len (decide (x.kind = 1)) (fixW 3 x.n)
  have a3 := fixW_len 3 x.n
  have a4 := textW_len 4 x.span (by omega)
  have a5 := textW_len 5 x.trace (by omega)
  have a6 := wOnly_len (decide (x.kind = 2)) (fixW 6 x.n)
  have a7 := fixW_len 6 x.n
  have a8 := partsK_len 7 x.attrs h3 (by omega)
  unfold exemW
  simp only [List.length_append]
  omega
def mayLX (l : List Exem) (d : Int) : Bool := l.all fun a => mayX a d
def fitLX (l : List Exem) : Prop := ∀ a, a ∈ l → fitX a
theorem partsX_len (num : Nat) (l : List Exem) (hf : fitLX l) (h : szLX l ≤ 1000000000) : (partsW num (l.map exemW)).length ≤ 2 * szLX l := by
  induction l with
  | nil => simp [partsW]
  | cons a l ih =>
    simp only [szLX, List.map_cons, List.sum_cons] at ih h ⊢
    have h1 := exemW_len a (hf a List.mem_cons_self) (by omega)
    have h2 := ih (fun b hb => hf b (List.mem_cons_of_mem _ hb)) (by omega)
    have h3 : 60 ≤ szX a := by unfold szX; omega
    simp only [partsW] at h2 ⊢
    rw [List.flatMap_cons, List.length_append]
    have := bytW_len num (exemW a) (by omega)
    omega
/- Points. -/
def mayN (x : Num) (d : Int) : Bool := decide (0 ≤ d) && (mayNum x.kind x.n && (mayLX x.exs (d - 1) && (mayLK x.attrs (d - 1) && mayR numT d x.unk)))
def numW (x : Num) : Bs := fixedW 2 x.start ++ fixedW 3 x.time ++ wOnly (decide (x.kind = 1)) (fixW 4 x.n) ++ partsW 5 (x.exs.map exemW) ++ wOnly (decide (x.kind = 2)) (fixW 6 x.n) ++ partsW 7 (x.attrs.map keyW) ++ vW 8 x.flags ++ x.unk
def fitN (x : Num) : Prop := x.start < 2 ^ 64 ∧ x.time < 2 ^ 64 ∧ x.n < 2 ^ 64 ∧ x.flags < 2 ^ 32 ∧ fitLK x.attrs ∧ fitLX x.exs
def szN (x : Num) : Nat := 20 + x.unk.length + szLK x.attrs + szLX x.exs
def mayO (o : OptN) : Bool := o.has || decide (o.n = 0)
def mayH (x : His) (d : Int) : Bool := decide (0 ≤ d) && ((mayO x.sum && (mayO x.min && mayO x.max)) && (mayLX x.exs (d - 1) && (mayLK x.attrs (d - 1) && mayR hisT d x.unk)))
def hisW (x : His) : Bs := fixedW 2 x.start ++ fixedW 3 x.time ++ fixedW 4 x.count ++ optW 5 x.sum ++ fixsW 6 x.counts ++ fixsW 7 x.bounds ++ partsW 8 (x.exs.map exemW) ++ partsW 9 (x.attrs.map keyW) ++ vW 10 x.flags ++ optW 11 x.min ++ optW 12 x.max ++ x.unk
def fitO (o : OptN) : Prop := o.n < 2 ^ 64
def fitH (x : His) : Prop := x.start < 2 ^ 64 ∧ x.time < 2 ^ 64 ∧ x.count < 2 ^ 64 ∧ fitO x.sum ∧ fitO x.min ∧ fitO x.max ∧ (∀ n, n ∈ x.counts → n < 2 ^ 64) ∧ (∀ n, n ∈ x.bounds → n < 2 ^ 64) ∧ x.flags < 2 ^ 32 ∧ fitLK x.attrs ∧ fitLX x.exs
def szH (x : His) : Nat := 60 + x.unk.length + 8 * x.counts.length + 8 * x.bounds.length + szLK x.attrs + szLX x.exs
theorem fixsW_len (num : Nat) (l : List Nat) (h : l.length ≤ 1000000000) : (fixsW num l).length ≤ 20 + 8 * l.length := by
  unfold fixsW
  have h1 := flat_leM_len l
  have := textW_len num (l.flatMap (leM 8)) (by omega)
  omega
theorem numW_len (x : Num) (hf : fitN x) (h : szN x ≤ 1000000000) : (numW x).length ≤ 2 * szN x + 100 := by
  unfold szN at *
  obtain ⟨h1, h2, h3, h4, h5, h6⟩ := hf
  have a1 := fixedW_len 2 x.start
  have a1' := fixedW_len 3 x.time
  have a2 := wOnly_len (decide (x.kind = 1)) (fixW 4 x.n)
  have a3 := fixW_len 4 x.n
  have a4 := partsX_len 5 x.exs h6 (by omega)
  have a6 := wOnly_len (decide (x.kind = 2)) (fixW 6 x.n)
  have a7 := fixW_len 6 x.n
  have a8 := partsK_len 7 x.attrs h5 (by omega)
  have a9 := vW_len 8 x.flags (by omega)
  unfold numW
  simp only [List.length_append]
  omega
theorem hisW_len (x : His) (hf : fitH x) (h : szH x ≤ 1000000000) : (hisW x).length ≤ 2 * szH x + 100 := by
  unfold szH at *
  obtain ⟨h1, h2, h3, h4, h5, h6, h7, h8, h9, h10, h11⟩ := hf
  have a1 := fixedW_len 2 x.start
  have a2 := fixedW_len 3 x.time
  have a3 := fixedW_len 4 x.count
  have a4 := partsX_len 8 x.exs h11 (by omega)
  have a5 := optW_len 5 x.sum
  have a6 := optW_len 11 x.min
  have a7 := optW_len 12 x.max
  have a8 := partsK_len 9 x.attrs h10 (by omega)
  have a9 := vW_len 10 x.flags (by omega)
  have a10 := fixsW_len 6 x.counts (by omega)
  have a11 := fixsW_len 7 x.bounds (by omega)
  unfold hisW
  simp only [List.length_append]
  omega
end Go.Proofs.Gw
/- May an attribute be: the walk. -/
set_option linter.unusedVariables false
set_option linter.unusedSimpArgs false
namespace Go.Proofs.Gw
open Go Go.RowKit Go.IntWalk Go.Proofs.Gm

abbrev valS (kind : Int) (s : Bs) (b : Bool) (n : Nat) (A : Option Addr) (ll c : Nat) (A' : Option Addr) (lm c' : Nat) (inner unk : Bs) : Value := .agg #[.int .i64 kind, .string (mkS s), .bool b, .int .u64 (n : Int), .slice A ll c, .slice A' lm c', .string (mkS inner), .string (mkS unk)]
theorem nested_tri (kind : Int) (s : Bs) (b : Bool) (n : Nat) (A A' : Option Addr) (ll c lm c' : Nat) (inner unk : Bs) (w : World) (h1 : ll ≤ 9223372036854775807) (h2 : lm ≤ 9223372036854775807) :
    Tri Tryz.prog 242 [valS kind s b n A ll c A' lm c' inner unk] [] (fun _ : Unit => .bool (decide (ll = 0) && (decide (lm = 0) && decide (inner = [])))) (fun _ => []) (fun _ => True) w := by
  refine tri_of_G0 18 Tryz.func242 rfl Tryz.ntmps242 rfl ?_
  refine GC.seq (GC.region (GL.w (.box rfl rfl) rfl (fun b1 _ => GL.v (.assign rfl) rfl (GL.nil (GN.seq (GC.seq (GC.region (GL.v (.fieldAddr rfl) rfl (GL.v (.ld 0 rfl rfl rfl) rfl (GL.v (.lenSl rfl) rfl (GL.v (.eql rfl rfl) rfl (GL.v (.move rfl) rfl (?_)))))))))))))
  refine GL.partD 7 rfl (fun g1 => ?_) (fun g1 => ?_)
  · refine GL.vg rfl rfl (.fieldAddr rfl) rfl (GL.vg rfl rfl (.ld 0 rfl rfl rfl) rfl (GL.vg rfl rfl (.lenSl rfl) rfl (GL.vg rfl rfl (.eql rfl rfl) rfl (GL.v (.pickT rfl rfl) rfl (GL.v (.move rfl) rfl (?_))))))
    refine GL.partD 13 rfl (fun g2 => ?_) (fun g2 => ?_)
    · refine GL.vg rfl rfl (.fieldAddr rfl) rfl (GL.vg rfl rfl (.ld 0 rfl rfl rfl) rfl (GL.vg rfl rfl (.eqlS rfl rfl) rfl (GL.v (.pickT rfl rfl) rfl (GL.v (.assign rfl) rfl (GL.nil (GN.seq (GC.ret (?_))))))))
      refine GR.one rfl rfl rfl () (congrArg Value.bool ?_) (Ent.nil _) trivial
      have e1 : ll = 0 := by omega
      have e2 : lm = 0 := by omega
      rw [decide_eq_true e1, decide_eq_true e2, Bool.true_and, Bool.true_and]
      exact decide_eq_decide.2 ⟨fun h => mkS_nil h, fun h => by rw [h]; rfl⟩
    · refine GL.sg rfl rfl rfl rfl (GL.sg rfl rfl rfl rfl (GL.sg rfl rfl rfl rfl (GL.v (.pickF rfl rfl) rfl (GL.v (.assign rfl) rfl (GL.nil (GN.seq (GC.ret (?_))))))))
      exact GR.one rfl rfl rfl () (congrArg Value.bool (by rw [decide_eq_false (p := lm = 0) (by omega), Bool.false_and, Bool.and_false])) (Ent.nil _) trivial
  · refine GL.sg rfl rfl rfl rfl (GL.sg rfl rfl rfl rfl (GL.sg rfl rfl rfl rfl (GL.sg rfl rfl rfl rfl (GL.v (.pickF rfl rfl) rfl (GL.v (.move rfl) rfl (GL.sg rfl rfl rfl rfl (GL.sg rfl rfl rfl rfl (GL.sg rfl rfl rfl rfl (GL.v (.pickF rfl rfl) rfl (GL.v (.assign rfl) rfl (GL.nil (GN.seq (GC.ret (?_))))))))))))))
    exact GR.one rfl rfl rfl () (congrArg Value.bool (by rw [decide_eq_false (p := ll = 0) (by omega), Bool.false_and])) (Ent.nil _) trivial
theorem plain_tri (kind : Int) (s : Bs) (b : Bool) (n : Nat) (A A' : Option Addr) (ll c lm c' : Nat) (inner unk : Bs) (w : World) (h1 : ll ≤ 9223372036854775807) (h2 : lm ≤ 9223372036854775807) :
    Tri Tryz.prog 241 [valS kind s b n A ll c A' lm c' inner unk] [] (fun _ : Unit => .bool (decide (n = 0) && (!b && (decide (ll = 0) && (decide (lm = 0) && decide (inner = [])))))) (fun _ => []) (fun _ => True) w := by
  refine tri_of_G0 15 Tryz.func241 rfl Tryz.ntmps241 rfl ?_
  refine GC.seq (GC.region (GL.w (.box rfl rfl) rfl (fun b1 _ => GL.v (.assign rfl) rfl (GL.nil (GN.seq (GC.seq (GC.region (GL.v (.fieldAddr rfl) rfl (GL.v (.ld 0 rfl rfl rfl) rfl (GL.v (.eql rfl rfl) rfl (GL.v (.move rfl) rfl (?_))))))))))))
  refine GL.partD 6 rfl (fun g1 => ?_) (fun g1 => ?_)
  · refine GL.vg rfl rfl (.fieldAddr rfl) rfl (GL.vg rfl rfl (.ld 0 rfl rfl rfl) rfl (GL.vg rfl rfl (.not rfl) rfl (GL.v (.pickT rfl rfl) rfl (GL.v (.move rfl) rfl (?_)))))
    refine GL.part 11 rfl (fun g2 => ?_) (fun g2 => ?_)
    · refine GL.vg rfl rfl (.ldN 0 [_, _, _, _, _, _, _, _] rfl rfl rfl ⟨rfl, rfl, rfl, rfl, rfl, rfl, rfl, rfl, trivial⟩) rfl (GL.gd rfl rfl (?_))
      refine GL.call (As := []) rfl (fun w hst => nested_tri kind s b n A A' ll c lm c' inner unk w h1 h2) rfl (fun _ _ => ?_)
      refine GL.v (.pickT rfl rfl) rfl (GL.v (.assign rfl) rfl (GL.nil (GN.seq (GC.ret (?_)))))
      exact GR.one rfl rfl rfl () (congrArg Value.bool (by rw [decide_eq_true (p := n = 0) (by omega), Bool.true_and, show b = false from by simpa using g2]; rfl)) (Ent.nil _) trivial
    · refine GL.sg rfl rfl rfl rfl (GL.sg rfl rfl rfl rfl (GL.v (.pickF rfl rfl) rfl (GL.v (.assign rfl) rfl (GL.nil (GN.seq (GC.ret (?_)))))))
      exact GR.one rfl rfl rfl () (congrArg Value.bool (by rw [show b = true from by simpa using g2]; simp)) (Ent.nil _) trivial
  · refine GL.sg rfl rfl rfl rfl (GL.sg rfl rfl rfl rfl (GL.sg rfl rfl rfl rfl (GL.v (.pickF rfl rfl) rfl (GL.v (.move rfl) rfl (GL.sg rfl rfl rfl rfl (GL.sg rfl rfl rfl rfl (GL.v (.pickF rfl rfl) rfl (GL.v (.assign rfl) rfl (GL.nil (GN.seq (GC.ret (?_))))))))))))
    exact GR.one rfl rfl rfl () (congrArg Value.bool (by rw [decide_eq_false (p := n = 0) (by omega), Bool.false_and])) (Ent.nil _) trivial
theorem decE (a : Nat) : decide ((a : Int) = 0) = decide (a = 0) := decide_eq_decide.2 (by omega)
theorem emp_iff (s : Bs) : (mkS s = ⟨#[]⟩) = (s = []) := propext ⟨mkS_nil, fun h => by rw [h]; rfl⟩
theorem bare_tri (kind : Int) (s : Bs) (b : Bool) (n : Nat) (l : List Val) (m : List Key) (A A' : Option Addr) (c c' : Nat) (inner unk : Bs) (w : World) (h1 : l.length ≤ 9223372036854775807) (h2 : m.length ≤ 9223372036854775807) (hs : s.length ≤ 1000000000) :
    Tri Tryz.prog 230 [valS kind s b n A l.length c A' m.length c' inner unk] [] (fun _ : Unit => .bool (bareV (.mk kind s b n l m inner unk))) (fun _ => []) (fun _ => True) w := by
  refine tri_of_G0 108 Tryz.func230 rfl Tryz.ntmps230 rfl ?_
  refine GC.seq (GC.region (GL.w (.box rfl rfl) rfl (fun b1 _ => GL.v (.assign rfl) rfl (GL.nil (GN.seq (GC.seq (GC.seq (GC.region (GL.v (.fieldAddr rfl) rfl (GL.v (.ld 0 rfl rfl rfl) rfl (GL.nil (GN.seq (GC.block (GC.seq (GC.region (GL.v (.eql rfl rfl) rfl (GL.v (.assign rfl) rfl (GL.nil (GN.seq (?_))))))))))))))))))))
  refine GC.condD rfl (fun k1 => ?_) (fun k1 => ?_)
  · subst k1
    refine GC.seq (GC.region (GL.v (.fieldAddr rfl) rfl (GL.v (.ld 0 rfl rfl rfl) rfl (?_))))
    refine GL.call (As := []) rfl (fun w hst => Valid_tri (mkS s) w (by rw [mkS_size]; unfold mx; omega)) rfl (fun _ _ => ?_)
    rw [bs_mkS]
    refine GL.v (.move rfl) rfl (?_)
    refine GL.part 10 rfl (fun t1 => ?_) (fun t1 => ?_)
    · refine GL.vg rfl rfl (.ldN 0 [_, _, _, _, _, _, _, _] rfl rfl rfl ⟨rfl, rfl, rfl, rfl, rfl, rfl, rfl, rfl, trivial⟩) rfl (GL.gd rfl rfl (?_))
      refine GL.call (As := []) rfl (fun w hst => plain_tri 1 s b n A A' l.length c m.length c' inner unk w h1 h2) rfl (fun _ _ => ?_)
      refine GL.v (.pickT rfl rfl) rfl (GL.v (.assign rfl) rfl (GL.nil (GN.seq (GC.ret (?_)))))
      exact GR.one rfl rfl rfl () (congrArg Value.bool (by simp [bareV, nestV, t1])) (Ent.nil _) trivial
    · refine GL.sg rfl rfl rfl rfl (GL.sg rfl rfl rfl rfl (GL.v (.pickF rfl rfl) rfl (GL.v (.assign rfl) rfl (GL.nil (GN.seq (GC.ret (?_)))))))
      exact GR.one rfl rfl rfl () (congrArg Value.bool (by simp [bareV, nestV, t1])) (Ent.nil _) trivial
  · refine GC.seq (GC.region (GL.v (.eql rfl rfl) rfl (GL.v (.assign rfl) rfl (GL.nil (GN.seq (?_))))))
    refine GC.condD rfl (fun k7 => ?_) (fun k7 => ?_)
    · subst k7
      refine GC.seq (GC.region (GL.v (.ldN 0 [_, _, _, _, _, _, _, _] rfl rfl rfl ⟨rfl, rfl, rfl, rfl, rfl, rfl, rfl, rfl, trivial⟩) rfl (?_)))
      refine GL.call (As := []) rfl (fun w hst => plain_tri 7 s b n A A' l.length c m.length c' inner unk w h1 h2) rfl (fun _ _ => ?_)
      refine GL.v (.assign rfl) rfl (GL.nil (GN.seq (GC.ret (?_))))
      exact GR.one rfl rfl rfl () (congrArg Value.bool (by simp [bareV, nestV])) (Ent.nil _) trivial
    · refine GC.seq (GC.region (GL.v (.eql rfl rfl) rfl (GL.v (.assign rfl) rfl (GL.nil (GN.seq (?_))))))
      refine GC.condD rfl (fun k2 => ?_) (fun k2 => ?_)
      · subst k2
        refine GC.seq (GC.region (GL.v (.fieldAddr rfl) rfl (GL.v (.ld 0 rfl rfl rfl) rfl (GL.v (.eqlS rfl rfl) rfl (GL.v (.move rfl) rfl (?_))))))
        refine GL.partD 23 rfl (fun t1 => ?_) (fun t1 => ?_)
        · refine GL.vg rfl rfl (.fieldAddr rfl) rfl (GL.vg rfl rfl (.ld 0 rfl rfl rfl) rfl (GL.vg rfl rfl (.eql rfl rfl) rfl (GL.v (.pickT rfl rfl) rfl (GL.v (.move rfl) rfl (?_)))))
          refine GL.partD 28 rfl (fun t2 => ?_) (fun t2 => ?_)
          · refine GL.vg rfl rfl (.ldN 0 [_, _, _, _, _, _, _, _] rfl rfl rfl ⟨rfl, rfl, rfl, rfl, rfl, rfl, rfl, rfl, trivial⟩) rfl (GL.gd rfl rfl (?_))
            refine GL.call (As := []) rfl (fun w hst => nested_tri 2 s b n A A' l.length c m.length c' inner unk w h1 h2) rfl (fun _ _ => ?_)
            refine GL.v (.pickT rfl rfl) rfl (GL.v (.assign rfl) rfl (GL.nil (GN.seq (GC.ret (?_)))))
            simp only [emp_iff] at t1
            exact GR.one rfl rfl rfl () (congrArg Value.bool (by simp [bareV, nestV, t1, (show n = 0 by omega)])) (Ent.nil _) trivial
          · refine GL.sg rfl rfl rfl rfl (GL.sg rfl rfl rfl rfl (GL.v (.pickF rfl rfl) rfl (GL.v (.assign rfl) rfl (GL.nil (GN.seq (GC.ret (?_)))))))
            exact GR.one rfl rfl rfl () (congrArg Value.bool (by simp [bareV, nestV, (show n ≠ 0 by omega)])) (Ent.nil _) trivial
        · refine GL.sg rfl rfl rfl rfl (GL.sg rfl rfl rfl rfl (GL.sg rfl rfl rfl rfl (GL.v (.pickF rfl rfl) rfl (GL.v (.move rfl) rfl (GL.sg rfl rfl rfl rfl (GL.sg rfl rfl rfl rfl (GL.v (.pickF rfl rfl) rfl (GL.v (.assign rfl) rfl (GL.nil (GN.seq (GC.ret (?_))))))))))))
          simp only [emp_iff] at t1
          exact GR.one rfl rfl rfl () (congrArg Value.bool (by simp [bareV, nestV, t1])) (Ent.nil _) trivial
      · refine GC.seq (GC.seq (GC.region (GL.v (.eql rfl rfl) rfl (GL.v (.assign rfl) rfl (GL.nil (GN.seq (?_)))))))
        refine GC.condD rfl (fun k3 => ?_) (fun k3 => ?_)
        · subst k3
          refine GC.skip (GN.seq (GC.cond rfl (fun _ => ?_) (fun h => by first | (have := of_decide_eq_false h; contradiction) | (have := of_decide_eq_true h; contradiction) | (cases h; done))))
          refine GC.seq (GC.region (GL.v (.fieldAddr rfl) rfl (GL.v (.ld 0 rfl rfl rfl) rfl (GL.v (.eqlS rfl rfl) rfl (GL.v (.move rfl) rfl (?_))))))
          refine GL.partD 38 rfl (fun t1 => ?_) (fun t1 => ?_)
          · refine GL.vg rfl rfl (.fieldAddr rfl) rfl (GL.vg rfl rfl (.ld 0 rfl rfl rfl) rfl (GL.vg rfl rfl (.not rfl) rfl (GL.v (.pickT rfl rfl) rfl (GL.v (.move rfl) rfl (?_)))))
            simp only [emp_iff] at t1
            refine GL.part 43 rfl (fun t2 => ?_) (fun t2 => ?_)
            · refine GL.vg rfl rfl (.ldN 0 [_, _, _, _, _, _, _, _] rfl rfl rfl ⟨rfl, rfl, rfl, rfl, rfl, rfl, rfl, rfl, trivial⟩) rfl (GL.gd rfl rfl (?_))
              refine GL.call (As := []) rfl (fun w hst => nested_tri 3 s b n A A' l.length c m.length c' inner unk w h1 h2) rfl (fun _ _ => ?_)
              refine GL.v (.pickT rfl rfl) rfl (GL.v (.assign rfl) rfl (GL.nil (GN.seq (GC.ret (?_)))))
              exact GR.one rfl rfl rfl () (congrArg Value.bool (by simp [bareV, nestV, t1, (show b = false from by simpa using t2)])) (Ent.nil _) trivial
            · refine GL.sg rfl rfl rfl rfl (GL.sg rfl rfl rfl rfl (GL.v (.pickF rfl rfl) rfl (GL.v (.assign rfl) rfl (GL.nil (GN.seq (GC.ret (?_)))))))
              exact GR.one rfl rfl rfl () (congrArg Value.bool (by simp [bareV, nestV, (show b = true from by simpa using t2)])) (Ent.nil _) trivial
          · refine GL.sg rfl rfl rfl rfl (GL.sg rfl rfl rfl rfl (GL.sg rfl rfl rfl rfl (GL.v (.pickF rfl rfl) rfl (GL.v (.move rfl) rfl (GL.sg rfl rfl rfl rfl (GL.sg rfl rfl rfl rfl (GL.v (.pickF rfl rfl) rfl (GL.v (.assign rfl) rfl (GL.nil (GN.seq (GC.ret (?_))))))))))))
            simp only [emp_iff] at t1
            exact GR.one rfl rfl rfl () (congrArg Value.bool (by simp [bareV, nestV, t1])) (Ent.nil _) trivial
        · refine GC.region (GL.v (.eql rfl rfl) rfl (GL.v (.assign rfl) rfl (GL.nil (GN.seq (?_)))))
          refine GC.condD rfl (fun k4 => ?_) (fun k4 => ?_)
          · subst k4
            refine GC.seq (GC.region (GL.v (.fieldAddr rfl) rfl (GL.v (.ld 0 rfl rfl rfl) rfl (GL.v (.eqlS rfl rfl) rfl (GL.v (.move rfl) rfl (?_))))))
            refine GL.partD 38 rfl (fun t1 => ?_) (fun t1 => ?_)
            · refine GL.vg rfl rfl (.fieldAddr rfl) rfl (GL.vg rfl rfl (.ld 0 rfl rfl rfl) rfl (GL.vg rfl rfl (.not rfl) rfl (GL.v (.pickT rfl rfl) rfl (GL.v (.move rfl) rfl (?_)))))
              simp only [emp_iff] at t1
              refine GL.part 43 rfl (fun t2 => ?_) (fun t2 => ?_)
              · refine GL.vg rfl rfl (.ldN 0 [_, _, _, _, _, _, _, _] rfl rfl rfl ⟨rfl, rfl, rfl, rfl, rfl, rfl, rfl, rfl, trivial⟩) rfl (GL.gd rfl rfl (?_))
                refine GL.call (As := []) rfl (fun w hst => nested_tri 4 s b n A A' l.length c m.length c' inner unk w h1 h2) rfl (fun _ _ => ?_)
                refine GL.v (.pickT rfl rfl) rfl (GL.v (.assign rfl) rfl (GL.nil (GN.seq (GC.ret (?_)))))
                exact GR.one rfl rfl rfl () (congrArg Value.bool (by simp [bareV, nestV, t1, (show b = false from by simpa using t2)])) (Ent.nil _) trivial
              · refine GL.sg rfl rfl rfl rfl (GL.sg rfl rfl rfl rfl (GL.v (.pickF rfl rfl) rfl (GL.v (.assign rfl) rfl (GL.nil (GN.seq (GC.ret (?_)))))))
                exact GR.one rfl rfl rfl () (congrArg Value.bool (by simp [bareV, nestV, (show b = true from by simpa using t2)])) (Ent.nil _) trivial
            · refine GL.sg rfl rfl rfl rfl (GL.sg rfl rfl rfl rfl (GL.sg rfl rfl rfl rfl (GL.v (.pickF rfl rfl) rfl (GL.v (.move rfl) rfl (GL.sg rfl rfl rfl rfl (GL.sg rfl rfl rfl rfl (GL.v (.pickF rfl rfl) rfl (GL.v (.assign rfl) rfl (GL.nil (GN.seq (GC.ret (?_))))))))))))
              simp only [emp_iff] at t1
              exact GR.one rfl rfl rfl () (congrArg Value.bool (by simp [bareV, nestV, t1])) (Ent.nil _) trivial
          · refine GC.seq (GC.region (GL.v (.eql rfl rfl) rfl (GL.v (.assign rfl) rfl (GL.nil (GN.seq (?_))))))
            refine GC.condD rfl (fun k0 => ?_) (fun k0 => ?_)
            · subst k0
              refine GC.seq (GC.region (GL.v (.fieldAddr rfl) rfl (GL.v (.ld 0 rfl rfl rfl) rfl (GL.v (.eqlS rfl rfl) rfl (GL.v (.move rfl) rfl (?_))))))
              refine GL.partD 52 rfl (fun t1 => ?_) (fun t1 => ?_)
              · refine GL.vg rfl rfl (.fieldAddr rfl) rfl (GL.vg rfl rfl (.ld 0 rfl rfl rfl) rfl (GL.vg rfl rfl (.eql rfl rfl) rfl (GL.v (.pickT rfl rfl) rfl (GL.v (.move rfl) rfl (?_)))))
                simp only [emp_iff] at t1
                refine GL.partD 57 rfl (fun t2 => ?_) (fun t2 => ?_)
                · refine GL.vg rfl rfl (.fieldAddr rfl) rfl (GL.vg rfl rfl (.ld 0 rfl rfl rfl) rfl (GL.vg rfl rfl (.not rfl) rfl (GL.v (.pickT rfl rfl) rfl (GL.v (.move rfl) rfl (?_)))))
                  refine GL.part 62 rfl (fun t3 => ?_) (fun t3 => ?_)
                  · refine GL.vg rfl rfl (.ldN 0 [_, _, _, _, _, _, _, _] rfl rfl rfl ⟨rfl, rfl, rfl, rfl, rfl, rfl, rfl, rfl, trivial⟩) rfl (GL.gd rfl rfl (?_))
                    refine GL.call (As := []) rfl (fun w hst => nested_tri 0 s b n A A' l.length c m.length c' inner unk w h1 h2) rfl (fun _ _ => ?_)
                    refine GL.v (.pickT rfl rfl) rfl (GL.v (.assign rfl) rfl (GL.nil (GN.seq (GC.ret (?_)))))
                    exact GR.one rfl rfl rfl () (congrArg Value.bool (by simp [bareV, nestV, t1, (show n = 0 by omega), (show b = false from by simpa using t3)])) (Ent.nil _) trivial
                  · refine GL.sg rfl rfl rfl rfl (GL.sg rfl rfl rfl rfl (GL.v (.pickF rfl rfl) rfl (GL.v (.assign rfl) rfl (GL.nil (GN.seq (GC.ret (?_)))))))
                    exact GR.one rfl rfl rfl () (congrArg Value.bool (by simp [bareV, nestV, (show b = true from by simpa using t3)])) (Ent.nil _) trivial
                · refine GL.sg rfl rfl rfl rfl (GL.sg rfl rfl rfl rfl (GL.sg rfl rfl rfl rfl (GL.v (.pickF rfl rfl) rfl (GL.v (.move rfl) rfl (GL.sg rfl rfl rfl rfl (GL.sg rfl rfl rfl rfl (GL.v (.pickF rfl rfl) rfl (GL.v (.assign rfl) rfl (GL.nil (GN.seq (GC.ret (?_))))))))))))
                  exact GR.one rfl rfl rfl () (congrArg Value.bool (by simp [bareV, nestV, (show n ≠ 0 by omega)])) (Ent.nil _) trivial
              · refine GL.sg rfl rfl rfl rfl (GL.sg rfl rfl rfl rfl (GL.sg rfl rfl rfl rfl (GL.v (.pickF rfl rfl) rfl (GL.v (.move rfl) rfl (GL.sg rfl rfl rfl rfl (GL.sg rfl rfl rfl rfl (GL.sg rfl rfl rfl rfl (GL.v (.pickF rfl rfl) rfl (GL.v (.move rfl) rfl (GL.sg rfl rfl rfl rfl (GL.sg rfl rfl rfl rfl (GL.v (.pickF rfl rfl) rfl (GL.v (.assign rfl) rfl (GL.nil (GN.seq (GC.ret (?_)))))))))))))))))
                simp only [emp_iff] at t1
                exact GR.one rfl rfl rfl () (congrArg Value.bool (by simp [bareV, nestV, t1])) (Ent.nil _) trivial
            · refine GC.seq (GC.region (GL.v (.eql rfl rfl) rfl (GL.v (.assign rfl) rfl (GL.nil (GN.seq (?_))))))
              refine GC.condD rfl (fun k5 => ?_) (fun k5 => ?_)
              · subst k5
                refine GC.seq (GC.region (GL.v (.fieldAddr rfl) rfl (GL.v (.ld 0 rfl rfl rfl) rfl (GL.v (.eqlS rfl rfl) rfl (GL.v (.move rfl) rfl (?_))))))
                refine GL.partD 71 rfl (fun t1 => ?_) (fun t1 => ?_)
                · refine GL.vg rfl rfl (.fieldAddr rfl) rfl (GL.vg rfl rfl (.ld 0 rfl rfl rfl) rfl (GL.vg rfl rfl (.eql rfl rfl) rfl (GL.v (.pickT rfl rfl) rfl (GL.v (.move rfl) rfl (?_)))))
                  simp only [emp_iff] at t1
                  refine GL.partD 76 rfl (fun t2 => ?_) (fun t2 => ?_)
                  · refine GL.vg rfl rfl (.fieldAddr rfl) rfl (GL.vg rfl rfl (.ld 0 rfl rfl rfl) rfl (GL.vg rfl rfl (.not rfl) rfl (GL.v (.pickT rfl rfl) rfl (GL.v (.move rfl) rfl (?_)))))
                    refine GL.part 81 rfl (fun t3 => ?_) (fun t3 => ?_)
                    · refine GL.vg rfl rfl (.fieldAddr rfl) rfl (GL.vg rfl rfl (.ld 0 rfl rfl rfl) rfl (GL.vg rfl rfl (.lenSl rfl) rfl (GL.vg rfl rfl (.eql rfl rfl) rfl (GL.v (.pickT rfl rfl) rfl (GL.v (.assign rfl) rfl (GL.nil (GN.seq (GC.ret (?_)))))))))
                      exact GR.one rfl rfl rfl () (congrArg Value.bool (by simp [bareV, nestV, t1, (show n = 0 by omega), (show b = false from by simpa using t3), decE])) (Ent.nil _) trivial
                    · refine GL.sg rfl rfl rfl rfl (GL.sg rfl rfl rfl rfl (GL.sg rfl rfl rfl rfl (GL.sg rfl rfl rfl rfl (GL.v (.pickF rfl rfl) rfl (GL.v (.assign rfl) rfl (GL.nil (GN.seq (GC.ret (?_)))))))))
                      exact GR.one rfl rfl rfl () (congrArg Value.bool (by simp [bareV, nestV, (show b = true from by simpa using t3)])) (Ent.nil _) trivial
                  · refine GL.sg rfl rfl rfl rfl (GL.sg rfl rfl rfl rfl (GL.sg rfl rfl rfl rfl (GL.v (.pickF rfl rfl) rfl (GL.v (.move rfl) rfl (GL.sg rfl rfl rfl rfl (GL.sg rfl rfl rfl rfl (GL.sg rfl rfl rfl rfl (GL.sg rfl rfl rfl rfl (GL.v (.pickF rfl rfl) rfl (GL.v (.assign rfl) rfl (GL.nil (GN.seq (GC.ret (?_))))))))))))))
                    exact GR.one rfl rfl rfl () (congrArg Value.bool (by simp [bareV, nestV, (show n ≠ 0 by omega)])) (Ent.nil _) trivial
                · refine GL.sg rfl rfl rfl rfl (GL.sg rfl rfl rfl rfl (GL.sg rfl rfl rfl rfl (GL.v (.pickF rfl rfl) rfl (GL.v (.move rfl) rfl (GL.sg rfl rfl rfl rfl (GL.sg rfl rfl rfl rfl (GL.sg rfl rfl rfl rfl (GL.v (.pickF rfl rfl) rfl (GL.v (.move rfl) rfl (GL.sg rfl rfl rfl rfl (GL.sg rfl rfl rfl rfl (GL.sg rfl rfl rfl rfl (GL.sg rfl rfl rfl rfl (GL.v (.pickF rfl rfl) rfl (GL.v (.assign rfl) rfl (GL.nil (GN.seq (GC.ret (?_)))))))))))))))))))
                  simp only [emp_iff] at t1
                  exact GR.one rfl rfl rfl () (congrArg Value.bool (by simp [bareV, nestV, t1])) (Ent.nil _) trivial
              · refine GC.seq (GC.region (GL.v (.eql rfl rfl) rfl (GL.v (.assign rfl) rfl (GL.nil (GN.seq (?_))))))
                refine GC.condD rfl (fun k6 => ?_) (fun k6 => ?_)
                · subst k6
                  refine GC.seq (GC.region (GL.v (.fieldAddr rfl) rfl (GL.v (.ld 0 rfl rfl rfl) rfl (GL.v (.eqlS rfl rfl) rfl (GL.v (.move rfl) rfl (?_))))))
                  refine GL.partD 92 rfl (fun t1 => ?_) (fun t1 => ?_)
                  · refine GL.vg rfl rfl (.fieldAddr rfl) rfl (GL.vg rfl rfl (.ld 0 rfl rfl rfl) rfl (GL.vg rfl rfl (.eql rfl rfl) rfl (GL.v (.pickT rfl rfl) rfl (GL.v (.move rfl) rfl (?_)))))
                    simp only [emp_iff] at t1
                    refine GL.partD 97 rfl (fun t2 => ?_) (fun t2 => ?_)
                    · refine GL.vg rfl rfl (.fieldAddr rfl) rfl (GL.vg rfl rfl (.ld 0 rfl rfl rfl) rfl (GL.vg rfl rfl (.not rfl) rfl (GL.v (.pickT rfl rfl) rfl (GL.v (.move rfl) rfl (?_)))))
                      refine GL.part 102 rfl (fun t3 => ?_) (fun t3 => ?_)
                      · refine GL.vg rfl rfl (.fieldAddr rfl) rfl (GL.vg rfl rfl (.ld 0 rfl rfl rfl) rfl (GL.vg rfl rfl (.lenSl rfl) rfl (GL.vg rfl rfl (.eql rfl rfl) rfl (GL.v (.pickT rfl rfl) rfl (GL.v (.assign rfl) rfl (GL.nil (GN.seq (GC.ret (?_)))))))))
                        exact GR.one rfl rfl rfl () (congrArg Value.bool (by simp [bareV, nestV, t1, (show n = 0 by omega), (show b = false from by simpa using t3), decE])) (Ent.nil _) trivial
                      · refine GL.sg rfl rfl rfl rfl (GL.sg rfl rfl rfl rfl (GL.sg rfl rfl rfl rfl (GL.sg rfl rfl rfl rfl (GL.v (.pickF rfl rfl) rfl (GL.v (.assign rfl) rfl (GL.nil (GN.seq (GC.ret (?_)))))))))
                        exact GR.one rfl rfl rfl () (congrArg Value.bool (by simp [bareV, nestV, (show b = true from by simpa using t3)])) (Ent.nil _) trivial
                    · refine GL.sg rfl rfl rfl rfl (GL.sg rfl rfl rfl rfl (GL.sg rfl rfl rfl rfl (GL.v (.pickF rfl rfl) rfl (GL.v (.move rfl) rfl (GL.sg rfl rfl rfl rfl (GL.sg rfl rfl rfl rfl (GL.sg rfl rfl rfl rfl (GL.sg rfl rfl rfl rfl (GL.v (.pickF rfl rfl) rfl (GL.v (.assign rfl) rfl (GL.nil (GN.seq (GC.ret (?_))))))))))))))
                      exact GR.one rfl rfl rfl () (congrArg Value.bool (by simp [bareV, nestV, (show n ≠ 0 by omega)])) (Ent.nil _) trivial
                  · refine GL.sg rfl rfl rfl rfl (GL.sg rfl rfl rfl rfl (GL.sg rfl rfl rfl rfl (GL.v (.pickF rfl rfl) rfl (GL.v (.move rfl) rfl (GL.sg rfl rfl rfl rfl (GL.sg rfl rfl rfl rfl (GL.sg rfl rfl rfl rfl (GL.v (.pickF rfl rfl) rfl (GL.v (.move rfl) rfl (GL.sg rfl rfl rfl rfl (GL.sg rfl rfl rfl rfl (GL.sg rfl rfl rfl rfl (GL.sg rfl rfl rfl rfl (GL.v (.pickF rfl rfl) rfl (GL.v (.assign rfl) rfl (GL.nil (GN.seq (GC.ret (?_)))))))))))))))))))
                    simp only [emp_iff] at t1
                    exact GR.one rfl rfl rfl () (congrArg Value.bool (by simp [bareV, nestV, t1])) (Ent.nil _) trivial
                · refine GC.skip (GN.blk (GN.seq (GC.seq (GC.region (GL.v (.assign rfl) rfl (GL.nil (GN.seq (GC.ret (?_)))))))))
                  exact GR.one rfl rfl rfl () (congrArg Value.bool (by simp [bareV, k1, k7, k2, k3, k4, k0, k5, k6])) (Ent.nil _) trivial
end Go.Proofs.Gw
/- May attributes be: all depths. -/
set_option linter.unusedVariables false
set_option linter.unusedSimpArgs false
namespace Go.Proofs.Gw
open Go Go.RowKit Go.IntWalk Go.Proofs.Gm

def MayC {α : Type} (f : Nat) (rep : α → List Value → FP) (may : α → Int → Bool) (a : α) : Prop :=
  ∀ (d : Int) (cs : List Value) (w : World), -9223372036854775808 ≤ d → d ≤ 9223372036854775807 → (rep a cs).holds (Old w) w → Tri Tryz.prog f [.agg cs.toArray, .int .i64 d] [] (fun _ : Unit => .bool (may a d)) (fun _ => []) (fun _ => True) w
theorem all_false {α : Type} {p : α → Bool} {l : List α} {a : α} (i : Nat) (h : l[i]? = some a) (h2 : p a = false) : l.all p = false := by
  rw [List.all_eq_false]
  exact ⟨a, List.mem_of_getElem? h, by simp [h2]⟩
theorem all_true {α : Type} {p : α → Bool} {l : List α} (h : ∀ (j : Nat) a, j < l.length → l[j]? = some a → p a = true) : l.all p = true := by
  rw [List.all_eq_true]
  intro a ha
  obtain ⟨j, hj⟩ := List.getElem?_of_mem ha
  exact h j a (List.getElem?_eq_some_iff.1 hj).1 hj
theorem MayKeys_tri (l : List Key) (v : Value) (d : Int) (w : World) (hd1 : -9223372036854775808 ≤ d) (hd2 : d ≤ 9223372036854775807) (hl : (listF keyF 11 l v).holds (Old w) w) (hc : ∀ a, a ∈ l → MayC 159 keyF mayK a) :
    Tri Tryz.prog 96 [v, .int .i64 d] [] (fun _ : Unit => .bool (mayLK l d)) (fun _ => []) (fun _ => True) w := by
  have hbl := list_len hl
  obtain ⟨A, c, rfl⟩ := listF.form hl
  rw [mayLK_all]
  refine tri_of_G0 18 Tryz.func96 rfl Tryz.ntmps96 rfl ?_
  refine GC.seq (GC.region (GL.v (.assign rfl) rfl (GL.nil (GN.seq (GC.seq (GC.seq (GC.region (GL.v (.move rfl) rfl (GL.v (.lenSl rfl) rfl (GL.v (.move rfl) rfl (GL.nil (GN.seq (GC.block (?_))))))))))))))
  refine GC.loop (γ := Nat) (fun i => i ≤ l.length ∧ ∀ (j : Nat) a, j < i → l[j]? = some a → mayK a d = true) (fun i => [(1, .int .i64 d), (7, .slice A l.length c), (8, .int .i64 (l.length : Int)), (9, .int .i64 (i : Int))]) (fun _ => []) (fun i => l.length - i) 0 ⟨Nat.zero_le _, fun j a h => absurd h (by omega)⟩ (Sub.cons rfl (Sub.cons rfl (Sub.cons rfl (Sub.cons rfl (Sub.nil _))))) (Ent.nil _) ?_
  rintro i ⟨hi, hall⟩
  refine GC.seq (GC.region (GL.v (.lss rfl rfl) rfl (GL.nil (GN.seq (GC.seq (?_))))))
  refine GC.condD rfl (fun hlt => ?_) (fun hlt => ?_)
  · have hil : i < l.length := by omega
    obtain ⟨a, ha⟩ : ∃ a, l[i]? = some a := ⟨_, List.getElem?_eq_getElem hil⟩
    obtain ⟨cs, g, off, c0, e1, hra, hca⟩ := list_at keyF_len hl ha
    simp only [Value.slice.injEq] at e1
    obtain ⟨rfl, _, rfl⟩ := e1
    have l1 := keyF_len _ _ _ _ hra
    have o1 := keyF_one _ _ _ _ hra
    refine GC.skip (GN.seq (GC.seq (GC.block (GC.seq (GC.region (GL.v (.indexAddr rfl rfl (by omega) (by omega)) rfl (?_)))))))
    refine GL.v (.ldON cs (fun _ h => h) hca rfl (by rw [l1]; rfl)) rfl ?_
    refine GL.w .alloc rfl (fun b6 _ => GL.w0 (.store 0 rfl rfl rfl rfl (by first | (rw [l1]; done) | (rw [l1]; rfl)) rfl (by exact o1)) (fun _ _ => GL.nil (GN.seq (GC.seq (GC.region (GL.v (.ldN 0 cs rfl rfl (by rw [l1]; rfl) (lkN_stU _ _ _)) rfl (GL.v (.move rfl) rfl (?_))))))))
    refine GL.call (As := []) rfl (fun w hst => hc a (List.mem_of_getElem? ha) d cs w hd1 hd2 (hst.keep (fun _ h => h) (keyF a cs) hra)) rfl (fun _ _ => ?_)
    refine GL.v (.not rfl) rfl (GL.nil (GN.seq (?_)))
    refine GC.cond rfl (fun hs => ?_) (fun hs => ?_)
    · refine GC.seq (GC.region (GL.v (.assign rfl) rfl (GL.nil (GN.seq (GC.ret (?_))))))
      exact GR.one rfl rfl rfl () (congrArg Value.bool (all_false (p := fun a => mayK a d) i ha (by simpa using hs)).symm) (Ent.nil _) trivial
    · refine GC.skip (GN.blk (GN.seq (GC.region (GL.v (.add rfl rfl (i64_in _ (by omega))) rfl (GL.v (.move rfl) rfl (GL.nil (?_)))))))
      refine GN.loop (i + 1) ⟨by omega, fun j a' hj h1 => ?_⟩ (by omega) (Sub.cons rfl (Sub.cons rfl (Sub.cons rfl (Sub.cons rfl (Sub.nil _))))) (Ent.nil _)
      rcases Nat.lt_or_ge j i with h | h
      · exact hall j a' h h1
      · have : j = i := by omega
        subst this
        rw [ha] at h1
        cases h1
        simpa using hs
  · refine GC.exit (GX.seq (GX.loop (GX.blk (GN.seq (GC.seq (GC.region (GL.v (.assign rfl) rfl (GL.nil (GN.seq (GC.ret (?_)))))))))))
    exact GR.one rfl rfl rfl () (congrArg Value.bool (all_true (p := fun a => mayK a d) (fun j a h1 h2 => hall j a (by omega) h2)).symm) (Ent.nil _) trivial
theorem val0_holds (ok : Nat → Prop) (w : World) : (valF val0 [.int .i64 0, .string ⟨#[]⟩, .bool false, .int .u64 0, .slice none 0 0, .slice none 0 0, .string ⟨#[]⟩, .string ⟨#[]⟩]).holds ok w :=
  VR.mk (n := 0) (l := []) (m := []) (cl := []) (cm := []) ⟨rfl, none, 0, rfl, fun h => absurd h (by simp)⟩ .nil ⟨rfl, none, 0, rfl, fun h => absurd h (by simp)⟩ .nil
theorem may_both : ∀ (n : Nat), (∀ x : Val, SizeOf.sizeOf x ≤ n → szV x ≤ 1000000000 → MayC 203 valF mayV x) ∧ (∀ k : Key, SizeOf.sizeOf k ≤ n → szK k ≤ 1000000000 → MayC 159 keyF mayK k) := by
  intro n
  induction n with
  | zero => exact ⟨fun x h => by cases x; simp at h, fun x h => by cases x; simp at h⟩
  | succ n ih =>
  constructor
  · rintro ⟨kind, s, b, n1, l, m, inner, unk⟩ hsz hz d cs w hd1 hd2 hx
    have hx : VR (Old w) w _ cs := hx
    cases hx with
    | @mk _ _ _ _ _ _ _ _ vl vm cl cm r1 q1 r2 q2 =>
    have hL : (listF valF 8 l vl).holds (Old w) w := ⟨_, r1, LV_allF q1⟩
    have hM : (listF keyF 11 m vm).holds (Old w) w := ⟨_, r2, LK_allF q2⟩
    simp only [Val.mk.sizeOf_spec] at hsz
    rw [szV] at hz
    clear r1 q1 r2 q2
    have hbl := list_len hL
    have hbm := list_len hM
    obtain ⟨A, c, rfl⟩ := listF.form hL
    obtain ⟨A', c', rfl⟩ := listF.form hM
    refine tri_of_G0 57 Tryz.func203 rfl Tryz.ntmps203 rfl ?_
    refine GC.seq (GC.region (GL.w (.box rfl rfl) rfl (fun b2 _ => GL.v (.assign rfl) rfl (GL.nil (GN.seq (GC.seq (GC.seq (GC.region (GL.v (.move rfl) rfl (GL.v (.lss rfl rfl) rfl (GL.v (.move rfl) rfl (?_))))))))))))
    refine GL.partD 9 rfl (fun g1 => ?_) (fun g1 => ?_)
    · refine GL.sg rfl rfl rfl rfl (GL.sg rfl rfl rfl rfl (GL.sg rfl rfl rfl rfl (GL.v (.pickT rfl rfl) rfl (GL.v (.move rfl) rfl (GL.sg rfl rfl rfl rfl (GL.sg rfl rfl rfl rfl (GL.sg rfl rfl rfl rfl (GL.sg rfl rfl rfl rfl (GL.sg rfl rfl rfl rfl (GL.v (.pickT rfl rfl) rfl (GL.nil (GN.seq (GC.cond rfl (fun _ => ?_) (fun h => by first | (have := of_decide_eq_false h; contradiction) | (have := of_decide_eq_true h; contradiction) | (cases h; done)))))))))))))))
      refine GC.seq (GC.region (GL.v (.assign rfl) rfl (GL.nil (GN.seq (GC.ret (?_))))))
      exact GR.one rfl rfl rfl () (congrArg Value.bool (by rw [mayV, decide_eq_false (p := 0 ≤ d) (by omega), Bool.false_and])) (Ent.nil _) trivial
    · refine GL.vg rfl rfl (.ldN 0 [_, _, _, _, _, _, _, _] rfl rfl rfl ⟨rfl, rfl, rfl, rfl, rfl, rfl, rfl, rfl, trivial⟩) rfl (GL.gd rfl rfl (?_))
      have hd0 : decide (0 ≤ d) = true := decide_eq_true (by omega)
      refine GL.call (As := []) rfl (fun w hst => bare_tri kind s b n1 l m A A' c c' inner unk w hbl hbm (by omega)) rfl (fun _ _ => ?_)
      refine GL.vg rfl rfl (.not rfl) rfl (GL.v (.pickF rfl rfl) rfl (GL.v (.move rfl) rfl (?_)))
      refine GL.part 14 rfl (fun g2 => ?_) (fun g2 => ?_)
      · refine GL.sg rfl rfl rfl rfl (GL.sg rfl rfl rfl rfl (GL.sg rfl rfl rfl rfl (GL.sg rfl rfl rfl rfl (GL.sg rfl rfl rfl rfl (GL.v (.pickT rfl rfl) rfl (GL.nil (GN.seq (GC.cond rfl (fun _ => ?_) (fun h => by first | (have := of_decide_eq_false h; contradiction) | (have := of_decide_eq_true h; contradiction) | (cases h; done))))))))))
        refine GC.seq (GC.region (GL.v (.assign rfl) rfl (GL.nil (GN.seq (GC.ret (?_))))))
        exact GR.one rfl rfl rfl () (congrArg Value.bool (by rw [mayV, (show bareV _ = false from by simpa using g2)]; simp)) (Ent.nil _) trivial
      · refine GL.vg rfl rfl (.fieldAddr rfl) rfl (GL.vg rfl rfl (.ld 0 rfl rfl rfl) rfl (GL.vg rfl rfl (.move rfl) rfl (GL.gd rfl rfl (?_))))
        have hb : bareV (.mk kind s b n1 l m inner unk) = true := by simpa using g2
        refine GL.call (As := []) rfl (fun w hst => Rest_tri (mkS unk) d 183 valT tbl_val w (by rw [mkS_size]; unfold mx; omega) hd1 hd2) rfl (fun _ _ => ?_)
        rw [bs_mkS]
        refine GL.vg rfl rfl (.not rfl) rfl (GL.v (.pickF rfl rfl) rfl (GL.nil (GN.seq (?_))))
        refine GC.cond rfl (fun g3 => ?_) (fun g3 => ?_)
        · refine GC.seq (GC.region (GL.v (.assign rfl) rfl (GL.nil (GN.seq (GC.ret (?_))))))
          exact GR.one rfl rfl rfl () (congrArg Value.bool (by rw [mayV, (show mayR valT d unk = false from by simpa using g3)]; simp)) (Ent.nil _) trivial
        · refine GC.skip (GN.seq (GC.seq (GC.seq (GC.region (GL.v (.fieldAddr rfl) rfl (GL.v (.ld 0 rfl rfl rfl) rfl (GL.v (.neq rfl rfl) rfl (GL.v (.move rfl) rfl (?_)))))))))
          have hr : mayR valT d unk = true := by simpa using g3
          have htop : ∀ x : Bool, (mayV (.mk kind s b n1 l m inner unk) d = x) = ((decide (kind ≠ 5 ∧ kind ≠ 6) || (decide (1 ≤ d) && (mayR loneT (d - 1) inner && (mayLV l (d - 2) && mayLK m (d - 2))))) = x) := fun x => by rw [mayV, hd0, hb, hr, Bool.true_and, Bool.true_and, Bool.true_and]
          refine GL.partD 24 rfl (fun g4 => ?_) (fun g4 => ?_)
          · refine GL.vg rfl rfl (.fieldAddr rfl) rfl (GL.vg rfl rfl (.ld 0 rfl rfl rfl) rfl (GL.vg rfl rfl (.neq rfl rfl) rfl (GL.v (.pickT rfl rfl) rfl (GL.nil (GN.seq (?_))))))
            refine GC.condD rfl (fun g5 => ?_) (fun g5 => ?_)
            · refine GC.seq (GC.region (GL.v (.assign rfl) rfl (GL.nil (GN.seq (GC.ret (?_))))))
              refine GR.one rfl rfl rfl () (congrArg Value.bool (Eq.symm ?_)) (Ent.nil _) trivial
              rw [htop, decide_eq_true (p := kind ≠ 5 ∧ kind ≠ 6) ⟨g4, g5⟩]; rfl
            · have k56 : decide (kind ≠ 5 ∧ kind ≠ 6) = false := decide_eq_false (by omega)
              simp only [k56, Bool.false_or] at htop
              refine GC.skip (GN.seq (GC.seq (GC.seq (GC.region (GL.v (.move rfl) rfl (GL.v (.lss rfl rfl) rfl (GL.v (.move rfl) rfl (?_))))))))
              refine GL.partD 31 rfl (fun t1 => ?_) (fun t1 => ?_)
              · refine GL.sg rfl rfl rfl rfl (GL.sg rfl rfl rfl rfl (GL.sg rfl rfl rfl rfl (GL.sg rfl rfl rfl rfl (GL.sg rfl rfl rfl rfl (GL.sg rfl rfl rfl rfl (GL.v (.pickT rfl rfl) rfl (GL.nil (GN.seq (GC.cond rfl (fun _ => ?_) (fun h => by first | (have := of_decide_eq_false h; contradiction) | (have := of_decide_eq_true h; contradiction) | (cases h; done)))))))))))
                refine GC.seq (GC.region (GL.v (.assign rfl) rfl (GL.nil (GN.seq (GC.ret (?_))))))
                refine GR.one rfl rfl rfl () (congrArg Value.bool (Eq.symm ?_)) (Ent.nil _) trivial
                rw [htop, decide_eq_false (p := 1 ≤ d) (by omega)]; rfl
              · refine GL.vg rfl rfl (.fieldAddr rfl) rfl (GL.vg rfl rfl (.ld 0 rfl rfl rfl) rfl (GL.vg rfl rfl (.move rfl) rfl (GL.vg rfl rfl (.sub rfl rfl (i64_in _ (by omega))) rfl (GL.gd rfl rfl (?_)))))
                rw [decide_eq_true (p := 1 ≤ d) (by omega)] at htop
                simp only [Bool.true_and] at htop
                refine GL.call (As := []) rfl (fun w hst => Rest_tri (mkS inner) (d - 1) 220 loneT tbl_lone w (by rw [mkS_size]; unfold mx; omega) (by omega) (by omega)) rfl (fun _ _ => ?_)
                rw [bs_mkS]
                refine GL.vg rfl rfl (.not rfl) rfl (GL.v (.pickF rfl rfl) rfl (GL.nil (GN.seq (?_))))
                refine GC.cond rfl (fun t2 => ?_) (fun t2 => ?_)
                · refine GC.seq (GC.region (GL.v (.assign rfl) rfl (GL.nil (GN.seq (GC.ret (?_))))))
                  refine GR.one rfl rfl rfl () (congrArg Value.bool (Eq.symm ?_)) (Ent.nil _) trivial
                  rw [htop, (show mayR loneT (d - 1) inner = false from by simpa using t2)]; rfl
                · rw [(show mayR loneT (d - 1) inner = true from by simpa using t2)] at htop
                  simp only [Bool.true_and] at htop
                  refine GC.skip (GN.seq (GC.seq (GC.seq (GC.region (GL.v (.fieldAddr rfl) rfl (GL.v (.ld 0 rfl rfl rfl) rfl (GL.v (.lenSl rfl) rfl (GL.v (.move rfl) rfl (GL.nil (GN.seq (GC.block (?_))))))))))))
                  refine GC.loop (γ := Nat) (fun i => i ≤ l.length ∧ ∀ (j : Nat) a, j < i → l[j]? = some a → mayV a (d - 2) = true) (fun i => [(1, .int .i64 d), (2, ptr b2), (40, .slice A l.length c), (41, .int .i64 (l.length : Int)), (42, .int .i64 (i : Int))]) (fun _ => [Blk b2 80 8 (args0 0 [.int .i64 kind, .string (mkS s), .bool b, .int .u64 (n1 : Int), .slice A l.length c, .slice A' m.length c', .string (mkS inner), .string (mkS unk)])]) (fun i => l.length - i) 0 ⟨Nat.zero_le _, fun j a h => absurd h (by omega)⟩ (Sub.cons rfl (Sub.cons rfl (Sub.cons rfl (Sub.cons rfl (Sub.cons rfl (Sub.nil _)))))) (Ent.refl _) ?_
                  rintro i ⟨hi, hall⟩
                  refine GC.seq (GC.region (GL.v (.lss rfl rfl) rfl (GL.nil (GN.seq (GC.seq (?_))))))
                  refine GC.condD rfl (fun hlt => ?_) (fun hlt => ?_)
                  · have hil : i < l.length := by omega
                    obtain ⟨a, ha⟩ : ∃ a, l[i]? = some a := ⟨_, List.getElem?_eq_getElem hil⟩
                    obtain ⟨cs, g, off, c0, e1, hra, hca⟩ := list_at valF_len hL ha
                    simp only [Value.slice.injEq] at e1
                    obtain ⟨rfl, _, rfl⟩ := e1
                    have l1 := valF_len _ _ _ _ hra
                    have o1 := valF_one _ _ _ _ hra
                    refine GC.skip (GN.seq (GC.seq (GC.block (GC.seq (GC.region (GL.v (.indexAddr rfl rfl (by omega) (by omega)) rfl (?_)))))))
                    refine GL.v (.ldON cs (fun _ h => h) hca rfl (by rw [l1]; rfl)) rfl ?_
                    refine GL.w .alloc rfl (fun b6 _ => GL.w0 (.store 0 rfl rfl rfl rfl (by first | (rw [l1]; done) | (rw [l1]; rfl)) rfl (by exact o1)) (fun _ _ => GL.nil (GN.seq (GC.seq (GC.region (GL.v (.ldN 0 cs rfl rfl (by rw [l1]; rfl) (lkN_stU _ _ _)) rfl (GL.v (.move rfl) rfl (GL.v (.sub rfl rfl (i64_in _ (by omega))) rfl (?_)))))))))
                    refine GL.call (As := []) rfl (fun w hst => ih.1 a (by have := List.sizeOf_lt_of_mem (List.mem_of_getElem? ha); omega) (by have := szLV_mem (List.mem_of_getElem? ha); omega) (d - 2) cs w (by omega) (by omega) (hst.keep (fun _ h => h) (valF a cs) hra)) rfl (fun _ _ => ?_)
                    refine GL.v (.not rfl) rfl (GL.nil (GN.seq (?_)))
                    refine GC.cond rfl (fun hs => ?_) (fun hs => ?_)
                    · refine GC.seq (GC.region (GL.v (.assign rfl) rfl (GL.nil (GN.seq (GC.ret (?_))))))
                      refine GR.one rfl rfl rfl () (congrArg Value.bool (Eq.symm ?_)) (Ent.nil _) trivial
                      rw [htop, mayLV_all, all_false (p := fun a => mayV a (d - 2)) i ha (by simpa using hs)]; rfl
                    · refine GC.skip (GN.blk (GN.seq (GC.region (GL.v (.add rfl rfl (i64_in _ (by omega))) rfl (GL.v (.move rfl) rfl (GL.nil (?_)))))))
                      refine GN.loop (i + 1) ⟨by omega, fun j a' hj h1 => ?_⟩ (by omega) (Sub.cons rfl (Sub.cons rfl (Sub.cons rfl (Sub.cons rfl (Sub.cons rfl (Sub.nil _)))))) (Ent.trans (Ent.front 1 _ _ rfl) (Ent.blk (by repeat (first | exact Sub.nil _ | refine Sub.cons rfl ?_)) (Ent.nil _)))
                      rcases Nat.lt_or_ge j i with h | h
                      · exact hall j a' h h1
                      · have : j = i := by omega
                        subst this
                        rw [ha] at h1
                        cases h1
                        simpa using hs
                  · have hLV : mayLV l (d - 2) = true := by rw [mayLV_all]; exact all_true (p := fun a => mayV a (d - 2)) (fun j a h1 h2 => hall j a (by omega) h2)
                    refine GC.exit (GX.seq (GX.loop (GX.blk (GN.seq (GC.seq (GC.region (GL.v (.fieldAddr rfl) rfl (GL.v (.ld 0 rfl rfl rfl) rfl (GL.v (.move rfl) rfl (GL.v (.sub rfl rfl (i64_in _ (by omega))) rfl (?_)))))))))))
                    refine GL.call (As := []) rfl (fun w hst => MayKeys_tri m _ (d - 2) w (by omega) (by omega) (hst.keep (fun _ h => h) (listF keyF 11 m _) hM) (fun a ha => ih.2 a (by have := List.sizeOf_lt_of_mem ha; omega) (by have := szLK_mem ha; omega))) rfl (fun _ _ => ?_)
                    refine GL.v (.assign rfl) rfl (GL.nil (GN.seq (GC.ret (?_))))
                    refine GR.one rfl rfl rfl () (congrArg Value.bool (Eq.symm ?_)) (Ent.nil _) trivial
                    rw [htop, hLV]; rfl
          · have k56 : decide (kind ≠ 5 ∧ kind ≠ 6) = false := decide_eq_false (by omega)
            simp only [k56, Bool.false_or] at htop
            refine GL.sg rfl rfl rfl rfl (GL.sg rfl rfl rfl rfl (GL.sg rfl rfl rfl rfl (GL.v (.pickF rfl rfl) rfl (GL.nil (GN.seq (GC.cond rfl (fun h => by first | (have := of_decide_eq_false h; contradiction) | (have := of_decide_eq_true h; contradiction) | (cases h; done)) (fun _ => ?_)))))))
            refine GC.skip (GN.seq (GC.seq (GC.seq (GC.region (GL.v (.move rfl) rfl (GL.v (.lss rfl rfl) rfl (GL.v (.move rfl) rfl (?_))))))))
            refine GL.partD 31 rfl (fun t1 => ?_) (fun t1 => ?_)
            · refine GL.sg rfl rfl rfl rfl (GL.sg rfl rfl rfl rfl (GL.sg rfl rfl rfl rfl (GL.sg rfl rfl rfl rfl (GL.sg rfl rfl rfl rfl (GL.sg rfl rfl rfl rfl (GL.v (.pickT rfl rfl) rfl (GL.nil (GN.seq (GC.cond rfl (fun _ => ?_) (fun h => by first | (have := of_decide_eq_false h; contradiction) | (have := of_decide_eq_true h; contradiction) | (cases h; done)))))))))))
              refine GC.seq (GC.region (GL.v (.assign rfl) rfl (GL.nil (GN.seq (GC.ret (?_))))))
              refine GR.one rfl rfl rfl () (congrArg Value.bool (Eq.symm ?_)) (Ent.nil _) trivial
              rw [htop, decide_eq_false (p := 1 ≤ d) (by omega)]; rfl
            · refine GL.vg rfl rfl (.fieldAddr rfl) rfl (GL.vg rfl rfl (.ld 0 rfl rfl rfl) rfl (GL.vg rfl rfl (.move rfl) rfl (GL.vg rfl rfl (.sub rfl rfl (i64_in _ (by omega))) rfl (GL.gd rfl rfl (?_)))))
              rw [decide_eq_true (p := 1 ≤ d) (by omega)] at htop
              simp only [Bool.true_and] at htop
              refine GL.call (As := []) rfl (fun w hst => Rest_tri (mkS inner) (d - 1) 220 loneT tbl_lone w (by rw [mkS_size]; unfold mx; omega) (by omega) (by omega)) rfl (fun _ _ => ?_)
              rw [bs_mkS]
              refine GL.vg rfl rfl (.not rfl) rfl (GL.v (.pickF rfl rfl) rfl (GL.nil (GN.seq (?_))))
              refine GC.cond rfl (fun t2 => ?_) (fun t2 => ?_)
              · refine GC.seq (GC.region (GL.v (.assign rfl) rfl (GL.nil (GN.seq (GC.ret (?_))))))
                refine GR.one rfl rfl rfl () (congrArg Value.bool (Eq.symm ?_)) (Ent.nil _) trivial
                rw [htop, (show mayR loneT (d - 1) inner = false from by simpa using t2)]; rfl
              · rw [(show mayR loneT (d - 1) inner = true from by simpa using t2)] at htop
                simp only [Bool.true_and] at htop
                refine GC.skip (GN.seq (GC.seq (GC.seq (GC.region (GL.v (.fieldAddr rfl) rfl (GL.v (.ld 0 rfl rfl rfl) rfl (GL.v (.lenSl rfl) rfl (GL.v (.move rfl) rfl (GL.nil (GN.seq (GC.block (?_))))))))))))
                refine GC.loop (γ := Nat) (fun i => i ≤ l.length ∧ ∀ (j : Nat) a, j < i → l[j]? = some a → mayV a (d - 2) = true) (fun i => [(1, .int .i64 d), (2, ptr b2), (40, .slice A l.length c), (41, .int .i64 (l.length : Int)), (42, .int .i64 (i : Int))]) (fun _ => [Blk b2 80 8 (args0 0 [.int .i64 kind, .string (mkS s), .bool b, .int .u64 (n1 : Int), .slice A l.length c, .slice A' m.length c', .string (mkS inner), .string (mkS unk)])]) (fun i => l.length - i) 0 ⟨Nat.zero_le _, fun j a h => absurd h (by omega)⟩ (Sub.cons rfl (Sub.cons rfl (Sub.cons rfl (Sub.cons rfl (Sub.cons rfl (Sub.nil _)))))) (Ent.refl _) ?_
                rintro i ⟨hi, hall⟩
                refine GC.seq (GC.region (GL.v (.lss rfl rfl) rfl (GL.nil (GN.seq (GC.seq (?_))))))
                refine GC.condD rfl (fun hlt => ?_) (fun hlt => ?_)
                · have hil : i < l.length := by omega
                  obtain ⟨a, ha⟩ : ∃ a, l[i]? = some a := ⟨_, List.getElem?_eq_getElem hil⟩
                  obtain ⟨cs, g, off, c0, e1, hra, hca⟩ := list_at valF_len hL ha
                  simp only [Value.slice.injEq] at e1
                  obtain ⟨rfl, _, rfl⟩ := e1
                  have l1 := valF_len _ _ _ _ hra
                  have o1 := valF_one _ _ _ _ hra
                  refine GC.skip (GN.seq (GC.seq (GC.block (GC.seq (GC.region (GL.v (.indexAddr rfl rfl (by omega) (by omega)) rfl (?_)))))))
                  refine GL.v (.ldON cs (fun _ h => h) hca rfl (by rw [l1]; rfl)) rfl ?_
                  refine GL.w .alloc rfl (fun b6 _ => GL.w0 (.store 0 rfl rfl rfl rfl (by first | (rw [l1]; done) | (rw [l1]; rfl)) rfl (by exact o1)) (fun _ _ => GL.nil (GN.seq (GC.seq (GC.region (GL.v (.ldN 0 cs rfl rfl (by rw [l1]; rfl) (lkN_stU _ _ _)) rfl (GL.v (.move rfl) rfl (GL.v (.sub rfl rfl (i64_in _ (by omega))) rfl (?_)))))))))
                  refine GL.call (As := []) rfl (fun w hst => ih.1 a (by have := List.sizeOf_lt_of_mem (List.mem_of_getElem? ha); omega) (by have := szLV_mem (List.mem_of_getElem? ha); omega) (d - 2) cs w (by omega) (by omega) (hst.keep (fun _ h => h) (valF a cs) hra)) rfl (fun _ _ => ?_)
                  refine GL.v (.not rfl) rfl (GL.nil (GN.seq (?_)))
                  refine GC.cond rfl (fun hs => ?_) (fun hs => ?_)
                  · refine GC.seq (GC.region (GL.v (.assign rfl) rfl (GL.nil (GN.seq (GC.ret (?_))))))
                    refine GR.one rfl rfl rfl () (congrArg Value.bool (Eq.symm ?_)) (Ent.nil _) trivial
                    rw [htop, mayLV_all, all_false (p := fun a => mayV a (d - 2)) i ha (by simpa using hs)]; rfl
                  · refine GC.skip (GN.blk (GN.seq (GC.region (GL.v (.add rfl rfl (i64_in _ (by omega))) rfl (GL.v (.move rfl) rfl (GL.nil (?_)))))))
                    refine GN.loop (i + 1) ⟨by omega, fun j a' hj h1 => ?_⟩ (by omega) (Sub.cons rfl (Sub.cons rfl (Sub.cons rfl (Sub.cons rfl (Sub.cons rfl (Sub.nil _)))))) (Ent.trans (Ent.front 1 _ _ rfl) (Ent.blk (by repeat (first | exact Sub.nil _ | refine Sub.cons rfl ?_)) (Ent.nil _)))
                    rcases Nat.lt_or_ge j i with h | h
                    · exact hall j a' h h1
                    · have : j = i := by omega
                      subst this
                      rw [ha] at h1
                      cases h1
                      simpa using hs
                · have hLV : mayLV l (d - 2) = true := by rw [mayLV_all]; exact all_true (p := fun a => mayV a (d - 2)) (fun j a h1 h2 => hall j a (by omega) h2)
                  refine GC.exit (GX.seq (GX.loop (GX.blk (GN.seq (GC.seq (GC.region (GL.v (.fieldAddr rfl) rfl (GL.v (.ld 0 rfl rfl rfl) rfl (GL.v (.move rfl) rfl (GL.v (.sub rfl rfl (i64_in _ (by omega))) rfl (?_)))))))))))
                  refine GL.call (As := []) rfl (fun w hst => MayKeys_tri m _ (d - 2) w (by omega) (by omega) (hst.keep (fun _ h => h) (listF keyF 11 m _) hM) (fun a ha => ih.2 a (by have := List.sizeOf_lt_of_mem ha; omega) (by have := szLK_mem ha; omega))) rfl (fun _ _ => ?_)
                  refine GL.v (.assign rfl) rfl (GL.nil (GN.seq (GC.ret (?_))))
                  refine GR.one rfl rfl rfl () (congrArg Value.bool (Eq.symm ?_)) (Ent.nil _) trivial
                  rw [htop, hLV]; rfl
  · rintro ⟨k, has, v, unk⟩ hsz hz d cs w hd1 hd2 hx
    have hx : KR (Old w) w _ cs := hx
    cases hx with
    | @mk _ _ _ _ c8 hV0 =>
    have hV : (valF v c8).holds (Old w) w := hV0
    clear hV0
    obtain ⟨c1, c2, c3, c4, c5, c6, c7, c8', rfl⟩ := list8 (valF_len _ _ _ _ hV)
    simp only [Key.mk.sizeOf_spec] at hsz
    rw [szK] at hz
    refine tri_of_G0 33 Tryz.func159 rfl Tryz.ntmps159 rfl ?_
    refine GC.seq (GC.region (GL.w (.box rfl rfl) rfl (fun b2 _ => GL.v (.assign rfl) rfl (GL.nil (GN.seq (GC.seq (GC.block (GC.seq (GC.region (GL.v (.move rfl) rfl (GL.v (.lss rfl rfl) rfl (GL.v (.move rfl) rfl (?_)))))))))))))
    refine GL.partD 8 rfl (fun g1 => ?_) (fun g1 => ?_)
    · refine GL.sg rfl rfl rfl rfl (GL.sg rfl rfl rfl rfl (GL.sg rfl rfl rfl rfl (GL.sg rfl rfl rfl rfl (GL.v (.pickT rfl rfl) rfl (GL.v (.move rfl) rfl (GL.sg rfl rfl rfl rfl (GL.sg rfl rfl rfl rfl (GL.sg rfl rfl rfl rfl (GL.sg rfl rfl rfl rfl (GL.sg rfl rfl rfl rfl (GL.v (.pickT rfl rfl) rfl (GL.v (.assign rfl) rfl (GL.nil (GN.seq (GC.cond rfl (fun _ => ?_) (fun h => by first | (have := of_decide_eq_false h; contradiction) | (have := of_decide_eq_true h; contradiction) | (cases h; done)))))))))))))))))
      refine GC.seq (GC.region (GL.v (.assign rfl) rfl (GL.nil (GN.seq (GC.ret (?_))))))
      exact GR.one rfl rfl rfl () (congrArg Value.bool (by rw [mayK, decide_eq_false (p := 0 ≤ d) (by omega), Bool.false_and])) (Ent.nil _) trivial
    · refine GL.vg rfl rfl (.fieldAddr rfl) rfl (GL.vg rfl rfl (.ld 0 rfl rfl rfl) rfl (GL.gd rfl rfl (?_)))
      have hd0 : decide (0 ≤ d) = true := decide_eq_true (by omega)
      refine GL.call (As := []) rfl (fun w hst => Valid_tri (mkS k) w (by rw [mkS_size]; unfold mx; omega)) rfl (fun _ _ => ?_)
      rw [bs_mkS]
      refine GL.vg rfl rfl (.not rfl) rfl (GL.v (.pickF rfl rfl) rfl (GL.v (.move rfl) rfl (?_)))
      refine GL.part 14 rfl (fun g2 => ?_) (fun g2 => ?_)
      · refine GL.sg rfl rfl rfl rfl (GL.sg rfl rfl rfl rfl (GL.sg rfl rfl rfl rfl (GL.sg rfl rfl rfl rfl (GL.sg rfl rfl rfl rfl (GL.v (.pickT rfl rfl) rfl (GL.v (.assign rfl) rfl (GL.nil (GN.seq (GC.cond rfl (fun _ => ?_) (fun h => by first | (have := of_decide_eq_false h; contradiction) | (have := of_decide_eq_true h; contradiction) | (cases h; done)))))))))))
        refine GC.seq (GC.region (GL.v (.assign rfl) rfl (GL.nil (GN.seq (GC.ret (?_))))))
        exact GR.one rfl rfl rfl () (congrArg Value.bool (by rw [mayK, (show textM k = false from by simpa using g2)]; simp)) (Ent.nil _) trivial
      · refine GL.vg rfl rfl (.fieldAddr rfl) rfl (GL.vg rfl rfl (.ld 0 rfl rfl rfl) rfl (GL.vg rfl rfl (.move rfl) rfl (GL.gd rfl rfl (?_))))
        have hb : textM k = true := by simpa using g2
        refine GL.call (As := []) rfl (fun w hst => Rest_tri (mkS unk) d 124 keyT tbl_key w (by rw [mkS_size]; unfold mx; omega) hd1 hd2) rfl (fun _ _ => ?_)
        rw [bs_mkS]
        refine GL.vg rfl rfl (.not rfl) rfl (GL.v (.pickF rfl rfl) rfl (GL.v (.assign rfl) rfl (GL.nil (GN.seq (?_)))))
        refine GC.cond rfl (fun g3 => ?_) (fun g3 => ?_)
        · refine GC.seq (GC.region (GL.v (.assign rfl) rfl (GL.nil (GN.seq (GC.ret (?_))))))
          exact GR.one rfl rfl rfl () (congrArg Value.bool (by rw [mayK, (show mayR keyT d unk = false from by simpa using g3)]; simp)) (Ent.nil _) trivial
        · refine GC.seq (GC.region (GL.v (.fieldAddr rfl) rfl (GL.v (.ld 0 rfl rfl rfl) rfl (GL.v (.assign rfl) rfl (GL.nil (GN.seq (?_)))))))
          have hr : mayR keyT d unk = true := by simpa using g3
          refine GC.cond rfl (fun g4 => ?_) (fun g4 => ?_)
          · refine GC.seq (GC.region (GL.v (.fieldAddr rfl) rfl (GL.v (.ldN 0 [_, _, _, _, _, _, _, _] rfl rfl rfl ⟨rfl, rfl, rfl, rfl, rfl, rfl, rfl, rfl, trivial⟩) rfl (GL.v (.move rfl) rfl (GL.v (.sub rfl rfl (i64_in _ (by omega))) rfl (?_))))))
            refine GL.call (As := []) rfl (fun w hst => ih.1 v (by omega) (by omega) (d - 1) _ w (by omega) (by omega) (hst.keep (fun _ h => h) (valF v _) hV)) rfl (fun _ _ => ?_)
            refine GL.v (.assign rfl) rfl (GL.nil (GN.seq (GC.ret (?_))))
            exact GR.one rfl rfl rfl () (congrArg Value.bool (by rw [mayK, hd0, hb, hr, g4]; simp)) (Ent.nil _) trivial
          · refine GC.skip (GN.blk (GN.seq (GC.seq (GC.region (GL.v (.fieldAddr rfl) rfl (GL.v (.ldN 0 [_, _, _, _, _, _, _, _] rfl rfl rfl ⟨rfl, rfl, rfl, rfl, rfl, rfl, rfl, rfl, trivial⟩) rfl (GL.v (.build (cs := [_, _, _, _, _, _, _, _]) rfl rfl) rfl (?_))))))))
            refine GL.call (As := []) rfl (fun w hst => SameVal_c v val0 _ _ w (hst.keep (fun _ h => h) (valF v _) hV) (val0_holds _ _)) rfl (fun _ _ => ?_)
            refine GL.v (.assign rfl) rfl (GL.nil (GN.seq (GC.ret (?_))))
            exact GR.one rfl rfl rfl () (congrArg Value.bool (by rw [mayK, hd0, hb, hr, g4]; simp)) (Ent.nil _) trivial
theorem MayVal_c (x : Val) (h : szV x ≤ 1000000000) : MayC 203 valF mayV x := (may_both _).1 x (Nat.le_refl _) h
theorem MayKey_c (x : Key) (h : szK x ≤ 1000000000) : MayC 159 keyF mayK x := (may_both _).2 x (Nat.le_refl _) h
theorem MayKeys_c (l : List Key) (v : Value) (d : Int) (w : World) (hz : szLK l ≤ 1000000000) (hd1 : -9223372036854775808 ≤ d) (hd2 : d ≤ 9223372036854775807) (hl : (listF keyF 11 l v).holds (Old w) w) :
    Tri Tryz.prog 96 [v, .int .i64 d] [] (fun _ : Unit => .bool (mayLK l d)) (fun _ => []) (fun _ => True) w :=
  MayKeys_tri l v d w hd1 hd2 hl (fun a ha => MayKey_c a (by have := szLK_mem ha; omega))
end Go.Proofs.Gw
/- An attribute is written. Printed by wip/tools/gen16.py. -/
set_option linter.unusedVariables false
set_option linter.unusedSimpArgs false
namespace Go.Proofs.Gw
open Go Go.RowKit Go.IntWalk Go.Proofs.Gm

def WrC {α : Type} (f : Nat) (rep : α → List Value → FP) (enc : α → Bs) (a : α) : Prop :=
  ∀ (cs : List Value) (w : World), (rep a cs).holds (Old w) w → Tri Tryz.prog f [.agg cs.toArray] [] (fun _ : Unit => .string (mkS (enc a))) (fun _ => []) (fun _ => True) w
theorem partsW_take {α : Type} (num : Nat) (enc : α → Bs) (l : List α) (i : Nat) : (partsW num ((l.take i).map enc)).length ≤ (partsW num (l.map enc)).length := by
  have : partsW num (l.map enc) = partsW num ((l.take i).map enc) ++ partsW num ((l.drop i).map enc) := by
    unfold partsW; rw [← List.flatMap_append, ← List.map_append, List.take_append_drop]
  rw [this, List.length_append]; omega
theorem parts_val {f : Nat} {enc : Val → Bs} [FnIs Tryz.prog f] (l : List Val) (v : Value) (rest : Bs) (w : World) (hl : (listF valF 8 l v).holds (Old w) w) (hc : ∀ a, a ∈ l → WrC f valF enc a) (hz : (partsW 1 (l.map enc)).length + rest.length ≤ 1000000000) (hz2 : ∀ a, a ∈ l → (enc a).length ≤ 1000000000) :
    Tri Tryz.prog 231 [v, .func (.func f) #[] #[], .string (mkS rest)] [] (fun _ : Unit => .string (mkS (partsW 1 (l.map enc) ++ rest))) (fun _ => []) (fun _ => True) w := by
  have hbl := list_len hl
  obtain ⟨A, c, rfl⟩ := listF.form hl
  refine tri_of_G0 24 Tryz.func231 rfl Tryz.ntmps231 rfl ?_
  refine GC.seq (GC.region (GL.v (.assign rfl) rfl (GL.nil (GN.seq (GC.seq (GC.region (GL.w .alloc rfl (fun b7 _ => GL.nil (GN.seq (GC.seq (GC.seq (GC.region (GL.v (.move rfl) rfl (GL.v (.lenSl rfl) rfl (GL.v (.move rfl) rfl (GL.nil (GN.seq (GC.block (?_)))))))))))))))))))
  refine GC.loop (γ := Nat) (fun i => i ≤ l.length) (fun i => [(1, .func (.func f) #[] #[]), (2, .string (mkS rest)), (7, ptr b7), (10, .slice A l.length c), (11, .int .i64 (l.length : Int)), (12, .int .i64 (i : Int))]) (fun i => [Wr b7 (partsW 1 ((l.take i).map enc))]) (fun i => l.length - i) 0 (Nat.zero_le _) (Sub.cons rfl (Sub.cons rfl (Sub.cons rfl (Sub.cons rfl (Sub.cons rfl (Sub.cons rfl (Sub.nil _))))))) (Ent.trans (Ent.blk (u' := [(0, .pointer none), (1, .slice none 0 0)]) (by repeat (first | exact Sub.nil _ | refine Sub.cons rfl ?_)) (Ent.refl _)) (Bld.zero 137 b7 _)) ?_
  intro i hi
  refine GC.seq (GC.region (GL.v (.lss rfl rfl) rfl (GL.nil (GN.seq (GC.seq (?_))))))
  refine GC.condD rfl (fun hlt => ?_) (fun hlt => ?_)
  · have hil : i < l.length := by omega
    obtain ⟨a, ha⟩ : ∃ a, l[i]? = some a := ⟨_, List.getElem?_eq_getElem hil⟩
    obtain ⟨cs, g, off, c0, e1, hra, hca⟩ := list_at valF_len hl ha
    simp only [Value.slice.injEq] at e1
    obtain ⟨rfl, _, rfl⟩ := e1
    have l1 := valF_len _ _ _ _ hra
    have o1 := valF_one _ _ _ _ hra
    have hm := List.mem_of_getElem? ha
    have hz3 := hz2 a hm
    have hz4 := partsW_take 1 enc l i
    refine GC.skip (GN.seq (GC.seq (GC.block (GC.seq (GC.region (GL.v (.indexAddr rfl rfl (by omega) (by omega)) rfl (?_)))))))
    refine GL.v (.ldON cs (fun _ h => h) hca rfl (by rw [l1]; rfl)) rfl ?_
    refine GL.w .alloc rfl (fun b9 _ => GL.w0 (.store 0 rfl rfl rfl rfl (by first | (rw [l1]; done) | (rw [l1]; rfl)) rfl (by exact o1)) (fun _ _ => GL.nil (GN.seq (GC.region (GL.v (.move rfl) rfl (GL.v (.ldN 0 cs rfl rfl (by rw [l1]; rfl) (lkN_stU _ _ _)) rfl (?_)))))))
    refine GL.callV rfl (As := []) rfl (fun w hst => hc a hm cs w (hst.keep (fun _ h => h) (valF a cs) hra)) rfl (fun _ _ => ?_)
    refine GL.ent (Ent.front 1 _ _ rfl) ?_
    refine GL.call (As := [_]) rfl (fun w hst => WPart_tri b7 1 _ (enc a) w (by omega) (by omega)) rfl (fun _ _ => ?_)
    refine GL.nil (GN.blk (GN.seq (GC.region (GL.v (.add rfl rfl (i64_in _ (by omega))) rfl (GL.v (.move rfl) rfl (GL.nil (?_)))))))
    refine GN.loop (i + 1) (by omega) (by omega) (Sub.cons rfl (Sub.cons rfl (Sub.cons rfl (Sub.cons rfl (Sub.cons rfl (Sub.cons rfl (Sub.nil _))))))) ?_
    rw [List.take_add_one, ha, Option.toList_some, List.map_append, List.map_cons, List.map_nil, partsW_snoc]
    exact ((Ent.cons _ (Ent.nil _)))
  · have hi2 : i = l.length := by omega
    subst hi2
    rw [List.take_length]
    refine GC.exit (GX.seq (GX.loop (GX.blk (GN.seq (GC.seq (GC.region (GL.v (.move rfl) rfl (?_))))))))
    refine GL.call (As := [_]) rfl (fun w hst => Raw_tri b7 _ rest w (by omega)) rfl (fun _ _ => ?_)
    refine GL.nil (GN.seq (GC.seq (GC.region (?_))))
    refine GL.call (As := [_]) rfl (fun w hst => WString_tri b7 _ w) rfl (fun _ _ => ?_)
    refine GL.v (.assign rfl) rfl (GL.nil (GN.seq (GC.ret (?_))))
    exact GR.one rfl rfl rfl () rfl (Ent.nil _) trivial
theorem parts_key {f : Nat} {enc : Key → Bs} [FnIs Tryz.prog f] (l : List Key) (v : Value) (rest : Bs) (w : World) (hl : (listF keyF 11 l v).holds (Old w) w) (hc : ∀ a, a ∈ l → WrC f keyF enc a) (hz : (partsW 1 (l.map enc)).length + rest.length ≤ 1000000000) (hz2 : ∀ a, a ∈ l → (enc a).length ≤ 1000000000) :
    Tri Tryz.prog 232 [v, .func (.func f) #[] #[], .string (mkS rest)] [] (fun _ : Unit => .string (mkS (partsW 1 (l.map enc) ++ rest))) (fun _ => []) (fun _ => True) w := by
  have hbl := list_len hl
  obtain ⟨A, c, rfl⟩ := listF.form hl
  refine tri_of_G0 24 Tryz.func232 rfl Tryz.ntmps232 rfl ?_
  refine GC.seq (GC.region (GL.v (.assign rfl) rfl (GL.nil (GN.seq (GC.seq (GC.region (GL.w .alloc rfl (fun b7 _ => GL.nil (GN.seq (GC.seq (GC.seq (GC.region (GL.v (.move rfl) rfl (GL.v (.lenSl rfl) rfl (GL.v (.move rfl) rfl (GL.nil (GN.seq (GC.block (?_)))))))))))))))))))
  refine GC.loop (γ := Nat) (fun i => i ≤ l.length) (fun i => [(1, .func (.func f) #[] #[]), (2, .string (mkS rest)), (7, ptr b7), (10, .slice A l.length c), (11, .int .i64 (l.length : Int)), (12, .int .i64 (i : Int))]) (fun i => [Wr b7 (partsW 1 ((l.take i).map enc))]) (fun i => l.length - i) 0 (Nat.zero_le _) (Sub.cons rfl (Sub.cons rfl (Sub.cons rfl (Sub.cons rfl (Sub.cons rfl (Sub.cons rfl (Sub.nil _))))))) (Ent.trans (Ent.blk (u' := [(0, .pointer none), (1, .slice none 0 0)]) (by repeat (first | exact Sub.nil _ | refine Sub.cons rfl ?_)) (Ent.refl _)) (Bld.zero 137 b7 _)) ?_
  intro i hi
  refine GC.seq (GC.region (GL.v (.lss rfl rfl) rfl (GL.nil (GN.seq (GC.seq (?_))))))
  refine GC.condD rfl (fun hlt => ?_) (fun hlt => ?_)
  · have hil : i < l.length := by omega
    obtain ⟨a, ha⟩ : ∃ a, l[i]? = some a := ⟨_, List.getElem?_eq_getElem hil⟩
    obtain ⟨cs, g, off, c0, e1, hra, hca⟩ := list_at keyF_len hl ha
    simp only [Value.slice.injEq] at e1
    obtain ⟨rfl, _, rfl⟩ := e1
    have l1 := keyF_len _ _ _ _ hra
    have o1 := keyF_one _ _ _ _ hra
    have hm := List.mem_of_getElem? ha
    have hz3 := hz2 a hm
    have hz4 := partsW_take 1 enc l i
    refine GC.skip (GN.seq (GC.seq (GC.block (GC.seq (GC.region (GL.v (.indexAddr rfl rfl (by omega) (by omega)) rfl (?_)))))))
    refine GL.v (.ldON cs (fun _ h => h) hca rfl (by rw [l1]; rfl)) rfl ?_
    refine GL.w .alloc rfl (fun b9 _ => GL.w0 (.store 0 rfl rfl rfl rfl (by first | (rw [l1]; done) | (rw [l1]; rfl)) rfl (by exact o1)) (fun _ _ => GL.nil (GN.seq (GC.region (GL.v (.move rfl) rfl (GL.v (.ldN 0 cs rfl rfl (by rw [l1]; rfl) (lkN_stU _ _ _)) rfl (?_)))))))
    refine GL.callV rfl (As := []) rfl (fun w hst => hc a hm cs w (hst.keep (fun _ h => h) (keyF a cs) hra)) rfl (fun _ _ => ?_)
    refine GL.ent (Ent.front 1 _ _ rfl) ?_
    refine GL.call (As := [_]) rfl (fun w hst => WPart_tri b7 1 _ (enc a) w (by omega) (by omega)) rfl (fun _ _ => ?_)
    refine GL.nil (GN.blk (GN.seq (GC.region (GL.v (.add rfl rfl (i64_in _ (by omega))) rfl (GL.v (.move rfl) rfl (GL.nil (?_)))))))
    refine GN.loop (i + 1) (by omega) (by omega) (Sub.cons rfl (Sub.cons rfl (Sub.cons rfl (Sub.cons rfl (Sub.cons rfl (Sub.cons rfl (Sub.nil _))))))) ?_
    rw [List.take_add_one, ha, Option.toList_some, List.map_append, List.map_cons, List.map_nil, partsW_snoc]
    exact ((Ent.cons _ (Ent.nil _)))
  · have hi2 : i = l.length := by omega
    subst hi2
    rw [List.take_length]
    refine GC.exit (GX.seq (GX.loop (GX.blk (GN.seq (GC.seq (GC.region (GL.v (.move rfl) rfl (?_))))))))
    refine GL.call (As := [_]) rfl (fun w hst => Raw_tri b7 _ rest w (by omega)) rfl (fun _ _ => ?_)
    refine GL.nil (GN.seq (GC.seq (GC.region (?_))))
    refine GL.call (As := [_]) rfl (fun w hst => WString_tri b7 _ w) rfl (fun _ _ => ?_)
    refine GL.v (.assign rfl) rfl (GL.nil (GN.seq (GC.ret (?_))))
    exact GR.one rfl rfl rfl () rfl (Ent.nil _) trivial
theorem write_both : ∀ (n : Nat), (∀ x : Val, SizeOf.sizeOf x ≤ n → szV x ≤ 1000000000 → fitV x → WrC 204 valF valW x) ∧ (∀ k : Key, SizeOf.sizeOf k ≤ n → szK k ≤ 1000000000 → fitK k → WrC 160 keyF keyW k) := by
  intro n
  induction n with
  | zero => exact ⟨fun x h => by cases x; simp at h, fun x h => by cases x; simp at h⟩
  | succ n ih =>
  constructor
  · rintro ⟨kind, s, b, n1, l, m, inner, unk⟩ hsz hz hf cs w hx
    have hx : VR (Old w) w _ cs := hx
    cases hx with
    | @mk _ _ _ _ _ _ _ _ vl vm cl cm r1 q1 r2 q2 =>
    have hL : (listF valF 8 l vl).holds (Old w) w := ⟨_, r1, LV_allF q1⟩
    have hM : (listF keyF 11 m vm).holds (Old w) w := ⟨_, r2, LK_allF q2⟩
    simp only [Val.mk.sizeOf_spec] at hsz
    rw [szV] at hz
    obtain ⟨hf0, hf1, hf2⟩ := fitV_bare hf
    clear r1 q1 r2 q2
    have hbl := list_len hL
    have hbm := list_len hM
    obtain ⟨A, c, rfl⟩ := listF.form hL
    obtain ⟨A', c', rfl⟩ := listF.form hM
    refine tri_of_G0 51 Tryz.func204 rfl Tryz.ntmps204 rfl ?_
    refine GC.seq (GC.region (GL.w (.box rfl rfl) rfl (fun b1 _ => GL.v (.assign rfl) rfl (GL.nil (GN.seq (GC.seq (GC.region (GL.w .alloc rfl (fun b3 _ => GL.nil (GN.seq (GC.seq (GC.seq (GC.region (GL.v (.fieldAddr rfl) rfl (GL.v (.ld 1 rfl rfl rfl) rfl (GL.nil (GN.seq (GC.block (GC.seq (GC.block (GC.seq (GC.block (GC.seq (GC.block (GC.seq (GC.block (GC.seq (GC.block (GC.seq (GC.block (GC.seq (GC.seq (GC.seq (GC.seq (GC.region (GL.v (.eql rfl rfl) rfl (GL.v (.assign rfl) rfl (GL.nil (GN.seq (?_))))))))))))))))))))))))))))))))))))))))
    refine GC.condD rfl (fun k1 => ?_) (fun k1 => ?_)
    · subst k1
      refine GC.skip (GN.seq (GC.cond rfl (fun _ => ?_) (fun h => by first | (have := of_decide_eq_false h; contradiction) | (have := of_decide_eq_true h; contradiction) | (cases h; done))))
      refine GC.exit (GX.seq (GX.seq (GX.blk (GN.seq (GC.seq (GC.region (GL.v (.fieldAddr rfl) rfl (GL.v (.ld 1 rfl rfl rfl) rfl (GL.v (.fieldAddr rfl) rfl (GL.v (.ld 1 rfl rfl rfl) rfl (?_)))))))))))
      refine GL.ent (Ent.trans (Ent.blk (u' := [(0, .pointer none), (1, .slice none 0 0)]) (by repeat (first | exact Sub.nil _ | refine Sub.cons rfl ?_)) (Ent.refl _)) (Bld.zero 137 b3 _)) ?_
      have hle := bytW_len 1 s (by omega)
      refine GL.call (As := [_]) rfl (fun w hst => WPart_tri b3 1 [] s w (by omega) (by rw [List.length_nil]; omega)) rfl (fun _ _ => ?_)
      refine GL.nil (GN.seq (GC.exit (GX.other rfl (GX.seq (GX.other rfl (GX.seq (GX.other rfl (GX.seq (GX.other rfl (GX.seq (GX.other rfl (GX.seq (GX.blk (GN.seq (GC.seq (GC.region (GL.v (.fieldAddr rfl) rfl (GL.v (.ld 1 rfl rfl rfl) rfl (?_)))))))))))))))))))
      refine GL.call (As := [_]) rfl (fun w hst => Raw_tri b3 _ unk w (by simp only [List.length_append, List.length_nil]; omega)) rfl (fun _ _ => ?_)
      refine GL.nil (GN.seq (GC.seq (GC.region (?_))))
      refine GL.call (As := [_]) rfl (fun w hst => WString_tri b3 _ w) rfl (fun _ _ => ?_)
      refine GL.v (.assign rfl) rfl (GL.nil (GN.seq (GC.ret (?_))))
      refine GR.one rfl rfl rfl () (congrArg (fun x => Value.string (mkS x)) (Eq.symm ?_)) (Ent.nil _) trivial
      rw [valW]
      simp
    · refine GC.region (GL.v (.eql rfl rfl) rfl (GL.v (.assign rfl) rfl (GL.nil (GN.seq (?_)))))
      refine GC.condD rfl (fun k7 => ?_) (fun k7 => ?_)
      · subst k7
        refine GC.exit (GX.seq (GX.seq (GX.blk (GN.seq (GC.seq (GC.region (GL.v (.fieldAddr rfl) rfl (GL.v (.ld 1 rfl rfl rfl) rfl (GL.v (.fieldAddr rfl) rfl (GL.v (.ld 1 rfl rfl rfl) rfl (?_)))))))))))
        refine GL.ent (Ent.trans (Ent.blk (u' := [(0, .pointer none), (1, .slice none 0 0)]) (by repeat (first | exact Sub.nil _ | refine Sub.cons rfl ?_)) (Ent.refl _)) (Bld.zero 137 b3 _)) ?_
        have hle := bytW_len 7 s (by omega)
        refine GL.call (As := [_]) rfl (fun w hst => WPart_tri b3 7 [] s w (by omega) (by rw [List.length_nil]; omega)) rfl (fun _ _ => ?_)
        refine GL.nil (GN.seq (GC.exit (GX.other rfl (GX.seq (GX.other rfl (GX.seq (GX.other rfl (GX.seq (GX.other rfl (GX.seq (GX.other rfl (GX.seq (GX.blk (GN.seq (GC.seq (GC.region (GL.v (.fieldAddr rfl) rfl (GL.v (.ld 1 rfl rfl rfl) rfl (?_)))))))))))))))))))
        refine GL.call (As := [_]) rfl (fun w hst => Raw_tri b3 _ unk w (by simp only [List.length_append, List.length_nil]; omega)) rfl (fun _ _ => ?_)
        refine GL.nil (GN.seq (GC.seq (GC.region (?_))))
        refine GL.call (As := [_]) rfl (fun w hst => WString_tri b3 _ w) rfl (fun _ _ => ?_)
        refine GL.v (.assign rfl) rfl (GL.nil (GN.seq (GC.ret (?_))))
        refine GR.one rfl rfl rfl () (congrArg (fun x => Value.string (mkS x)) (Eq.symm ?_)) (Ent.nil _) trivial
        rw [valW]
        simp
      · refine GC.skip (GN.seq (GC.seq (GC.seq (GC.region (GL.v (.eql rfl rfl) rfl (GL.v (.assign rfl) rfl (GL.nil (GN.seq (?_)))))))))
        refine GC.condD rfl (fun k2 => ?_) (fun k2 => ?_)
        · subst k2
          refine GC.exit (GX.seq (GX.seq (GX.other rfl (GX.seq (GX.blk (GN.seq (GC.seq (GC.region (GL.v (.fieldAddr rfl) rfl (GL.v (.ld 1 rfl rfl rfl) rfl (GL.nil (GN.seq (?_)))))))))))))
          refine GC.cond rfl (fun hb => ?_) (fun hb => ?_)
          · refine GC.region (GL.v (.fieldAddr rfl) rfl (GL.w0 (.store 1 rfl rfl rfl rfl rfl rfl rfl) (fun _ _ => GL.nil (GN.blk (GN.seq (GC.seq (GC.region (GL.v (.fieldAddr rfl) rfl (GL.v (.ld 1 rfl rfl rfl) rfl (GL.v (.fieldAddr rfl) rfl (GL.v (.ld 1 rfl rfl rfl) rfl (?_))))))))))))
            refine GL.ent (Ent.trans (Ent.blk (u' := [(0, .pointer none), (1, .slice none 0 0)]) (by repeat (first | exact Sub.nil _ | refine Sub.cons rfl ?_)) (Ent.refl _)) (Bld.zero 137 b3 _)) ?_
            have hle := varW_len 2 1 (by omega)
            refine GL.call (As := [_]) rfl (fun w hst => WFew_tri b3 2 1 [] w (by omega) (by omega) (by rw [List.length_nil]; omega)) rfl (fun _ _ => ?_)
            refine GL.nil (GN.seq (GC.exit (GX.other rfl (GX.seq (GX.other rfl (GX.seq (GX.other rfl (GX.seq (GX.blk (GN.seq (GC.seq (GC.region (GL.v (.fieldAddr rfl) rfl (GL.v (.ld 1 rfl rfl rfl) rfl (?_)))))))))))))))
            refine GL.call (As := [_]) rfl (fun w hst => Raw_tri b3 _ unk w (by simp only [List.length_append, List.length_nil]; omega)) rfl (fun _ _ => ?_)
            refine GL.nil (GN.seq (GC.seq (GC.region (?_))))
            refine GL.call (As := [_]) rfl (fun w hst => WString_tri b3 _ w) rfl (fun _ _ => ?_)
            refine GL.v (.assign rfl) rfl (GL.nil (GN.seq (GC.ret (?_))))
            refine GR.one rfl rfl rfl () (congrArg (fun x => Value.string (mkS x)) (Eq.symm ?_)) (Ent.nil _) trivial
            rw [valW]
            simp [hb]
          · refine GC.skip (GN.blk (GN.seq (GC.seq (GC.region (GL.v (.fieldAddr rfl) rfl (GL.v (.ld 1 rfl rfl rfl) rfl (GL.v (.fieldAddr rfl) rfl (GL.v (.ld 1 rfl rfl rfl) rfl (?_)))))))))
            refine GL.ent (Ent.trans (Ent.blk (u' := [(0, .pointer none), (1, .slice none 0 0)]) (by repeat (first | exact Sub.nil _ | refine Sub.cons rfl ?_)) (Ent.refl _)) (Bld.zero 137 b3 _)) ?_
            have hle := varW_len 2 n1 (by omega)
            refine GL.call (As := [_]) rfl (fun w hst => WFew_tri b3 2 n1 [] w (by omega) (by omega) (by rw [List.length_nil]; omega)) rfl (fun _ _ => ?_)
            refine GL.nil (GN.seq (GC.exit (GX.other rfl (GX.seq (GX.other rfl (GX.seq (GX.other rfl (GX.seq (GX.blk (GN.seq (GC.seq (GC.region (GL.v (.fieldAddr rfl) rfl (GL.v (.ld 1 rfl rfl rfl) rfl (?_)))))))))))))))
            refine GL.call (As := [_]) rfl (fun w hst => Raw_tri b3 _ unk w (by simp only [List.length_append, List.length_nil]; omega)) rfl (fun _ _ => ?_)
            refine GL.nil (GN.seq (GC.seq (GC.region (?_))))
            refine GL.call (As := [_]) rfl (fun w hst => WString_tri b3 _ w) rfl (fun _ _ => ?_)
            refine GL.v (.assign rfl) rfl (GL.nil (GN.seq (GC.ret (?_))))
            refine GR.one rfl rfl rfl () (congrArg (fun x => Value.string (mkS x)) (Eq.symm ?_)) (Ent.nil _) trivial
            rw [valW]
            simp [hb]
        · refine GC.skip (GN.seq (GC.seq (GC.seq (GC.region (GL.v (.eql rfl rfl) rfl (GL.v (.assign rfl) rfl (GL.nil (GN.seq (?_)))))))))
          refine GC.condD rfl (fun k3 => ?_) (fun k3 => ?_)
          · subst k3
            refine GC.exit (GX.seq (GX.seq (GX.other rfl (GX.seq (GX.other rfl (GX.seq (GX.blk (GN.seq (GC.seq (GC.region (GL.v (.fieldAddr rfl) rfl (GL.v (.ld 1 rfl rfl rfl) rfl (GL.v (.fieldAddr rfl) rfl (GL.v (.ld 1 rfl rfl rfl) rfl (?_)))))))))))))))
            refine GL.ent (Ent.trans (Ent.blk (u' := [(0, .pointer none), (1, .slice none 0 0)]) (by repeat (first | exact Sub.nil _ | refine Sub.cons rfl ?_)) (Ent.refl _)) (Bld.zero 137 b3 _)) ?_
            have hle := varW_len 3 n1 (by omega)
            refine GL.call (As := [_]) rfl (fun w hst => WFew_tri b3 3 n1 [] w (by omega) (by omega) (by rw [List.length_nil]; omega)) rfl (fun _ _ => ?_)
            refine GL.nil (GN.seq (GC.exit (GX.other rfl (GX.seq (GX.other rfl (GX.seq (GX.other rfl (GX.seq (GX.blk (GN.seq (GC.seq (GC.region (GL.v (.fieldAddr rfl) rfl (GL.v (.ld 1 rfl rfl rfl) rfl (?_)))))))))))))))
            refine GL.call (As := [_]) rfl (fun w hst => Raw_tri b3 _ unk w (by simp only [List.length_append, List.length_nil]; omega)) rfl (fun _ _ => ?_)
            refine GL.nil (GN.seq (GC.seq (GC.region (?_))))
            refine GL.call (As := [_]) rfl (fun w hst => WString_tri b3 _ w) rfl (fun _ _ => ?_)
            refine GL.v (.assign rfl) rfl (GL.nil (GN.seq (GC.ret (?_))))
            refine GR.one rfl rfl rfl () (congrArg (fun x => Value.string (mkS x)) (Eq.symm ?_)) (Ent.nil _) trivial
            rw [valW]
            simp
          · refine GC.skip (GN.seq (GC.seq (GC.seq (GC.region (GL.v (.eql rfl rfl) rfl (GL.v (.assign rfl) rfl (GL.nil (GN.seq (?_)))))))))
            refine GC.condD rfl (fun k4 => ?_) (fun k4 => ?_)
            · subst k4
              refine GC.exit (GX.seq (GX.seq (GX.other rfl (GX.seq (GX.other rfl (GX.seq (GX.other rfl (GX.seq (GX.blk (GN.seq (GC.seq (GC.region (GL.v (.fieldAddr rfl) rfl (GL.v (.ld 1 rfl rfl rfl) rfl (?_)))))))))))))))
              refine GL.ent (Ent.trans (Ent.blk (u' := [(0, .pointer none), (1, .slice none 0 0)]) (by repeat (first | exact Sub.nil _ | refine Sub.cons rfl ?_)) (Ent.refl _)) (Bld.zero 137 b3 _)) ?_
              have hle := fixW_len 4 n1
              refine GL.call (As := [_]) rfl (fun w hst => WEight_tri b3 4 n1 [] w (by omega) (by omega) (by rw [List.length_nil]; omega)) rfl (fun _ _ => ?_)
              refine GL.nil (GN.seq (GC.exit (GX.other rfl (GX.seq (GX.other rfl (GX.seq (GX.blk (GN.seq (GC.seq (GC.region (GL.v (.fieldAddr rfl) rfl (GL.v (.ld 1 rfl rfl rfl) rfl (?_)))))))))))))
              refine GL.call (As := [_]) rfl (fun w hst => Raw_tri b3 _ unk w (by simp only [List.length_append, List.length_nil]; omega)) rfl (fun _ _ => ?_)
              refine GL.nil (GN.seq (GC.seq (GC.region (?_))))
              refine GL.call (As := [_]) rfl (fun w hst => WString_tri b3 _ w) rfl (fun _ _ => ?_)
              refine GL.v (.assign rfl) rfl (GL.nil (GN.seq (GC.ret (?_))))
              refine GR.one rfl rfl rfl () (congrArg (fun x => Value.string (mkS x)) (Eq.symm ?_)) (Ent.nil _) trivial
              rw [valW]
              simp
            · refine GC.skip (GN.seq (GC.seq (GC.seq (GC.region (GL.v (.eql rfl rfl) rfl (GL.v (.assign rfl) rfl (GL.nil (GN.seq (?_)))))))))
              refine GC.condD rfl (fun k5 => ?_) (fun k5 => ?_)
              · subst k5
                refine GC.exit (GX.seq (GX.seq (GX.other rfl (GX.seq (GX.other rfl (GX.seq (GX.other rfl (GX.seq (GX.other rfl (GX.seq (GX.blk (GN.seq (GC.seq (GC.region (GL.v (.fieldAddr rfl) rfl (GL.v (.ld 1 rfl rfl rfl) rfl (GL.v (.fieldAddr rfl) rfl (GL.v (.ld 1 rfl rfl rfl) rfl (?_)))))))))))))))))))
                refine GL.ent (Ent.trans (Ent.blk (u' := [(0, .pointer none), (1, .slice none 0 0)]) (by repeat (first | exact Sub.nil _ | refine Sub.cons rfl ?_)) (Ent.refl _)) (Bld.zero 137 b3 _)) ?_
                have hlw := lvW_len l hf1 (by omega)
                rw [lvW_parts] at hlw
                have hsm := fun a ha => valW_len a (fitLV_mem hf1 ha) (by have := szLV_mem ha; omega)
                refine GL.call (As := []) rfl (fun w hst => parts_val l _ inner w (hst.keep (fun _ h => h) (listF valF 8 l _) hL) (fun a ha => ih.1 a (by have := List.sizeOf_lt_of_mem ha; omega) (by have := szLV_mem ha; omega) (fitLV_mem hf1 ha)) (by omega) (fun a ha => by have := hsm a ha; have := szLV_mem ha; omega)) rfl (fun _ _ => ?_)
                have hle := bytW_len 5 (partsW 1 (l.map valW) ++ inner) (by rw [List.length_append]; omega)
                rw [List.length_append] at hle
                refine GL.call (As := [_]) rfl (fun w hst => WPart_tri b3 5 [] (partsW 1 (l.map valW) ++ inner) w (by omega) (by rw [List.length_nil, List.length_append]; omega)) rfl (fun _ _ => ?_)
                refine GL.nil (GN.seq (GC.exit (GX.other rfl (GX.seq (GX.blk (GN.seq (GC.seq (GC.region (GL.v (.fieldAddr rfl) rfl (GL.v (.ld 1 rfl rfl rfl) rfl (?_)))))))))))
                refine GL.call (As := [_]) rfl (fun w hst => Raw_tri b3 _ unk w (by simp only [List.length_append, List.length_nil]; omega)) rfl (fun _ _ => ?_)
                refine GL.nil (GN.seq (GC.seq (GC.region (?_))))
                refine GL.call (As := [_]) rfl (fun w hst => WString_tri b3 _ w) rfl (fun _ _ => ?_)
                refine GL.v (.assign rfl) rfl (GL.nil (GN.seq (GC.ret (?_))))
                refine GR.one rfl rfl rfl () (congrArg (fun x => Value.string (mkS x)) (Eq.symm ?_)) (Ent.nil _) trivial
                rw [valW]
                simp [lvW_parts]
              · refine GC.skip (GN.seq (GC.seq (GC.region (GL.v (.eql rfl rfl) rfl (GL.v (.assign rfl) rfl (GL.nil (GN.seq (?_))))))))
                refine GC.condD rfl (fun k6 => ?_) (fun k6 => ?_)
                · subst k6
                  refine GC.exit (GX.seq (GX.other rfl (GX.seq (GX.other rfl (GX.seq (GX.other rfl (GX.seq (GX.other rfl (GX.seq (GX.other rfl (GX.seq (GX.blk (GN.seq (GC.seq (GC.region (GL.v (.fieldAddr rfl) rfl (GL.v (.ld 1 rfl rfl rfl) rfl (GL.v (.fieldAddr rfl) rfl (GL.v (.ld 1 rfl rfl rfl) rfl (?_))))))))))))))))))))
                  refine GL.ent (Ent.trans (Ent.blk (u' := [(0, .pointer none), (1, .slice none 0 0)]) (by repeat (first | exact Sub.nil _ | refine Sub.cons rfl ?_)) (Ent.refl _)) (Bld.zero 137 b3 _)) ?_
                  have hlw := lkW_len m hf2 (by omega)
                  rw [lkW_parts] at hlw
                  have hsm := fun a ha => keyW_len a (fitLK_mem hf2 ha) (by have := szLK_mem ha; omega)
                  refine GL.call (As := []) rfl (fun w hst => parts_key m _ inner w (hst.keep (fun _ h => h) (listF keyF 11 m _) hM) (fun a ha => ih.2 a (by have := List.sizeOf_lt_of_mem ha; omega) (by have := szLK_mem ha; omega) (fitLK_mem hf2 ha)) (by omega) (fun a ha => by have := hsm a ha; have := szLK_mem ha; omega)) rfl (fun _ _ => ?_)
                  have hle := bytW_len 6 (partsW 1 (m.map keyW) ++ inner) (by rw [List.length_append]; omega)
                  rw [List.length_append] at hle
                  refine GL.call (As := [_]) rfl (fun w hst => WPart_tri b3 6 [] (partsW 1 (m.map keyW) ++ inner) w (by omega) (by rw [List.length_nil, List.length_append]; omega)) rfl (fun _ _ => ?_)
                  refine GL.nil (GN.seq (GC.exit (GX.blk (GN.seq (GC.seq (GC.region (GL.v (.fieldAddr rfl) rfl (GL.v (.ld 1 rfl rfl rfl) rfl (?_)))))))))
                  refine GL.call (As := [_]) rfl (fun w hst => Raw_tri b3 _ unk w (by simp only [List.length_append, List.length_nil]; omega)) rfl (fun _ _ => ?_)
                  refine GL.nil (GN.seq (GC.seq (GC.region (?_))))
                  refine GL.call (As := [_]) rfl (fun w hst => WString_tri b3 _ w) rfl (fun _ _ => ?_)
                  refine GL.v (.assign rfl) rfl (GL.nil (GN.seq (GC.ret (?_))))
                  refine GR.one rfl rfl rfl () (congrArg (fun x => Value.string (mkS x)) (Eq.symm ?_)) (Ent.nil _) trivial
                  rw [valW]
                  simp [lkW_parts]
                · refine GC.skip (GN.seq (GC.exit (GX.other rfl (GX.seq (GX.other rfl (GX.seq (GX.other rfl (GX.seq (GX.other rfl (GX.seq (GX.other rfl (GX.seq (GX.other rfl (GX.seq (GX.blk (GN.seq (GC.seq (GC.region (GL.v (.fieldAddr rfl) rfl (GL.v (.ld 1 rfl rfl rfl) rfl (?_)))))))))))))))))))))
                  refine GL.ent (Ent.trans (Ent.blk (u' := [(0, .pointer none), (1, .slice none 0 0)]) (by repeat (first | exact Sub.nil _ | refine Sub.cons rfl ?_)) (Ent.refl _)) (Bld.zero 137 b3 _)) ?_
                  refine GL.call (As := [_]) rfl (fun w hst => Raw_tri b3 [] unk w (by rw [List.length_nil]; omega)) rfl (fun _ _ => ?_)
                  refine GL.nil (GN.seq (GC.seq (GC.region (?_))))
                  refine GL.call (As := [_]) rfl (fun w hst => WString_tri b3 _ w) rfl (fun _ _ => ?_)
                  refine GL.v (.assign rfl) rfl (GL.nil (GN.seq (GC.ret (?_))))
                  refine GR.one rfl rfl rfl () (congrArg (fun x => Value.string (mkS x)) (Eq.symm ?_)) (Ent.nil _) trivial
                  rw [valW]
                  simp [k1, k7, k2, k3, k4, k5, k6]
  · rintro ⟨k, has, v, unk⟩ hsz hz hf cs w hx
    have hx : KR (Old w) w _ cs := hx
    cases hx with
    | @mk _ _ _ _ c8 hV0 =>
    have hV : (valF v c8).holds (Old w) w := hV0
    clear hV0
    obtain ⟨c1, c2, c3, c4, c5, c6, c7, c8', rfl⟩ := list8 (valF_len _ _ _ _ hV)
    simp only [Key.mk.sizeOf_spec] at hsz
    rw [szK] at hz
    rw [fitK] at hf
    have hvl := valW_len v hf (by omega)
    have htl := textW_len 1 k (by omega)
    have hbl := bytW_len 2 (valW v) (by omega)
    refine tri_of_G0 17 Tryz.func160 rfl Tryz.ntmps160 rfl ?_
    refine GC.seq (GC.region (GL.w (.box rfl rfl) rfl (fun b1 _ => GL.v (.assign rfl) rfl (GL.nil (GN.seq (GC.seq (GC.region (GL.w .alloc rfl (fun b3 _ => GL.nil (GN.seq (GC.seq (GC.region (GL.v (.fieldAddr rfl) rfl (GL.v (.ld 1 rfl rfl rfl) rfl (?_)))))))))))))))
    refine GL.ent (Ent.trans (Ent.blk (u' := [(0, .pointer none), (1, .slice none 0 0)]) (by repeat (first | exact Sub.nil _ | refine Sub.cons rfl ?_)) (Ent.refl _)) (Bld.zero 137 b3 _)) ?_
    refine GL.call (As := [_]) rfl (fun w hst => WText_tri b3 1 [] k w (by omega) (by rw [List.length_nil]; omega)) rfl (fun _ _ => ?_)
    refine GL.nil (GN.seq (GC.seq (GC.seq (GC.region (GL.v (.fieldAddr rfl) rfl (GL.v (.ld 1 rfl rfl rfl) rfl (GL.nil (GN.seq (?_)))))))))
    refine GC.cond rfl (fun g1 => ?_) (fun g1 => ?_)
    · refine GC.region (GL.v (.fieldAddr rfl) rfl (GL.v (.ldN 1 [_, _, _, _, _, _, _, _] rfl rfl rfl ⟨rfl, rfl, rfl, rfl, rfl, rfl, rfl, rfl, trivial⟩) rfl (?_)))
      refine GL.call (As := []) rfl (fun w hst => ih.1 v (by omega) (by omega) hf _ w (hst.keep (fun _ h => h) (valF v _) hV)) rfl (fun _ _ => ?_)
      refine GL.call (As := [_]) rfl (fun w hst => WPart_tri b3 2 _ (valW v) w (by omega) (by simp only [List.length_append, List.length_nil]; omega)) rfl (fun _ _ => ?_)
      refine GL.nil (GN.seq (GC.seq (GC.region (GL.v (.fieldAddr rfl) rfl (GL.v (.ld 1 rfl rfl rfl) rfl (?_))))))
      refine GL.call (As := [_]) rfl (fun w hst => Raw_tri b3 _ unk w (by simp only [List.length_append, List.length_nil]; omega)) rfl (fun _ _ => ?_)
      refine GL.nil (GN.seq (GC.seq (GC.region (?_))))
      refine GL.call (As := [_]) rfl (fun w hst => WString_tri b3 _ w) rfl (fun _ _ => ?_)
      refine GL.v (.assign rfl) rfl (GL.nil (GN.seq (GC.ret (?_))))
      refine GR.one rfl rfl rfl () (congrArg (fun x => Value.string (mkS x)) (Eq.symm ?_)) (Ent.nil _) trivial
      rw [keyW, g1]; simp
    · refine GC.skip (GN.seq (GC.seq (GC.region (GL.v (.fieldAddr rfl) rfl (GL.v (.ld 1 rfl rfl rfl) rfl (?_))))))
      refine GL.call (As := [_]) rfl (fun w hst => Raw_tri b3 _ unk w (by simp only [List.length_append, List.length_nil]; omega)) rfl (fun _ _ => ?_)
      refine GL.nil (GN.seq (GC.seq (GC.region (?_))))
      refine GL.call (As := [_]) rfl (fun w hst => WString_tri b3 _ w) rfl (fun _ _ => ?_)
      refine GL.v (.assign rfl) rfl (GL.nil (GN.seq (GC.ret (?_))))
      refine GR.one rfl rfl rfl () (congrArg (fun x => Value.string (mkS x)) (Eq.symm ?_)) (Ent.nil _) trivial
      rw [keyW, g1]; simp
theorem WriteVal_c (x : Val) (h : szV x ≤ 1000000000) (hf : fitV x) : WrC 204 valF valW x := (write_both _).1 x (Nat.le_refl _) h hf
theorem WriteKey_c (x : Key) (h : szK x ≤ 1000000000) (hf : fitK x) : WrC 160 keyF keyW x := (write_both _).2 x (Nat.le_refl _) h hf
end Go.Proofs.Gw
