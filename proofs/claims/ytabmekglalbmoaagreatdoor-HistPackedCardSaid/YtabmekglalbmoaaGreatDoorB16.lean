/- Texts that a claim of this seat leans on: M6, N1, N2, N3. No statement is claimed in this text. -/
import Derived.Test.YtabmekglalbmoaaGreatDoorB10
import Derived.Test.YtabmekglalbmoaaGreatDoorB12
/- Alike or not: in plain terms. -/
set_option linter.unusedVariables false
namespace Go.Proofs.Gm
mutual
def sameV : Val → Val → Bool
  | .mk k s b n l m i u, .mk k' s' b' n' l' m' i' u' => decide (k = k') && decide (s = s') && (b == b') && decide (n = n') && decide (i = i') && decide (u = u') && sameLV l l' && sameLK m m'
def sameLV : List Val → List Val → Bool
  | [], [] => true
  | a :: l, b :: l' => sameV a b && sameLV l l'
  | [], _ :: _ => false
  | _ :: _, [] => false
def sameK : Key → Key → Bool
  | .mk k h v u, .mk k' h' v' u' => decide (k = k') && (h == h') && decide (u = u') && sameV v v'
def sameLK : List Key → List Key → Bool
  | [], [] => true
  | a :: l, b :: l' => sameK a b && sameLK l l'
  | [], _ :: _ => false
  | _ :: _, [] => false
end
mutual
theorem sameV_self : ∀ a : Val, sameV a a = true
  | .mk k s b n l m i u => by simp [sameV, sameLV_self l, sameLK_self m]
theorem sameLV_self : ∀ a : List Val, sameLV a a = true
  | [] => by simp [sameLV]
  | a :: l => by simp [sameLV, sameV_self a, sameLV_self l]
theorem sameK_self : ∀ a : Key, sameK a a = true
  | .mk k h v u => by simp [sameK, sameV_self v]
theorem sameLK_self : ∀ a : List Key, sameLK a a = true
  | [] => by simp [sameLK]
  | a :: l => by simp [sameLK, sameK_self a, sameLK_self l]
end
def sameX (a b : Exem) : Bool := decide (a.time = b.time) && decide (a.kind = b.kind) && decide (a.n = b.n) && decide (a.span = b.span) && decide (a.trace = b.trace) && decide (a.unk = b.unk) && sameLK a.attrs b.attrs
def sameLX : List Exem → List Exem → Bool
  | [], [] => true
  | a :: l, b :: l' => sameX a b && sameLX l l'
  | [], _ :: _ => false
  | _ :: _, [] => false
theorem sameX_self (a : Exem) : sameX a a = true := by simp [sameX, sameLK_self]
theorem sameLX_self : ∀ a : List Exem, sameLX a a = true
  | [] => rfl
  | a :: l => by simp [sameLX, sameX_self a, sameLX_self l]
end Go.Proofs.Gm
/- What is read and was there when a call began; lists, one by one. -/
set_option linter.unusedVariables false
set_option linter.unusedSimpArgs false
namespace Go.Proofs.Gw
open Go Go.RowKit Go.Proofs.Gm

abbrev Old (w : World) : Nat → Prop := fun k => k < w.heap.size
theorem St.keep {C : Ctx} {Hs : List HP} {w' : World} (h : St C Hs w') (hD : ∀ k, ¬ C.D k) (F : FP) (hF : F.holds (Old C.w0) C.w0) : F.holds (Old w') w' :=
  F.mono (Old C.w0) (Old w') w' (fun k hk => Nat.lt_of_lt_of_le hk h.chg.size) (F.loc (Old C.w0) C.w0 w' (fun k hk => h.old hD hk) hF)
/-- What is asserted holds of what is there. -/
theorem St.fp {C : Ctx} {Hs : List HP} {w : World} (h : St C Hs w) (i : Nat) {F : FP} (hi : Hs[i]? = some F.hp) : F.holds (Old w) w := by
  obtain ⟨ok, h1, h2⟩ := Sat.at i hi h.sat
  exact F.mono ok (Old w) w (fun k hk => (h1 k hk).2) h2
/-- The contract of a function that tells whether two are alike. -/
def SameC {α : Type} (f : Nat) (rep : α → List Value → FP) (same : α → α → Bool) (a : α) : Prop :=
  ∀ (b : α) (cs ds : List Value) (w : World), (rep a cs).holds (Old w) w → (rep b ds).holds (Old w) w → Tri Tryz.prog f [.agg cs.toArray, .agg ds.toArray] [] (fun _ : Unit => .bool (same a b)) (fun _ => []) (fun _ => True) w
def eqL {α : Type} (same : α → α → Bool) : List α → List α → Bool
  | [], [] => true
  | a :: l, b :: l' => same a b && eqL same l l'
  | [], _ :: _ => false
  | _ :: _, [] => false
theorem eqL_len {α : Type} {same : α → α → Bool} : ∀ {l l' : List α}, l.length ≠ l'.length → eqL same l l' = false
  | [], [], h => absurd rfl h
  | a :: l, b :: l', h => by simp [eqL, eqL_len (l := l) (l' := l') (fun e => h (by simp [e]))]
  | [], _ :: _, _ => rfl
  | _ :: _, [], _ => rfl
theorem eqL_true {α : Type} {same : α → α → Bool} : ∀ {l l' : List α}, l.length = l'.length → (∀ (j : Nat) a b, l[j]? = some a → l'[j]? = some b → same a b = true) → eqL same l l' = true
  | [], [], _, _ => rfl
  | a :: l, b :: l', h, h2 => by
    simp only [eqL, h2 0 a b rfl rfl, Bool.true_and]
    exact eqL_true (by simpa using h) (fun j a b h3 h4 => h2 (j + 1) a b (by simpa using h3) (by simpa using h4))
  | [], _ :: _, h, _ => by simp at h
  | _ :: _, [], h, _ => by simp at h
theorem eqL_false {α : Type} {same : α → α → Bool} : ∀ {l l' : List α} (j : Nat) {a b : α}, l[j]? = some a → l'[j]? = some b → same a b = false → eqL same l l' = false
  | [], _, j, _, _, h, _, _ => by simp at h
  | _ :: _, [], j, _, _, _, h, _ => by simp at h
  | x :: l, y :: l', 0, a, b, h, h2, h3 => by
    simp only [List.getElem?_cons_zero, Option.some.injEq] at h h2
    subst h; subst h2; simp [eqL, h3]
  | x :: l, y :: l', j + 1, a, b, h, h2, h3 => by
    simp [eqL, eqL_false (l := l) (l' := l') j (by simpa using h) (by simpa using h2) h3]
theorem eqL_V : ∀ (l l' : List Val), sameLV l l' = eqL sameV l l'
  | [], [] => by simp [sameLV, eqL]
  | a :: l, b :: l' => by simp [sameLV, eqL, eqL_V l l']
  | [], _ :: _ => by simp [sameLV, eqL]
  | _ :: _, [] => by simp [sameLV, eqL]
theorem eqL_K : ∀ (l l' : List Key), sameLK l l' = eqL sameK l l'
  | [], [] => by simp [sameLK, eqL]
  | a :: l, b :: l' => by simp [sameLK, eqL, eqL_K l l']
  | [], _ :: _ => by simp [sameLK, eqL]
  | _ :: _, [] => by simp [sameLK, eqL]
theorem eqL_X : ∀ (l l' : List Exem), sameLX l l' = eqL sameX l l'
  | [], [] => by simp [sameLX, eqL]
  | a :: l, b :: l' => by simp [sameLX, eqL, eqL_X l l']
  | [], _ :: _ => by simp [sameLX, eqL]
  | _ :: _, [] => by simp [sameLX, eqL]
theorem flatten_get {k : Nat} : ∀ {css : List (List Value)} {i j : Nat} {cs : List Value} {u : Value}, (∀ c, c ∈ css → c.length = k) → css[i]? = some cs → cs[j]? = some u → css.flatten[i * k + j]? = some u
  | [], i, j, cs, u, _, h, _ => by simp at h
  | c :: css, 0, j, cs, u, hk, h, hj => by
    simp only [List.getElem?_cons_zero, Option.some.injEq] at h
    subst h
    rw [Nat.zero_mul, Nat.zero_add, List.flatten_cons, List.getElem?_append_left (List.getElem?_eq_some_iff.1 hj).1]; exact hj
  | c :: css, i + 1, j, cs, u, hk, h, hj => by
    have hc := hk c List.mem_cons_self
    rw [List.flatten_cons, List.getElem?_append_right (by rw [hc, Nat.succ_mul]; omega), hc, show (i + 1) * k + j - k = i * k + j by rw [Nat.succ_mul]; omega]
    exact flatten_get (fun c hc => hk c (List.mem_cons_of_mem _ hc)) (by simpa using h) hj
theorem allF_at {α : Type} {rep : α → List Value → FP} {ok : Nat → Prop} {w : World} : ∀ {l : List α} {css : List (List Value)} {i : Nat} {a : α}, (allF rep l css).holds ok w → l[i]? = some a → ∃ cs, css[i]? = some cs ∧ (rep a cs).holds ok w
  | [], _, i, a, _, h => by simp at h
  | x :: l, [], i, a, h, _ => h.elim
  | x :: l, cs :: css, 0, a, h, h2 => by
    simp only [List.getElem?_cons_zero, Option.some.injEq] at h2
    subst h2; exact ⟨cs, rfl, h.1⟩
  | x :: l, cs :: css, i + 1, a, h, h2 => allF_at (l := l) (css := css) h.2 (by simpa using h2)
theorem allF_mem {α : Type} {rep : α → List Value → FP} {ok : Nat → Prop} {w : World} : ∀ {l : List α} {css : List (List Value)} {cs : List Value}, (allF rep l css).holds ok w → cs ∈ css → ∃ a, (rep a cs).holds ok w
  | _, [], cs, _, h => by cases h
  | [], _ :: _, cs, h, _ => h.elim
  | x :: l, c :: css, cs, h, h2 => by
    rcases List.mem_cons.1 h2 with rfl | h2
    · exact ⟨x, h.1⟩
    · exact allF_mem h.2 h2
/-- An element of a list that lies in memory. -/
theorem list_at {α : Type} {rep : α → List Value → FP} {k : Nat} {l : List α} {v : Value} {ok : Nat → Prop} {w : World} (hk : ∀ a cs ok w, (rep a cs).holds ok w → cs.length = k) (h : (listF rep k l v).holds ok w) {i : Nat} {a : α} (ha : l[i]? = some a) :
    ∃ cs g off c, v = .slice (some ⟨g, off, none⟩) l.length c ∧ (rep a cs).holds ok w ∧ ∀ j u, cs[j]? = some u → w.cell? ⟨g, off + i * k + j, none⟩ = some u := by
  obtain ⟨css, ⟨h1, A, c, rfl, h2⟩, h3⟩ := h
  have hlt := (List.getElem?_eq_some_iff.1 ha).1
  obtain ⟨g, off, rfl, hg, _, cs0, T, fr, h4, h5⟩ := h2 (by omega)
  obtain ⟨cs, h6, h7⟩ := allF_at h3 ha
  refine ⟨cs, g, off, c, rfl, h7, fun j u hj => ?_⟩
  rw [cell?_of_heap h4]
  have := flatten_get (k := k) (fun c hc => by obtain ⟨a, h⟩ := allF_mem h3 hc; exact hk a c ok w h) h6 hj
  have h8 := h5 _ u this
  rwa [← Nat.add_assoc] at h8
theorem nums_at {l : List Nat} {v : Value} {ok : Nat → Prop} {w : World} (h : (numsF l v).holds ok w) {i m : Nat} (hm : l[i]? = some m) :
    ∃ g off c, v = .slice (some ⟨g, off, none⟩) l.length c ∧ w.cell? ⟨g, off + i * 1, none⟩ = some (.int .u64 (m : Int)) := by
  obtain ⟨h1, A, c, rfl, h2⟩ := h
  have hlt := (List.getElem?_eq_some_iff.1 hm).1
  obtain ⟨g, off, rfl, hg, _, cs0, T, fr, h4, h5⟩ := h2 (by omega)
  refine ⟨g, off, c, rfl, ?_⟩
  rw [cell?_of_heap h4, Nat.mul_one]
  exact h5 i _ (by simp [u64C, hm])
theorem rowS_len {ok : Nat → Prop} {w : World} {k n : Nat} {v : Value} {xs : List Value} (h : rowS ok w k v n xs) : n ≤ 9223372036854775807 := by
  obtain ⟨_, A, c, _, h2⟩ := h
  rcases Nat.eq_zero_or_pos n with h0 | h0
  · omega
  · obtain ⟨g, off, _, _, hm, _⟩ := h2 h0
    exact hm
theorem list_len {α : Type} {rep : α → List Value → FP} {k : Nat} {l : List α} {v : Value} {ok : Nat → Prop} {w : World} (h : (listF rep k l v).holds ok w) : l.length ≤ 9223372036854775807 := by
  obtain ⟨css, h1, _⟩ := h
  exact rowS_len h1
theorem nums_len {l : List Nat} {v : Value} {ok : Nat → Prop} {w : World} (h : (numsF l v).holds ok w) : l.length ≤ 9223372036854775807 := rowS_len h
theorem valF_len (a : Val) (cs : List Value) (ok : Nat → Prop) (w : World) (h : (valF a cs).holds ok w) : cs.length = 8 := by cases h; rfl
theorem valF_one (a : Val) (cs : List Value) (ok : Nat → Prop) (w : World) (h : (valF a cs).holds ok w) : cs.all one = true := by
  cases h with
  | mk r1 _ r2 _ =>
    obtain ⟨_, A, c, rfl, _⟩ := r1
    obtain ⟨_, B, d, rfl, _⟩ := r2
    rfl
theorem keyF_len (a : Key) (cs : List Value) (ok : Nat → Prop) (w : World) (h : (keyF a cs).holds ok w) : cs.length = 11 := by
  cases h with
  | mk h => have := valF_len _ _ ok w h; simp [this]
theorem keyF_one (a : Key) (cs : List Value) (ok : Nat → Prop) (w : World) (h : (keyF a cs).holds ok w) : cs.all one = true := by
  cases h with
  | mk h => have := valF_one _ _ ok w h; simp only [List.all_append, this]; rfl
theorem exemF_len (a : Exem) (cs : List Value) (ok : Nat → Prop) (w : World) (h : (exemF a cs).holds ok w) : cs.length = 7 := by
  obtain ⟨v, h1, _⟩ := h
  have h1 : cs = _ := h1
  rw [h1]; rfl
theorem exemF_one (a : Exem) (cs : List Value) (ok : Nat → Prop) (w : World) (h : (exemF a cs).holds ok w) : cs.all one = true := by
  obtain ⟨v, h1, h2⟩ := h
  have h1 : cs = _ := h1
  obtain ⟨A, c, rfl⟩ := listF.form h2
  rw [h1]; rfl
theorem LV_allF {ok : Nat → Prop} {w : World} : ∀ {l : List Val} {css : List (List Value)}, LV ok w l css → (allF valF l css).holds ok w
  | _, _, .nil => trivial
  | _, _, .cons h h2 => ⟨h, LV_allF h2⟩
theorem LK_allF {ok : Nat → Prop} {w : World} : ∀ {l : List Key} {css : List (List Value)}, LK ok w l css → (allF keyF l css).holds ok w
  | _, _, .nil => trivial
  | _, _, .cons h h2 => ⟨h, LK_allF h2⟩
theorem mkS_eq (a b : Bs) : (mkS a = mkS b) = (a = b) := propext ⟨fun h => by have := congrArg bs h; rwa [bs_mkS, bs_mkS] at this, fun h => by rw [h]⟩
end Go.Proofs.Gw
/- Lists that are compared. Printed by wip/tools/gen9.py. -/
set_option linter.unusedVariables false
set_option linter.unusedSimpArgs false
namespace Go.Proofs.Gw
open Go Go.RowKit Go.IntWalk Go.Proofs.Gm

theorem EqualFunc_key {α : Type} {f : Nat} {rep : α → List Value → FP} {same : α → α → Bool} [FnIs Tryz.prog f] (hlen : ∀ a cs ok w, (rep a cs).holds ok w → cs.length = 11) (hone : ∀ a cs ok w, (rep a cs).holds ok w → cs.all one = true) (l l' : List α) (v v' : Value) (w : World) (hl : (listF rep 11 l v).holds (Old w) w) (hl' : (listF rep 11 l' v').holds (Old w) w) (hc : ∀ a, a ∈ l → SameC f rep same a) :
    Tri Tryz.prog 152 [v, v', .func (.func f) #[] #[]] [] (fun _ : Unit => .bool (eqL same l l')) (fun _ => []) (fun _ => True) w := by
  have hbl := list_len hl
  obtain ⟨A, c, rfl⟩ := listF.form hl
  obtain ⟨A', c', rfl⟩ := listF.form hl'
  refine tri_of_G0 32 Tryz.func152 rfl Tryz.ntmps152 rfl ?_
  refine GC.seq (GC.region (GL.v (.assign rfl) rfl (GL.nil (GN.seq (GC.seq (GC.seq (GC.region (GL.v (.move rfl) rfl (GL.v (.lenSl rfl) rfl (GL.v (.move rfl) rfl (GL.v (.lenSl rfl) rfl (GL.v (.neq rfl rfl) rfl (GL.nil (GN.seq (?_)))))))))))))))
  refine GC.condD rfl (fun hne => ?_) (fun hne => ?_)
  · refine GC.seq (GC.region (GL.v (.assign rfl) rfl (GL.nil (GN.seq (GC.ret (?_))))))
    exact GR.one rfl rfl rfl () (congrArg Value.bool (eqL_len (fun e => hne (by rw [e]))).symm) (Ent.nil _) trivial
  have hll : l.length = l'.length := by omega
  refine GC.skip (GN.seq (GC.seq (GC.seq (GC.region (GL.v (.move rfl) rfl (GL.v (.lenSl rfl) rfl (GL.v (.move rfl) rfl (GL.nil (GN.seq (GC.block (?_)))))))))))
  refine GC.loop (γ := Nat) (fun i => i ≤ l.length ∧ ∀ (j : Nat) a b, j < i → l[j]? = some a → l'[j]? = some b → same a b = true) (fun i => [(1, .slice A' l'.length c'), (2, .func (.func f) #[] #[]), (15, .slice A l.length c), (16, .int .i64 (l.length : Int)), (17, .int .i64 (i : Int))]) (fun _ => []) (fun i => l.length - i) 0 ⟨Nat.zero_le _, fun j a b h => absurd h (by omega)⟩ (Sub.cons rfl (Sub.cons rfl (Sub.cons rfl (Sub.cons rfl (Sub.cons rfl (Sub.nil _)))))) (Ent.nil _) ?_
  rintro i ⟨hi, hall⟩
  refine GC.seq (GC.region (GL.v (.lss rfl rfl) rfl (GL.nil (GN.seq (GC.seq (?_))))))
  refine GC.condD rfl (fun hlt => ?_) (fun hlt => ?_)
  · have hil : i < l.length := by omega
    obtain ⟨a, ha⟩ : ∃ a, l[i]? = some a := ⟨_, List.getElem?_eq_getElem hil⟩
    obtain ⟨b, hb⟩ : ∃ b, l'[i]? = some b := ⟨_, List.getElem?_eq_getElem (by omega)⟩
    obtain ⟨cs, g, off, c0, e1, hra, hca⟩ := list_at hlen hl ha
    obtain ⟨ds, g', off', c0', e2, hrb, hcb⟩ := list_at hlen hl' hb
    simp only [Value.slice.injEq] at e1 e2
    obtain ⟨rfl, _, rfl⟩ := e1
    obtain ⟨rfl, _, rfl⟩ := e2
    have l1 := hlen _ _ _ _ hra
    have l2 := hlen _ _ _ _ hrb
    have o1 := hone _ _ _ _ hra
    have o2 := hone _ _ _ _ hrb
    refine GC.skip (GN.seq (GC.seq (GC.block (GC.seq (GC.region (GL.v (.move rfl) rfl (GL.v (.indexAddr rfl rfl (by omega) (by omega)) rfl (?_))))))))
    refine GL.v (.ldON cs (fun _ h => h) hca rfl (by rw [l1]; rfl)) rfl ?_
    refine GL.w .alloc rfl (fun b8 _ => GL.v (.assign rfl) rfl (GL.w0 (.store 0 rfl rfl rfl rfl (by first | (rw [l1]; done) | (rw [l1]; rfl) | (rw [l2]; rfl)) rfl (by first | exact o1 | exact o2)) (fun _ _ => GL.nil (GN.seq (GC.seq (GC.region (GL.v (.move rfl) rfl (GL.v (.move rfl) rfl (GL.v (.indexAddr rfl rfl (by omega) (by omega)) rfl (?_))))))))))
    refine GL.v (.ldON ds (fun _ h => h) hcb rfl (by rw [l2]; rfl)) rfl ?_
    refine GL.w .alloc rfl (fun b9 _ => GL.w0 (.store 0 rfl rfl rfl rfl (by first | (rw [l1]; done) | (rw [l1]; rfl) | (rw [l2]; rfl)) rfl (by first | exact o1 | exact o2)) (fun _ _ => GL.nil (GN.seq (GC.seq (GC.region (GL.v (.move rfl) rfl (GL.v (.ldN 1 cs rfl rfl (by rw [l1]; rfl) (lkN_stU _ _ _)) rfl (GL.v (.ldN 0 ds rfl rfl (by rw [l2]; rfl) (lkN_stU _ _ _)) rfl (?_)))))))))
    refine GL.callV rfl (As := []) rfl (fun w hst => hc a (List.mem_of_getElem? ha) b cs ds w (hst.keep (fun _ h => h) (rep a cs) hra) (hst.keep (fun _ h => h) (rep b ds) hrb)) rfl (fun _ _ => ?_)
    refine GL.v (.not rfl) rfl (GL.nil (GN.seq (?_)))
    refine GC.cond rfl (fun hs => ?_) (fun hs => ?_)
    · refine GC.seq (GC.region (GL.v (.assign rfl) rfl (GL.nil (GN.seq (GC.ret (?_))))))
      exact GR.one rfl rfl rfl () (congrArg Value.bool (eqL_false i ha hb (by simpa using hs)).symm) (Ent.nil _) trivial
    · refine GC.skip (GN.blk (GN.seq (GC.region (GL.v (.add rfl rfl (i64_in _ (by omega))) rfl (GL.v (.move rfl) rfl (GL.nil (?_)))))))
      refine GN.loop (i + 1) ⟨by omega, fun j a' b' hj h1 h2 => ?_⟩ (by omega) (Sub.cons rfl (Sub.cons rfl (Sub.cons rfl (Sub.cons rfl (Sub.cons rfl (Sub.nil _)))))) (Ent.nil _)
      rcases Nat.lt_or_ge j i with h | h
      · exact hall j a' b' h h1 h2
      · have : j = i := by omega
        subst this
        rw [ha] at h1; rw [hb] at h2
        cases h1; cases h2
        simpa using hs
  · refine GC.exit (GX.seq (GX.loop (GX.blk (GN.seq (GC.seq (GC.region (GL.v (.assign rfl) rfl (GL.nil (GN.seq (GC.ret (?_)))))))))))
    exact GR.one rfl rfl rfl () (congrArg Value.bool (eqL_true hll (fun j a b h1 h2 => hall j a b (by have := (List.getElem?_eq_some_iff.1 h1).1; omega) h1 h2)).symm) (Ent.nil _) trivial

theorem EqualFunc_exem {α : Type} {f : Nat} {rep : α → List Value → FP} {same : α → α → Bool} [FnIs Tryz.prog f] (hlen : ∀ a cs ok w, (rep a cs).holds ok w → cs.length = 7) (hone : ∀ a cs ok w, (rep a cs).holds ok w → cs.all one = true) (l l' : List α) (v v' : Value) (w : World) (hl : (listF rep 7 l v).holds (Old w) w) (hl' : (listF rep 7 l' v').holds (Old w) w) (hc : ∀ a, a ∈ l → SameC f rep same a) :
    Tri Tryz.prog 74 [v, v', .func (.func f) #[] #[]] [] (fun _ : Unit => .bool (eqL same l l')) (fun _ => []) (fun _ => True) w := by
  have hbl := list_len hl
  obtain ⟨A, c, rfl⟩ := listF.form hl
  obtain ⟨A', c', rfl⟩ := listF.form hl'
  refine tri_of_G0 32 Tryz.func74 rfl Tryz.ntmps74 rfl ?_
  refine GC.seq (GC.region (GL.v (.assign rfl) rfl (GL.nil (GN.seq (GC.seq (GC.seq (GC.region (GL.v (.move rfl) rfl (GL.v (.lenSl rfl) rfl (GL.v (.move rfl) rfl (GL.v (.lenSl rfl) rfl (GL.v (.neq rfl rfl) rfl (GL.nil (GN.seq (?_)))))))))))))))
  refine GC.condD rfl (fun hne => ?_) (fun hne => ?_)
  · refine GC.seq (GC.region (GL.v (.assign rfl) rfl (GL.nil (GN.seq (GC.ret (?_))))))
    exact GR.one rfl rfl rfl () (congrArg Value.bool (eqL_len (fun e => hne (by rw [e]))).symm) (Ent.nil _) trivial
  have hll : l.length = l'.length := by omega
  refine GC.skip (GN.seq (GC.seq (GC.seq (GC.region (GL.v (.move rfl) rfl (GL.v (.lenSl rfl) rfl (GL.v (.move rfl) rfl (GL.nil (GN.seq (GC.block (?_)))))))))))
  refine GC.loop (γ := Nat) (fun i => i ≤ l.length ∧ ∀ (j : Nat) a b, j < i → l[j]? = some a → l'[j]? = some b → same a b = true) (fun i => [(1, .slice A' l'.length c'), (2, .func (.func f) #[] #[]), (15, .slice A l.length c), (16, .int .i64 (l.length : Int)), (17, .int .i64 (i : Int))]) (fun _ => []) (fun i => l.length - i) 0 ⟨Nat.zero_le _, fun j a b h => absurd h (by omega)⟩ (Sub.cons rfl (Sub.cons rfl (Sub.cons rfl (Sub.cons rfl (Sub.cons rfl (Sub.nil _)))))) (Ent.nil _) ?_
  rintro i ⟨hi, hall⟩
  refine GC.seq (GC.region (GL.v (.lss rfl rfl) rfl (GL.nil (GN.seq (GC.seq (?_))))))
  refine GC.condD rfl (fun hlt => ?_) (fun hlt => ?_)
  · have hil : i < l.length := by omega
    obtain ⟨a, ha⟩ : ∃ a, l[i]? = some a := ⟨_, List.getElem?_eq_getElem hil⟩
    obtain ⟨b, hb⟩ : ∃ b, l'[i]? = some b := ⟨_, List.getElem?_eq_getElem (by omega)⟩
    obtain ⟨cs, g, off, c0, e1, hra, hca⟩ := list_at hlen hl ha
    obtain ⟨ds, g', off', c0', e2, hrb, hcb⟩ := list_at hlen hl' hb
    simp only [Value.slice.injEq] at e1 e2
    obtain ⟨rfl, _, rfl⟩ := e1
    obtain ⟨rfl, _, rfl⟩ := e2
    have l1 := hlen _ _ _ _ hra
    have l2 := hlen _ _ _ _ hrb
    have o1 := hone _ _ _ _ hra
    have o2 := hone _ _ _ _ hrb
    refine GC.skip (GN.seq (GC.seq (GC.block (GC.seq (GC.region (GL.v (.move rfl) rfl (GL.v (.indexAddr rfl rfl (by omega) (by omega)) rfl (?_))))))))
    refine GL.v (.ldON cs (fun _ h => h) hca rfl (by rw [l1]; rfl)) rfl ?_
    refine GL.w .alloc rfl (fun b8 _ => GL.v (.assign rfl) rfl (GL.w0 (.store 0 rfl rfl rfl rfl (by first | (rw [l1]; done) | (rw [l1]; rfl) | (rw [l2]; rfl)) rfl (by first | exact o1 | exact o2)) (fun _ _ => GL.nil (GN.seq (GC.seq (GC.region (GL.v (.move rfl) rfl (GL.v (.move rfl) rfl (GL.v (.indexAddr rfl rfl (by omega) (by omega)) rfl (?_))))))))))
    refine GL.v (.ldON ds (fun _ h => h) hcb rfl (by rw [l2]; rfl)) rfl ?_
    refine GL.w .alloc rfl (fun b9 _ => GL.w0 (.store 0 rfl rfl rfl rfl (by first | (rw [l1]; done) | (rw [l1]; rfl) | (rw [l2]; rfl)) rfl (by first | exact o1 | exact o2)) (fun _ _ => GL.nil (GN.seq (GC.seq (GC.region (GL.v (.move rfl) rfl (GL.v (.ldN 1 cs rfl rfl (by rw [l1]; rfl) (lkN_stU _ _ _)) rfl (GL.v (.ldN 0 ds rfl rfl (by rw [l2]; rfl) (lkN_stU _ _ _)) rfl (?_)))))))))
    refine GL.callV rfl (As := []) rfl (fun w hst => hc a (List.mem_of_getElem? ha) b cs ds w (hst.keep (fun _ h => h) (rep a cs) hra) (hst.keep (fun _ h => h) (rep b ds) hrb)) rfl (fun _ _ => ?_)
    refine GL.v (.not rfl) rfl (GL.nil (GN.seq (?_)))
    refine GC.cond rfl (fun hs => ?_) (fun hs => ?_)
    · refine GC.seq (GC.region (GL.v (.assign rfl) rfl (GL.nil (GN.seq (GC.ret (?_))))))
      exact GR.one rfl rfl rfl () (congrArg Value.bool (eqL_false i ha hb (by simpa using hs)).symm) (Ent.nil _) trivial
    · refine GC.skip (GN.blk (GN.seq (GC.region (GL.v (.add rfl rfl (i64_in _ (by omega))) rfl (GL.v (.move rfl) rfl (GL.nil (?_)))))))
      refine GN.loop (i + 1) ⟨by omega, fun j a' b' hj h1 h2 => ?_⟩ (by omega) (Sub.cons rfl (Sub.cons rfl (Sub.cons rfl (Sub.cons rfl (Sub.cons rfl (Sub.nil _)))))) (Ent.nil _)
      rcases Nat.lt_or_ge j i with h | h
      · exact hall j a' b' h h1 h2
      · have : j = i := by omega
        subst this
        rw [ha] at h1; rw [hb] at h2
        cases h1; cases h2
        simpa using hs
  · refine GC.exit (GX.seq (GX.loop (GX.blk (GN.seq (GC.seq (GC.region (GL.v (.assign rfl) rfl (GL.nil (GN.seq (GC.ret (?_)))))))))))
    exact GR.one rfl rfl rfl () (congrArg Value.bool (eqL_true hll (fun j a b h1 h2 => hall j a b (by have := (List.getElem?_eq_some_iff.1 h1).1; omega) h1 h2)).symm) (Ent.nil _) trivial

theorem EqualFunc_val {α : Type} {f : Nat} {rep : α → List Value → FP} {same : α → α → Bool} [FnIs Tryz.prog f] (hlen : ∀ a cs ok w, (rep a cs).holds ok w → cs.length = 8) (hone : ∀ a cs ok w, (rep a cs).holds ok w → cs.all one = true) (l l' : List α) (v v' : Value) (w : World) (hl : (listF rep 8 l v).holds (Old w) w) (hl' : (listF rep 8 l' v').holds (Old w) w) (hc : ∀ a, a ∈ l → SameC f rep same a) :
    Tri Tryz.prog 228 [v, v', .func (.func f) #[] #[]] [] (fun _ : Unit => .bool (eqL same l l')) (fun _ => []) (fun _ => True) w := by
  have hbl := list_len hl
  obtain ⟨A, c, rfl⟩ := listF.form hl
  obtain ⟨A', c', rfl⟩ := listF.form hl'
  refine tri_of_G0 32 Tryz.func228 rfl Tryz.ntmps228 rfl ?_
  refine GC.seq (GC.region (GL.v (.assign rfl) rfl (GL.nil (GN.seq (GC.seq (GC.seq (GC.region (GL.v (.move rfl) rfl (GL.v (.lenSl rfl) rfl (GL.v (.move rfl) rfl (GL.v (.lenSl rfl) rfl (GL.v (.neq rfl rfl) rfl (GL.nil (GN.seq (?_)))))))))))))))
  refine GC.condD rfl (fun hne => ?_) (fun hne => ?_)
  · refine GC.seq (GC.region (GL.v (.assign rfl) rfl (GL.nil (GN.seq (GC.ret (?_))))))
    exact GR.one rfl rfl rfl () (congrArg Value.bool (eqL_len (fun e => hne (by rw [e]))).symm) (Ent.nil _) trivial
  have hll : l.length = l'.length := by omega
  refine GC.skip (GN.seq (GC.seq (GC.seq (GC.region (GL.v (.move rfl) rfl (GL.v (.lenSl rfl) rfl (GL.v (.move rfl) rfl (GL.nil (GN.seq (GC.block (?_)))))))))))
  refine GC.loop (γ := Nat) (fun i => i ≤ l.length ∧ ∀ (j : Nat) a b, j < i → l[j]? = some a → l'[j]? = some b → same a b = true) (fun i => [(1, .slice A' l'.length c'), (2, .func (.func f) #[] #[]), (15, .slice A l.length c), (16, .int .i64 (l.length : Int)), (17, .int .i64 (i : Int))]) (fun _ => []) (fun i => l.length - i) 0 ⟨Nat.zero_le _, fun j a b h => absurd h (by omega)⟩ (Sub.cons rfl (Sub.cons rfl (Sub.cons rfl (Sub.cons rfl (Sub.cons rfl (Sub.nil _)))))) (Ent.nil _) ?_
  rintro i ⟨hi, hall⟩
  refine GC.seq (GC.region (GL.v (.lss rfl rfl) rfl (GL.nil (GN.seq (GC.seq (?_))))))
  refine GC.condD rfl (fun hlt => ?_) (fun hlt => ?_)
  · have hil : i < l.length := by omega
    obtain ⟨a, ha⟩ : ∃ a, l[i]? = some a := ⟨_, List.getElem?_eq_getElem hil⟩
    obtain ⟨b, hb⟩ : ∃ b, l'[i]? = some b := ⟨_, List.getElem?_eq_getElem (by omega)⟩
    obtain ⟨cs, g, off, c0, e1, hra, hca⟩ := list_at hlen hl ha
    obtain ⟨ds, g', off', c0', e2, hrb, hcb⟩ := list_at hlen hl' hb
    simp only [Value.slice.injEq] at e1 e2
    obtain ⟨rfl, _, rfl⟩ := e1
    obtain ⟨rfl, _, rfl⟩ := e2
    have l1 := hlen _ _ _ _ hra
    have l2 := hlen _ _ _ _ hrb
    have o1 := hone _ _ _ _ hra
    have o2 := hone _ _ _ _ hrb
    refine GC.skip (GN.seq (GC.seq (GC.block (GC.seq (GC.region (GL.v (.move rfl) rfl (GL.v (.indexAddr rfl rfl (by omega) (by omega)) rfl (?_))))))))
    refine GL.v (.ldON cs (fun _ h => h) hca rfl (by rw [l1]; rfl)) rfl ?_
    refine GL.w .alloc rfl (fun b8 _ => GL.v (.assign rfl) rfl (GL.w0 (.store 0 rfl rfl rfl rfl (by first | (rw [l1]; done) | (rw [l1]; rfl) | (rw [l2]; rfl)) rfl (by first | exact o1 | exact o2)) (fun _ _ => GL.nil (GN.seq (GC.seq (GC.region (GL.v (.move rfl) rfl (GL.v (.move rfl) rfl (GL.v (.indexAddr rfl rfl (by omega) (by omega)) rfl (?_))))))))))
    refine GL.v (.ldON ds (fun _ h => h) hcb rfl (by rw [l2]; rfl)) rfl ?_
    refine GL.w .alloc rfl (fun b9 _ => GL.w0 (.store 0 rfl rfl rfl rfl (by first | (rw [l1]; done) | (rw [l1]; rfl) | (rw [l2]; rfl)) rfl (by first | exact o1 | exact o2)) (fun _ _ => GL.nil (GN.seq (GC.seq (GC.region (GL.v (.move rfl) rfl (GL.v (.ldN 1 cs rfl rfl (by rw [l1]; rfl) (lkN_stU _ _ _)) rfl (GL.v (.ldN 0 ds rfl rfl (by rw [l2]; rfl) (lkN_stU _ _ _)) rfl (?_)))))))))
    refine GL.callV rfl (As := []) rfl (fun w hst => hc a (List.mem_of_getElem? ha) b cs ds w (hst.keep (fun _ h => h) (rep a cs) hra) (hst.keep (fun _ h => h) (rep b ds) hrb)) rfl (fun _ _ => ?_)
    refine GL.v (.not rfl) rfl (GL.nil (GN.seq (?_)))
    refine GC.cond rfl (fun hs => ?_) (fun hs => ?_)
    · refine GC.seq (GC.region (GL.v (.assign rfl) rfl (GL.nil (GN.seq (GC.ret (?_))))))
      exact GR.one rfl rfl rfl () (congrArg Value.bool (eqL_false i ha hb (by simpa using hs)).symm) (Ent.nil _) trivial
    · refine GC.skip (GN.blk (GN.seq (GC.region (GL.v (.add rfl rfl (i64_in _ (by omega))) rfl (GL.v (.move rfl) rfl (GL.nil (?_)))))))
      refine GN.loop (i + 1) ⟨by omega, fun j a' b' hj h1 h2 => ?_⟩ (by omega) (Sub.cons rfl (Sub.cons rfl (Sub.cons rfl (Sub.cons rfl (Sub.cons rfl (Sub.nil _)))))) (Ent.nil _)
      rcases Nat.lt_or_ge j i with h | h
      · exact hall j a' b' h h1 h2
      · have : j = i := by omega
        subst this
        rw [ha] at h1; rw [hb] at h2
        cases h1; cases h2
        simpa using hs
  · refine GC.exit (GX.seq (GX.loop (GX.blk (GN.seq (GC.seq (GC.region (GL.v (.assign rfl) rfl (GL.nil (GN.seq (GC.ret (?_)))))))))))
    exact GR.one rfl rfl rfl () (congrArg Value.bool (eqL_true hll (fun j a b h1 h2 => hall j a b (by have := (List.getElem?_eq_some_iff.1 h1).1; omega) h1 h2)).symm) (Ent.nil _) trivial

theorem Equal_tri (l l' : List Nat) (v v' : Value) (w : World) (hl : (numsF l v).holds (Old w) w) (hl' : (numsF l' v').holds (Old w) w) :
    Tri Tryz.prog 115 [v, v'] [] (fun _ : Unit => .bool (decide (l = l'))) (fun _ => []) (fun _ => True) w := by
  have hbl := nums_len hl
  obtain ⟨A, c, rfl⟩ := numsF.form2 hl
  obtain ⟨A', c', rfl⟩ := numsF.form2 hl'
  refine tri_of_G0 26 Tryz.func115 rfl Tryz.ntmps115 rfl ?_
  refine GC.seq (GC.region (GL.v (.assign rfl) rfl (GL.nil (GN.seq (GC.seq (GC.seq (GC.region (GL.v (.move rfl) rfl (GL.v (.lenSl rfl) rfl (GL.v (.move rfl) rfl (GL.v (.lenSl rfl) rfl (GL.v (.neq rfl rfl) rfl (GL.nil (GN.seq (?_)))))))))))))))
  refine GC.condD rfl (fun hne => ?_) (fun hne => ?_)
  · refine GC.seq (GC.region (GL.v (.assign rfl) rfl (GL.nil (GN.seq (GC.ret (?_))))))
    exact GR.one rfl rfl rfl () (congrArg Value.bool (decide_eq_false (fun e => hne (by rw [e]))).symm) (Ent.nil _) trivial
  have hll : l.length = l'.length := by omega
  refine GC.skip (GN.seq (GC.seq (GC.seq (GC.region (GL.v (.move rfl) rfl (GL.v (.lenSl rfl) rfl (GL.v (.move rfl) rfl (GL.nil (GN.seq (GC.block (?_)))))))))))
  refine GC.loop (γ := Nat) (fun i => i ≤ l.length ∧ ∀ (j : Nat), j < i → l[j]? = l'[j]?) (fun i => [(0, .slice A l.length c), (1, .slice A' l'.length c'), (11, .slice A l.length c), (12, .int .i64 (l.length : Int)), (13, .int .i64 (i : Int))]) (fun _ => []) (fun i => l.length - i) 0 ⟨Nat.zero_le _, fun j h => absurd h (by omega)⟩ (Sub.cons rfl (Sub.cons rfl (Sub.cons rfl (Sub.cons rfl (Sub.cons rfl (Sub.nil _)))))) (Ent.nil _) ?_
  rintro i ⟨hi, hall⟩
  refine GC.seq (GC.region (GL.v (.lss rfl rfl) rfl (GL.nil (GN.seq (GC.seq (?_))))))
  refine GC.condD rfl (fun hlt => ?_) (fun hlt => ?_)
  · have hil : i < l.length := by omega
    obtain ⟨a, ha⟩ : ∃ a, l[i]? = some a := ⟨_, List.getElem?_eq_getElem hil⟩
    obtain ⟨b, hb⟩ : ∃ b, l'[i]? = some b := ⟨_, List.getElem?_eq_getElem (by omega)⟩
    obtain ⟨g, off, c0, e1, hca⟩ := nums_at hl ha
    obtain ⟨g', off', c0', e2, hcb⟩ := nums_at hl' hb
    simp only [Value.slice.injEq] at e1 e2
    obtain ⟨rfl, _, rfl⟩ := e1
    obtain ⟨rfl, _, rfl⟩ := e2
    refine GC.skip (GN.seq (GC.seq (GC.block (GC.seq (GC.region (GL.v (.move rfl) rfl (GL.v (.assign rfl) rfl (GL.nil (GN.seq (GC.seq (?_)))))))))))
    refine GC.draw ([]) (m := 9) rfl (by repeat (first | exact Ent.refl _ | exact Ent.nil _ | refine Ent.cons _ ?_ | refine Ent.trans (Ent.tail _ _) ?_)) ?_
    refine GA.take 0 rfl (by kernel_rfl) (by kernel_rfl) (by kernel_rfl) (.move rfl) rfl (GA.take 1 rfl (by kernel_rfl) (by kernel_rfl) (by kernel_rfl) (.move rfl) rfl (GA.take 2 rfl (by kernel_rfl) (by kernel_rfl) (by kernel_rfl) (.indexAddr rfl rfl (by omega) (by omega)) rfl (GA.take 3 rfl (by kernel_rfl) (by kernel_rfl) (by kernel_rfl) (.ldO (fun _ h => h) hca rfl) rfl (GA.take 4 rfl (by kernel_rfl) (by kernel_rfl) (by kernel_rfl) (.move rfl) rfl (GA.take 5 rfl (by kernel_rfl) (by kernel_rfl) (by kernel_rfl) (.move rfl) rfl (GA.take 6 rfl (by kernel_rfl) (by kernel_rfl) (by kernel_rfl) (.indexAddr rfl rfl (by omega) (by omega)) rfl (GA.take 7 rfl (by kernel_rfl) (by kernel_rfl) (by kernel_rfl) (.ldO (fun _ h => h) hcb rfl) rfl (GA.take 8 rfl (by kernel_rfl) (by kernel_rfl) (by kernel_rfl) (.neq rfl rfl) rfl (GA.done (by kernel_rfl) (?_))))))))))
    refine GN.seq (?_)
    refine GC.condD rfl (fun hs => ?_) (fun hs => ?_)
    · refine GC.seq (GC.region (GL.v (.assign rfl) rfl (GL.nil (GN.seq (GC.ret (?_))))))
      refine GR.one rfl rfl rfl () (congrArg Value.bool (decide_eq_false (fun e => ?_)).symm) (Ent.nil _) trivial
      subst e
      rw [ha] at hb; cases hb; exact hs rfl
    · refine GC.skip (GN.blk (GN.seq (GC.region (GL.v (.add rfl rfl (i64_in _ (by omega))) rfl (GL.v (.move rfl) rfl (GL.nil (?_)))))))
      refine GN.loop (i + 1) ⟨by omega, fun j hj => ?_⟩ (by omega) (Sub.cons rfl (Sub.cons rfl (Sub.cons rfl (Sub.cons rfl (Sub.cons rfl (Sub.nil _)))))) (Ent.nil _)
      rcases Nat.lt_or_ge j i with h | h
      · exact hall j h
      · have : j = i := by omega
        subst this
        rw [ha, hb]; congr 1; omega
  · refine GC.exit (GX.seq (GX.loop (GX.blk (GN.seq (GC.seq (GC.region (GL.v (.assign rfl) rfl (GL.nil (GN.seq (GC.ret (?_)))))))))))
    refine GR.one rfl rfl rfl () (congrArg Value.bool (decide_eq_true (List.ext_getElem? fun j => ?_)).symm) (Ent.nil _) trivial
    rcases Nat.lt_or_ge j l.length with h | h
    · exact hall j (by omega)
    · rw [List.getElem?_eq_none h, List.getElem?_eq_none (by omega)]

theorem Nums_tri (l l' : List Nat) (v v' : Value) (w : World) (hl : (numsF l v).holds (Old w) w) (hl' : (numsF l' v').holds (Old w) w) :
    Tri Tryz.prog 34 [v, v'] [] (fun _ : Unit => .bool (decide (l = l'))) (fun _ => []) (fun _ => True) w := by
  have hbl := nums_len hl
  obtain ⟨A, c, rfl⟩ := numsF.form2 hl
  obtain ⟨A', c', rfl⟩ := numsF.form2 hl'
  refine tri_of_G0 26 Tryz.func34 rfl Tryz.ntmps34 rfl ?_
  refine GC.seq (GC.region (GL.v (.assign rfl) rfl (GL.nil (GN.seq (GC.seq (GC.seq (GC.region (GL.v (.move rfl) rfl (GL.v (.lenSl rfl) rfl (GL.v (.move rfl) rfl (GL.v (.lenSl rfl) rfl (GL.v (.neq rfl rfl) rfl (GL.nil (GN.seq (?_)))))))))))))))
  refine GC.condD rfl (fun hne => ?_) (fun hne => ?_)
  · refine GC.seq (GC.region (GL.v (.assign rfl) rfl (GL.nil (GN.seq (GC.ret (?_))))))
    exact GR.one rfl rfl rfl () (congrArg Value.bool (decide_eq_false (fun e => hne (by rw [e]))).symm) (Ent.nil _) trivial
  have hll : l.length = l'.length := by omega
  refine GC.skip (GN.seq (GC.seq (GC.seq (GC.region (GL.v (.assign rfl) rfl (GL.nil (GN.seq (GC.block (?_)))))))))
  refine GC.loop (γ := Nat) (fun i => i ≤ l.length ∧ ∀ (j : Nat), j < i → l[j]? = l'[j]?) (fun i => [(0, .slice A l.length c), (1, .slice A' l'.length c'), (5, .int .i64 (i : Int))]) (fun _ => []) (fun i => l.length - i) 0 ⟨Nat.zero_le _, fun j h => absurd h (by omega)⟩ (Sub.cons rfl (Sub.cons rfl (Sub.cons rfl (Sub.nil _)))) (Ent.nil _) ?_
  rintro i ⟨hi, hall⟩
  refine GC.seq (GC.seq (GC.region (GL.v (.move rfl) rfl (GL.v (.move rfl) rfl (GL.v (.lenSl rfl) rfl (GL.v (.lss rfl rfl) rfl (GL.nil (GN.seq (?_)))))))))
  refine GC.condD rfl (fun hlt => ?_) (fun hlt => ?_)
  · have hil : i < l.length := by omega
    obtain ⟨a, ha⟩ : ∃ a, l[i]? = some a := ⟨_, List.getElem?_eq_getElem hil⟩
    obtain ⟨b, hb⟩ : ∃ b, l'[i]? = some b := ⟨_, List.getElem?_eq_getElem (by omega)⟩
    obtain ⟨g, off, c0, e1, hca⟩ := nums_at hl ha
    obtain ⟨g', off', c0', e2, hcb⟩ := nums_at hl' hb
    simp only [Value.slice.injEq] at e1 e2
    obtain ⟨rfl, _, rfl⟩ := e1
    obtain ⟨rfl, _, rfl⟩ := e2
    refine GC.skip (GN.seq (GC.seq (GC.block (GC.seq (?_)))))
    refine GC.draw ([]) (m := 9) rfl (by repeat (first | exact Ent.refl _ | exact Ent.nil _ | refine Ent.cons _ ?_ | refine Ent.trans (Ent.tail _ _) ?_)) ?_
    refine GA.take 0 rfl (by kernel_rfl) (by kernel_rfl) (by kernel_rfl) (.move rfl) rfl (GA.take 1 rfl (by kernel_rfl) (by kernel_rfl) (by kernel_rfl) (.move rfl) rfl (GA.take 2 rfl (by kernel_rfl) (by kernel_rfl) (by kernel_rfl) (.indexAddr rfl rfl (by omega) (by omega)) rfl (GA.take 3 rfl (by kernel_rfl) (by kernel_rfl) (by kernel_rfl) (.ldO (fun _ h => h) hca rfl) rfl (GA.take 4 rfl (by kernel_rfl) (by kernel_rfl) (by kernel_rfl) (.move rfl) rfl (GA.take 5 rfl (by kernel_rfl) (by kernel_rfl) (by kernel_rfl) (.move rfl) rfl (GA.take 6 rfl (by kernel_rfl) (by kernel_rfl) (by kernel_rfl) (.indexAddr rfl rfl (by omega) (by omega)) rfl (GA.take 7 rfl (by kernel_rfl) (by kernel_rfl) (by kernel_rfl) (.ldO (fun _ h => h) hcb rfl) rfl (GA.take 8 rfl (by kernel_rfl) (by kernel_rfl) (by kernel_rfl) (.neq rfl rfl) rfl (GA.done (by kernel_rfl) (?_))))))))))
    refine GN.seq (?_)
    refine GC.condD rfl (fun hs => ?_) (fun hs => ?_)
    · refine GC.seq (GC.region (GL.v (.assign rfl) rfl (GL.nil (GN.seq (GC.ret (?_))))))
      refine GR.one rfl rfl rfl () (congrArg Value.bool (decide_eq_false (fun e => ?_)).symm) (Ent.nil _) trivial
      subst e
      rw [ha] at hb; cases hb; exact hs rfl
    · refine GC.skip (GN.blk (GN.seq (GC.region (GL.v (.move rfl) rfl (GL.v (.add rfl rfl (i64_in _ (by omega))) rfl (GL.v (.assign rfl) rfl (GL.nil (?_))))))))
      refine GN.loop (i + 1) ⟨by omega, fun j hj => ?_⟩ (by omega) (Sub.cons rfl (Sub.cons rfl (Sub.cons rfl (Sub.nil _)))) (Ent.nil _)
      rcases Nat.lt_or_ge j i with h | h
      · exact hall j h
      · have : j = i := by omega
        subst this
        rw [ha, hb]; congr 1; omega
  · refine GC.exit (GX.seq (GX.loop (GX.blk (GN.seq (GC.seq (GC.region (GL.v (.assign rfl) rfl (GL.nil (GN.seq (GC.ret (?_)))))))))))
    refine GR.one rfl rfl rfl () (congrArg Value.bool (decide_eq_true (List.ext_getElem? fun j => ?_)).symm) (Ent.nil _) trivial
    rcases Nat.lt_or_ge j l.length with h | h
    · exact hall j (by omega)
    · rw [List.getElem?_eq_none h, List.getElem?_eq_none (by omega)]
end Go.Proofs.Gw
/- Are two alike: the program's own functions. Printed by wip/tools/gen10.py. -/
set_option linter.unusedVariables false
set_option linter.unusedSimpArgs false
namespace Go.Proofs.Gm
def sameB (a b : Buck) : Bool := decide (a.off = b.off) && decide (a.unk = b.unk) && decide (a.counts = b.counts)
theorem sameB_self (a : Buck) : sameB a a = true := by simp [sameB]
def sameO (a b : OptN) : Bool := (a.has == b.has) && decide (a.n = b.n)
def sameS (hp hn : Bool) (p n : Buck) (hp' hn' : Bool) (p' n' : Buck) : Bool := (hp == hp') && (hn == hn') && sameB p p' && sameB n n'
def sameE (a b : Expo) : Bool := decide (a.start = b.start) && decide (a.time = b.time) && decide (a.count = b.count) && sameO a.sum b.sum && sameO a.min b.min && sameO a.max b.max && decide (a.scale = b.scale) && decide (a.zero = b.zero) &&
  decide (a.flags = b.flags) && decide (a.thr = b.thr) && decide (a.unk = b.unk) && sameS a.hasPos a.hasNeg a.pos a.neg b.hasPos b.hasNeg b.pos b.neg && sameLX a.exs b.exs && sameLK a.attrs b.attrs
theorem sameE_self (a : Expo) : sameE a a = true := by simp [sameE, sameS, sameO, sameB_self, sameLX_self, sameLK_self]
end Go.Proofs.Gm
namespace Go.Proofs.Gw
open Go Go.RowKit Go.IntWalk Go.Proofs.Gm

theorem SameKeys_tri (l l' : List Key) (v v' : Value) (w : World) (hl : (listF keyF 11 l v).holds (Old w) w) (hl' : (listF keyF 11 l' v').holds (Old w) w) (hc : ∀ a, a ∈ l → SameC 153 keyF sameK a) :
    Tri Tryz.prog 76 [v, v'] [] (fun _ : Unit => .bool (eqL sameK l l')) (fun _ => []) (fun _ => True) w := by
  refine tri_of_G0 8 Tryz.func76 rfl Tryz.ntmps76 rfl ?_
  refine GC.seq (GC.region (GL.v (.assign rfl) rfl (GL.nil (GN.seq (GC.seq (GC.region (GL.v (.move rfl) rfl (GL.v (.move rfl) rfl (?_)))))))))
  refine GL.call (As := []) rfl (fun w hst => EqualFunc_key (f := 153) keyF_len keyF_one l l' v v' w (hst.keep (fun _ h => h) (listF keyF 11 l v) hl) (hst.keep (fun _ h => h) (listF keyF 11 l' v') hl') hc) rfl (fun _ _ => ?_)
  refine GL.v (.assign rfl) rfl (GL.nil (GN.seq (GC.ret (?_))))
  exact GR.one rfl rfl rfl () rfl (Ent.nil _) trivial
theorem same_both : ∀ (n : Nat), (∀ x : Val, SizeOf.sizeOf x ≤ n → SameC 199 valF sameV x) ∧ (∀ k : Key, SizeOf.sizeOf k ≤ n → SameC 153 keyF sameK k) := by
  intro n
  induction n with
  | zero => exact ⟨fun x h => by cases x; simp at h, fun x h => by cases x; simp at h⟩
  | succ n ih =>
  constructor
  · rintro ⟨kind, s, b, n1, l, m, inner, unk⟩ hsz ⟨kind', s', b', n1', l', m', inner', unk'⟩ cs ds w hx hy
    have hx : VR (Old w) w _ cs := hx
    have hy : VR (Old w) w _ ds := hy
    cases hx with
    | @mk _ _ _ _ _ _ _ _ vl vm cl cm r1 q1 r2 q2 =>
    cases hy with
    | @mk _ _ _ _ _ _ _ _ vl' vm' cl' cm' r1' q1' r2' q2' =>
    have hL : (listF valF 8 l vl).holds (Old w) w := ⟨_, r1, LV_allF q1⟩
    have hL' : (listF valF 8 l' vl').holds (Old w) w := ⟨_, r1', LV_allF q1'⟩
    have hM : (listF keyF 11 m vm).holds (Old w) w := ⟨_, r2, LK_allF q2⟩
    have hM' : (listF keyF 11 m' vm').holds (Old w) w := ⟨_, r2', LK_allF q2'⟩
    simp only [Val.mk.sizeOf_spec] at hsz
    clear r1 q1 r2 q2 r1' q1' r2' q2'
    refine tri_of_G0 59 Tryz.func199 rfl Tryz.ntmps199 rfl ?_
    refine GC.seq (GC.region (GL.w (.box rfl rfl) rfl (fun b2 _ => GL.w (.box rfl rfl) rfl (fun b3 _ => GL.v (.assign rfl) rfl (GL.nil (GN.seq (GC.seq (GC.region (GL.v (.fieldAddr rfl) rfl (GL.v (.ld 1 rfl rfl rfl) rfl (GL.v (.fieldAddr rfl) rfl (GL.v (.ld 0 rfl rfl rfl) rfl (GL.v (.eql rfl rfl) rfl (GL.v (.move rfl) rfl (?_)))))))))))))))
    refine GL.partD 10 rfl (fun h1 => ?_) (fun h1 => ?_)
    · refine GL.vg rfl rfl (.fieldAddr rfl) rfl (GL.vg rfl rfl (.ld 1 rfl rfl rfl) rfl (GL.vg rfl rfl (.fieldAddr rfl) rfl (GL.vg rfl rfl (.ld 0 rfl rfl rfl) rfl (GL.vg rfl rfl (.eqlS rfl rfl) rfl (GL.v (.pickT rfl rfl) rfl (GL.v (.move rfl) rfl (?_)))))))
      refine GL.partD 17 rfl (fun h2 => ?_) (fun h2 => ?_)
      · refine GL.vg rfl rfl (.fieldAddr rfl) rfl (GL.vg rfl rfl (.ld 1 rfl rfl rfl) rfl (GL.vg rfl rfl (.fieldAddr rfl) rfl (GL.vg rfl rfl (.ld 0 rfl rfl rfl) rfl (GL.vg rfl rfl (.eqlB rfl rfl) rfl (GL.v (.pickT rfl rfl) rfl (GL.v (.move rfl) rfl (?_)))))))
        refine GL.part 24 rfl (fun h3 => ?_) (fun h3 => ?_)
        · refine GL.vg rfl rfl (.fieldAddr rfl) rfl (GL.vg rfl rfl (.ld 1 rfl rfl rfl) rfl (GL.vg rfl rfl (.fieldAddr rfl) rfl (GL.vg rfl rfl (.ld 0 rfl rfl rfl) rfl (GL.vg rfl rfl (.eql rfl rfl) rfl (GL.v (.pickT rfl rfl) rfl (GL.v (.move rfl) rfl (?_)))))))
          refine GL.partD 31 rfl (fun h4 => ?_) (fun h4 => ?_)
          · refine GL.vg rfl rfl (.fieldAddr rfl) rfl (GL.vg rfl rfl (.ld 1 rfl rfl rfl) rfl (GL.vg rfl rfl (.fieldAddr rfl) rfl (GL.vg rfl rfl (.ld 0 rfl rfl rfl) rfl (GL.vg rfl rfl (.eqlS rfl rfl) rfl (GL.v (.pickT rfl rfl) rfl (GL.v (.move rfl) rfl (?_)))))))
            refine GL.partD 38 rfl (fun h5 => ?_) (fun h5 => ?_)
            · refine GL.vg rfl rfl (.fieldAddr rfl) rfl (GL.vg rfl rfl (.ld 1 rfl rfl rfl) rfl (GL.vg rfl rfl (.fieldAddr rfl) rfl (GL.vg rfl rfl (.ld 0 rfl rfl rfl) rfl (GL.vg rfl rfl (.eqlS rfl rfl) rfl (GL.v (.pickT rfl rfl) rfl (GL.v (.move rfl) rfl (?_)))))))
              refine GL.partD 45 rfl (fun h6 => ?_) (fun h6 => ?_)
              · refine GL.vg rfl rfl (.fieldAddr rfl) rfl (GL.vg rfl rfl (.ld 1 rfl rfl rfl) rfl (GL.vg rfl rfl (.fieldAddr rfl) rfl (GL.vg rfl rfl (.ld 0 rfl rfl rfl) rfl (GL.gd rfl rfl (?_)))))
                refine GL.call (As := []) rfl (fun w hst => EqualFunc_val (f := 199) valF_len valF_one l l' vl vl' w (hst.keep (fun _ h => h) (listF valF 8 l vl) hL) (hst.keep (fun _ h => h) (listF valF 8 l' vl') hL') (fun a ha => ih.1 a (by have := List.sizeOf_lt_of_mem ha; omega))) rfl (fun _ _ => ?_)
                refine GL.v (.pickT rfl rfl) rfl (GL.v (.move rfl) rfl (?_))
                refine GL.part 52 rfl (fun h7 => ?_) (fun h7 => ?_)
                · refine GL.vg rfl rfl (.fieldAddr rfl) rfl (GL.vg rfl rfl (.ld 1 rfl rfl rfl) rfl (GL.vg rfl rfl (.fieldAddr rfl) rfl (GL.vg rfl rfl (.ld 0 rfl rfl rfl) rfl (GL.gd rfl rfl (?_)))))
                  refine GL.call (As := []) rfl (fun w hst => SameKeys_tri m m' vm vm' w (hst.keep (fun _ h => h) (listF keyF 11 m vm) hM) (hst.keep (fun _ h => h) (listF keyF 11 m' vm') hM') (fun a ha => ih.2 a (by have := List.sizeOf_lt_of_mem ha; omega))) rfl (fun _ _ => ?_)
                  refine GL.v (.pickT rfl rfl) rfl (GL.v (.assign rfl) rfl (GL.nil (GN.seq (GC.ret (?_)))))
                  exact GR.one rfl rfl rfl () (congrArg Value.bool (by (try simp only [mkS_eq, Int.natCast_inj] at h1 h2 h3 h4 h5 h6 h7); simp [sameV, eqL_V, eqL_K, h1, h2, h3, h4, h5, h6, h7])) (Ent.nil _) trivial
                · refine GL.sg rfl rfl rfl rfl (GL.sg rfl rfl rfl rfl (GL.sg rfl rfl rfl rfl (GL.sg rfl rfl rfl rfl (GL.sg rfl rfl rfl rfl (GL.v (.pickF rfl rfl) rfl (GL.v (.assign rfl) rfl (GL.nil (GN.seq (GC.ret (?_))))))))))
                  exact GR.one rfl rfl rfl () (congrArg Value.bool (by symm; (try simp only [mkS_eq, Int.natCast_inj] at h1 h2 h3 h4 h5 h6 h7); simp [sameV, eqL_V, eqL_K, h1, h2, h3, h4, h5, h6, h7])) (Ent.nil _) trivial
              · refine GL.sg rfl rfl rfl rfl (GL.sg rfl rfl rfl rfl (GL.sg rfl rfl rfl rfl (GL.sg rfl rfl rfl rfl (GL.sg rfl rfl rfl rfl (GL.v (.pickF rfl rfl) rfl (GL.v (.move rfl) rfl (GL.sg rfl rfl rfl rfl (GL.sg rfl rfl rfl rfl (GL.sg rfl rfl rfl rfl (GL.sg rfl rfl rfl rfl (GL.sg rfl rfl rfl rfl (GL.v (.pickF rfl rfl) rfl (GL.v (.assign rfl) rfl (GL.nil (GN.seq (GC.ret (?_)))))))))))))))))
                exact GR.one rfl rfl rfl () (congrArg Value.bool (by symm; (try simp only [mkS_eq, Int.natCast_inj] at h1 h2 h3 h4 h5 h6); simp [sameV, eqL_V, eqL_K, h1, h2, h3, h4, h5, h6])) (Ent.nil _) trivial
            · refine GL.sg rfl rfl rfl rfl (GL.sg rfl rfl rfl rfl (GL.sg rfl rfl rfl rfl (GL.sg rfl rfl rfl rfl (GL.sg rfl rfl rfl rfl (GL.v (.pickF rfl rfl) rfl (GL.v (.move rfl) rfl (GL.sg rfl rfl rfl rfl (GL.sg rfl rfl rfl rfl (GL.sg rfl rfl rfl rfl (GL.sg rfl rfl rfl rfl (GL.sg rfl rfl rfl rfl (GL.v (.pickF rfl rfl) rfl (GL.v (.move rfl) rfl (GL.sg rfl rfl rfl rfl (GL.sg rfl rfl rfl rfl (GL.sg rfl rfl rfl rfl (GL.sg rfl rfl rfl rfl (GL.sg rfl rfl rfl rfl (GL.v (.pickF rfl rfl) rfl (GL.v (.assign rfl) rfl (GL.nil (GN.seq (GC.ret (?_))))))))))))))))))))))))
              exact GR.one rfl rfl rfl () (congrArg Value.bool (by symm; (try simp only [mkS_eq, Int.natCast_inj] at h1 h2 h3 h4 h5); simp [sameV, eqL_V, eqL_K, h1, h2, h3, h4, h5])) (Ent.nil _) trivial
          · refine GL.sg rfl rfl rfl rfl (GL.sg rfl rfl rfl rfl (GL.sg rfl rfl rfl rfl (GL.sg rfl rfl rfl rfl (GL.sg rfl rfl rfl rfl (GL.v (.pickF rfl rfl) rfl (GL.v (.move rfl) rfl (GL.sg rfl rfl rfl rfl (GL.sg rfl rfl rfl rfl (GL.sg rfl rfl rfl rfl (GL.sg rfl rfl rfl rfl (GL.sg rfl rfl rfl rfl (GL.v (.pickF rfl rfl) rfl (GL.v (.move rfl) rfl (GL.sg rfl rfl rfl rfl (GL.sg rfl rfl rfl rfl (GL.sg rfl rfl rfl rfl (GL.sg rfl rfl rfl rfl (GL.sg rfl rfl rfl rfl (GL.v (.pickF rfl rfl) rfl (GL.v (.move rfl) rfl (GL.sg rfl rfl rfl rfl (GL.sg rfl rfl rfl rfl (GL.sg rfl rfl rfl rfl (GL.sg rfl rfl rfl rfl (GL.sg rfl rfl rfl rfl (GL.v (.pickF rfl rfl) rfl (GL.v (.assign rfl) rfl (GL.nil (GN.seq (GC.ret (?_)))))))))))))))))))))))))))))))
            exact GR.one rfl rfl rfl () (congrArg Value.bool (by symm; (try simp only [mkS_eq, Int.natCast_inj] at h1 h2 h3 h4); simp [sameV, eqL_V, eqL_K, h1, h2, h3, h4])) (Ent.nil _) trivial
        · refine GL.sg rfl rfl rfl rfl (GL.sg rfl rfl rfl rfl (GL.sg rfl rfl rfl rfl (GL.sg rfl rfl rfl rfl (GL.sg rfl rfl rfl rfl (GL.v (.pickF rfl rfl) rfl (GL.v (.move rfl) rfl (GL.sg rfl rfl rfl rfl (GL.sg rfl rfl rfl rfl (GL.sg rfl rfl rfl rfl (GL.sg rfl rfl rfl rfl (GL.sg rfl rfl rfl rfl (GL.v (.pickF rfl rfl) rfl (GL.v (.move rfl) rfl (GL.sg rfl rfl rfl rfl (GL.sg rfl rfl rfl rfl (GL.sg rfl rfl rfl rfl (GL.sg rfl rfl rfl rfl (GL.sg rfl rfl rfl rfl (GL.v (.pickF rfl rfl) rfl (GL.v (.move rfl) rfl (GL.sg rfl rfl rfl rfl (GL.sg rfl rfl rfl rfl (GL.sg rfl rfl rfl rfl (GL.sg rfl rfl rfl rfl (GL.sg rfl rfl rfl rfl (GL.v (.pickF rfl rfl) rfl (GL.v (.move rfl) rfl (GL.sg rfl rfl rfl rfl (GL.sg rfl rfl rfl rfl (GL.sg rfl rfl rfl rfl (GL.sg rfl rfl rfl rfl (GL.sg rfl rfl rfl rfl (GL.v (.pickF rfl rfl) rfl (GL.v (.assign rfl) rfl (GL.nil (GN.seq (GC.ret (?_))))))))))))))))))))))))))))))))))))))
          exact GR.one rfl rfl rfl () (congrArg Value.bool (by symm; (try simp only [mkS_eq, Int.natCast_inj] at h1 h2 h3); simp [sameV, eqL_V, eqL_K, h1, h2, h3])) (Ent.nil _) trivial
      · refine GL.sg rfl rfl rfl rfl (GL.sg rfl rfl rfl rfl (GL.sg rfl rfl rfl rfl (GL.sg rfl rfl rfl rfl (GL.sg rfl rfl rfl rfl (GL.v (.pickF rfl rfl) rfl (GL.v (.move rfl) rfl (GL.sg rfl rfl rfl rfl (GL.sg rfl rfl rfl rfl (GL.sg rfl rfl rfl rfl (GL.sg rfl rfl rfl rfl (GL.sg rfl rfl rfl rfl (GL.v (.pickF rfl rfl) rfl (GL.v (.move rfl) rfl (GL.sg rfl rfl rfl rfl (GL.sg rfl rfl rfl rfl (GL.sg rfl rfl rfl rfl (GL.sg rfl rfl rfl rfl (GL.sg rfl rfl rfl rfl (GL.v (.pickF rfl rfl) rfl (GL.v (.move rfl) rfl (GL.sg rfl rfl rfl rfl (GL.sg rfl rfl rfl rfl (GL.sg rfl rfl rfl rfl (GL.sg rfl rfl rfl rfl (GL.sg rfl rfl rfl rfl (GL.v (.pickF rfl rfl) rfl (GL.v (.move rfl) rfl (GL.sg rfl rfl rfl rfl (GL.sg rfl rfl rfl rfl (GL.sg rfl rfl rfl rfl (GL.sg rfl rfl rfl rfl (GL.sg rfl rfl rfl rfl (GL.v (.pickF rfl rfl) rfl (GL.v (.move rfl) rfl (GL.sg rfl rfl rfl rfl (GL.sg rfl rfl rfl rfl (GL.sg rfl rfl rfl rfl (GL.sg rfl rfl rfl rfl (GL.sg rfl rfl rfl rfl (?_))))))))))))))))))))))))))))))))))))))))
        refine GL.v (.pickF rfl rfl) rfl (GL.v (.assign rfl) rfl (GL.nil (GN.seq (GC.ret (?_)))))
        exact GR.one rfl rfl rfl () (congrArg Value.bool (by symm; (try simp only [mkS_eq, Int.natCast_inj] at h1 h2); simp [sameV, eqL_V, eqL_K, h1, h2])) (Ent.nil _) trivial
    · refine GL.sg rfl rfl rfl rfl (GL.sg rfl rfl rfl rfl (GL.sg rfl rfl rfl rfl (GL.sg rfl rfl rfl rfl (GL.sg rfl rfl rfl rfl (GL.v (.pickF rfl rfl) rfl (GL.v (.move rfl) rfl (GL.sg rfl rfl rfl rfl (GL.sg rfl rfl rfl rfl (GL.sg rfl rfl rfl rfl (GL.sg rfl rfl rfl rfl (GL.sg rfl rfl rfl rfl (GL.v (.pickF rfl rfl) rfl (GL.v (.move rfl) rfl (GL.sg rfl rfl rfl rfl (GL.sg rfl rfl rfl rfl (GL.sg rfl rfl rfl rfl (GL.sg rfl rfl rfl rfl (GL.sg rfl rfl rfl rfl (GL.v (.pickF rfl rfl) rfl (GL.v (.move rfl) rfl (GL.sg rfl rfl rfl rfl (GL.sg rfl rfl rfl rfl (GL.sg rfl rfl rfl rfl (GL.sg rfl rfl rfl rfl (GL.sg rfl rfl rfl rfl (GL.v (.pickF rfl rfl) rfl (GL.v (.move rfl) rfl (GL.sg rfl rfl rfl rfl (GL.sg rfl rfl rfl rfl (GL.sg rfl rfl rfl rfl (GL.sg rfl rfl rfl rfl (GL.sg rfl rfl rfl rfl (GL.v (.pickF rfl rfl) rfl (GL.v (.move rfl) rfl (GL.sg rfl rfl rfl rfl (GL.sg rfl rfl rfl rfl (GL.sg rfl rfl rfl rfl (GL.sg rfl rfl rfl rfl (GL.sg rfl rfl rfl rfl (?_))))))))))))))))))))))))))))))))))))))))
      refine GL.v (.pickF rfl rfl) rfl (GL.v (.move rfl) rfl (GL.sg rfl rfl rfl rfl (GL.sg rfl rfl rfl rfl (GL.sg rfl rfl rfl rfl (GL.sg rfl rfl rfl rfl (GL.sg rfl rfl rfl rfl (GL.v (.pickF rfl rfl) rfl (GL.v (.assign rfl) rfl (GL.nil (GN.seq (GC.ret (?_))))))))))))
      exact GR.one rfl rfl rfl () (congrArg Value.bool (by symm; (try simp only [mkS_eq, Int.natCast_inj] at h1); simp [sameV, eqL_V, eqL_K, h1])) (Ent.nil _) trivial
  · rintro ⟨k, has, v, unk⟩ hsz ⟨k', has', v', unk'⟩ cs ds w hx hy
    have hx : KR (Old w) w _ cs := hx
    have hy : KR (Old w) w _ ds := hy
    cases hx with
    | @mk _ _ _ _ c8 hV0 =>
    cases hy with
    | @mk _ _ _ _ d8 hV0' =>
    have hV : (valF v c8).holds (Old w) w := hV0
    have hV' : (valF v' d8).holds (Old w) w := hV0'
    clear hV0 hV0'
    obtain ⟨c1, c2, c3, c4, c5, c6, c7, c8', rfl⟩ := list8 (valF_len _ _ _ _ hV)
    obtain ⟨d1, d2, d3, d4, d5, d6, d7, d8', rfl⟩ := list8 (valF_len _ _ _ _ hV')
    simp only [Key.mk.sizeOf_spec] at hsz
    refine tri_of_G0 31 Tryz.func153 rfl Tryz.ntmps153 rfl ?_
    refine GC.seq (GC.region (GL.w (.box rfl rfl) rfl (fun b2 _ => GL.w (.box rfl rfl) rfl (fun b3 _ => GL.v (.assign rfl) rfl (GL.nil (GN.seq (GC.seq (GC.region (GL.v (.fieldAddr rfl) rfl (GL.v (.ld 1 rfl rfl rfl) rfl (GL.v (.fieldAddr rfl) rfl (GL.v (.ld 0 rfl rfl rfl) rfl (GL.v (.eqlS rfl rfl) rfl (GL.v (.move rfl) rfl (?_)))))))))))))))
    refine GL.partD 10 rfl (fun h1 => ?_) (fun h1 => ?_)
    · refine GL.vg rfl rfl (.fieldAddr rfl) rfl (GL.vg rfl rfl (.ld 1 rfl rfl rfl) rfl (GL.vg rfl rfl (.fieldAddr rfl) rfl (GL.vg rfl rfl (.ld 0 rfl rfl rfl) rfl (GL.vg rfl rfl (.eqlB rfl rfl) rfl (GL.v (.pickT rfl rfl) rfl (GL.v (.move rfl) rfl (?_)))))))
      refine GL.part 17 rfl (fun h2 => ?_) (fun h2 => ?_)
      · refine GL.vg rfl rfl (.fieldAddr rfl) rfl (GL.vg rfl rfl (.ld 1 rfl rfl rfl) rfl (GL.vg rfl rfl (.fieldAddr rfl) rfl (GL.vg rfl rfl (.ld 0 rfl rfl rfl) rfl (GL.vg rfl rfl (.eqlS rfl rfl) rfl (GL.v (.pickT rfl rfl) rfl (GL.v (.move rfl) rfl (?_)))))))
        refine GL.partD 24 rfl (fun h3 => ?_) (fun h3 => ?_)
        · refine GL.vg rfl rfl (.fieldAddr rfl) rfl (GL.vg rfl rfl (.ldN 1 [_, _, _, _, _, _, _, _] rfl rfl rfl ⟨rfl, rfl, rfl, rfl, rfl, rfl, rfl, rfl, trivial⟩) rfl (GL.vg rfl rfl (.fieldAddr rfl) rfl (GL.vg rfl rfl (.ldN 0 [_, _, _, _, _, _, _, _] rfl rfl rfl ⟨rfl, rfl, rfl, rfl, rfl, rfl, rfl, rfl, trivial⟩) rfl (GL.gd rfl rfl (?_)))))
          refine GL.call (As := []) rfl (fun w hst => ih.1 v (by omega) v' _ _ w (hst.keep (fun _ h => h) (valF v _) hV) (hst.keep (fun _ h => h) (valF v' _) hV')) rfl (fun _ _ => ?_)
          refine GL.v (.pickT rfl rfl) rfl (GL.v (.assign rfl) rfl (GL.nil (GN.seq (GC.ret (?_)))))
          exact GR.one rfl rfl rfl () (congrArg Value.bool (by (try simp only [mkS_eq, Int.natCast_inj] at h1 h2 h3); simp [sameK, h1, h2, h3])) (Ent.nil _) trivial
        · refine GL.sg rfl rfl rfl rfl (GL.sg rfl rfl rfl rfl (GL.sg rfl rfl rfl rfl (GL.sg rfl rfl rfl rfl (GL.sg rfl rfl rfl rfl (GL.v (.pickF rfl rfl) rfl (GL.v (.assign rfl) rfl (GL.nil (GN.seq (GC.ret (?_))))))))))
          exact GR.one rfl rfl rfl () (congrArg Value.bool (by symm; (try simp only [mkS_eq, Int.natCast_inj] at h1 h2 h3); simp [sameK, h1, h2, h3])) (Ent.nil _) trivial
      · refine GL.sg rfl rfl rfl rfl (GL.sg rfl rfl rfl rfl (GL.sg rfl rfl rfl rfl (GL.sg rfl rfl rfl rfl (GL.sg rfl rfl rfl rfl (GL.v (.pickF rfl rfl) rfl (GL.v (.move rfl) rfl (GL.sg rfl rfl rfl rfl (GL.sg rfl rfl rfl rfl (GL.sg rfl rfl rfl rfl (GL.sg rfl rfl rfl rfl (GL.sg rfl rfl rfl rfl (GL.v (.pickF rfl rfl) rfl (GL.v (.assign rfl) rfl (GL.nil (GN.seq (GC.ret (?_)))))))))))))))))
        exact GR.one rfl rfl rfl () (congrArg Value.bool (by symm; (try simp only [mkS_eq, Int.natCast_inj] at h1 h2); simp [sameK, h1, h2])) (Ent.nil _) trivial
    · refine GL.sg rfl rfl rfl rfl (GL.sg rfl rfl rfl rfl (GL.sg rfl rfl rfl rfl (GL.sg rfl rfl rfl rfl (GL.sg rfl rfl rfl rfl (GL.v (.pickF rfl rfl) rfl (GL.v (.move rfl) rfl (GL.sg rfl rfl rfl rfl (GL.sg rfl rfl rfl rfl (GL.sg rfl rfl rfl rfl (GL.sg rfl rfl rfl rfl (GL.sg rfl rfl rfl rfl (GL.v (.pickF rfl rfl) rfl (GL.v (.move rfl) rfl (GL.sg rfl rfl rfl rfl (GL.sg rfl rfl rfl rfl (GL.sg rfl rfl rfl rfl (GL.sg rfl rfl rfl rfl (GL.sg rfl rfl rfl rfl (GL.v (.pickF rfl rfl) rfl (GL.v (.assign rfl) rfl (GL.nil (GN.seq (GC.ret (?_))))))))))))))))))))))))
      exact GR.one rfl rfl rfl () (congrArg Value.bool (by symm; (try simp only [mkS_eq, Int.natCast_inj] at h1); simp [sameK, h1])) (Ent.nil _) trivial
theorem SameVal_c (x : Val) : SameC 199 valF sameV x := (same_both _).1 x (Nat.le_refl _)
theorem SameKey_c (x : Key) : SameC 153 keyF sameK x := (same_both _).2 x (Nat.le_refl _)
theorem SameExem_c (x : Exem) : SameC 75 exemF sameX x := by
  obtain ⟨at1, tm, kd, nn, sp, tr, uk⟩ := x
  rintro ⟨at2, tm', kd', nn', sp', tr', uk'⟩ cs ds w ⟨v, hx, hL⟩ ⟨v', hy, hL'⟩
  have hx : cs = _ := hx
  have hy : ds = _ := hy
  subst hx; subst hy
  simp only at hL hL'
  refine tri_of_G0 52 Tryz.func75 rfl Tryz.ntmps75 rfl ?_
  refine GC.seq (GC.region (GL.w (.box rfl rfl) rfl (fun b2 _ => GL.w (.box rfl rfl) rfl (fun b3 _ => GL.v (.assign rfl) rfl (GL.nil (GN.seq (GC.seq (GC.region (GL.v (.fieldAddr rfl) rfl (GL.v (.ld 1 rfl rfl rfl) rfl (GL.v (.fieldAddr rfl) rfl (GL.v (.ld 0 rfl rfl rfl) rfl (GL.v (.eql rfl rfl) rfl (GL.v (.move rfl) rfl (?_)))))))))))))))
  refine GL.partD 10 rfl (fun h1 => ?_) (fun h1 => ?_)
  · refine GL.vg rfl rfl (.fieldAddr rfl) rfl (GL.vg rfl rfl (.ld 1 rfl rfl rfl) rfl (GL.vg rfl rfl (.fieldAddr rfl) rfl (GL.vg rfl rfl (.ld 0 rfl rfl rfl) rfl (GL.vg rfl rfl (.eql rfl rfl) rfl (GL.v (.pickT rfl rfl) rfl (GL.v (.move rfl) rfl (?_)))))))
    refine GL.partD 17 rfl (fun h2 => ?_) (fun h2 => ?_)
    · refine GL.vg rfl rfl (.fieldAddr rfl) rfl (GL.vg rfl rfl (.ld 1 rfl rfl rfl) rfl (GL.vg rfl rfl (.fieldAddr rfl) rfl (GL.vg rfl rfl (.ld 0 rfl rfl rfl) rfl (GL.vg rfl rfl (.eql rfl rfl) rfl (GL.v (.pickT rfl rfl) rfl (GL.v (.move rfl) rfl (?_)))))))
      refine GL.partD 24 rfl (fun h3 => ?_) (fun h3 => ?_)
      · refine GL.vg rfl rfl (.fieldAddr rfl) rfl (GL.vg rfl rfl (.ld 1 rfl rfl rfl) rfl (GL.vg rfl rfl (.fieldAddr rfl) rfl (GL.vg rfl rfl (.ld 0 rfl rfl rfl) rfl (GL.vg rfl rfl (.eqlS rfl rfl) rfl (GL.v (.pickT rfl rfl) rfl (GL.v (.move rfl) rfl (?_)))))))
        refine GL.partD 31 rfl (fun h4 => ?_) (fun h4 => ?_)
        · refine GL.vg rfl rfl (.fieldAddr rfl) rfl (GL.vg rfl rfl (.ld 1 rfl rfl rfl) rfl (GL.vg rfl rfl (.fieldAddr rfl) rfl (GL.vg rfl rfl (.ld 0 rfl rfl rfl) rfl (GL.vg rfl rfl (.eqlS rfl rfl) rfl (GL.v (.pickT rfl rfl) rfl (GL.v (.move rfl) rfl (?_)))))))
          refine GL.partD 38 rfl (fun h5 => ?_) (fun h5 => ?_)
          · refine GL.vg rfl rfl (.fieldAddr rfl) rfl (GL.vg rfl rfl (.ld 1 rfl rfl rfl) rfl (GL.vg rfl rfl (.fieldAddr rfl) rfl (GL.vg rfl rfl (.ld 0 rfl rfl rfl) rfl (GL.vg rfl rfl (.eqlS rfl rfl) rfl (GL.v (.pickT rfl rfl) rfl (GL.v (.move rfl) rfl (?_)))))))
            refine GL.partD 45 rfl (fun h6 => ?_) (fun h6 => ?_)
            · refine GL.vg rfl rfl (.fieldAddr rfl) rfl (GL.vg rfl rfl (.ld 1 rfl rfl rfl) rfl (GL.vg rfl rfl (.fieldAddr rfl) rfl (GL.vg rfl rfl (.ld 0 rfl rfl rfl) rfl (GL.gd rfl rfl (?_)))))
              refine GL.call (As := []) rfl (fun w hst => SameKeys_tri at1 at2 v v' w (hst.keep (fun _ h => h) (listF keyF 11 at1 v) hL) (hst.keep (fun _ h => h) (listF keyF 11 at2 v') hL') (fun a _ => SameKey_c a)) rfl (fun _ _ => ?_)
              refine GL.v (.pickT rfl rfl) rfl (GL.v (.assign rfl) rfl (GL.nil (GN.seq (GC.ret (?_)))))
              exact GR.one rfl rfl rfl () (congrArg Value.bool (by (try simp only [mkS_eq, Int.natCast_inj] at h1 h2 h3 h4 h5 h6); simp [sameX, eqL_K, h1, h2, h3, h4, h5, h6])) (Ent.nil _) trivial
            · refine GL.sg rfl rfl rfl rfl (GL.sg rfl rfl rfl rfl (GL.sg rfl rfl rfl rfl (GL.sg rfl rfl rfl rfl (GL.sg rfl rfl rfl rfl (GL.v (.pickF rfl rfl) rfl (GL.v (.assign rfl) rfl (GL.nil (GN.seq (GC.ret (?_))))))))))
              exact GR.one rfl rfl rfl () (congrArg Value.bool (by symm; (try simp only [mkS_eq, Int.natCast_inj] at h1 h2 h3 h4 h5 h6); simp [sameX, eqL_K, h1, h2, h3, h4, h5, h6])) (Ent.nil _) trivial
          · refine GL.sg rfl rfl rfl rfl (GL.sg rfl rfl rfl rfl (GL.sg rfl rfl rfl rfl (GL.sg rfl rfl rfl rfl (GL.sg rfl rfl rfl rfl (GL.v (.pickF rfl rfl) rfl (GL.v (.move rfl) rfl (GL.sg rfl rfl rfl rfl (GL.sg rfl rfl rfl rfl (GL.sg rfl rfl rfl rfl (GL.sg rfl rfl rfl rfl (GL.sg rfl rfl rfl rfl (GL.v (.pickF rfl rfl) rfl (GL.v (.assign rfl) rfl (GL.nil (GN.seq (GC.ret (?_)))))))))))))))))
            exact GR.one rfl rfl rfl () (congrArg Value.bool (by symm; (try simp only [mkS_eq, Int.natCast_inj] at h1 h2 h3 h4 h5); simp [sameX, eqL_K, h1, h2, h3, h4, h5])) (Ent.nil _) trivial
        · refine GL.sg rfl rfl rfl rfl (GL.sg rfl rfl rfl rfl (GL.sg rfl rfl rfl rfl (GL.sg rfl rfl rfl rfl (GL.sg rfl rfl rfl rfl (GL.v (.pickF rfl rfl) rfl (GL.v (.move rfl) rfl (GL.sg rfl rfl rfl rfl (GL.sg rfl rfl rfl rfl (GL.sg rfl rfl rfl rfl (GL.sg rfl rfl rfl rfl (GL.sg rfl rfl rfl rfl (GL.v (.pickF rfl rfl) rfl (GL.v (.move rfl) rfl (GL.sg rfl rfl rfl rfl (GL.sg rfl rfl rfl rfl (GL.sg rfl rfl rfl rfl (GL.sg rfl rfl rfl rfl (GL.sg rfl rfl rfl rfl (GL.v (.pickF rfl rfl) rfl (GL.v (.assign rfl) rfl (GL.nil (GN.seq (GC.ret (?_))))))))))))))))))))))))
          exact GR.one rfl rfl rfl () (congrArg Value.bool (by symm; (try simp only [mkS_eq, Int.natCast_inj] at h1 h2 h3 h4); simp [sameX, eqL_K, h1, h2, h3, h4])) (Ent.nil _) trivial
      · refine GL.sg rfl rfl rfl rfl (GL.sg rfl rfl rfl rfl (GL.sg rfl rfl rfl rfl (GL.sg rfl rfl rfl rfl (GL.sg rfl rfl rfl rfl (GL.v (.pickF rfl rfl) rfl (GL.v (.move rfl) rfl (GL.sg rfl rfl rfl rfl (GL.sg rfl rfl rfl rfl (GL.sg rfl rfl rfl rfl (GL.sg rfl rfl rfl rfl (GL.sg rfl rfl rfl rfl (GL.v (.pickF rfl rfl) rfl (GL.v (.move rfl) rfl (GL.sg rfl rfl rfl rfl (GL.sg rfl rfl rfl rfl (GL.sg rfl rfl rfl rfl (GL.sg rfl rfl rfl rfl (GL.sg rfl rfl rfl rfl (GL.v (.pickF rfl rfl) rfl (GL.v (.move rfl) rfl (GL.sg rfl rfl rfl rfl (GL.sg rfl rfl rfl rfl (GL.sg rfl rfl rfl rfl (GL.sg rfl rfl rfl rfl (GL.sg rfl rfl rfl rfl (GL.v (.pickF rfl rfl) rfl (GL.v (.assign rfl) rfl (GL.nil (GN.seq (GC.ret (?_)))))))))))))))))))))))))))))))
        exact GR.one rfl rfl rfl () (congrArg Value.bool (by symm; (try simp only [mkS_eq, Int.natCast_inj] at h1 h2 h3); simp [sameX, eqL_K, h1, h2, h3])) (Ent.nil _) trivial
    · refine GL.sg rfl rfl rfl rfl (GL.sg rfl rfl rfl rfl (GL.sg rfl rfl rfl rfl (GL.sg rfl rfl rfl rfl (GL.sg rfl rfl rfl rfl (GL.v (.pickF rfl rfl) rfl (GL.v (.move rfl) rfl (GL.sg rfl rfl rfl rfl (GL.sg rfl rfl rfl rfl (GL.sg rfl rfl rfl rfl (GL.sg rfl rfl rfl rfl (GL.sg rfl rfl rfl rfl (GL.v (.pickF rfl rfl) rfl (GL.v (.move rfl) rfl (GL.sg rfl rfl rfl rfl (GL.sg rfl rfl rfl rfl (GL.sg rfl rfl rfl rfl (GL.sg rfl rfl rfl rfl (GL.sg rfl rfl rfl rfl (GL.v (.pickF rfl rfl) rfl (GL.v (.move rfl) rfl (GL.sg rfl rfl rfl rfl (GL.sg rfl rfl rfl rfl (GL.sg rfl rfl rfl rfl (GL.sg rfl rfl rfl rfl (GL.sg rfl rfl rfl rfl (GL.v (.pickF rfl rfl) rfl (GL.v (.move rfl) rfl (GL.sg rfl rfl rfl rfl (GL.sg rfl rfl rfl rfl (GL.sg rfl rfl rfl rfl (GL.sg rfl rfl rfl rfl (GL.sg rfl rfl rfl rfl (GL.v (.pickF rfl rfl) rfl (GL.v (.assign rfl) rfl (GL.nil (GN.seq (GC.ret (?_))))))))))))))))))))))))))))))))))))))
      exact GR.one rfl rfl rfl () (congrArg Value.bool (by symm; (try simp only [mkS_eq, Int.natCast_inj] at h1 h2); simp [sameX, eqL_K, h1, h2])) (Ent.nil _) trivial
  · refine GL.sg rfl rfl rfl rfl (GL.sg rfl rfl rfl rfl (GL.sg rfl rfl rfl rfl (GL.sg rfl rfl rfl rfl (GL.sg rfl rfl rfl rfl (GL.v (.pickF rfl rfl) rfl (GL.v (.move rfl) rfl (GL.sg rfl rfl rfl rfl (GL.sg rfl rfl rfl rfl (GL.sg rfl rfl rfl rfl (GL.sg rfl rfl rfl rfl (GL.sg rfl rfl rfl rfl (GL.v (.pickF rfl rfl) rfl (GL.v (.move rfl) rfl (GL.sg rfl rfl rfl rfl (GL.sg rfl rfl rfl rfl (GL.sg rfl rfl rfl rfl (GL.sg rfl rfl rfl rfl (GL.sg rfl rfl rfl rfl (GL.v (.pickF rfl rfl) rfl (GL.v (.move rfl) rfl (GL.sg rfl rfl rfl rfl (GL.sg rfl rfl rfl rfl (GL.sg rfl rfl rfl rfl (GL.sg rfl rfl rfl rfl (GL.sg rfl rfl rfl rfl (GL.v (.pickF rfl rfl) rfl (GL.v (.move rfl) rfl (GL.sg rfl rfl rfl rfl (GL.sg rfl rfl rfl rfl (GL.sg rfl rfl rfl rfl (GL.sg rfl rfl rfl rfl (GL.sg rfl rfl rfl rfl (GL.v (.pickF rfl rfl) rfl (GL.v (.move rfl) rfl (GL.sg rfl rfl rfl rfl (GL.sg rfl rfl rfl rfl (GL.sg rfl rfl rfl rfl (GL.sg rfl rfl rfl rfl (GL.sg rfl rfl rfl rfl (?_))))))))))))))))))))))))))))))))))))))))
    refine GL.v (.pickF rfl rfl) rfl (GL.v (.assign rfl) rfl (GL.nil (GN.seq (GC.ret (?_)))))
    exact GR.one rfl rfl rfl () (congrArg Value.bool (by symm; (try simp only [mkS_eq, Int.natCast_inj] at h1); simp [sameX, eqL_K, h1])) (Ent.nil _) trivial
theorem SameBuck_c (x : Buck) : SameC 151 buckF sameB x := by
  obtain ⟨o1, c1, u1⟩ := x
  rintro ⟨o2, c2, u2⟩ cs ds w ⟨v, hx, hL⟩ ⟨v', hy, hL'⟩
  have hx : cs = _ := hx
  have hy : ds = _ := hy
  subst hx; subst hy
  simp only at hL hL'
  refine tri_of_G0 24 Tryz.func151 rfl Tryz.ntmps151 rfl ?_
  refine GC.seq (GC.region (GL.w (.box rfl rfl) rfl (fun b2 _ => GL.w (.box rfl rfl) rfl (fun b3 _ => GL.v (.assign rfl) rfl (GL.nil (GN.seq (GC.seq (GC.region (GL.v (.fieldAddr rfl) rfl (GL.v (.ld 1 rfl rfl rfl) rfl (GL.v (.fieldAddr rfl) rfl (GL.v (.ld 0 rfl rfl rfl) rfl (GL.v (.eql rfl rfl) rfl (GL.v (.move rfl) rfl (?_)))))))))))))))
  refine GL.partD 10 rfl (fun h1 => ?_) (fun h1 => ?_)
  · refine GL.vg rfl rfl (.fieldAddr rfl) rfl (GL.vg rfl rfl (.ld 1 rfl rfl rfl) rfl (GL.vg rfl rfl (.fieldAddr rfl) rfl (GL.vg rfl rfl (.ld 0 rfl rfl rfl) rfl (GL.vg rfl rfl (.eqlS rfl rfl) rfl (GL.v (.pickT rfl rfl) rfl (GL.v (.move rfl) rfl (?_)))))))
    refine GL.partD 17 rfl (fun h2 => ?_) (fun h2 => ?_)
    · refine GL.vg rfl rfl (.fieldAddr rfl) rfl (GL.vg rfl rfl (.ld 1 rfl rfl rfl) rfl (GL.vg rfl rfl (.fieldAddr rfl) rfl (GL.vg rfl rfl (.ld 0 rfl rfl rfl) rfl (GL.gd rfl rfl (?_)))))
      refine GL.call (As := []) rfl (fun w hst => Equal_tri c1 c2 v v' w (hst.keep (fun _ h => h) (numsF c1 v) hL) (hst.keep (fun _ h => h) (numsF c2 v') hL')) rfl (fun _ _ => ?_)
      refine GL.v (.pickT rfl rfl) rfl (GL.v (.assign rfl) rfl (GL.nil (GN.seq (GC.ret (?_)))))
      exact GR.one rfl rfl rfl () (congrArg Value.bool (by (try simp only [mkS_eq, Int.natCast_inj] at h1 h2); simp [sameB, h1, h2])) (Ent.nil _) trivial
    · refine GL.sg rfl rfl rfl rfl (GL.sg rfl rfl rfl rfl (GL.sg rfl rfl rfl rfl (GL.sg rfl rfl rfl rfl (GL.sg rfl rfl rfl rfl (GL.v (.pickF rfl rfl) rfl (GL.v (.assign rfl) rfl (GL.nil (GN.seq (GC.ret (?_))))))))))
      exact GR.one rfl rfl rfl () (congrArg Value.bool (by symm; (try simp only [mkS_eq, Int.natCast_inj] at h1 h2); simp [sameB, h1, h2])) (Ent.nil _) trivial
  · refine GL.sg rfl rfl rfl rfl (GL.sg rfl rfl rfl rfl (GL.sg rfl rfl rfl rfl (GL.sg rfl rfl rfl rfl (GL.sg rfl rfl rfl rfl (GL.v (.pickF rfl rfl) rfl (GL.v (.move rfl) rfl (GL.sg rfl rfl rfl rfl (GL.sg rfl rfl rfl rfl (GL.sg rfl rfl rfl rfl (GL.sg rfl rfl rfl rfl (GL.sg rfl rfl rfl rfl (GL.v (.pickF rfl rfl) rfl (GL.v (.assign rfl) rfl (GL.nil (GN.seq (GC.ret (?_)))))))))))))))))
    exact GR.one rfl rfl rfl () (congrArg Value.bool (by symm; (try simp only [mkS_eq, Int.natCast_inj] at h1); simp [sameB, h1])) (Ent.nil _) trivial
end Go.Proofs.Gw
