/- Texts that a claim of this seat leans on: HD, HE, HF, HG, HN. No statement is claimed in this text. -/
import Derived.Test.YtabmekglalbmoaaGreatDoorB23
/- A part of the memory that stays; an exemplar is written. -/
set_option linter.unusedVariables false
set_option linter.unusedSimpArgs false
namespace Go.Proofs.Gw
open Go Go.RowKit Go.IntWalk Go.Proofs.Gm

/-- These blocks are as they were. -/
def snapF (ok0 : Nat → Prop) (w0 : World) : FP := ⟨fun ok w => ∀ k, ok0 k → ok k ∧ w.heap[k]? = w0.heap[k]?, fun ok w w' h1 h2 k hk => ⟨(h2 k hk).1, (h1 k (h2 k hk).1).trans (h2 k hk).2⟩, fun ok ok' w h1 h2 k hk => ⟨h1 k (h2 k hk).1, (h2 k hk).2⟩⟩
abbrev Sn (ok0 : Nat → Prop) (w0 : World) : HP := (snapF ok0 w0).hp
theorem snap_fp {G : FP} {ok0 ok : Nat → Prop} {w0 w : World} (h : G.holds ok0 w0) (h2 : (snapF ok0 w0).holds ok w) : G.holds ok w :=
  G.mono ok0 ok w (fun k hk => (h2 k hk).1) (G.loc ok0 w0 w (fun k hk => (h2 k hk).2) h)
theorem St.sn {C : Ctx} {Hs : List HP} {w : World} (h : St C Hs w) (i : Nat) {ok0 : Nat → Prop} {w0 : World} (hi : Hs[i]? = some (Sn ok0 w0)) {G : FP} (hG : G.holds ok0 w0) : G.holds (Old w) w := snap_fp hG (h.fp i hi)
/-- What is asserted, as a part of the memory. -/
theorem Sat.snap {D : Nat → Prop} {w : World} {F : FP} {Hs : List HP} (h : Sat D w (F.hp :: Hs)) : ∃ x : (Nat → Prop) × World, F.holds x.1 x.2 ∧ Sat D w (Sn x.1 x.2 :: Hs) := by
  obtain ⟨ok, h1, h2, h3⟩ := h
  exact ⟨(ok, w), h2, ok, h1, fun k hk => ⟨hk, rfl⟩, h3⟩
section
variable {C : Ctx} {ρ : List (Nat × Value)} {Hs : List HP} {ty : TypeId}
theorem OpV.ldSN (i : Nat) {k : Nat} {t : TypeId} {x : Operand} (vs : List Value) {b off : Nat} {ok0 : Nat → Prop} {w0 : World} [hz : TSz C.P t true k] (hi : Hs[i]? = some (Sn ok0 w0)) (hb : ok0 b) (hc : ∀ j v, vs[j]? = some v → w0.cell? ⟨b, off + j, none⟩ = some v) (hx : ev ρ x = some (.pointer (some ⟨b, off, none⟩))) (hk : Nat.beq vs.length k = true) : OpV C ρ (St C Hs) (.load t x) ty (.agg vs.toArray) :=
  OpV.loadN hx hk fun w hs j v hj => by
    have hc := hc j v hj
    rw [← hc]
    have := (hs.fp i hi b hb).2
    simp only [World.cell?, this]
end
/-- An element of a list that lies in memory, and where. -/
theorem list_atS {α : Type} {rep : α → List Value → FP} {k : Nat} {l : List α} {v : Value} {ok : Nat → Prop} {w : World} (hk : ∀ a cs ok w, (rep a cs).holds ok w → cs.length = k) (h : (listF rep k l v).holds ok w) {i : Nat} {a : α} (ha : l[i]? = some a) :
    ∃ cs g off c, v = .slice (some ⟨g, off, none⟩) l.length c ∧ ok g ∧ (rep a cs).holds ok w ∧ ∀ j u, cs[j]? = some u → w.cell? ⟨g, off + i * k + j, none⟩ = some u := by
  obtain ⟨cs, g, off, c, e, h2, h3⟩ := list_at hk h ha
  obtain ⟨css, ⟨_, A, c', e2, h4⟩, _⟩ := h
  have hlt := (List.getElem?_eq_some_iff.1 ha).1
  obtain ⟨g', off', e3, hg, _⟩ := h4 (by omega)
  rw [e] at e2
  simp only [Value.slice.injEq, e3, Option.some.injEq, Addr.mk.injEq, and_true, true_and] at e2
  obtain ⟨⟨rfl, _⟩, _⟩ := e2
  exact ⟨cs, g, off, c, e, hg, h2, h3⟩
theorem MayNum_tri (kind : Int) (n : Nat) (w : World) : Tri Tryz.prog 93 [.int .i64 kind, .int .u64 (n : Int)] [] (fun _ : Unit => .bool (mayNum kind n)) (fun _ => []) (fun _ => True) w := by
  refine tri_of_G0 19 Tryz.func93 rfl Tryz.ntmps93 rfl ?_
  refine GC.seq (GC.region (GL.v (.assign rfl) rfl (GL.nil (GN.seq (GC.seq (GC.region (GL.v (.move rfl) rfl (GL.v (.geq rfl rfl) rfl (GL.v (.move rfl) rfl (?_))))))))))
  refine GL.partD 7 rfl (fun g1 => ?_) (fun g1 => ?_)
  · refine GL.vg rfl rfl (.move rfl) rfl (GL.vg rfl rfl (.leq rfl rfl) rfl (GL.v (.pickT rfl rfl) rfl (GL.v (.move rfl) rfl (?_))))
    refine GL.partD 11 rfl (fun g2 => ?_) (fun g2 => ?_)
    · refine GL.vg rfl rfl (.move rfl) rfl (GL.vg rfl rfl (.gtr rfl rfl) rfl (GL.vg rfl rfl (.move rfl) rfl (?_)))
      refine GL.partD 14 rfl (fun g3 => ?_) (fun g3 => ?_)
      · refine GL.sg rfl rfl rfl rfl (GL.sg rfl rfl rfl rfl (GL.vg rfl rfl (.pickT rfl rfl) rfl (GL.v (.pickT rfl rfl) rfl (GL.v (.assign rfl) rfl (GL.nil (GN.seq (GC.ret (?_))))))))
        exact GR.one rfl rfl rfl () (congrArg Value.bool (by unfold mayNum; rw [decide_eq_true (p := 0 ≤ kind) (by omega), decide_eq_true (p := kind ≤ 2) (by omega), decide_eq_true (p := 0 < kind) (by omega)]; rfl)) (Ent.nil _) trivial
      · refine GL.vg rfl rfl (.move rfl) rfl (GL.vg rfl rfl (.eql rfl rfl) rfl (GL.vg rfl rfl (.pickF rfl rfl) rfl (GL.v (.pickT rfl rfl) rfl (GL.v (.assign rfl) rfl (GL.nil (GN.seq (GC.ret (?_))))))))
        exact GR.one rfl rfl rfl () (congrArg Value.bool (by unfold mayNum; rw [decide_eq_true (p := 0 ≤ kind) (by omega), decide_eq_true (p := kind ≤ 2) (by omega), decide_eq_false (p := 0 < kind) (by omega), decE]; rfl)) (Ent.nil _) trivial
    · refine GL.sg rfl rfl rfl rfl (GL.sg rfl rfl rfl rfl (GL.sg rfl rfl rfl rfl (GL.sgu rfl rfl rfl (GL.sgu rfl rfl rfl (GL.sg rfl rfl rfl rfl (GL.v (.pickF rfl rfl) rfl (GL.v (.assign rfl) rfl (GL.nil (GN.seq (GC.ret (?_)))))))))))
      exact GR.one rfl rfl rfl () (congrArg Value.bool (by unfold mayNum; rw [decide_eq_false (p := kind ≤ 2) (by omega)]; simp)) (Ent.nil _) trivial
  · refine GL.sg rfl rfl rfl rfl (GL.sg rfl rfl rfl rfl (GL.v (.pickF rfl rfl) rfl (GL.v (.move rfl) rfl (GL.sg rfl rfl rfl rfl (GL.sg rfl rfl rfl rfl (GL.sg rfl rfl rfl rfl (GL.sgu rfl rfl rfl (GL.sgu rfl rfl rfl (GL.sg rfl rfl rfl rfl (GL.v (.pickF rfl rfl) rfl (GL.v (.assign rfl) rfl (GL.nil (GN.seq (GC.ret (?_)))))))))))))))
    exact GR.one rfl rfl rfl () (congrArg Value.bool (by unfold mayNum; rw [decide_eq_false (p := 0 ≤ kind) (by omega)]; simp)) (Ent.nil _) trivial
theorem MayExem_c (x : Exem) (hz : szX x ≤ 1000000000) : MayC 95 exemF mayX x := by
  obtain ⟨at1, tm, kd, nn, sp, tr, uk⟩ := x
  rintro d cs w hd1 hd2 ⟨v, hx, hL⟩
  have hx : cs = _ := hx
  subst hx
  simp only at hL
  unfold szX at hz
  simp only at hz
  refine tri_of_G0 27 Tryz.func95 rfl Tryz.ntmps95 rfl ?_
  refine GC.seq (GC.region (GL.w (.box rfl rfl) rfl (fun b2 _ => GL.v (.assign rfl) rfl (GL.nil (GN.seq (GC.seq (GC.region (GL.v (.move rfl) rfl (GL.v (.geq rfl rfl) rfl (GL.v (.move rfl) rfl (?_)))))))))))
  refine GL.partD 7 rfl (fun g1 => ?_) (fun g1 => ?_)
  · refine GL.vg rfl rfl (.fieldAddr rfl) rfl (GL.vg rfl rfl (.ld 0 rfl rfl rfl) rfl (GL.vg rfl rfl (.fieldAddr rfl) rfl (GL.vg rfl rfl (.ld 0 rfl rfl rfl) rfl (GL.gd rfl rfl (?_)))))
    have hd0 : decide (0 ≤ d) = true := decide_eq_true (by omega)
    refine GL.call (As := []) rfl (fun w hst => MayNum_tri kd nn w) rfl (fun _ _ => ?_)
    refine GL.v (.pickT rfl rfl) rfl (GL.v (.move rfl) rfl (?_))
    refine GL.part 14 rfl (fun g2 => ?_) (fun g2 => ?_)
    · refine GL.vg rfl rfl (.fieldAddr rfl) rfl (GL.vg rfl rfl (.ld 0 rfl rfl rfl) rfl (GL.vg rfl rfl (.move rfl) rfl (GL.vg rfl rfl (.sub rfl rfl (i64_in _ (by omega))) rfl (GL.gd rfl rfl (?_)))))
      refine GL.call (As := []) rfl (fun w hst => MayKeys_c at1 v (d - 1) w (by omega) (by omega) (by omega) (hst.keep (fun _ h => h) (listF keyF 11 at1 v) hL)) rfl (fun _ _ => ?_)
      refine GL.v (.pickT rfl rfl) rfl (GL.v (.move rfl) rfl (?_))
      refine GL.part 21 rfl (fun g3 => ?_) (fun g3 => ?_)
      · refine GL.vg rfl rfl (.fieldAddr rfl) rfl (GL.vg rfl rfl (.ld 0 rfl rfl rfl) rfl (GL.vg rfl rfl (.move rfl) rfl (GL.gd rfl rfl (?_))))
        refine GL.call (As := []) rfl (fun w hst => Rest_tri (mkS uk) d 130 exemT tbl_exem w (by rw [mkS_size]; unfold mx; omega) hd1 hd2) rfl (fun _ _ => ?_)
        rw [bs_mkS]
        refine GL.v (.pickT rfl rfl) rfl (GL.v (.assign rfl) rfl (GL.nil (GN.seq (GC.ret (?_)))))
        exact GR.one rfl rfl rfl () (congrArg Value.bool (by unfold mayX; rw [hd0]; simp only [g2, g3, Bool.true_and])) (Ent.nil _) trivial
      · refine GL.sg rfl rfl rfl rfl (GL.sg rfl rfl rfl rfl (GL.sg rfl rfl rfl rfl (GL.sg rfl rfl rfl rfl (GL.v (.pickF rfl rfl) rfl (GL.v (.assign rfl) rfl (GL.nil (GN.seq (GC.ret (?_)))))))))
        exact GR.one rfl rfl rfl () (congrArg Value.bool (by unfold mayX; rw [hd0]; simp only [g2, g3, Bool.true_and, Bool.false_and])) (Ent.nil _) trivial
    · refine GL.sg rfl rfl rfl rfl (GL.sg rfl rfl rfl rfl (GL.sg rfl rfl rfl rfl (GL.sg rfl rfl rfl rfl (GL.sg rfl rfl rfl rfl (GL.v (.pickF rfl rfl) rfl (GL.v (.move rfl) rfl (GL.sg rfl rfl rfl rfl (GL.sg rfl rfl rfl rfl (GL.sg rfl rfl rfl rfl (GL.sg rfl rfl rfl rfl (GL.v (.pickF rfl rfl) rfl (GL.v (.assign rfl) rfl (GL.nil (GN.seq (GC.ret (?_))))))))))))))))
      exact GR.one rfl rfl rfl () (congrArg Value.bool (by unfold mayX; rw [hd0]; simp only [g2, Bool.true_and, Bool.false_and])) (Ent.nil _) trivial
  · refine GL.sg rfl rfl rfl rfl (GL.sg rfl rfl rfl rfl (GL.sg rfl rfl rfl rfl (GL.sg rfl rfl rfl rfl (GL.sg rfl rfl rfl rfl (GL.v (.pickF rfl rfl) rfl (GL.v (.move rfl) rfl (GL.sg rfl rfl rfl rfl (GL.sg rfl rfl rfl rfl (GL.sg rfl rfl rfl rfl (GL.sg rfl rfl rfl rfl (GL.sg rfl rfl rfl rfl (GL.v (.pickF rfl rfl) rfl (GL.v (.move rfl) rfl (GL.sg rfl rfl rfl rfl (GL.sg rfl rfl rfl rfl (GL.sg rfl rfl rfl rfl (GL.sg rfl rfl rfl rfl (GL.v (.pickF rfl rfl) rfl (GL.v (.assign rfl) rfl (GL.nil (GN.seq (GC.ret (?_)))))))))))))))))))))))
    exact GR.one rfl rfl rfl () (congrArg Value.bool (by unfold mayX; rw [decide_eq_false (p := 0 ≤ d) (by omega), Bool.false_and])) (Ent.nil _) trivial
abbrev marV (b : Bool) (s : Bs) : Value := .tuple #[.string (mkS (if b then s else [])), if b then .nilIface else .iface 45 (.int .i64 8)]
theorem MarKey_tri (x : Key) (d : Int) (cs : List Value) (w : World) (hz : szK x ≤ 1000000000) (hf : fitK x) (hd1 : -9223372036854775808 ≤ d) (hd2 : d ≤ 9223372036854775807) (hx : (keyF x cs).holds (Old w) w) :
    Tri Tryz.prog 89 [.agg cs.toArray, .int .i64 d] [] (fun _ : Unit => marV (mayK x d) (keyW x)) (fun _ => []) (fun _ => True) w := by
  have l1 := keyF_len _ _ _ _ hx
  have o1 := keyF_one _ _ _ _ hx
  obtain ⟨c1, c2, c3, c4, c5, c6, c7, c8, c9, c10, c11, rfl⟩ : ∃ c1 c2 c3 c4 c5 c6 c7 c8 c9 c10 c11, cs = [c1, c2, c3, c4, c5, c6, c7, c8, c9, c10, c11] := by
    rcases cs with _ | ⟨c1, cs⟩ <;> simp at l1
    obtain ⟨cs2, c10, c11, rfl⟩ : ∃ a b c, cs = a ++ [b, c] := by
      have := List.take_append_drop 8 cs
      have h2 : (cs.drop 8).length = 2 := by rw [List.length_drop]; omega
      match h3 : cs.drop 8, h2 with
      | [b, c], _ => exact ⟨cs.take 8, b, c, by rw [← h3]; exact this.symm⟩
    obtain ⟨a1, a2, a3, a4, a5, a6, a7, a8, rfl⟩ := list8 (l := cs2) (by simp at l1; omega)
    exact ⟨c1, a1, a2, a3, a4, a5, a6, a7, a8, c10, c11, rfl⟩
  refine tri_of_G0 13 Tryz.func89 rfl Tryz.ntmps89 rfl ?_
  refine GC.seq (GC.region (GL.w (.box rfl rfl) rfl (fun b2 _ => GL.v (.assign rfl) rfl (GL.v (.assign rfl) rfl (GL.nil (GN.seq (GC.seq (GC.seq (GC.region (GL.v (.ldN 0 [_, _, _, _, _, _, _, _, _, _, _] rfl rfl rfl ⟨rfl, rfl, rfl, rfl, rfl, rfl, rfl, rfl, rfl, rfl, rfl, trivial⟩) rfl (GL.v (.move rfl) rfl (?_))))))))))))
  refine GL.call (As := []) rfl (fun w hst => MayKey_c x hz d _ w hd1 hd2 (hst.keep (fun _ h => h) (keyF x _) hx)) rfl (fun _ _ => ?_)
  refine GL.v (.not rfl) rfl (GL.nil (GN.seq (?_)))
  refine GC.cond rfl (fun g1 => ?_) (fun g1 => ?_)
  · refine GC.seq (GC.region (GL.v (.makeInterface rfl) rfl (GL.v (.assign rfl) rfl (GL.v (.assign rfl) rfl (GL.nil (GN.seq (GC.ret (?_))))))))
    exact GR.two rfl rfl rfl rfl () (by rw [show mayK x d = false from by simpa using g1]; rfl) (Ent.nil _) trivial
  · refine GC.skip (GN.seq (GC.seq (GC.region (GL.v (.ldN 0 [_, _, _, _, _, _, _, _, _, _, _] rfl rfl rfl ⟨rfl, rfl, rfl, rfl, rfl, rfl, rfl, rfl, rfl, rfl, rfl, trivial⟩) rfl (?_)))))
    refine GL.call (As := []) rfl (fun w hst => WriteKey_c x hz hf _ w (hst.keep (fun _ h => h) (keyF x _) hx)) rfl (fun _ _ => ?_)
    refine GL.v (.assign rfl) rfl (GL.v (.assign rfl) rfl (GL.nil (GN.seq (GC.ret (?_)))))
    exact GR.two rfl rfl rfl rfl () (by rw [show mayK x d = true from by simpa using g1]; rfl) (Ent.nil _) trivial
end Go.Proofs.Gw
/- Parts are written; an exemplar is written. Printed by wip/tools/gen17.py. -/
set_option linter.unusedVariables false
set_option linter.unusedSimpArgs false
namespace Go.Proofs.Gw
open Go Go.RowKit Go.IntWalk Go.Proofs.Gm

theorem WEither_tri (is : Bool) (b num n : Nat) (l : Bs) (w : World) (h1 : num < 2 ^ 62) (h2 : n < 2 ^ 64) (hn : l.length + 20 ≤ 140737488355328) : Tri Tryz.prog 85 [ptr b, .bool is, .int .i64 (num : Int), .int .u64 (n : Int)] [Wr b l] (fun _ : Unit => .tuple #[]) (fun _ => [Wr b (l ++ wOnly is (fixW num n))]) (fun _ => True) w := by
  refine tri_of_G 13 Tryz.func85 rfl Tryz.ntmps85 rfl (fun D => ?_)
  refine GC.seq (GC.region (GL.v (.move rfl) rfl (GL.nil (GN.seq (?_)))))
  refine GC.cond rfl (fun g1 => ?_) (fun g1 => ?_)
  · refine GC.region (GL.v (.move rfl) rfl (GL.v (.move rfl) rfl (GL.v (.move rfl) rfl (?_))))
    refine GL.call (As := [_]) rfl (fun w hst => WEight_tri b num n l w h1 h2 hn) rfl (fun _ _ => ?_)
    refine GL.nil (?_)
    rw [g1]
    exact GR.none rfl rfl () rfl (Ent.refl _) trivial
  · refine GC.skip (?_)
    rw [g1, show wOnly false (fixW num n) = [] from rfl, List.append_nil]
    exact GR.none rfl rfl () rfl (Ent.refl _) trivial
theorem Parts_key (b num : Nat) (L : Bs) (l : List Key) (v : Value) (d : Int) (ok0 : Nat → Prop) (w0 w : World) (h1 : num < 2 ^ 62) (hd1 : -9223372036854775808 < d) (hd2 : d ≤ 9223372036854775807) (hl : (listF keyF 11 l v).holds ok0 w0) (hz : szLK l ≤ 1000000000) (hf : fitLK l) (hm : mayLK l (d - 1) = true) (hL : L.length ≤ 10000000000) :
    Tri Tryz.prog 88 [ptr b, .int .i64 (num : Int), v, .int .i64 d, .func (.func 89) #[] #[]] [Wr b L, Sn ok0 w0] (fun _ : Unit => .tuple #[]) (fun _ => [Wr b (L ++ partsW num (l.map keyW)), Sn ok0 w0]) (fun _ => True) w := by
  have hbl := list_len hl
  obtain ⟨A, c, rfl⟩ := listF.form hl
  have htot := partsK_len num l hf hz
  rw [mayLK_all] at hm
  refine tri_of_G 33 Tryz.func88 rfl Tryz.ntmps88 rfl (fun D => ?_)
  refine GC.seq (GC.region (GL.v (.move rfl) rfl (GL.v (.lenSl rfl) rfl (GL.v (.move rfl) rfl (GL.nil (GN.seq (GC.block (?_))))))))
  refine GC.loop (γ := Nat) (fun i => i ≤ l.length) (fun i => [(0, ptr b), (1, .int .i64 (num : Int)), (3, .int .i64 d), (4, .func (.func 89) #[] #[]), (14, .slice A l.length c), (15, .int .i64 (l.length : Int)), (16, .int .i64 (i : Int))]) (fun i => [Wr b (L ++ partsW num ((l.take i).map keyW)), Sn ok0 w0]) (fun i => l.length - i) 0 (Nat.zero_le _) (Sub.cons rfl (Sub.cons rfl (Sub.cons rfl (Sub.cons rfl (Sub.cons rfl (Sub.cons rfl (Sub.cons rfl (Sub.nil _)))))))) (by rw [List.take_zero, List.map_nil, show partsW num [] = [] from rfl, List.append_nil]; exact Ent.refl _) ?_
  intro i hi
  refine GC.seq (GC.region (GL.v (.lss rfl rfl) rfl (GL.nil (GN.seq (GC.seq (?_))))))
  refine GC.condD rfl (fun hlt => ?_) (fun hlt => ?_)
  · have hil : i < l.length := by omega
    obtain ⟨a, ha⟩ : ∃ a, l[i]? = some a := ⟨_, List.getElem?_eq_getElem hil⟩
    obtain ⟨cs, g, off, c0, e1, hg, hra, hca⟩ := list_atS keyF_len hl ha
    simp only [Value.slice.injEq] at e1
    obtain ⟨rfl, _, rfl⟩ := e1
    have l1 := keyF_len _ _ _ _ hra
    have o1 := keyF_one _ _ _ _ hra
    have hmem := List.mem_of_getElem? ha
    have hma := (List.all_eq_true.1 hm) a hmem
    have hza := szLK_mem hmem
    have hz4 := partsW_take num keyW l i
    have hel := keyW_len a (fitLK_mem hf hmem) (by omega)
    refine GC.skip (GN.seq (GC.seq (GC.block (GC.seq (GC.region (GL.v (.indexAddr rfl rfl (by omega) (by omega)) rfl (?_)))))))
    refine GL.v (.ldSN 1 cs rfl hg hca rfl (by rw [l1]; rfl)) rfl ?_
    refine GL.w .alloc rfl (fun b11 _ => GL.w0 (.store 0 rfl rfl rfl rfl (by first | (rw [l1]; done) | (rw [l1]; rfl)) rfl (by exact o1)) (fun _ _ => GL.nil (GN.seq (GC.seq (GC.region (GL.v (.move rfl) rfl (GL.v (.ldN 0 cs rfl rfl (by rw [l1]; rfl) (lkN_stU _ _ _)) rfl (GL.v (.move rfl) rfl (GL.v (.sub rfl rfl (i64_in _ (by omega))) rfl (?_))))))))))
    refine GL.callV rfl (As := []) rfl (fun w hst => MarKey_tri a (d - 1) cs w (by omega) (fitLK_mem hf hmem) (by omega) (by omega) (hst.sn 2 rfl hra)) rfl (fun _ _ => ?_)
    rw [show mayK a (d - 1) = true from hma]
    refine GL.v (.move rfl) rfl (GL.v (.extract rfl rfl) rfl (GL.v (.extract rfl rfl) rfl (GL.v (.assign rfl) rfl (GL.v (.assign rfl) rfl (GL.nil (GN.seq (GC.region (GL.v (.move rfl) rfl (GL.v (.move rfl) rfl (GL.v (.move rfl) rfl (?_)))))))))))
    refine GL.ent (Ent.front 1 _ _ rfl) ?_
    refine GL.call (As := [_]) rfl (fun w hst => WPart_tri b num _ (keyW a) w (by omega) (by rw [List.length_append]; omega)) rfl (fun _ _ => ?_)
    refine GL.nil (GN.blk (GN.seq (GC.region (GL.v (.add rfl rfl (i64_in _ (by omega))) rfl (GL.v (.move rfl) rfl (GL.nil (?_)))))))
    refine GN.loop (i + 1) (by omega) (by omega) (Sub.cons rfl (Sub.cons rfl (Sub.cons rfl (Sub.cons rfl (Sub.cons rfl (Sub.cons rfl (Sub.cons rfl (Sub.nil _)))))))) ?_
    rw [List.take_add_one, ha, Option.toList_some, List.map_append, List.map_cons, List.map_nil, partsW_snoc, ← List.append_assoc]
    exact ((Ent.cons _ (Ent.trans (Ent.front 1 _ _ rfl) (Ent.cons _ (Ent.nil _)))))
  · have hi2 : i = l.length := by omega
    subst hi2
    rw [List.take_length]
    refine GC.exit (GX.seq (GX.loop (GX.blk (?_))))
    exact GR.none rfl rfl () rfl (Ent.refl _) trivial
theorem MarExem_tri (x : Exem) (d : Int) (cs : List Value) (ok0 : Nat → Prop) (w0 w : World) (hz : szX x ≤ 1000000000) (hf : fitX x) (hd1 : -9223372036854775808 ≤ d) (hd2 : d ≤ 9223372036854775807) (hx : (exemF x cs).holds ok0 w0) :
    Tri Tryz.prog 87 [.agg cs.toArray, .int .i64 d] [Sn ok0 w0] (fun _ : Unit => marV (mayX x d) (exemW x)) (fun _ => [Sn ok0 w0]) (fun _ => True) w := by
  have hx0 := hx
  obtain ⟨v, hx, hL⟩ := hx
  have hx : cs = _ := hx
  subst hx
  refine tri_of_G 41 Tryz.func87 rfl Tryz.ntmps87 rfl (fun D => ?_)
  refine GC.seq (GC.region (GL.w (.box rfl rfl) rfl (fun b2 _ => GL.v (.assign rfl) rfl (GL.v (.assign rfl) rfl (GL.nil (GN.seq (GC.seq (GC.seq (GC.region (GL.v (.ldN 0 [_, _, _, _, _, _, _] rfl rfl rfl ⟨rfl, rfl, rfl, rfl, rfl, rfl, rfl, trivial⟩) rfl (GL.v (.move rfl) rfl (?_))))))))))))
  refine GL.call (As := []) rfl (fun w hst => MayExem_c x hz d _ w hd1 hd2 (hst.sn 1 rfl hx0)) rfl (fun _ _ => ?_)
  refine GL.v (.not rfl) rfl (GL.nil (GN.seq (?_)))
  refine GC.cond rfl (fun g1 => ?_) (fun g1 => ?_)
  · refine GC.seq (GC.region (GL.v (.makeInterface rfl) rfl (GL.v (.assign rfl) rfl (GL.v (.assign rfl) rfl (GL.nil (GN.seq (GC.ret (?_))))))))
    exact GR.two rfl rfl rfl rfl () (by rw [show mayX x d = false from by simpa using g1]; rfl) (Ent.trans (Ent.front 1 _ _ rfl) (Ent.cons _ (Ent.nil _))) trivial
  · have hmay : mayX x d = true := by simpa using g1
    have hmay2 := hmay
    unfold mayX at hmay2
    simp only [Bool.and_eq_true, decide_eq_true_eq] at hmay2
    obtain ⟨hd0, _, hmk, _⟩ := hmay2
    obtain ⟨hf1, hf2, hf3⟩ := hf
    unfold szX at hz
    have a1 := fixedW_len 2 x.time
    have a2 := wOnly_len (decide (x.kind = 1)) (fixW 3 x.n)
    have a3 := fixW_len 3 x.n
    have a4 := textW_len 4 x.span (by omega)
    have a5 := textW_len 5 x.trace (by omega)
    have a6 := wOnly_len (decide (x.kind = 2)) (fixW 6 x.n)
    have a7 := fixW_len 6 x.n
    have a8 := partsK_len 7 x.attrs hf3 (by omega)
    refine GC.skip (GN.seq (GC.seq (GC.region (GL.w .alloc rfl (fun b6 _ => GL.nil (GN.seq (GC.seq (GC.region (GL.v (.fieldAddr rfl) rfl (GL.v (.ld 1 rfl rfl rfl) rfl (?_)))))))))))
    refine GL.ent (Ent.trans (Ent.blk (u' := [(0, .pointer none), (1, .slice none 0 0)]) (by repeat (first | exact Sub.nil _ | refine Sub.cons rfl ?_)) (Ent.refl _)) (Bld.zero 137 b6 _)) ?_
    refine GL.call (As := [_]) rfl (fun w hst => WFixed_tri b6 2 x.time [] w (by omega) hf1 (by simp)) rfl (fun _ _ => ?_)
    refine GL.nil (GN.seq (GC.seq (GC.region (GL.v (.fieldAddr rfl) rfl (GL.v (.ld 1 rfl rfl rfl) rfl (GL.v (.eql rfl rfl) rfl (GL.v (.fieldAddr rfl) rfl (GL.v (.ld 1 rfl rfl rfl) rfl (?_)))))))))
    refine GL.call (As := [_]) rfl (fun w hst => WEither_tri _ b6 3 x.n _ w (by omega) hf2 (by simp only [List.length_append, List.length_nil]; omega)) rfl (fun _ _ => ?_)
    refine GL.nil (GN.seq (GC.seq (GC.region (GL.v (.fieldAddr rfl) rfl (GL.v (.ld 1 rfl rfl rfl) rfl (?_))))))
    refine GL.call (As := [_]) rfl (fun w hst => WText_tri b6 4 _ x.span w (by omega) (by simp only [List.length_append, List.length_nil]; omega)) rfl (fun _ _ => ?_)
    refine GL.nil (GN.seq (GC.seq (GC.region (GL.v (.fieldAddr rfl) rfl (GL.v (.ld 1 rfl rfl rfl) rfl (?_))))))
    refine GL.call (As := [_]) rfl (fun w hst => WText_tri b6 5 _ x.trace w (by omega) (by simp only [List.length_append, List.length_nil]; omega)) rfl (fun _ _ => ?_)
    refine GL.nil (GN.seq (GC.seq (GC.region (GL.v (.fieldAddr rfl) rfl (GL.v (.ld 1 rfl rfl rfl) rfl (GL.v (.eql rfl rfl) rfl (GL.v (.fieldAddr rfl) rfl (GL.v (.ld 1 rfl rfl rfl) rfl (?_)))))))))
    refine GL.call (As := [_]) rfl (fun w hst => WEither_tri _ b6 6 x.n _ w (by omega) hf2 (by simp only [List.length_append, List.length_nil]; omega)) rfl (fun _ _ => ?_)
    refine GL.nil (GN.seq (GC.seq (GC.region (GL.v (.fieldAddr rfl) rfl (GL.v (.ld 1 rfl rfl rfl) rfl (GL.v (.move rfl) rfl (?_)))))))
    refine GL.ent (Ent.front 2 _ _ rfl) ?_
    refine GL.ent (Ent.front 1 _ _ rfl) ?_
    refine GL.call (As := [_, _]) rfl (fun w hst => Parts_key b6 7 _ x.attrs v d ok0 w0 w (by omega) (by omega) hd2 hL (by omega) hf3 hmk (by simp only [List.length_append, List.length_nil]; omega)) rfl (fun _ _ => ?_)
    refine GL.nil (GN.seq (GC.seq (GC.region (GL.v (.fieldAddr rfl) rfl (GL.v (.ld 2 rfl rfl rfl) rfl (?_))))))
    refine GL.call (As := [_]) rfl (fun w hst => Raw_tri b6 _ x.unk w (by simp only [List.length_append, List.length_nil]; omega)) rfl (fun _ _ => ?_)
    refine GL.nil (GN.seq (GC.seq (GC.region (?_))))
    refine GL.call (As := [_]) rfl (fun w hst => WString_tri b6 _ w) rfl (fun _ _ => ?_)
    refine GL.v (.assign rfl) rfl (GL.v (.assign rfl) rfl (GL.nil (GN.seq (GC.ret (?_)))))
    refine GR.two rfl rfl rfl rfl () ?_ ((Ent.cons _ (Ent.nil _))) trivial
    rw [hmay]
    rfl
theorem Parts_exem (b num : Nat) (L : Bs) (l : List Exem) (v : Value) (d : Int) (ok0 : Nat → Prop) (w0 w : World) (h1 : num < 2 ^ 62) (hd1 : -9223372036854775808 < d) (hd2 : d ≤ 9223372036854775807) (hl : (listF exemF 7 l v).holds ok0 w0) (hz : szLX l ≤ 1000000000) (hf : fitLX l) (hm : mayLX l (d - 1) = true) (hL : L.length ≤ 10000000000) :
    Tri Tryz.prog 86 [ptr b, .int .i64 (num : Int), v, .int .i64 d, .func (.func 87) #[] #[]] [Wr b L, Sn ok0 w0] (fun _ : Unit => .tuple #[]) (fun _ => [Wr b (L ++ partsW num (l.map exemW)), Sn ok0 w0]) (fun _ => True) w := by
  have hbl := list_len hl
  obtain ⟨A, c, rfl⟩ := listF.form hl
  have htot := partsX_len num l hf hz
  rw [show mayLX l (d - 1) = l.all (fun a => mayX a (d - 1)) from rfl] at hm
  refine tri_of_G 33 Tryz.func86 rfl Tryz.ntmps86 rfl (fun D => ?_)
  refine GC.seq (GC.region (GL.v (.move rfl) rfl (GL.v (.lenSl rfl) rfl (GL.v (.move rfl) rfl (GL.nil (GN.seq (GC.block (?_))))))))
  refine GC.loop (γ := Nat) (fun i => i ≤ l.length) (fun i => [(0, ptr b), (1, .int .i64 (num : Int)), (3, .int .i64 d), (4, .func (.func 87) #[] #[]), (14, .slice A l.length c), (15, .int .i64 (l.length : Int)), (16, .int .i64 (i : Int))]) (fun i => [Wr b (L ++ partsW num ((l.take i).map exemW)), Sn ok0 w0]) (fun i => l.length - i) 0 (Nat.zero_le _) (Sub.cons rfl (Sub.cons rfl (Sub.cons rfl (Sub.cons rfl (Sub.cons rfl (Sub.cons rfl (Sub.cons rfl (Sub.nil _)))))))) (by rw [List.take_zero, List.map_nil, show partsW num [] = [] from rfl, List.append_nil]; exact Ent.refl _) ?_
  intro i hi
  refine GC.seq (GC.region (GL.v (.lss rfl rfl) rfl (GL.nil (GN.seq (GC.seq (?_))))))
  refine GC.condD rfl (fun hlt => ?_) (fun hlt => ?_)
  · have hil : i < l.length := by omega
    obtain ⟨a, ha⟩ : ∃ a, l[i]? = some a := ⟨_, List.getElem?_eq_getElem hil⟩
    obtain ⟨cs, g, off, c0, e1, hg, hra, hca⟩ := list_atS exemF_len hl ha
    simp only [Value.slice.injEq] at e1
    obtain ⟨rfl, _, rfl⟩ := e1
    have l1 := exemF_len _ _ _ _ hra
    have o1 := exemF_one _ _ _ _ hra
    have hmem := List.mem_of_getElem? ha
    have hma := (List.all_eq_true.1 hm) a hmem
    have hza := szLX_mem hmem
    have hz4 := partsW_take num exemW l i
    have hel := exemW_len a (hf a hmem) (by omega)
    refine GC.skip (GN.seq (GC.seq (GC.block (GC.seq (GC.region (GL.v (.indexAddr rfl rfl (by omega) (by omega)) rfl (?_)))))))
    refine GL.v (.ldSN 1 cs rfl hg hca rfl (by rw [l1]; rfl)) rfl ?_
    refine GL.w .alloc rfl (fun b11 _ => GL.w0 (.store 0 rfl rfl rfl rfl (by first | (rw [l1]; done) | (rw [l1]; rfl)) rfl (by exact o1)) (fun _ _ => GL.nil (GN.seq (GC.seq (GC.region (GL.v (.move rfl) rfl (GL.v (.ldN 0 cs rfl rfl (by rw [l1]; rfl) (lkN_stU _ _ _)) rfl (GL.v (.move rfl) rfl (GL.v (.sub rfl rfl (i64_in _ (by omega))) rfl (?_))))))))))
    refine GL.ent (Ent.front 2 _ _ rfl) ?_
    refine GL.callV rfl (As := [_]) rfl (fun w hst => MarExem_tri a (d - 1) cs ok0 w0 w (by omega) (hf a hmem) (by omega) (by omega) hra) rfl (fun _ _ => ?_)
    rw [show mayX a (d - 1) = true from hma]
    refine GL.v (.move rfl) rfl (GL.v (.extract rfl rfl) rfl (GL.v (.extract rfl rfl) rfl (GL.v (.assign rfl) rfl (GL.v (.assign rfl) rfl (GL.nil (GN.seq (GC.region (GL.v (.move rfl) rfl (GL.v (.move rfl) rfl (GL.v (.move rfl) rfl (?_)))))))))))
    refine GL.ent (Ent.front 2 _ _ rfl) ?_
    refine GL.call (As := [_]) rfl (fun w hst => WPart_tri b num _ (exemW a) w (by omega) (by rw [List.length_append]; omega)) rfl (fun _ _ => ?_)
    refine GL.nil (GN.blk (GN.seq (GC.region (GL.v (.add rfl rfl (i64_in _ (by omega))) rfl (GL.v (.move rfl) rfl (GL.nil (?_)))))))
    refine GN.loop (i + 1) (by omega) (by omega) (Sub.cons rfl (Sub.cons rfl (Sub.cons rfl (Sub.cons rfl (Sub.cons rfl (Sub.cons rfl (Sub.cons rfl (Sub.nil _)))))))) ?_
    rw [List.take_add_one, ha, Option.toList_some, List.map_append, List.map_cons, List.map_nil, partsW_snoc, ← List.append_assoc]
    exact ((Ent.cons _ ((Ent.cons _ (Ent.nil _)))))
  · have hi2 : i = l.length := by omega
    subst hi2
    rw [List.take_length]
    refine GC.exit (GX.seq (GX.loop (GX.blk (?_))))
    exact GR.none rfl rfl () rfl (Ent.refl _) trivial
end Go.Proofs.Gw
/- May all of a list be; may numbers that may lack be. -/
set_option linter.unusedVariables false
set_option linter.unusedSimpArgs false
namespace Go.Proofs.Gw
open Go Go.RowKit Go.IntWalk Go.Proofs.Gm

theorem MayOptF (o : OptN) (w : World) : Tri Tryz.prog 175 [.agg #[.bool o.has, .int .u64 (o.n : Int)]] [] (fun _ : Unit => .bool (!mayO o)) (fun _ => []) (fun _ => True) w := by
  refine tri_of_G 11 Tryz.func175 rfl Tryz.ntmps175 rfl (fun D => ?_)
  refine GC.seq (GC.region (GL.w (.box rfl rfl) rfl (fun b1 _ => GL.v (.assign rfl) rfl (GL.nil (GN.seq (GC.seq (GC.region (GL.v (.fieldAddr rfl) rfl (GL.v (.ld 0 rfl rfl rfl) rfl (GL.v (.not rfl) rfl (GL.v (.move rfl) rfl (?_))))))))))))
  refine GL.part 6 rfl (fun h => ?_) (fun h => ?_)
  · refine GL.vg rfl rfl (.fieldAddr rfl) rfl (GL.vg rfl rfl (.ld 0 rfl rfl rfl) rfl (GL.vg rfl rfl (.gtr rfl rfl) rfl (GL.v (.pickT rfl rfl) rfl (GL.v (.assign rfl) rfl (GL.nil (GN.seq (GC.ret (?_))))))))
    refine GR.one rfl rfl rfl () (congrArg Value.bool ?_) (Ent.nil _) trivial
    have h2 : o.has = false := by simpa using h
    unfold mayO
    rw [h2, Bool.false_or]
    by_cases h3 : o.n = 0
    · simp [h3]
    · simp [h3]; omega
  · refine GL.sg rfl rfl rfl rfl (GL.sg rfl rfl rfl rfl (GL.sg rfl rfl rfl rfl (GL.v (.pickF rfl rfl) rfl (GL.v (.assign rfl) rfl (GL.nil (GN.seq (GC.ret (?_))))))))
    refine GR.one rfl rfl rfl () (congrArg Value.bool ?_) (Ent.nil _) trivial
    have h2 : o.has = true := by simpa using h
    unfold mayO; rw [h2]; rfl
abbrev optsC (a b c : OptN) : List Value := [.bool a.has, .int .u64 (a.n : Int), .bool b.has, .int .u64 (b.n : Int), .bool c.has, .int .u64 (c.n : Int)]
theorem IndexO_tri (k : Nat) (a b c : OptN) (w : World) : Tri Tryz.prog 211 [.slice (some ⟨k, 0, none⟩) 3 3, .func (.func 175) #[] #[]] [Blk k 26 6 (args0 0 (optsC a b c))] (fun i : Int => .int .i64 i) (fun _ => [Blk k 26 6 (args0 0 (optsC a b c))]) (fun i => -1 ≤ i ∧ i ≤ 9223372036854775807 ∧ (mayO a && (mayO b && mayO c)) = decide (i < 0)) w := by
  refine tri_of_G 19 Tryz.func211 rfl Tryz.ntmps211 rfl (fun D => ?_)
  refine GC.seq (GC.region (GL.v (.assign rfl) rfl (GL.nil (GN.seq (GC.seq (GC.seq (GC.region (GL.v (.move rfl) rfl (GL.v (.lenSl rfl) rfl (GL.v (.move rfl) rfl (GL.nil (GN.seq (GC.block (?_))))))))))))))
  refine GC.loop (γ := Nat) (fun i => i ≤ 3 ∧ (0 < i → mayO a = true) ∧ (1 < i → mayO b = true) ∧ (2 < i → mayO c = true)) (fun i => [(0, .slice (some ⟨k, 0, none⟩) 3 3), (1, .func (.func 175) #[] #[]), (7, .int .i64 3), (8, .int .i64 (i : Int))]) (fun _ => [Blk k 26 6 (args0 0 (optsC a b c))]) (fun i => 3 - i) 0 ⟨by omega, fun h => absurd h (by omega), fun h => absurd h (by omega), fun h => absurd h (by omega)⟩ (Sub.cons rfl (Sub.cons rfl (Sub.cons rfl (Sub.cons rfl (Sub.nil _))))) (Ent.refl _) ?_
  rintro i ⟨hi, hi1, hi2, hi3⟩
  refine GC.seq (GC.region (GL.v (.lss rfl rfl) rfl (GL.nil (GN.seq (GC.seq (?_))))))
  refine GC.condD rfl (fun hlt => ?_) (fun hlt => ?_)
  · obtain rfl | rfl | rfl : i = 0 ∨ i = 1 ∨ i = 2 := by omega
    · refine GC.skip (GN.seq (GC.seq (GC.block (GC.seq (GC.region (GL.v (.move rfl) rfl (GL.v (.assign rfl) rfl (GL.nil (GN.seq (GC.seq (GC.region (GL.v (.move rfl) rfl (GL.v (.move rfl) rfl (GL.v (.move rfl) rfl (GL.v (.indexAddr rfl rfl (by omega) (by omega)) rfl (?_))))))))))))))))
      refine GL.v (.ldN 0 [.bool a.has, .int .u64 (a.n : Int)] rfl rfl rfl ⟨rfl, rfl, trivial⟩) rfl ?_
      refine GL.callV rfl (As := []) rfl (fun w hst => MayOptF a w) rfl (fun _ _ => ?_)
      refine GL.nil (GN.seq (?_))
      refine GC.cond rfl (fun hs => ?_) (fun hs => ?_)
      · have hs : mayO a = false := by simpa using hs
        refine GC.seq (GC.region (GL.v (.move rfl) rfl (GL.v (.assign rfl) rfl (GL.nil (GN.seq (GC.ret (?_)))))))
        exact GR.one rfl rfl rfl (0 : Int) rfl (Ent.refl _) ⟨by omega, by omega, by rw [hs]; simp⟩
      · have hs : mayO a = true := by simpa using hs
        refine GC.skip (GN.blk (GN.seq (GC.region (GL.v (.add rfl rfl (i64_in _ (by omega))) rfl (GL.v (.move rfl) rfl (GL.nil (?_)))))))
        exact GN.loop 1 ⟨by omega, fun _ => hs, fun h => absurd h (by omega), fun h => absurd h (by omega)⟩ (by omega) (Sub.cons rfl (Sub.cons rfl (Sub.cons rfl (Sub.cons rfl (Sub.nil _))))) (Ent.refl _)
    · refine GC.skip (GN.seq (GC.seq (GC.block (GC.seq (GC.region (GL.v (.move rfl) rfl (GL.v (.assign rfl) rfl (GL.nil (GN.seq (GC.seq (GC.region (GL.v (.move rfl) rfl (GL.v (.move rfl) rfl (GL.v (.move rfl) rfl (GL.v (.indexAddr rfl rfl (by omega) (by omega)) rfl (?_))))))))))))))))
      refine GL.v (.ldN 0 [.bool b.has, .int .u64 (b.n : Int)] rfl rfl rfl ⟨rfl, rfl, trivial⟩) rfl ?_
      refine GL.callV rfl (As := []) rfl (fun w hst => MayOptF b w) rfl (fun _ _ => ?_)
      refine GL.nil (GN.seq (?_))
      refine GC.cond rfl (fun hs => ?_) (fun hs => ?_)
      · have hs : mayO b = false := by simpa using hs
        refine GC.seq (GC.region (GL.v (.move rfl) rfl (GL.v (.assign rfl) rfl (GL.nil (GN.seq (GC.ret (?_)))))))
        exact GR.one rfl rfl rfl (1 : Int) rfl (Ent.refl _) ⟨by omega, by omega, by rw [hs]; simp⟩
      · have hs : mayO b = true := by simpa using hs
        refine GC.skip (GN.blk (GN.seq (GC.region (GL.v (.add rfl rfl (i64_in _ (by omega))) rfl (GL.v (.move rfl) rfl (GL.nil (?_)))))))
        exact GN.loop 2 ⟨by omega, fun _ => hi1 (by omega), fun h => hs, fun h => absurd h (by omega)⟩ (by omega) (Sub.cons rfl (Sub.cons rfl (Sub.cons rfl (Sub.cons rfl (Sub.nil _))))) (Ent.refl _)
    · refine GC.skip (GN.seq (GC.seq (GC.block (GC.seq (GC.region (GL.v (.move rfl) rfl (GL.v (.assign rfl) rfl (GL.nil (GN.seq (GC.seq (GC.region (GL.v (.move rfl) rfl (GL.v (.move rfl) rfl (GL.v (.move rfl) rfl (GL.v (.indexAddr rfl rfl (by omega) (by omega)) rfl (?_))))))))))))))))
      refine GL.v (.ldN 0 [.bool c.has, .int .u64 (c.n : Int)] rfl rfl rfl ⟨rfl, rfl, trivial⟩) rfl ?_
      refine GL.callV rfl (As := []) rfl (fun w hst => MayOptF c w) rfl (fun _ _ => ?_)
      refine GL.nil (GN.seq (?_))
      refine GC.cond rfl (fun hs => ?_) (fun hs => ?_)
      · have hs : mayO c = false := by simpa using hs
        refine GC.seq (GC.region (GL.v (.move rfl) rfl (GL.v (.assign rfl) rfl (GL.nil (GN.seq (GC.ret (?_)))))))
        exact GR.one rfl rfl rfl (2 : Int) rfl (Ent.refl _) ⟨by omega, by omega, by rw [hs]; simp⟩
      · have hs : mayO c = true := by simpa using hs
        refine GC.skip (GN.blk (GN.seq (GC.region (GL.v (.add rfl rfl (i64_in _ (by omega))) rfl (GL.v (.move rfl) rfl (GL.nil (?_)))))))
        exact GN.loop 3 ⟨by omega, fun _ => hi1 (by omega), fun h => hi2 (by omega), fun h => hs⟩ (by omega) (Sub.cons rfl (Sub.cons rfl (Sub.cons rfl (Sub.cons rfl (Sub.nil _))))) (Ent.refl _)
  · have h1 := hi1 (by omega)
    have h2 := hi2 (by omega)
    have h3 := hi3 (by omega)
    refine GC.exit (GX.seq (GX.loop (GX.blk (GN.seq (GC.seq (GC.region (GL.v (.assign rfl) rfl (GL.nil (GN.seq (GC.ret (?_)))))))))))
    exact GR.one rfl rfl rfl (-1) rfl (Ent.refl _) ⟨by omega, by omega, by rw [h1, h2, h3]; rfl⟩
theorem MayOpt_tri (k : Nat) (a b c : OptN) (w : World) : Tri Tryz.prog 112 [.slice (some ⟨k, 0, none⟩) 3 3] [Blk k 26 6 (args0 0 (optsC a b c))] (fun _ : Unit => .bool (mayO a && (mayO b && mayO c))) (fun _ => []) (fun _ => True) w := by
  have hC : ∀ w, Tri Tryz.prog 174 [.slice (some ⟨k, 0, none⟩) 3 3, .func (.func 175) #[] #[]] [Blk k 26 6 (args0 0 (optsC a b c))] (fun _ : Unit => .bool (!(mayO a && (mayO b && mayO c)))) (fun _ => []) (fun _ => True) w := fun w => by
    refine tri_of_G 9 Tryz.func174 rfl Tryz.ntmps174 rfl (fun D => ?_)
    refine GC.seq (GC.region (GL.v (.assign rfl) rfl (GL.nil (GN.seq (GC.seq (GC.region (GL.v (.move rfl) rfl (GL.v (.move rfl) rfl (?_)))))))))
    refine GL.call (As := [_]) rfl (fun w hst => IndexO_tri k a b c w) rfl (fun i hi => ?_)
    obtain ⟨hi1, hi2, hi3⟩ := hi
    refine GL.v (.geq rfl rfl) rfl (GL.v (.assign rfl) rfl (GL.nil (GN.seq (GC.ret (?_)))))
    refine GR.one rfl rfl rfl () (congrArg Value.bool ?_) (Ent.nil _) trivial
    rw [hi3]
    by_cases h : i < 0
    · rw [decide_eq_true h, decide_eq_false (by omega)]; rfl
    · rw [decide_eq_false h, decide_eq_true (by omega)]; rfl
  refine tri_of_G 6 Tryz.func112 rfl Tryz.ntmps112 rfl (fun D => ?_)
  refine GC.seq (GC.region (GL.v (.assign rfl) rfl (GL.nil (GN.seq (GC.seq (GC.region (GL.v (.move rfl) rfl (?_))))))))
  refine GL.call (As := [_]) rfl (fun w hst => hC w) rfl (fun _ _ => ?_)
  refine GL.v (.not rfl) rfl (GL.v (.assign rfl) rfl (GL.nil (GN.seq (GC.ret (?_)))))
  rw [Bool.not_not]
  exact GR.one rfl rfl rfl () rfl (Ent.nil _) trivial
section
variable {C : Ctx} {ρ : List (Nat × Value)} {S : World → Prop} {ty : TypeId}
theorem OpV.makeFunc2 {f : Fn} {x y : Operand} {v u : Value} (h : ev ρ x = some v) (h2 : ev ρ y = some u) : OpV C ρ S (.makeFunc f #[] #[x, y]) ty (.func f #[] #[v, u]) := fun a w he _ _ _ _ _ => by simp [execOp, Instr.makeFunc, he.eval h, he.eval h2]
end
abbrev allH (p q : Nat) (d : Int) (ok0 : Nat → Prop) (w0 : World) : List HP := [Blk p 149 1 [(0, .func (.func 95) #[] #[])], Blk q 3 1 [(0, .int .i64 d)], Sn ok0 w0]
theorem AllF_tri (x : Exem) (cs : List Value) (p q : Nat) (d : Int) (ok0 : Nat → Prop) (w0 w : World) (hz : szX x ≤ 1000000000) (hd1 : -9223372036854775808 < d) (hd2 : d ≤ 9223372036854775807) (hx : (exemF x cs).holds ok0 w0) :
    Tri Tryz.prog 163 [.agg cs.toArray, ptr p, ptr q] (allH p q d ok0 w0) (fun _ : Unit => .bool (!mayX x (d - 1))) (fun _ => allH p q d ok0 w0) (fun _ => True) w := by
  have l1 := exemF_len _ _ _ _ hx
  have hx0 := hx
  obtain ⟨v, e, hL⟩ := hx
  have e : cs = _ := e
  subst e
  refine tri_of_G 11 Tryz.func163 rfl Tryz.ntmps163 rfl (fun D => ?_)
  refine GC.seq (GC.region (GL.w (.box rfl rfl) rfl (fun b3 _ => GL.v (.assign rfl) rfl (GL.nil (GN.seq (GC.seq (GC.region (GL.v (.ld 1 rfl rfl rfl) rfl (GL.v (.ldN 0 [_, _, _, _, _, _, _] rfl rfl rfl ⟨rfl, rfl, rfl, rfl, rfl, rfl, rfl, trivial⟩) rfl (GL.v (.ld 2 rfl rfl rfl) rfl (GL.v (.sub rfl rfl (i64_in _ (by omega))) rfl (?_))))))))))))
  refine GL.callV rfl (As := []) rfl (fun w hst => MayExem_c x hz (d - 1) _ w (by omega) (by omega) (hst.sn 3 rfl hx0)) rfl (fun _ _ => ?_)
  refine GL.v (.not rfl) rfl (GL.v (.assign rfl) rfl (GL.nil (GN.seq (GC.ret (?_)))))
  exact GR.one rfl rfl rfl () rfl (Ent.trans (Ent.front 1 _ _ rfl) (Ent.cons _ (Ent.trans (Ent.front 1 _ _ rfl) (Ent.cons _ (Ent.trans (Ent.front 1 _ _ rfl) (Ent.cons _ (Ent.nil _))))))) trivial
theorem IndexX_tri (l : List Exem) (v : Value) (p q : Nat) (d : Int) (ok0 : Nat → Prop) (w0 w : World) (hz : szLX l ≤ 1000000000) (hd1 : -9223372036854775808 < d) (hd2 : d ≤ 9223372036854775807) (hl : (listF exemF 7 l v).holds ok0 w0) :
    Tri Tryz.prog 206 [v, .func (.func 163) #[] #[ptr p, ptr q]] (allH p q d ok0 w0) (fun i : Int => .int .i64 i) (fun _ => allH p q d ok0 w0) (fun i => -1 ≤ i ∧ i ≤ 9223372036854775807 ∧ mayLX l (d - 1) = decide (i < 0)) w := by
  have hbl := list_len hl
  obtain ⟨A, c, rfl⟩ := listF.form hl
  refine tri_of_G 19 Tryz.func206 rfl Tryz.ntmps206 rfl (fun D => ?_)
  refine GC.seq (GC.region (GL.v (.assign rfl) rfl (GL.nil (GN.seq (GC.seq (GC.seq (GC.region (GL.v (.move rfl) rfl (GL.v (.lenSl rfl) rfl (GL.v (.move rfl) rfl (GL.nil (GN.seq (GC.block (?_))))))))))))))
  refine GC.loop (γ := Nat) (fun i => i ≤ l.length ∧ ∀ (j : Nat) a, j < i → l[j]? = some a → mayX a (d - 1) = true) (fun i => [(0, .slice A l.length c), (1, .func (.func 163) #[] #[ptr p, ptr q]), (7, .int .i64 (l.length : Int)), (8, .int .i64 (i : Int))]) (fun _ => allH p q d ok0 w0) (fun i => l.length - i) 0 ⟨Nat.zero_le _, fun j a h => absurd h (by omega)⟩ (Sub.cons rfl (Sub.cons rfl (Sub.cons rfl (Sub.cons rfl (Sub.nil _))))) (Ent.refl _) ?_
  rintro i ⟨hi, hall⟩
  refine GC.seq (GC.region (GL.v (.lss rfl rfl) rfl (GL.nil (GN.seq (GC.seq (?_))))))
  refine GC.condD rfl (fun hlt => ?_) (fun hlt => ?_)
  · have hil : i < l.length := by omega
    obtain ⟨a, ha⟩ : ∃ a, l[i]? = some a := ⟨_, List.getElem?_eq_getElem hil⟩
    obtain ⟨cs, g, off, c0, e1, hg, hra, hca⟩ := list_atS exemF_len hl ha
    simp only [Value.slice.injEq] at e1
    obtain ⟨rfl, _, rfl⟩ := e1
    have l1 := exemF_len _ _ _ _ hra
    have hza := szLX_mem (List.mem_of_getElem? ha)
    refine GC.skip (GN.seq (GC.seq (GC.block (GC.seq (GC.region (GL.v (.move rfl) rfl (GL.v (.assign rfl) rfl (GL.nil (GN.seq (GC.seq (GC.region (GL.v (.move rfl) rfl (GL.v (.move rfl) rfl (GL.v (.move rfl) rfl (GL.v (.indexAddr rfl rfl (by omega) (by omega)) rfl (?_))))))))))))))))
    refine GL.v (.ldSN 2 cs rfl hg hca rfl (by rw [l1]; rfl)) rfl ?_
    refine GL.callV rfl (As := [_, _, _]) rfl (fun w hst => AllF_tri a cs p q d ok0 w0 w (by omega) hd1 hd2 hra) rfl (fun _ _ => ?_)
    refine GL.nil (GN.seq (?_))
    refine GC.cond rfl (fun hs => ?_) (fun hs => ?_)
    · refine GC.seq (GC.region (GL.v (.move rfl) rfl (GL.v (.assign rfl) rfl (GL.nil (GN.seq (GC.ret (?_)))))))
      refine GR.one rfl rfl rfl (i : Int) rfl (Ent.refl _) ⟨by omega, by omega, ?_⟩
      rw [decide_eq_false (by omega)]
      exact all_false (p := fun a => mayX a (d - 1)) i ha (by simpa using hs)
    · refine GC.skip (GN.blk (GN.seq (GC.region (GL.v (.add rfl rfl (i64_in _ (by omega))) rfl (GL.v (.move rfl) rfl (GL.nil (?_)))))))
      refine GN.loop (i + 1) ⟨by omega, fun j a' hj h1 => ?_⟩ (by omega) (Sub.cons rfl (Sub.cons rfl (Sub.cons rfl (Sub.cons rfl (Sub.nil _))))) (Ent.refl _)
      rcases Nat.lt_or_ge j i with h | h
      · exact hall j a' h h1
      · have : j = i := by omega
        subst this
        rw [ha] at h1
        cases h1
        simpa using hs
  · refine GC.exit (GX.seq (GX.loop (GX.blk (GN.seq (GC.seq (GC.region (GL.v (.assign rfl) rfl (GL.nil (GN.seq (GC.ret (?_)))))))))))
    refine GR.one rfl rfl rfl (-1) rfl (Ent.refl _) ⟨by omega, by omega, ?_⟩
    rw [decide_eq_true (by omega)]
    exact all_true (p := fun a => mayX a (d - 1)) (fun j a h1 h2 => hall j a (by omega) h2)
theorem All_tri (l : List Exem) (v : Value) (d : Int) (ok0 : Nat → Prop) (w0 w : World) (hz : szLX l ≤ 1000000000) (hd1 : -9223372036854775808 < d) (hd2 : d ≤ 9223372036854775807) (hl : (listF exemF 7 l v).holds ok0 w0) :
    Tri Tryz.prog 94 [v, .int .i64 d, .func (.func 95) #[] #[]] [Sn ok0 w0] (fun _ : Unit => .bool (mayLX l (d - 1))) (fun _ => [Sn ok0 w0]) (fun _ => True) w := by
  have hC : ∀ (p q : Nat) w, Tri Tryz.prog 162 [v, .func (.func 163) #[] #[ptr p, ptr q]] (allH p q d ok0 w0) (fun _ : Unit => .bool (!mayLX l (d - 1))) (fun _ => allH p q d ok0 w0) (fun _ => True) w := fun p q w => by
    refine tri_of_G 9 Tryz.func162 rfl Tryz.ntmps162 rfl (fun D => ?_)
    refine GC.seq (GC.region (GL.v (.assign rfl) rfl (GL.nil (GN.seq (GC.seq (GC.region (GL.v (.move rfl) rfl (GL.v (.move rfl) rfl (?_)))))))))
    refine GL.call (As := [_, _, _]) rfl (fun w hst => IndexX_tri l v p q d ok0 w0 w hz hd1 hd2 hl) rfl (fun i hi => ?_)
    obtain ⟨hi1, hi2, hi3⟩ := hi
    refine GL.v (.geq rfl rfl) rfl (GL.v (.assign rfl) rfl (GL.nil (GN.seq (GC.ret (?_)))))
    refine GR.one rfl rfl rfl () (congrArg Value.bool ?_) (Ent.refl _) trivial
    rw [hi3]
    by_cases h : i < 0
    · rw [decide_eq_true h, decide_eq_false (by omega)]; rfl
    · rw [decide_eq_false h, decide_eq_true (by omega)]; rfl
  refine tri_of_G 11 Tryz.func94 rfl Tryz.ntmps94 rfl (fun D => ?_)
  refine GC.seq (GC.region (GL.w (.box rfl rfl) rfl (fun b4 _ => GL.w (.box rfl rfl) rfl (fun b5 _ => GL.v (.assign rfl) rfl (GL.nil (GN.seq (GC.seq (GC.region (GL.v (.move rfl) rfl (GL.v (.makeFunc2 rfl rfl) rfl (?_)))))))))))
  refine GL.call (As := [_, _, _]) rfl (fun w hst => hC b5 b4 w) rfl (fun _ _ => ?_)
  refine GL.v (.not rfl) rfl (GL.v (.assign rfl) rfl (GL.nil (GN.seq (GC.ret (?_)))))
  rw [Bool.not_not]
  exact GR.one rfl rfl rfl () rfl (Ent.trans (Ent.front 2 _ _ rfl) (Ent.cons _ (Ent.nil _))) trivial
end Go.Proofs.Gw
/- Points of histograms and numbers: may they be, what is written. -/
set_option linter.unusedVariables false
set_option linter.unusedSimpArgs false
namespace Go.Proofs.Gw
open Go Go.RowKit Go.IntWalk Go.Proofs.Gm

abbrev hisC (x : His) (v1 v2 v3 v4 : Value) : List Value := [v1, .int .u64 (x.start : Int), .int .u64 (x.time : Int), .int .u64 (x.count : Int), .bool x.sum.has, .int .u64 (x.sum.n : Int), .bool x.min.has, .int .u64 (x.min.n : Int), .bool x.max.has, .int .u64 (x.max.n : Int), v2, v3, v4, .int .u32 (x.flags : Int), .string (mkS x.unk)]
theorem hisF_form {x : His} {cs : List Value} {ok : Nat → Prop} {w : World} (h : (hisF x cs).holds ok w) : ∃ v1 v2 v3 v4, cs = hisC x v1 v2 v3 v4 ∧ (listF keyF 11 x.attrs v1).holds ok w ∧ (numsF x.counts v2).holds ok w ∧ (numsF x.bounds v3).holds ok w ∧ (listF exemF 7 x.exs v4).holds ok w := by
  obtain ⟨⟨v1, v2, v3, v4⟩, e, h1, h2, h3, h4⟩ := h
  exact ⟨v1, v2, v3, v4, e, h1, h2, h3, h4⟩
theorem MayHis_tri (x : His) (d : Int) (cs : List Value) (ok0 : Nat → Prop) (w0 w : World) (hz : szH x ≤ 1000000000) (hd1 : -9223372036854775808 ≤ d) (hd2 : d ≤ 9223372036854775807) (hx : (hisF x cs).holds ok0 w0) :
    Tri Tryz.prog 39 [.agg cs.toArray, .int .i64 d] [Sn ok0 w0] (fun _ : Unit => .bool (mayH x d)) (fun _ => [Sn ok0 w0]) (fun _ => True) w := by
  obtain ⟨v1, v2, v3, v4, rfl, hA, hN, hB, hX⟩ := hisF_form hx
  unfold szH at hz
  refine tri_of_G 36 Tryz.func39 rfl Tryz.ntmps39 rfl (fun D => ?_)
  refine GC.seq (GC.region (GL.w (.box rfl rfl) rfl (fun b2 _ => GL.v (.assign rfl) rfl (GL.nil (GN.seq (GC.seq (GC.region (GL.v (.move rfl) rfl (GL.v (.geq rfl rfl) rfl (GL.v (.move rfl) rfl (?_)))))))))))
  refine GL.partD 7 rfl (fun g1 => ?_) (fun g1 => ?_)
  · have hd0 : decide (0 ≤ d) = true := decide_eq_true (by omega)
    refine GL.vg rfl rfl (.fieldAddr rfl) rfl (GL.vg rfl rfl (.ldN 0 [_, _] rfl rfl rfl ⟨rfl, rfl, trivial⟩) rfl (GL.vg rfl rfl (.fieldAddr rfl) rfl (GL.vg rfl rfl (.ldN 0 [_, _] rfl rfl rfl ⟨rfl, rfl, trivial⟩) rfl (GL.vg rfl rfl (.fieldAddr rfl) rfl (GL.vg rfl rfl (.ldN 0 [_, _] rfl rfl rfl ⟨rfl, rfl, trivial⟩) rfl (GL.gd rfl rfl (?_)))))))
    refine GL.w (.bslice [.bool x.sum.has, .int .u64 (x.sum.n : Int), .bool x.min.has, .int .u64 (x.min.n : Int), .bool x.max.has, .int .u64 (x.max.n : Int)] rfl rfl rfl rfl rfl) rfl (fun bO _ => ?_)
    refine GL.gd rfl rfl (?_)
    refine GL.call (As := [_]) rfl (fun w hst => MayOpt_tri bO x.sum x.min x.max w) rfl (fun _ _ => ?_)
    refine GL.v (.pickT rfl rfl) rfl (GL.v (.move rfl) rfl (?_))
    refine GL.part 17 rfl (fun g2 => ?_) (fun g2 => ?_)
    · refine GL.vg rfl rfl (.fieldAddr rfl) rfl (GL.vg rfl rfl (.ld 0 rfl rfl rfl) rfl (GL.vg rfl rfl (.move rfl) rfl (GL.gd rfl rfl (?_))))
      refine GL.ent (Ent.front 1 _ _ rfl) ?_
      refine GL.call (As := [_]) rfl (fun w hst => All_tri x.exs v4 d ok0 w0 w (by omega) (by omega) hd2 hX) rfl (fun _ _ => ?_)
      refine GL.v (.pickT rfl rfl) rfl (GL.v (.move rfl) rfl (?_))
      refine GL.part 23 rfl (fun g3 => ?_) (fun g3 => ?_)
      · refine GL.vg rfl rfl (.fieldAddr rfl) rfl (GL.vg rfl rfl (.ld 1 rfl rfl rfl) rfl (GL.vg rfl rfl (.move rfl) rfl (GL.vg rfl rfl (.sub rfl rfl (i64_in _ (by omega))) rfl (GL.gd rfl rfl (?_)))))
        refine GL.call (As := []) rfl (fun w hst => MayKeys_c x.attrs v1 (d - 1) w (by omega) (by omega) (by omega) (hst.sn 0 rfl hA)) rfl (fun _ _ => ?_)
        refine GL.v (.pickT rfl rfl) rfl (GL.v (.move rfl) rfl (?_))
        refine GL.part 30 rfl (fun g4 => ?_) (fun g4 => ?_)
        · refine GL.vg rfl rfl (.fieldAddr rfl) rfl (GL.vg rfl rfl (.ld 1 rfl rfl rfl) rfl (GL.vg rfl rfl (.move rfl) rfl (GL.gd rfl rfl (?_))))
          refine GL.call (As := []) rfl (fun w hst => Rest_tri (mkS x.unk) d 107 hisT tbl_his w (by rw [mkS_size]; unfold mx; omega) hd1 hd2) rfl (fun _ _ => ?_)
          rw [bs_mkS]
          refine GL.v (.pickT rfl rfl) rfl (GL.v (.assign rfl) rfl (GL.nil (GN.seq (GC.ret (?_)))))
          exact GR.one rfl rfl rfl () (congrArg Value.bool (by unfold mayH; rw [hd0, g2, g3, g4]; simp only [Bool.true_and])) ((Ent.cons _ (Ent.nil _))) trivial
        · refine GL.sg rfl rfl rfl rfl (GL.sg rfl rfl rfl rfl (GL.sg rfl rfl rfl rfl (GL.sg rfl rfl rfl rfl (GL.v (.pickF rfl rfl) rfl (GL.v (.assign rfl) rfl (GL.nil (GN.seq (GC.ret (?_)))))))))
          exact GR.one rfl rfl rfl () (congrArg Value.bool (by unfold mayH; rw [g4]; simp only [Bool.false_and, Bool.and_false])) ((Ent.cons _ (Ent.nil _))) trivial
      · refine GL.sg rfl rfl rfl rfl (GL.sg rfl rfl rfl rfl (GL.sg rfl rfl rfl rfl (GL.sg rfl rfl rfl rfl (GL.sg rfl rfl rfl rfl (GL.v (.pickF rfl rfl) rfl (GL.v (.move rfl) rfl (GL.sg rfl rfl rfl rfl (GL.sg rfl rfl rfl rfl (GL.sg rfl rfl rfl rfl (GL.sg rfl rfl rfl rfl (GL.v (.pickF rfl rfl) rfl (GL.v (.assign rfl) rfl (GL.nil (GN.seq (GC.ret (?_))))))))))))))))
        exact GR.one rfl rfl rfl () (congrArg Value.bool (by unfold mayH; rw [g3]; simp only [Bool.false_and, Bool.and_false])) ((Ent.cons _ (Ent.nil _))) trivial
    · refine GL.sg rfl rfl rfl rfl (GL.sg rfl rfl rfl rfl (GL.sg rfl rfl rfl rfl (GL.sg rfl rfl rfl rfl (GL.v (.pickF rfl rfl) rfl (GL.v (.move rfl) rfl (GL.sg rfl rfl rfl rfl (GL.sg rfl rfl rfl rfl (GL.sg rfl rfl rfl rfl (GL.sg rfl rfl rfl rfl (GL.sg rfl rfl rfl rfl (GL.v (.pickF rfl rfl) rfl (GL.v (.move rfl) rfl (GL.sg rfl rfl rfl rfl (GL.sg rfl rfl rfl rfl (GL.sg rfl rfl rfl rfl (GL.sg rfl rfl rfl rfl (GL.v (.pickF rfl rfl) rfl (GL.v (.assign rfl) rfl (GL.nil (GN.seq (GC.ret (?_))))))))))))))))))))))
      exact GR.one rfl rfl rfl () (congrArg Value.bool (by unfold mayH; rw [g2]; simp only [Bool.false_and, Bool.and_false])) (Ent.trans (Ent.front 1 _ _ rfl) (Ent.cons _ (Ent.nil _))) trivial
  · refine GL.sg rfl rfl rfl rfl (GL.sg rfl rfl rfl rfl (GL.sg rfl rfl rfl rfl (GL.sg rfl rfl rfl rfl (GL.sg rfl rfl rfl rfl (GL.sg rfl rfl rfl rfl (GL.sg rfl rfl rfl rfl (GL.sg rfl rfl rfl rfl (GL.v (.pickF rfl rfl) rfl (GL.v (.move rfl) rfl (GL.sg rfl rfl rfl rfl (GL.sg rfl rfl rfl rfl (GL.sg rfl rfl rfl rfl (GL.sg rfl rfl rfl rfl (GL.v (.pickF rfl rfl) rfl (GL.v (.move rfl) rfl (GL.sg rfl rfl rfl rfl (GL.sg rfl rfl rfl rfl (GL.sg rfl rfl rfl rfl (GL.sg rfl rfl rfl rfl (GL.sg rfl rfl rfl rfl (GL.v (.pickF rfl rfl) rfl (GL.v (.move rfl) rfl (GL.sg rfl rfl rfl rfl (GL.sg rfl rfl rfl rfl (GL.sg rfl rfl rfl rfl (GL.sg rfl rfl rfl rfl (GL.v (.pickF rfl rfl) rfl (GL.v (.assign rfl) rfl (GL.nil (GN.seq (GC.ret (?_))))))))))))))))))))))))))))))))
    exact GR.one rfl rfl rfl () (congrArg Value.bool (by unfold mayH; rw [decide_eq_false (p := 0 ≤ d) (by omega), Bool.false_and])) (Ent.trans (Ent.front 1 _ _ rfl) (Ent.cons _ (Ent.nil _))) trivial
theorem MarHis_tri (x : His) (d : Int) (cs : List Value) (ok0 : Nat → Prop) (w0 w : World) (hz : szH x ≤ 1000000000) (hf : fitH x) (hd1 : -9223372036854775808 ≤ d) (hd2 : d ≤ 9223372036854775807) (hx : (hisF x cs).holds ok0 w0) :
    Tri Tryz.prog 32 [.agg cs.toArray, .int .i64 d] [Sn ok0 w0] (fun _ : Unit => marV (mayH x d) (hisW x)) (fun _ => [Sn ok0 w0]) (fun _ => True) w := by
  have hx0 := hx
  obtain ⟨v1, v2, v3, v4, rfl, hA, hN, hB, hX⟩ := hisF_form hx
  refine tri_of_G 52 Tryz.func32 rfl Tryz.ntmps32 rfl (fun D => ?_)
  refine GC.seq (GC.region (GL.w (.box rfl rfl) rfl (fun b2 _ => GL.v (.assign rfl) rfl (GL.v (.assign rfl) rfl (GL.nil (GN.seq (GC.seq (GC.seq (GC.region (GL.v (.ldN 0 [_, _, _, _, _, _, _, _, _, _, _, _, _, _, _] rfl rfl rfl ⟨rfl, rfl, rfl, rfl, rfl, rfl, rfl, rfl, rfl, rfl, rfl, rfl, rfl, rfl, rfl, trivial⟩) rfl (GL.v (.move rfl) rfl (?_))))))))))))
  refine GL.ent (Ent.front 1 _ _ rfl) ?_
  refine GL.call (As := [_]) rfl (fun w hst => MayHis_tri x d _ ok0 w0 w hz hd1 hd2 hx0) rfl (fun _ _ => ?_)
  refine GL.v (.not rfl) rfl (GL.nil (GN.seq (?_)))
  refine GC.cond rfl (fun g1 => ?_) (fun g1 => ?_)
  · refine GC.seq (GC.region (GL.v (.makeInterface rfl) rfl (GL.v (.assign rfl) rfl (GL.v (.assign rfl) rfl (GL.nil (GN.seq (GC.ret (?_))))))))
    exact GR.two rfl rfl rfl rfl () (by rw [show mayH x d = false from by simpa using g1]; rfl) ((Ent.cons _ (Ent.nil _))) trivial
  · have hmay : mayH x d = true := by simpa using g1
    have hmay2 := hmay
    unfold mayH at hmay2
    simp only [Bool.and_eq_true, decide_eq_true_eq] at hmay2
    obtain ⟨hd0, _, hmx, hmk, _⟩ := hmay2
    obtain ⟨h1, h2, h3, h4, h5, h6, h7, h8, h9, h10, h11⟩ := hf
    unfold fitO at h4 h5 h6
    unfold szH at hz
    have a1 := fixedW_len 2 x.start
    have a2 := fixedW_len 3 x.time
    have a3 := fixedW_len 4 x.count
    have a4 := partsX_len 8 x.exs h11 (by omega)
    have a5 := optW_len 5 x.sum
    have a6 := optW_len 11 x.min
    have a7 := optW_len 12 x.max
    have a8 := partsK_len 9 x.attrs h10 (by omega)
    have a9 := vW_len 10 x.flags (by omega)
    have a10 := fixsW_len 6 x.counts (by omega)
    have a11 := fixsW_len 7 x.bounds (by omega)
    refine GC.skip (GN.seq (GC.seq (GC.region (GL.w .alloc rfl (fun b6 _ => GL.nil (GN.seq (GC.seq (GC.region (GL.v (.fieldAddr rfl) rfl (GL.v (.ld 2 rfl rfl rfl) rfl (?_)))))))))))
    refine GL.ent (Ent.trans (Ent.blk (u' := [(0, .pointer none), (1, .slice none 0 0)]) (by repeat (first | exact Sub.nil _ | refine Sub.cons rfl ?_)) (Ent.refl _)) (Bld.zero 137 b6 _)) ?_
    refine GL.call (As := [_]) rfl (fun w hst => WFixed_tri b6 2 x.start [] w (by omega) h1 (by simp)) rfl (fun _ _ => ?_)
    refine GL.nil (GN.seq (GC.seq (GC.region (GL.v (.fieldAddr rfl) rfl (GL.v (.ld 2 rfl rfl rfl) rfl (?_))))))
    refine GL.call (As := [_]) rfl (fun w hst => WFixed_tri b6 3 x.time _ w (by omega) h2 (by simp only [List.length_append, List.length_nil]; omega)) rfl (fun _ _ => ?_)
    refine GL.nil (GN.seq (GC.seq (GC.region (GL.v (.fieldAddr rfl) rfl (GL.v (.ld 2 rfl rfl rfl) rfl (?_))))))
    refine GL.call (As := [_]) rfl (fun w hst => WFixed_tri b6 4 x.count _ w (by omega) h3 (by simp only [List.length_append, List.length_nil]; omega)) rfl (fun _ _ => ?_)
    refine GL.nil (GN.seq (GC.seq (GC.region (GL.v (.fieldAddr rfl) rfl (GL.v (.ldN 2 [_, _] rfl rfl rfl ⟨rfl, rfl, trivial⟩) rfl (?_))))))
    refine GL.call (As := [_]) rfl (fun w hst => WOpt_tri b6 5 x.sum _ w (by omega) h4 (by simp only [List.length_append, List.length_nil]; omega)) rfl (fun _ _ => ?_)
    refine GL.nil (GN.seq (GC.seq (GC.region (GL.v (.fieldAddr rfl) rfl (GL.v (.ld 2 rfl rfl rfl) rfl (?_))))))
    refine GL.call (As := [_, _]) rfl (fun w hst => WFixeds_tri (snapF ok0 w0) b6 6 _ x.counts v2 w (fun ok w h => snap_fp hN h) (by omega) h7 (by omega) (by simp only [List.length_append, List.length_nil]; omega)) rfl (fun _ _ => ?_)
    refine GL.nil (GN.seq (GC.seq (GC.region (GL.v (.fieldAddr rfl) rfl (GL.v (.ld 2 rfl rfl rfl) rfl (?_))))))
    refine GL.call (As := [_, _]) rfl (fun w hst => WFixeds_tri (snapF ok0 w0) b6 7 _ x.bounds v3 w (fun ok w h => snap_fp hB h) (by omega) h8 (by omega) (by simp only [List.length_append, List.length_nil]; omega)) rfl (fun _ _ => ?_)
    refine GL.nil (GN.seq (GC.seq (GC.region (GL.v (.fieldAddr rfl) rfl (GL.v (.ld 2 rfl rfl rfl) rfl (GL.v (.move rfl) rfl (?_)))))))
    refine GL.call (As := [_, _]) rfl (fun w hst => Parts_exem b6 8 _ x.exs v4 d ok0 w0 w (by omega) (by omega) hd2 hX (by omega) h11 hmx (by simp only [List.length_append, List.length_nil]; omega)) rfl (fun _ _ => ?_)
    refine GL.nil (GN.seq (GC.seq (GC.region (GL.v (.fieldAddr rfl) rfl (GL.v (.ld 2 rfl rfl rfl) rfl (GL.v (.move rfl) rfl (?_)))))))
    refine GL.call (As := [_, _]) rfl (fun w hst => Parts_key b6 9 _ x.attrs v1 d ok0 w0 w (by omega) (by omega) hd2 hA (by omega) h10 hmk (by simp only [List.length_append, List.length_nil]; omega)) rfl (fun _ _ => ?_)
    refine GL.nil (GN.seq (GC.seq (GC.region (GL.v (.fieldAddr rfl) rfl (GL.v (.ld 2 rfl rfl rfl) rfl (GL.v (.convInt rfl (u64_in _ (by omega))) rfl (?_)))))))
    refine GL.call (As := [_]) rfl (fun w hst => WVar_tri b6 10 x.flags _ w (by omega) (by omega) (by simp only [List.length_append, List.length_nil]; omega)) rfl (fun _ _ => ?_)
    refine GL.nil (GN.seq (GC.seq (GC.region (GL.v (.fieldAddr rfl) rfl (GL.v (.ldN 2 [_, _] rfl rfl rfl ⟨rfl, rfl, trivial⟩) rfl (?_))))))
    refine GL.call (As := [_]) rfl (fun w hst => WOpt_tri b6 11 x.min _ w (by omega) h5 (by simp only [List.length_append, List.length_nil]; omega)) rfl (fun _ _ => ?_)
    refine GL.nil (GN.seq (GC.seq (GC.region (GL.v (.fieldAddr rfl) rfl (GL.v (.ldN 2 [_, _] rfl rfl rfl ⟨rfl, rfl, trivial⟩) rfl (?_))))))
    refine GL.call (As := [_]) rfl (fun w hst => WOpt_tri b6 12 x.max _ w (by omega) h6 (by simp only [List.length_append, List.length_nil]; omega)) rfl (fun _ _ => ?_)
    refine GL.nil (GN.seq (GC.seq (GC.region (GL.v (.fieldAddr rfl) rfl (GL.v (.ld 2 rfl rfl rfl) rfl (?_))))))
    refine GL.call (As := [_]) rfl (fun w hst => Raw_tri b6 _ x.unk w (by simp only [List.length_append, List.length_nil]; omega)) rfl (fun _ _ => ?_)
    refine GL.nil (GN.seq (GC.seq (GC.region (?_))))
    refine GL.call (As := [_]) rfl (fun w hst => WString_tri b6 _ w) rfl (fun _ _ => ?_)
    refine GL.v (.assign rfl) rfl (GL.v (.assign rfl) rfl (GL.nil (GN.seq (GC.ret (?_)))))
    refine GR.two rfl rfl rfl rfl () ?_ ((Ent.cons _ (Ent.nil _))) trivial
    rw [hmay]
    rfl
theorem SizeHis_tri (x : His) (cs : List Value) (ok0 : Nat → Prop) (w0 w : World) (hz : szH x ≤ 1000000000) (hf : fitH x) (hx : (hisF x cs).holds ok0 w0) :
    Tri Tryz.prog 41 [.agg cs.toArray] [Sn ok0 w0] (fun _ : Unit => .int .i64 ((if mayH x 1073741824 then hisW x else []).length : Int)) (fun _ => [Sn ok0 w0]) (fun _ => True) w := by
  have hx0 := hx
  obtain ⟨v1, v2, v3, v4, rfl, hA, hN, hB, hX⟩ := hisF_form hx
  refine tri_of_G 12 Tryz.func41 rfl Tryz.ntmps41 rfl (fun D => ?_)
  refine GC.seq (GC.region (GL.w (.box rfl rfl) rfl (fun b1 _ => GL.v (.assign rfl) rfl (GL.nil (GN.seq (GC.seq (GC.region (GL.v (.ldN 0 [_, _, _, _, _, _, _, _, _, _, _, _, _, _, _] rfl rfl rfl ⟨rfl, rfl, rfl, rfl, rfl, rfl, rfl, rfl, rfl, rfl, rfl, rfl, rfl, rfl, rfl, trivial⟩) rfl (?_)))))))))
  refine GL.ent (Ent.front 1 _ _ rfl) ?_
  refine GL.call (As := [_]) rfl (fun w hst => MarHis_tri x 1073741824 _ ok0 w0 w hz hf (by omega) (by omega) hx0) rfl (fun _ _ => ?_)
  refine GL.v (.move rfl) rfl (GL.v (.extract rfl rfl) rfl (GL.v (.extract rfl rfl) rfl (GL.v (.assign rfl) rfl (GL.v (.assign rfl) rfl (GL.nil (GN.seq (GC.seq (GC.region (GL.v (.move rfl) rfl (GL.v (.lenS rfl) rfl (GL.v (.assign rfl) rfl (GL.nil (GN.seq (GC.ret (?_)))))))))))))))
  exact GR.one rfl rfl rfl () (by rw [mkS_size]) ((Ent.cons _ (Ent.nil _))) trivial
end Go.Proofs.Gw
/- Points of numbers: may they be, what is written. -/
set_option linter.unusedVariables false
set_option linter.unusedSimpArgs false
namespace Go.Proofs.Gw
open Go Go.RowKit Go.IntWalk Go.Proofs.Gm

abbrev numC (x : Num) (v1 v2 : Value) : List Value := [v1, .int .u64 (x.start : Int), .int .u64 (x.time : Int), .int .i64 x.kind, .int .u64 (x.n : Int), v2, .int .u32 (x.flags : Int), .string (mkS x.unk)]
theorem numF_form {x : Num} {cs : List Value} {ok : Nat → Prop} {w : World} (h : (numF x cs).holds ok w) : ∃ v1 v2, cs = numC x v1 v2 ∧ (listF keyF 11 x.attrs v1).holds ok w ∧ (listF exemF 7 x.exs v2).holds ok w := by
  obtain ⟨⟨v1, v2⟩, e, h1, h2⟩ := h
  exact ⟨v1, v2, e, h1, h2⟩
theorem MayNumP_tri (x : Num) (d : Int) (cs : List Value) (ok0 : Nat → Prop) (w0 w : World) (hz : szN x ≤ 1000000000) (hd1 : -9223372036854775808 ≤ d) (hd2 : d ≤ 9223372036854775807) (hx : (numF x cs).holds ok0 w0) :
    Tri Tryz.prog 28 [.agg cs.toArray, .int .i64 d] [Sn ok0 w0] (fun _ : Unit => .bool (mayN x d)) (fun _ => [Sn ok0 w0]) (fun _ => True) w := by
  obtain ⟨v1, v2, rfl, hA, hX⟩ := numF_form hx
  unfold szN at hz
  refine tri_of_G 33 Tryz.func28 rfl Tryz.ntmps28 rfl (fun D => ?_)
  refine GC.seq (GC.region (GL.w (.box rfl rfl) rfl (fun b2 _ => GL.v (.assign rfl) rfl (GL.nil (GN.seq (GC.seq (GC.region (GL.v (.move rfl) rfl (GL.v (.geq rfl rfl) rfl (GL.v (.move rfl) rfl (?_)))))))))))
  refine GL.partD 7 rfl (fun g1 => ?_) (fun g1 => ?_)
  · have hd0 : decide (0 ≤ d) = true := decide_eq_true (by omega)
    refine GL.vg rfl rfl (.fieldAddr rfl) rfl (GL.vg rfl rfl (.ld 0 rfl rfl rfl) rfl (GL.vg rfl rfl (.fieldAddr rfl) rfl (GL.vg rfl rfl (.ld 0 rfl rfl rfl) rfl (GL.gd rfl rfl (?_)))))
    refine GL.call (As := []) rfl (fun w hst => MayNum_tri x.kind x.n w) rfl (fun _ _ => ?_)
    refine GL.v (.pickT rfl rfl) rfl (GL.v (.move rfl) rfl (?_))
    refine GL.part 14 rfl (fun g2 => ?_) (fun g2 => ?_)
    · refine GL.vg rfl rfl (.fieldAddr rfl) rfl (GL.vg rfl rfl (.ld 0 rfl rfl rfl) rfl (GL.vg rfl rfl (.move rfl) rfl (GL.gd rfl rfl (?_))))
      refine GL.ent (Ent.front 1 _ _ rfl) ?_
      refine GL.call (As := [_]) rfl (fun w hst => All_tri x.exs v2 d ok0 w0 w (by omega) (by omega) hd2 hX) rfl (fun _ _ => ?_)
      refine GL.v (.pickT rfl rfl) rfl (GL.v (.move rfl) rfl (?_))
      refine GL.part 20 rfl (fun g3 => ?_) (fun g3 => ?_)
      · refine GL.vg rfl rfl (.fieldAddr rfl) rfl (GL.vg rfl rfl (.ld 1 rfl rfl rfl) rfl (GL.vg rfl rfl (.move rfl) rfl (GL.vg rfl rfl (.sub rfl rfl (i64_in _ (by omega))) rfl (GL.gd rfl rfl (?_)))))
        refine GL.call (As := []) rfl (fun w hst => MayKeys_c x.attrs v1 (d - 1) w (by omega) (by omega) (by omega) (hst.sn 0 rfl hA)) rfl (fun _ _ => ?_)
        refine GL.v (.pickT rfl rfl) rfl (GL.v (.move rfl) rfl (?_))
        refine GL.part 27 rfl (fun g4 => ?_) (fun g4 => ?_)
        · refine GL.vg rfl rfl (.fieldAddr rfl) rfl (GL.vg rfl rfl (.ld 1 rfl rfl rfl) rfl (GL.vg rfl rfl (.move rfl) rfl (GL.gd rfl rfl (?_))))
          refine GL.call (As := []) rfl (fun w hst => Rest_tri (mkS x.unk) d 98 numT tbl_num w (by rw [mkS_size]; unfold mx; omega) hd1 hd2) rfl (fun _ _ => ?_)
          rw [bs_mkS]
          refine GL.v (.pickT rfl rfl) rfl (GL.v (.assign rfl) rfl (GL.nil (GN.seq (GC.ret (?_)))))
          exact GR.one rfl rfl rfl () (congrArg Value.bool (by unfold mayN; rw [hd0, g2, g3, g4]; simp only [Bool.true_and])) ((Ent.cons _ (Ent.nil _))) trivial
        · refine GL.sg rfl rfl rfl rfl (GL.sg rfl rfl rfl rfl (GL.sg rfl rfl rfl rfl (GL.sg rfl rfl rfl rfl (GL.v (.pickF rfl rfl) rfl (GL.v (.assign rfl) rfl (GL.nil (GN.seq (GC.ret (?_)))))))))
          exact GR.one rfl rfl rfl () (congrArg Value.bool (by unfold mayN; rw [g4]; simp only [Bool.false_and, Bool.and_false])) ((Ent.cons _ (Ent.nil _))) trivial
      · refine GL.sg rfl rfl rfl rfl (GL.sg rfl rfl rfl rfl (GL.sg rfl rfl rfl rfl (GL.sg rfl rfl rfl rfl (GL.sg rfl rfl rfl rfl (GL.v (.pickF rfl rfl) rfl (GL.v (.move rfl) rfl (GL.sg rfl rfl rfl rfl (GL.sg rfl rfl rfl rfl (GL.sg rfl rfl rfl rfl (GL.sg rfl rfl rfl rfl (GL.v (.pickF rfl rfl) rfl (GL.v (.assign rfl) rfl (GL.nil (GN.seq (GC.ret (?_))))))))))))))))
        exact GR.one rfl rfl rfl () (congrArg Value.bool (by unfold mayN; rw [g3]; simp only [Bool.false_and, Bool.and_false])) ((Ent.cons _ (Ent.nil _))) trivial
    · refine GL.sg rfl rfl rfl rfl (GL.sg rfl rfl rfl rfl (GL.sg rfl rfl rfl rfl (GL.sg rfl rfl rfl rfl (GL.v (.pickF rfl rfl) rfl (GL.v (.move rfl) rfl (GL.sg rfl rfl rfl rfl (GL.sg rfl rfl rfl rfl (GL.sg rfl rfl rfl rfl (GL.sg rfl rfl rfl rfl (GL.sg rfl rfl rfl rfl (GL.v (.pickF rfl rfl) rfl (GL.v (.move rfl) rfl (GL.sg rfl rfl rfl rfl (GL.sg rfl rfl rfl rfl (GL.sg rfl rfl rfl rfl (GL.sg rfl rfl rfl rfl (GL.v (.pickF rfl rfl) rfl (GL.v (.assign rfl) rfl (GL.nil (GN.seq (GC.ret (?_))))))))))))))))))))))
      exact GR.one rfl rfl rfl () (congrArg Value.bool (by unfold mayN; rw [g2]; simp only [Bool.false_and, Bool.and_false])) (Ent.trans (Ent.front 1 _ _ rfl) (Ent.cons _ (Ent.nil _))) trivial
  · refine GL.sg rfl rfl rfl rfl (GL.sg rfl rfl rfl rfl (GL.sg rfl rfl rfl rfl (GL.sg rfl rfl rfl rfl (GL.sg rfl rfl rfl rfl (GL.v (.pickF rfl rfl) rfl (GL.v (.move rfl) rfl (GL.sg rfl rfl rfl rfl (GL.sg rfl rfl rfl rfl (GL.sg rfl rfl rfl rfl (GL.sg rfl rfl rfl rfl (GL.v (.pickF rfl rfl) rfl (GL.v (.move rfl) rfl (GL.sg rfl rfl rfl rfl (GL.sg rfl rfl rfl rfl (GL.sg rfl rfl rfl rfl (GL.sg rfl rfl rfl rfl (GL.sg rfl rfl rfl rfl (GL.v (.pickF rfl rfl) rfl (GL.v (.move rfl) rfl (GL.sg rfl rfl rfl rfl (GL.sg rfl rfl rfl rfl (GL.sg rfl rfl rfl rfl (GL.sg rfl rfl rfl rfl (GL.v (.pickF rfl rfl) rfl (GL.v (.assign rfl) rfl (GL.nil (GN.seq (GC.ret (?_)))))))))))))))))))))))))))))
    exact GR.one rfl rfl rfl () (congrArg Value.bool (by unfold mayN; rw [decide_eq_false (p := 0 ≤ d) (by omega), Bool.false_and])) (Ent.trans (Ent.front 1 _ _ rfl) (Ent.cons _ (Ent.nil _))) trivial
theorem MarNum_tri (x : Num) (d : Int) (cs : List Value) (ok0 : Nat → Prop) (w0 w : World) (hz : szN x ≤ 1000000000) (hf : fitN x) (hd1 : -9223372036854775808 ≤ d) (hd2 : d ≤ 9223372036854775807) (hx : (numF x cs).holds ok0 w0) :
    Tri Tryz.prog 27 [.agg cs.toArray, .int .i64 d] [Sn ok0 w0] (fun _ : Unit => marV (mayN x d) (numW x)) (fun _ => [Sn ok0 w0]) (fun _ => True) w := by
  have hx0 := hx
  obtain ⟨v1, v2, rfl, hA, hX⟩ := numF_form hx
  refine tri_of_G 46 Tryz.func27 rfl Tryz.ntmps27 rfl (fun D => ?_)
  refine GC.seq (GC.region (GL.w (.box rfl rfl) rfl (fun b2 _ => GL.v (.assign rfl) rfl (GL.v (.assign rfl) rfl (GL.nil (GN.seq (GC.seq (GC.seq (GC.region (GL.v (.ldN 0 [_, _, _, _, _, _, _, _] rfl rfl rfl ⟨rfl, rfl, rfl, rfl, rfl, rfl, rfl, rfl, trivial⟩) rfl (GL.v (.move rfl) rfl (?_))))))))))))
  refine GL.ent (Ent.front 1 _ _ rfl) ?_
  refine GL.call (As := [_]) rfl (fun w hst => MayNumP_tri x d _ ok0 w0 w hz hd1 hd2 hx0) rfl (fun _ _ => ?_)
  refine GL.v (.not rfl) rfl (GL.nil (GN.seq (?_)))
  refine GC.cond rfl (fun g1 => ?_) (fun g1 => ?_)
  · refine GC.seq (GC.region (GL.v (.makeInterface rfl) rfl (GL.v (.assign rfl) rfl (GL.v (.assign rfl) rfl (GL.nil (GN.seq (GC.ret (?_))))))))
    exact GR.two rfl rfl rfl rfl () (by rw [show mayN x d = false from by simpa using g1]; rfl) ((Ent.cons _ (Ent.nil _))) trivial
  · have hmay : mayN x d = true := by simpa using g1
    have hmay2 := hmay
    unfold mayN at hmay2
    simp only [Bool.and_eq_true, decide_eq_true_eq] at hmay2
    obtain ⟨hd0, _, hmx, hmk, _⟩ := hmay2
    obtain ⟨h1, h2, h3, h4, h5, h6⟩ := hf
    unfold szN at hz
    have a1 := fixedW_len 2 x.start
    have a2 := fixedW_len 3 x.time
    have a3 := wOnly_len (decide (x.kind = 1)) (fixW 4 x.n)
    have a3' := fixW_len 4 x.n
    have a4 := partsX_len 5 x.exs h6 (by omega)
    have a6 := wOnly_len (decide (x.kind = 2)) (fixW 6 x.n)
    have a7 := fixW_len 6 x.n
    have a8 := partsK_len 7 x.attrs h5 (by omega)
    have a9 := vW_len 8 x.flags (by omega)
    refine GC.skip (GN.seq (GC.seq (GC.region (GL.w .alloc rfl (fun b6 _ => GL.nil (GN.seq (GC.seq (GC.region (GL.v (.fieldAddr rfl) rfl (GL.v (.ld 2 rfl rfl rfl) rfl (?_)))))))))))
    refine GL.ent (Ent.trans (Ent.blk (u' := [(0, .pointer none), (1, .slice none 0 0)]) (by repeat (first | exact Sub.nil _ | refine Sub.cons rfl ?_)) (Ent.refl _)) (Bld.zero 137 b6 _)) ?_
    refine GL.call (As := [_]) rfl (fun w hst => WFixed_tri b6 2 x.start [] w (by omega) h1 (by simp)) rfl (fun _ _ => ?_)
    refine GL.nil (GN.seq (GC.seq (GC.region (GL.v (.fieldAddr rfl) rfl (GL.v (.ld 2 rfl rfl rfl) rfl (?_))))))
    refine GL.call (As := [_]) rfl (fun w hst => WFixed_tri b6 3 x.time _ w (by omega) h2 (by simp only [List.length_append, List.length_nil]; omega)) rfl (fun _ _ => ?_)
    refine GL.nil (GN.seq (GC.seq (GC.region (GL.v (.fieldAddr rfl) rfl (GL.v (.ld 2 rfl rfl rfl) rfl (GL.v (.eql rfl rfl) rfl (GL.v (.fieldAddr rfl) rfl (GL.v (.ld 2 rfl rfl rfl) rfl (?_)))))))))
    refine GL.call (As := [_]) rfl (fun w hst => WEither_tri _ b6 4 x.n _ w (by omega) h3 (by simp only [List.length_append, List.length_nil]; omega)) rfl (fun _ _ => ?_)
    refine GL.nil (GN.seq (GC.seq (GC.region (GL.v (.fieldAddr rfl) rfl (GL.v (.ld 2 rfl rfl rfl) rfl (GL.v (.move rfl) rfl (?_)))))))
    refine GL.call (As := [_, _]) rfl (fun w hst => Parts_exem b6 5 _ x.exs v2 d ok0 w0 w (by omega) (by omega) hd2 hX (by omega) h6 hmx (by simp only [List.length_append, List.length_nil]; omega)) rfl (fun _ _ => ?_)
    refine GL.nil (GN.seq (GC.seq (GC.region (GL.v (.fieldAddr rfl) rfl (GL.v (.ld 2 rfl rfl rfl) rfl (GL.v (.eql rfl rfl) rfl (GL.v (.fieldAddr rfl) rfl (GL.v (.ld 2 rfl rfl rfl) rfl (?_)))))))))
    refine GL.call (As := [_]) rfl (fun w hst => WEither_tri _ b6 6 x.n _ w (by omega) h3 (by simp only [List.length_append, List.length_nil]; omega)) rfl (fun _ _ => ?_)
    refine GL.nil (GN.seq (GC.seq (GC.region (GL.v (.fieldAddr rfl) rfl (GL.v (.ld 2 rfl rfl rfl) rfl (GL.v (.move rfl) rfl (?_)))))))
    refine GL.call (As := [_, _]) rfl (fun w hst => Parts_key b6 7 _ x.attrs v1 d ok0 w0 w (by omega) (by omega) hd2 hA (by omega) h5 hmk (by simp only [List.length_append, List.length_nil]; omega)) rfl (fun _ _ => ?_)
    refine GL.nil (GN.seq (GC.seq (GC.region (GL.v (.fieldAddr rfl) rfl (GL.v (.ld 2 rfl rfl rfl) rfl (GL.v (.convInt rfl (u64_in _ (by omega))) rfl (?_)))))))
    refine GL.call (As := [_]) rfl (fun w hst => WVar_tri b6 8 x.flags _ w (by omega) (by omega) (by simp only [List.length_append, List.length_nil]; omega)) rfl (fun _ _ => ?_)
    refine GL.nil (GN.seq (GC.seq (GC.region (GL.v (.fieldAddr rfl) rfl (GL.v (.ld 2 rfl rfl rfl) rfl (?_))))))
    refine GL.call (As := [_]) rfl (fun w hst => Raw_tri b6 _ x.unk w (by simp only [List.length_append, List.length_nil]; omega)) rfl (fun _ _ => ?_)
    refine GL.nil (GN.seq (GC.seq (GC.region (?_))))
    refine GL.call (As := [_]) rfl (fun w hst => WString_tri b6 _ w) rfl (fun _ _ => ?_)
    refine GL.v (.assign rfl) rfl (GL.v (.assign rfl) rfl (GL.nil (GN.seq (GC.ret (?_)))))
    refine GR.two rfl rfl rfl rfl () ?_ ((Ent.cons _ (Ent.nil _))) trivial
    rw [hmay]
    rfl
theorem SizeNum_tri (x : Num) (cs : List Value) (ok0 : Nat → Prop) (w0 w : World) (hz : szN x ≤ 1000000000) (hf : fitN x) (hx : (numF x cs).holds ok0 w0) :
    Tri Tryz.prog 30 [.agg cs.toArray] [Sn ok0 w0] (fun _ : Unit => .int .i64 ((if mayN x 1073741824 then numW x else []).length : Int)) (fun _ => [Sn ok0 w0]) (fun _ => True) w := by
  have hx0 := hx
  obtain ⟨v1, v2, rfl, hA, hX⟩ := numF_form hx
  refine tri_of_G 12 Tryz.func30 rfl Tryz.ntmps30 rfl (fun D => ?_)
  refine GC.seq (GC.region (GL.w (.box rfl rfl) rfl (fun b1 _ => GL.v (.assign rfl) rfl (GL.nil (GN.seq (GC.seq (GC.region (GL.v (.ldN 0 [_, _, _, _, _, _, _, _] rfl rfl rfl ⟨rfl, rfl, rfl, rfl, rfl, rfl, rfl, rfl, trivial⟩) rfl (?_)))))))))
  refine GL.ent (Ent.front 1 _ _ rfl) ?_
  refine GL.call (As := [_]) rfl (fun w hst => MarNum_tri x 1073741824 _ ok0 w0 w hz hf (by omega) (by omega) hx0) rfl (fun _ _ => ?_)
  refine GL.v (.move rfl) rfl (GL.v (.extract rfl rfl) rfl (GL.v (.extract rfl rfl) rfl (GL.v (.assign rfl) rfl (GL.v (.assign rfl) rfl (GL.nil (GN.seq (GC.seq (GC.region (GL.v (.move rfl) rfl (GL.v (.lenS rfl) rfl (GL.v (.assign rfl) rfl (GL.nil (GN.seq (GC.ret (?_)))))))))))))))
  exact GR.one rfl rfl rfl () (by rw [mkS_size]) ((Ent.cons _ (Ent.nil _))) trivial
end Go.Proofs.Gw
