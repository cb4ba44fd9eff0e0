/- Texts that a claim of this seat leans on: GK, S2, V3, T1, L1, L2, V4, L3. No statement is claimed in this text. -/
import Derived.Test.YtabmekglalbmoaaGreatDoorB3
import Derived.Lib.MakeNoZero
import Derived.Laws.Slices
import Derived.Laws.CopyRow
import Derived.Test.YtabmekglalbmoaaGreatDoorB7
import Derived.Test.YtabmekglalbmoaaGreatDoorB6
/- Slices of slices; rows that the library makes; copying nothing. -/
set_option linter.unusedVariables false
set_option linter.unusedSimpArgs false
namespace Go.Proofs.Gw
open Go Go.RowKit Go.IntWalk Go.Proofs.Gm

section
variable {C : Ctx} {K : List KI} {ρ : List (Nat × Value)} {Hs : List HP} {S : World → Prop} {ty T e : TypeId} {x lo hi : Operand} {b o n c sz : Nat} {g : Bool} {k : IntKind} {j : Int}
theorem elem_of [hT : TSl C.P T e] : C.P.underlying T = some (.slice (C.P.elem T)) ∧ C.P.elem T = e := by
  have h := hT.out
  have : C.P.elem T = e := by simp [Program.elem, h]
  exact ⟨by rw [this]; exact h, this⟩
theorem OpV.sliceHi [hT : TSl C.P T e] [hE : TSz C.P e g sz] (hx : ev ρ x = some (.slice (some ⟨b, o, none⟩) n c)) (hh : ev ρ hi = some (.int k j)) (h0 : 0 ≤ j) (h1 : j ≤ c) : OpV C ρ S (.slice T x none (some hi) none) ty (.slice (some ⟨b, o, none⟩) j.toNat c) := fun a w he _ _ _ _ _ => by
  obtain ⟨h2, h3⟩ := elem_of (C := C) (T := T) (e := e)
  have h := run_slice_h (P := C.P) (w := w) T (some ⟨b, o, none⟩) n c h2 k j h0 h1
  have hs := (run_sizeOf hE.out w).1
  simp only [execOp, Option.map, he.eval hx, he.eval hh, run_sliceAt_slice (P := C.P) w T _ _ _ _ h2, Sem.run_bind, h, h3, hs, Result.andThen_ok, Sem.run_pure]
  simp [sliced, Addr.add_lit]
theorem OpV.sliceLo [hT : TSl C.P T e] [hE : TSz C.P e g sz] (hx : ev ρ x = some (.slice (some ⟨b, o, none⟩) n c)) (hh : ev ρ lo = some (.int k j)) (h0 : 0 ≤ j) (h1 : j ≤ n) (h2 : j < c) : OpV C ρ S (.slice T x (some lo) none none) ty (.slice (some ⟨b, o + j.toNat * sz, none⟩) (n - j.toNat) (c - j.toNat)) := fun a w he _ _ _ _ _ => by
  obtain ⟨h3, h4⟩ := elem_of (C := C) (T := T) (e := e)
  have h := run_slice_l (P := C.P) (w := w) T (some ⟨b, o, none⟩) n c h3 k j h0 h1
  have hs := (run_sizeOf hE.out w).1
  simp only [execOp, Option.map, he.eval hx, he.eval hh, run_sliceAt_slice (P := C.P) w T _ _ _ _ h3, Sem.run_bind, h, h4, hs, Result.andThen_ok, Sem.run_pure]
  simp [sliced, Addr.add_lit, show ¬ c = j.toNat by omega]
/-- A row of bytes that the library makes: of so many, for an empty list. -/
theorem OpW.makeNoZero {f : FuncId} {fn : Func} {xs : List Operand} {ts ps : Array TypeId} {D : TypeId} {m : Nat} [hD : TSl C.P D e] (hf : C.P.funcs[f]? = some fn) (hname : (fn.name == "runtime.NumGoroutine") = false) (hb : fn.body.isNone = true) (hn : Extern.findNext fn = none) (he' : Extern.find fn = some (Extern.BytealgMakeNoZero.makeNoZero ps #[D])) (hv : evs ρ xs = some [.int .i64 (m : Int)]) (hm : m ≤ 140737488355328) :
    OpW C ρ Hs (.call ⟨.value (.func f), xs.toArray, ts⟩) ty (fun q : Nat × Nat => .slice (some ⟨q.1, 0, none⟩) m q.2) (fun q => Own e 1 (.slice (some ⟨q.1, 0, none⟩) 0 q.2) 0 [] :: Hs) (fun q => m ≤ q.2) := fun a w he hs => by
  obtain ⟨cs, h1, h2, h3⟩ := Lib.run_makeNoZero (P := C.P) w ps D e hD.out m (by omega)
  haveI : ExtIs C.P f (Extern.BytealgMakeNoZero.makeNoZero ps #[D]) := ExtIs.mk' hf hname hb hn he'
  refine ⟨(w.heap.size, cs.size), w.drew.drew.alloc (.cells cs e), fun dst pos af gd => .inl ?_, ?_, h2⟩
  · rw [run_ext_op he hv w]
    have : ([Value.int .i64 (m : Int)] : List Value).toArray = #[.int .i64 m] := rfl
    rw [this, h1]; rfl
  · refine hs.new_of rfl rfl rfl (by simp) (fun k hk => heap_alloc_old w.drew.drew _ hk) (fun k => k = w.heap.size) (fun k hk => by subst hk; simp) ⟨⟨rfl, .inr ⟨w.heap.size, cs.size, cs, rfl, Nat.zero_le _, heap_alloc_new w.drew.drew _, Nat.zero_le _, h3 (by unfold maxLen; omega), by simp, by simp⟩⟩, fun k hk => ?_⟩
    simp [Value.ownBlock] at hk; exact hk.symm
/-- Copying out of an empty list. -/
theorem OpV.copyNil {D S' : TypeId} {y : Operand} [hD : TSl C.P D e] [hE : TSz C.P e g sz] (hx : ev ρ x = some (.slice (some ⟨b, o, none⟩) n c)) (hy : ev ρ y = some (.slice none 0 0)) : OpV C ρ S (.call ⟨.builtin .copy, #[x, y], #[D, S']⟩) ty (.int .i64 0) := fun a w he _ _ _ _ _ => by
  have hi : ((C.P.info? e).map (·.size)).isSome = true := by
    have := (run_sizeOf hE.out w).1
    cases hq : C.P.info? e with
    | none => simp [sizeOf, typeInfo, hq] at this
    | some i => rfl
  have h := run_copy_nil (P := C.P) w D S' ty e ⟨b, o, none⟩ n c hD.out hi
  simp only [execOp, resolve, he.eval hx, he.eval hy, invoke, builtin, Sem.run_bind, Sem.run_pure, Result.andThen_ok, List.map_toArray, List.map_cons, List.map_nil, h]
  rfl
end
end Go.Proofs.Gw
/- Contracts of the library's functions on texts: Builder.Grow, strings.Join. -/
set_option linter.unusedVariables false
set_option linter.unusedSimpArgs false
namespace Go.Proofs.Gw
open Go Go.RowKit Go.IntWalk Go.Proofs.Gm

theorem grow_tri (b n : Nat) (w : World) (hn : n ≤ 140737488355328) (h0 : 0 < n) : Tri Tryz.prog 243 [ptr b, .int .i64 (n : Int)] [Blk b 135 2 [(0, ptr b), (1, .slice none 0 0)]] (fun _ : Unit => .tuple #[]) (fun _ => [Bld 135 b []]) (fun _ => True) w := by
  refine tri_of_G 30 Tryz.func243 rfl Tryz.ntmps243 rfl (fun D => ?_)
  refine GC.seq (?_)
  refine GC.draw _ (m := 16) rfl (Ent.refl _) ?_
  refine GA.take 0 rfl (by kernel_rfl) (by kernel_rfl) (by kernel_rfl) (.move rfl) rfl (GA.take 1 rfl (by kernel_rfl) (by kernel_rfl) (by kernel_rfl) (.nilCheck rfl) rfl (GA.take 2 rfl (by kernel_rfl) (by kernel_rfl) (by kernel_rfl) (.fieldAddr rfl) rfl (GA.take 3 rfl (by kernel_rfl) (by kernel_rfl) (by kernel_rfl) (.ld 0 rfl rfl rfl) rfl (GA.take 4 rfl (by kernel_rfl) (by kernel_rfl) (by kernel_rfl) (.capSl rfl) rfl (GA.take 5 rfl (by kernel_rfl) (by kernel_rfl) (by kernel_rfl) (.mul rfl rfl (i64_in _ (by omega))) rfl (GA.take 6 rfl (by kernel_rfl) (by kernel_rfl) (by kernel_rfl) (.move rfl) rfl (GA.take 7 rfl (by kernel_rfl) (by kernel_rfl) (by kernel_rfl) (.add rfl rfl (i64_in _ (by omega))) rfl (GA.take 9 rfl (by kernel_rfl) (by kernel_rfl) (by kernel_rfl) (.move rfl) rfl (GA.take 10 rfl (by kernel_rfl) (by kernel_rfl) (by kernel_rfl) (.nilCheck rfl) rfl (GA.take 11 rfl (by kernel_rfl) (by kernel_rfl) (by kernel_rfl) (.fieldAddr rfl) rfl (GA.take 12 rfl (by kernel_rfl) (by kernel_rfl) (by kernel_rfl) (.ld 0 rfl rfl rfl) rfl (GA.take 13 rfl (by kernel_rfl) (by kernel_rfl) (by kernel_rfl) (.lenSl rfl) rfl (?_)))))))))))))
  refine GA.one 8 (by kernel_rfl) ?_
  refine GAi.w rfl (.makeNoZero (D := 133) (ps := #[3]) (m := n) Tryz.func246 rfl rfl rfl (by kernel_rfl) (congrArg (fun z => some [Value.int .i64 z]) (by omega : (2 * 0 + (n : Int)) = n)) hn) rfl (fun q hq => Ent.tail _ _) (fun q hq => ?_)
  refine GA.one 14 (by kernel_rfl) ?_
  refine GAi.v rfl (.sliceHi rfl rfl (by omega) (by omega)) rfl (Ent.tail _ _) ?_
  refine GA.take 15 rfl (by kernel_rfl) (by kernel_rfl) (by kernel_rfl) (.assign rfl) rfl (GA.done (by kernel_rfl) (?_))
  refine GN.seq (GC.seq (GC.region (GL.v (.move rfl) rfl (GL.v (.move rfl) rfl (GL.v (.nilCheck rfl) rfl (GL.v (.fieldAddr rfl) rfl (GL.v (.ld 1 rfl rfl rfl) rfl (?_))))))))
  refine GL.v (.copyNil rfl rfl) rfl ?_
  refine GL.nil (GN.seq (GC.region (GL.v (.move rfl) rfl (GL.v (.move rfl) rfl (GL.v (.nilCheck rfl) rfl (GL.v (.fieldAddr rfl) rfl (GL.w0 (.store 1 rfl rfl rfl rfl rfl rfl rfl) (fun _ _ => GL.nil (?_)))))))))
  refine GN.nil (GR.none rfl rfl () rfl (Ent.trans (Ent.swap _ _ _) (Ent.trans (Ent.blk (u' := [(0, ptr b), (1, .slice (some ⟨q.1, 0, none⟩) 0 q.2)]) (by repeat (first | exact Sub.nil _ | refine Sub.cons rfl ?_)) (Ent.refl _)) (Ent.close (Bs := Bld1 _ b []) (p := Bld2 b []) (ptr b, some ⟨q.1, 0, none⟩, q.2) ⟨.inr rfl, fun _ => .inr (by simp only at hq ⊢; omega)⟩ _))) trivial)

theorem Grow_tri (b n : Nat) (w : World) (hn : n ≤ 140737488355328) : Tri Tryz.prog 238 [ptr b, .int .i64 (n : Int)] [Blk b 135 2 [(0, .pointer none), (1, .slice none 0 0)]] (fun _ : Unit => .tuple #[]) (fun _ => [Bld 135 b []]) (fun _ => True) w := by
  refine tri_of_G 25 Tryz.func238 rfl Tryz.ntmps238 rfl (fun D => ?_)
  refine GC.seq (GC.region (GL.v (.move rfl) rfl (?_)))
  refine GL.call (As := [_]) rfl (fun w hst => copyCheck_tri _ b liesB _ _ w (.inl rfl)) rfl (fun _ _ => ?_)
  refine GL.nil (GN.seq (GC.seq (GC.seq (GC.region (GL.v (.move rfl) rfl (GL.v (.lss rfl rfl) rfl (GL.nil (GN.seq (?_)))))))))
  refine GC.condD rfl (fun h1 => ?_) (fun h1 => ?_)
  · exfalso; omega
  · refine GC.skip (GN.seq (GC.seq (?_)))
    refine GC.draw _ (m := 13) rfl (Ent.refl _) ?_
    refine GA.take 0 rfl (by kernel_rfl) (by kernel_rfl) (by kernel_rfl) (.move rfl) rfl (GA.take 1 rfl (by kernel_rfl) (by kernel_rfl) (by kernel_rfl) (.nilCheck rfl) rfl (GA.take 2 rfl (by kernel_rfl) (by kernel_rfl) (by kernel_rfl) (.fieldAddr rfl) rfl (GA.take 3 rfl (by kernel_rfl) (by kernel_rfl) (by kernel_rfl) (.ld 0 rfl rfl rfl) rfl (GA.take 4 rfl (by kernel_rfl) (by kernel_rfl) (by kernel_rfl) (.capSl rfl) rfl (GA.take 5 rfl (by kernel_rfl) (by kernel_rfl) (by kernel_rfl) (.move rfl) rfl (GA.take 6 rfl (by kernel_rfl) (by kernel_rfl) (by kernel_rfl) (.nilCheck rfl) rfl (GA.take 7 rfl (by kernel_rfl) (by kernel_rfl) (by kernel_rfl) (.fieldAddr rfl) rfl (GA.take 8 rfl (by kernel_rfl) (by kernel_rfl) (by kernel_rfl) (.ld 0 rfl rfl rfl) rfl (GA.take 9 rfl (by kernel_rfl) (by kernel_rfl) (by kernel_rfl) (.lenSl rfl) rfl (GA.take 10 rfl (by kernel_rfl) (by kernel_rfl) (by kernel_rfl) (.sub rfl rfl (i64_in _ (by omega))) rfl (GA.take 11 rfl (by kernel_rfl) (by kernel_rfl) (by kernel_rfl) (.move rfl) rfl (GA.take 12 rfl (by kernel_rfl) (by kernel_rfl) (by kernel_rfl) (.lss rfl rfl) rfl (GA.done (by kernel_rfl) (?_))))))))))))))
    refine GN.seq (?_)
    refine GC.condD rfl (fun h2 => ?_) (fun h2 => ?_)
    · refine GC.region (GL.v (.move rfl) rfl (GL.v (.move rfl) rfl (?_)))
      refine GL.call (As := [_]) rfl (fun w hst => grow_tri b n w hn (by omega)) rfl (fun _ _ => ?_)
      refine GL.nil (?_)
      exact GN.nil (GR.none rfl rfl () rfl (Ent.refl _) trivial)
    · refine GC.skip (?_)
      refine GN.nil (GR.none rfl rfl () rfl (Ent.trans ((Ent.intro (A := Own 5 1 (.slice none 0 0) 0 []) (fun w => Own.nil _ _ w) _).trans (Ent.swap _ _ _)) (Ent.close (Bs := Bld1 _ b []) (p := Bld2 b []) (ptr b, none, 0) ⟨.inr rfl, fun _ => .inl ⟨rfl, rfl⟩⟩ _)) trivial)

theorem strC_get {l : List Bs} {i : Nat} {x : Bs} (h : l[i]? = some x) : (strC l)[i]? = some (.string (mkS x)) := by simp [strC, h]
theorem flat_take_le (l : List Bs) (i : Nat) : (l.take i).flatten.length ≤ l.flatten.length := by
  conv => rhs; rw [← List.take_append_drop i l, List.flatten_append, List.length_append]
  omega
theorem OwnT.form {v : Value} {l : List Bs} {ok : Nat → Prop} {w : World} (h : (OwnT v l).holds ok w) : ∃ A c, v = .slice A l.length c ∧ (0 < l.length → ∃ g, A = some ⟨g, 0, none⟩) ∧ l.length ≤ c := by
  rcases h.1.2 with ⟨rfl, h0⟩ | ⟨g, cap, cur, rfl, _, _, h2, _⟩
  · exact ⟨none, 0, by rw [h0], fun h => absurd h (by omega), by omega⟩
  · exact ⟨_, cap, rfl, fun _ => ⟨g, rfl⟩, h2⟩

theorem Join_tri (v : Value) (l : List Bs) (w : World) (hl : l.flatten.length ≤ mx) (hn : l.length ≤ 4294967296) : Tri Tryz.prog 218 [v, .string emptyS] [OwnT v l] (fun _ : Unit => .string (mkS l.flatten)) (fun _ => [OwnT v l]) (fun _ => True) w := by
  unfold mx at hl
  refine tri_of_G 75 Tryz.func218 rfl Tryz.ntmps218 rfl (fun D => ?_)
  refine GC.fact 0 rfl (fun ok w h => OwnT.form h) (fun hv => ?_)
  obtain ⟨A, c, rfl, hA, hc⟩ := hv
  refine GC.seq (GC.region (GL.v (.assign rfl) rfl (GL.nil (GN.seq (GC.seq (GC.seq (GC.region (GL.v (.move rfl) rfl (GL.v (.lenSl rfl) rfl (GL.nil (GN.seq (GC.block (GC.seq (GC.region (GL.v (.eql rfl rfl) rfl (GL.v (.assign rfl) rfl (GL.nil (GN.seq (?_)))))))))))))))))))
  refine GC.condD rfl (fun h0 => ?_) (fun h0 => ?_)
  · have e : l = [] := List.eq_nil_of_length_eq_zero (by omega)
    subst e
    refine GC.seq (GC.region (GL.v (.assign rfl) rfl (GL.nil (GN.seq (GC.ret (?_))))))
    exact GR.one rfl rfl rfl () rfl (Ent.refl _) trivial
  · obtain ⟨g, rfl⟩ := hA (by omega)
    refine GC.seq (GC.region (GL.v (.eql rfl rfl) rfl (GL.v (.assign rfl) rfl (GL.nil (GN.seq (?_))))))
    refine GC.condD rfl (fun h1 => ?_) (fun h1 => ?_)
    · match l, h1 with
      | [x], _ =>
      refine GC.seq (GC.region (GL.v (.move rfl) rfl (GL.v (.indexAddr rfl rfl (by omega) (by omega)) rfl (?_))))
      refine GL.v (.ldOwn 0 (v := .string (mkS x)) rfl rfl rfl) rfl ?_
      refine GL.v (.assign rfl) rfl (GL.nil (GN.seq (GC.ret (?_))))
      refine GR.one rfl rfl rfl () ?_ (Ent.refl _) trivial
      simp
    · have h2 : 2 ≤ l.length := by omega
      refine GC.skip (GN.blk (GN.seq (GC.seq (GC.region (GL.v (.assign rfl) rfl (GL.nil (GN.seq (GC.seq (GC.seq (GC.region (GL.v (.move rfl) rfl (GL.v (.lenS rfl) rfl (GL.v (.gtr rfl rfl) rfl (GL.nil (GN.seq (?_))))))))))))))))
      refine GC.cond rfl (fun h => Bool.noConfusion (h.symm.trans (decide_eq_false ((by show ¬ (0 : Int) < 0; omega))) : true = false)) (fun _ => ?_)
      refine GC.skip (GN.seq (GC.seq (GC.seq (GC.region (GL.v (.move rfl) rfl (GL.v (.lenSl rfl) rfl (GL.v (.move rfl) rfl (GL.nil (GN.seq (GC.block (?_)))))))))))
      refine GC.loop (γ := Nat) (fun i => i ≤ l.length) (fun i => [(0, .slice (some ⟨g, 0, none⟩) l.length c), (1, .string emptyS), (5, .int .i64 ((l.take i).flatten.length : Int)), (39, .slice (some ⟨g, 0, none⟩) l.length c), (40, .int .i64 l.length), (41, .int .i64 (i : Int))]) (fun _ => [OwnT (.slice (some ⟨g, 0, none⟩) l.length c) l]) (fun i => l.length - i) 0 (Nat.zero_le _) (Sub.cons rfl (Sub.cons rfl (Sub.cons rfl (Sub.cons rfl (Sub.cons rfl (Sub.cons rfl (Sub.nil _))))))) (Ent.refl _) ?_
      intro i hi
      refine GC.seq (GC.region (GL.v (.lss rfl rfl) rfl (GL.nil (GN.seq (GC.seq (?_))))))
      refine GC.condD rfl (fun hlt => ?_) (fun hlt => ?_)
      · have hil : i < l.length := by omega
        obtain ⟨x, hx⟩ : ∃ x, l[i]? = some x := ⟨_, List.getElem?_eq_getElem hil⟩
        have htk : l.take (i + 1) = l.take i ++ [x] := by rw [List.take_add_one, hx]; rfl
        have hle := flat_take_le l (i + 1)
        have e1 : (l.take (i + 1)).flatten.length = (l.take i).flatten.length + x.length := by rw [htk]; simp
        have e2 : (mkS x).size = x.length := mkS_size x
        refine GC.skip (GN.seq (GC.seq (GC.block (GC.seq (GC.region (GL.v (.indexAddr rfl rfl (by omega) (by omega)) rfl (?_)))))))
        refine GL.v (.ldOwn 0 (v := .string (mkS x)) rfl rfl (by have := strC_get hx; simpa using this)) rfl ?_
        refine GL.v (.assign rfl) rfl (GL.nil (GN.seq (GC.seq (GC.seq (GC.region (GL.v (.move rfl) rfl (GL.v (.lenS rfl) rfl (GL.v (.move rfl) rfl (GL.v (.sub rfl rfl (i64_in _ (by omega))) rfl (GL.v (.gtr rfl rfl) rfl (GL.nil (GN.seq (?_)))))))))))))
        refine GC.condD rfl (fun hgt => ?_) (fun hgt => ?_)
        · exfalso; omega
        · refine GC.skip (GN.seq (GC.region (GL.v (.move rfl) rfl (GL.v (.move rfl) rfl (GL.v (.lenS rfl) rfl (GL.v (.add rfl rfl (i64_in _ (by omega))) rfl (GL.v (.assign rfl) rfl (GL.nil (GN.blk (GN.seq (GC.region (GL.v (.add rfl rfl (i64_in _ (by omega))) rfl (GL.v (.move rfl) rfl (GL.nil (?_)))))))))))))))
          refine GN.loop (i + 1) (by omega) (by omega) (Sub.cons rfl (Sub.cons rfl (Sub.cons (lk_of rfl (by rw [e1, e2]; rfl)) (Sub.cons rfl (Sub.cons rfl (Sub.cons rfl (Sub.nil _))))))) (Ent.refl _)
      · have hie : i = l.length := by omega
        subst hie
        simp only [List.take_length]
        refine GC.exit (GX.seq (GX.loop (GX.blk (GN.seq (GC.seq (GC.region (GL.w .alloc rfl (fun b8 _ => GL.nil (GN.seq (GC.seq (GC.region (GL.v (.move rfl) rfl (?_)))))))))))))
        refine GL.call (As := [_]) rfl (fun w hst => Grow_tri b8 l.flatten.length w (by omega)) rfl (fun _ _ => ?_)
        obtain ⟨x, hx⟩ : ∃ x, l[0]? = some x := ⟨_, List.getElem?_eq_getElem (by omega)⟩
        have hle := flat_take_le l 1
        have e1 : l.take 1 = [x] := by rw [List.take_add_one, hx]; rfl
        have e2 : (mkS x).size = x.length := mkS_size x
        refine GL.nil (GN.seq (GC.seq (GC.region (GL.v (.move rfl) rfl (GL.v (.indexAddr rfl rfl (by omega) (by omega)) rfl (?_))))))
        refine GL.v (.ldOwn 1 (v := .string (mkS x)) rfl rfl (by have := strC_get hx; simpa using this)) rfl ?_
        refine GL.call (As := [_]) rfl (fun w hst => WriteString_tri _ b8 liesB [] (mkS x) w (by rw [e1] at hle; simp only [List.flatten_cons, List.flatten_nil, List.append_nil] at hle; rw [e2]; show 0 + x.length ≤ _; omega)) rfl (fun _ _ => ?_)
        refine GL.nil (GN.seq (GC.seq (GC.seq (GC.region (GL.v (.move rfl) rfl (?_))))))
        refine GL.v (.sliceLo rfl rfl (by omega) (by omega) (by omega)) rfl ?_
        refine GL.v (.lenSl rfl) rfl (GL.v (.move rfl) rfl (GL.nil (GN.seq (GC.block (?_)))))
        refine GC.loop (γ := Nat) (fun i => i ≤ l.length - 1) (fun i => [(1, .string emptyS), (8, ptr b8), (63, .slice (some ⟨g, 0 + (1 : Int).toNat * 1, none⟩) (l.length - (1 : Int).toNat) (c - (1 : Int).toNat)), (64, .int .i64 ((l.length - (1 : Int).toNat : Nat) : Int)), (65, .int .i64 (i : Int))]) (fun i => [Bld 135 b8 (l.take (i + 1)).flatten, OwnT (.slice (some ⟨g, 0, none⟩) l.length c) l]) (fun i => l.length - i) 0 (Nat.zero_le _) (Sub.cons rfl (Sub.cons rfl (Sub.cons rfl (Sub.cons rfl (Sub.cons rfl (Sub.nil _)))))) ?_ ?_
        · rw [e1]; simp only [List.nil_append, bs_mkS, List.flatten_cons, List.flatten_nil, List.append_nil]
          exact Ent.refl _
        intro i hi
        have e64 : (l.length - (1 : Int).toNat) = l.length - 1 := rfl
        refine GC.seq (GC.region (GL.v (.lss rfl rfl) rfl (GL.nil (GN.seq (GC.seq (?_))))))
        refine GC.condD rfl (fun hlt => ?_) (fun hlt => ?_)
        · have hil : i + 1 < l.length := by omega
          obtain ⟨y, hy⟩ : ∃ y, l[i + 1]? = some y := ⟨_, List.getElem?_eq_getElem hil⟩
          have htk : l.take (i + 1 + 1) = l.take (i + 1) ++ [y] := by rw [List.take_add_one, hy]; rfl
          have hle2 := flat_take_le l (i + 1 + 1)
          have e3 : (l.take (i + 1 + 1)).flatten = (l.take (i + 1)).flatten ++ y := by rw [htk]; simp
          have e4 : (mkS y).size = y.length := mkS_size y
          rw [e3, List.length_append] at hle2
          refine GC.skip (GN.seq (GC.seq (GC.block (GC.seq (GC.region (GL.v (.indexAddr rfl rfl (by omega) (by omega)) rfl (?_)))))))
          refine GL.v (.ldOwn 1 (v := .string (mkS y)) rfl rfl (by have := strC_get hy; simpa [Nat.add_comm] using this)) rfl ?_
          refine GL.v (.assign rfl) rfl (GL.nil (GN.seq (GC.seq (GC.region (GL.v (.move rfl) rfl (?_))))))
          refine GL.call (As := [_]) rfl (fun w hst => WriteString_tri _ b8 liesB _ emptyS w (by show _ + 0 ≤ _; omega)) rfl (fun _ _ => ?_)
          refine GL.nil (GN.seq (GC.region (GL.v (.move rfl) rfl (?_))))
          refine GL.call (As := [_]) rfl (fun w hst => WriteString_tri _ b8 liesB _ (mkS y) w (by rw [e4, List.length_append]; show _ + 0 + _ ≤ _; omega)) rfl (fun _ _ => ?_)
          refine GL.nil (GN.blk (GN.seq (GC.region (GL.v (.add rfl rfl (i64_in _ (by omega))) rfl (GL.v (.move rfl) rfl (GL.nil (?_)))))))
          refine GN.loop (i + 1) (by omega) (by omega) (Sub.cons rfl (Sub.cons rfl (Sub.cons rfl (Sub.cons rfl (Sub.cons rfl (Sub.nil _)))))) ?_
          rw [e3, show bs emptyS = [] from rfl, List.append_nil, bs_mkS]
          exact Ent.refl _
        · have hie : i = l.length - 1 := by omega
          have e5 : l.take (i + 1) = l := List.take_of_length_le (by omega)
          rw [e5]
          refine GC.exit (GX.seq (GX.loop (GX.blk (GN.seq (GC.seq (GC.region (?_)))))))
          refine GL.call (As := [_]) rfl (fun w hst => String_tri _ b8 _ w) rfl (fun _ _ => ?_)
          refine GL.v (.assign rfl) rfl (GL.nil (GN.seq (GC.ret (?_))))
          exact GR.one rfl rfl rfl () rfl (Ent.refl _) trivial

end Go.Proofs.Gw
/- What is read as a value, as an attribute: in plain terms. -/
set_option linter.unusedVariables false
namespace Go.Proofs.Gw
open Go Go.Proofs.Gm

def loneT (num kind : Nat) : Bool := decide (num = 1 ∧ kind = 2)
def valT (num kind : Nat) : Bool := if num = 1 ∨ num = 5 ∨ num = 6 ∨ num = 7 then decide (kind = 2) else if num = 2 ∨ num = 3 then decide (kind = 0) else if num = 4 then decide (kind = 1) else false
def keyT (num kind : Nat) : Bool := decide ((num = 1 ∨ num = 2) ∧ kind = 2)

/-- In the end: the error, or what was read. -/
def finM {α : Type} (er : Option (Option Int)) (a : α) : Res α := match er with
  | some oc => .error oc
  | none => .ok a
theorem errE_fin {α : Type} (er : Option (Option Int)) (a : α) : errE (finM er a) = er := by cases er <;> rfl
def okOf {α : Type} : Res α → Option α
  | .ok a => some a
  | .error _ => none
def oks {α : Type} (rl : List (Res α)) : List α := rl.filterMap okOf
theorem note_none (er : Option (Option Int)) : note er none = er := by cases er <;> rfl
theorem note_eq_none {er f : Option (Option Int)} (h : note er f = none) : er = none ∧ f = none := by
  cases er with
  | some _ => cases h
  | none => cases f with
    | none => exact ⟨rfl, rfl⟩
    | some _ => cases h
theorem noteL_none {α : Type} : ∀ {rl : List (Res α)} {er : Option (Option Int)}, noteL er rl = none → er = none ∧ allOk rl = some (oks rl)
  | [], er, h => ⟨h, rfl⟩
  | x :: rl, er, h => by
    have h2 := noteL_none (rl := rl) (er := note er (errE x)) h
    have h3 := note_eq_none h2.1
    cases x with
    | error oc => cases h3.2
    | ok a => exact ⟨h3.1, by simp only [allOk, h2.2]; rfl⟩
/-- A message of one list. -/
def lisM {α : Type} (sub : Bs → Res α) (d : Int) (s : Bs) : Res (List α × Bs) :=
  let rl := (ofNum (readT loneT d s) 1).map fun r => sub r.s
  finM (noteL (readE d s) rl) (oks rl, readU loneT d s)
def resD {α : Type} : Res (List α × Bs) → List α × Bs
  | .ok p => p
  | .error _ => ([], [])
def partD {α : Type} (a0 : α) : Option (Res α) → α
  | some (.ok a) => a
  | _ => a0

def valA (d : Int) (s : Bs) (L : Bs → Res (List Val × Bs)) (K : Bs → Res (List Key × Bs)) : Res Val :=
  let o := oneM [1, 2, 3, 4, 5, 6, 7] (readT valT d s)
  let er := checkE 1 (readE d s) (readT valT d s)
  let l := L o.all.flatten
  let k := K o.all.flatten
  finM (if o.num = 5 then note er (errE l) else if o.num = 6 then note er (errE k) else er)
    (.mk o.num (if o.num = 1 ∨ o.num = 7 then o.s else []) (decide (o.num = 2 ∧ 0 < o.n)) (if o.num = 3 ∨ o.num = 4 then o.n else 0)
      (if o.num = 5 then (resD l).1 else []) (if o.num = 6 then (resD k).1 else []) (if o.num = 5 then (resD l).2 else if o.num = 6 then (resD k).2 else []) (readU valT d s))
def keyA (d : Int) (s : Bs) (V : Bs → Res Val) : Res Key :=
  let rs := readT keyT d s
  let p := partM (fun _ => V) d 2 rs
  finM (note (checkE 1 (readE d s) rs) (errP p)) (.mk (lastM rs 1).s (decide (ofNum rs 2 ≠ [])) (partD val0 p) (readU keyT d s))
mutual
def valM (d : Int) (s : Bs) : Res Val := if h : d < 0 then .error (some 6) else
  valA d s (lisM (fun t => valM (d - 2) t) (d - 1)) (lisM (fun t => keyM (d - 2) t) (d - 1))
termination_by ((d + 1).toNat, 0)
decreasing_by all_goals (simp_wf; refine Prod.Lex.left _ _ ?_; omega)
def keyM (d : Int) (s : Bs) : Res Key := if h : d < 0 then .error (some 6) else
  keyA d s (fun t => valM (d - 1) t)
termination_by ((d + 1).toNat, 1)
decreasing_by all_goals (simp_wf; refine Prod.Lex.left _ _ ?_; omega)
end
theorem readE_neg {d : Int} (h : d < 0) (s : Bs) : readE d s = some (some 6) := if_pos h
theorem readT_neg {d : Int} (h : d < 0) (t : Nat → Nat → Bool) (s : Bs) : readT t d s = [] := if_pos h
/-- Too deep or not: the same words. -/
theorem valM_eq (d : Int) (s : Bs) : valM d s = valA d s (lisM (fun t => valM (d - 2) t) (d - 1)) (lisM (fun t => keyM (d - 2) t) (d - 1)) := by
  rw [valM]
  split
  · rename_i h
    unfold valA
    rw [readE_neg h, readT_neg h]; rfl
  · rfl
theorem keyM_eq (d : Int) (s : Bs) : keyM d s = keyA d s (fun t => valM (d - 1) t) := by
  rw [keyM]
  split
  · rename_i h
    unfold keyA
    rw [readE_neg h, readT_neg h]; rfl
  · rfl
end Go.Proofs.Gw
/- The tables. -/
set_option linter.unusedVariables false
set_option linter.unusedSimpArgs false
namespace Go.Proofs.Gw
open Go Go.RowKit Go.IntWalk Go.Proofs.Gm

def exemT (num kind : Nat) : Bool := if num = 2 ∨ num = 3 ∨ num = 6 then decide (kind = 1) else if num = 4 ∨ num = 5 ∨ num = 7 then decide (kind = 2) else false
def buckT (num kind : Nat) : Bool := if num = 2 then decide (kind = 2 ∨ kind = 0) else if num = 1 then decide (kind = 0) else false
def expT (num kind : Nat) : Bool := if num = 2 ∨ num = 3 ∨ num = 4 ∨ num = 5 ∨ num = 7 ∨ num = 12 ∨ num = 13 ∨ num = 14 then decide (kind = 1) else if num = 1 ∨ num = 8 ∨ num = 9 ∨ num = 11 then decide (kind = 2) else if num = 6 ∨ num = 10 then decide (kind = 0) else false
def numT (num kind : Nat) : Bool := if num = 2 ∨ num = 3 ∨ num = 4 ∨ num = 6 then decide (kind = 1) else if num = 5 ∨ num = 7 then decide (kind = 2) else if num = 8 then decide (kind = 0) else false
def hisT (num kind : Nat) : Bool := if num = 6 ∨ num = 7 then decide (kind = 2 ∨ kind = 1) else if num = 2 ∨ num = 3 ∨ num = 4 ∨ num = 5 ∨ num = 11 ∨ num = 12 then decide (kind = 1) else if num = 8 ∨ num = 9 then decide (kind = 2) else if num = 10 then decide (kind = 0) else false
theorem tbl_lone : Tbl 220 loneT := fun num kind w h1 h2 => by
  refine tri_of_G 11 Tryz.func220 rfl Tryz.ntmps220 rfl (fun D => ?_)
  refine GC.seq (GC.region (GL.v (.assign rfl) rfl (GL.nil (GN.seq (GC.seq (GC.region (GL.v (.move rfl) rfl (GL.v (.eql rfl rfl) rfl (GL.v (.move rfl) rfl (?_))))))))))
  refine GL.partD 7 rfl (fun hh0 => ?_) (fun hh0 => ?_)
  · refine GL.vg rfl rfl (.move rfl) rfl (GL.vg rfl rfl (.eql rfl rfl) rfl (GL.v (.pickT rfl rfl) rfl (GL.v (.assign rfl) rfl (GL.nil (GN.seq (GC.ret (?_)))))))
    (refine GR.one rfl rfl rfl () (congrArg Value.bool ?_) (Ent.refl _) trivial; unfold loneT; (repeat' split) <;> first | rfl | (exfalso; omega) | (rw [decide_eq_decide]; omega) | (symm; rw [decide_eq_true_iff]; omega) | (symm; rw [decide_eq_false_iff_not]; omega) | (rw [decide_eq_true_iff]; omega) | (rw [decide_eq_false_iff_not]; omega))
  · refine GL.sg rfl rfl rfl rfl (GL.sg rfl rfl rfl rfl (GL.v (.pickF rfl rfl) rfl (GL.v (.assign rfl) rfl (GL.nil (GN.seq (GC.ret (?_)))))))
    (refine GR.one rfl rfl rfl () (congrArg Value.bool ?_) (Ent.refl _) trivial; unfold loneT; (repeat' split) <;> first | rfl | (exfalso; omega) | (rw [decide_eq_decide]; omega) | (symm; rw [decide_eq_true_iff]; omega) | (symm; rw [decide_eq_false_iff_not]; omega) | (rw [decide_eq_true_iff]; omega) | (rw [decide_eq_false_iff_not]; omega))
theorem tbl_key : Tbl 124 keyT := fun num kind w h1 h2 => by
  refine tri_of_G 15 Tryz.func124 rfl Tryz.ntmps124 rfl (fun D => ?_)
  refine GC.seq (GC.region (GL.v (.assign rfl) rfl (GL.nil (GN.seq (GC.seq (GC.region (GL.v (.move rfl) rfl (GL.v (.eql rfl rfl) rfl (GL.v (.move rfl) rfl (?_))))))))))
  refine GL.partD 7 rfl (fun hh0 => ?_) (fun hh0 => ?_)
  · refine GL.sg rfl rfl rfl rfl (GL.sg rfl rfl rfl rfl (GL.v (.pickT rfl rfl) rfl (GL.v (.move rfl) rfl (GL.vg rfl rfl (.move rfl) rfl (GL.vg rfl rfl (.eql rfl rfl) rfl (GL.v (.pickT rfl rfl) rfl (GL.v (.assign rfl) rfl (GL.nil (GN.seq (GC.ret (?_)))))))))))
    (refine GR.one rfl rfl rfl () (congrArg Value.bool ?_) (Ent.refl _) trivial; unfold keyT; (repeat' split) <;> first | rfl | (exfalso; omega) | (rw [decide_eq_decide]; omega) | (symm; rw [decide_eq_true_iff]; omega) | (symm; rw [decide_eq_false_iff_not]; omega) | (rw [decide_eq_true_iff]; omega) | (rw [decide_eq_false_iff_not]; omega))
  · refine GL.vg rfl rfl (.move rfl) rfl (GL.vg rfl rfl (.eql rfl rfl) rfl (GL.v (.pickF rfl rfl) rfl (GL.v (.move rfl) rfl (?_))))
    refine GL.partD 11 rfl (fun hh1 => ?_) (fun hh1 => ?_)
    · refine GL.vg rfl rfl (.move rfl) rfl (GL.vg rfl rfl (.eql rfl rfl) rfl (GL.v (.pickT rfl rfl) rfl (GL.v (.assign rfl) rfl (GL.nil (GN.seq (GC.ret (?_)))))))
      (refine GR.one rfl rfl rfl () (congrArg Value.bool ?_) (Ent.refl _) trivial; unfold keyT; (repeat' split) <;> first | rfl | (exfalso; omega) | (rw [decide_eq_decide]; omega) | (symm; rw [decide_eq_true_iff]; omega) | (symm; rw [decide_eq_false_iff_not]; omega) | (rw [decide_eq_true_iff]; omega) | (rw [decide_eq_false_iff_not]; omega))
    · refine GL.sg rfl rfl rfl rfl (GL.sg rfl rfl rfl rfl (GL.v (.pickF rfl rfl) rfl (GL.v (.assign rfl) rfl (GL.nil (GN.seq (GC.ret (?_)))))))
      (refine GR.one rfl rfl rfl () (congrArg Value.bool ?_) (Ent.refl _) trivial; unfold keyT; (repeat' split) <;> first | rfl | (exfalso; omega) | (rw [decide_eq_decide]; omega) | (symm; rw [decide_eq_true_iff]; omega) | (symm; rw [decide_eq_false_iff_not]; omega) | (rw [decide_eq_true_iff]; omega) | (rw [decide_eq_false_iff_not]; omega))
theorem tbl_val : Tbl 183 valT := fun num kind w h1 h2 => by
  refine tri_of_G 22 Tryz.func183 rfl Tryz.ntmps183 rfl (fun D => ?_)
  refine GC.seq (GC.region (GL.v (.assign rfl) rfl (GL.nil (GN.seq (GC.seq (GC.seq (GC.region (GL.v (.move rfl) rfl (GL.nil (GN.seq (GC.block (GC.seq (GC.seq (GC.region (GL.v (.eql rfl rfl) rfl (GL.v (.assign rfl) rfl (GL.nil (GN.seq (?_)))))))))))))))))))
  refine GC.condD rfl (fun hh0 => ?_) (fun hh0 => ?_)
  · refine GC.skip (GN.seq (GC.cond rfl (fun _ => ?_) (fun h => by first | (have := of_decide_eq_false h; contradiction) | (have := of_decide_eq_true h; contradiction) | (cases h; done))))
    refine GC.seq (GC.region (GL.v (.move rfl) rfl (GL.v (.eql rfl rfl) rfl (GL.v (.assign rfl) rfl (GL.nil (GN.seq (GC.ret (?_))))))))
    (refine GR.one rfl rfl rfl () (congrArg Value.bool ?_) (Ent.refl _) trivial; unfold valT; (repeat' split) <;> first | rfl | (exfalso; omega) | (rw [decide_eq_decide]; omega) | (symm; rw [decide_eq_true_iff]; omega) | (symm; rw [decide_eq_false_iff_not]; omega) | (rw [decide_eq_true_iff]; omega) | (rw [decide_eq_false_iff_not]; omega))
  · refine GC.seq (GC.region (GL.v (.eql rfl rfl) rfl (GL.v (.assign rfl) rfl (GL.nil (GN.seq (?_))))))
    refine GC.condD rfl (fun hh1 => ?_) (fun hh1 => ?_)
    · refine GC.skip (GN.seq (GC.cond rfl (fun _ => ?_) (fun h => by first | (have := of_decide_eq_false h; contradiction) | (have := of_decide_eq_true h; contradiction) | (cases h; done))))
      refine GC.seq (GC.region (GL.v (.move rfl) rfl (GL.v (.eql rfl rfl) rfl (GL.v (.assign rfl) rfl (GL.nil (GN.seq (GC.ret (?_))))))))
      (refine GR.one rfl rfl rfl () (congrArg Value.bool ?_) (Ent.refl _) trivial; unfold valT; (repeat' split) <;> first | rfl | (exfalso; omega) | (rw [decide_eq_decide]; omega) | (symm; rw [decide_eq_true_iff]; omega) | (symm; rw [decide_eq_false_iff_not]; omega) | (rw [decide_eq_true_iff]; omega) | (rw [decide_eq_false_iff_not]; omega))
    · refine GC.seq (GC.region (GL.v (.eql rfl rfl) rfl (GL.v (.assign rfl) rfl (GL.nil (GN.seq (?_))))))
      refine GC.condD rfl (fun hh2 => ?_) (fun hh2 => ?_)
      · refine GC.skip (GN.seq (GC.cond rfl (fun _ => ?_) (fun h => by first | (have := of_decide_eq_false h; contradiction) | (have := of_decide_eq_true h; contradiction) | (cases h; done))))
        refine GC.seq (GC.region (GL.v (.move rfl) rfl (GL.v (.eql rfl rfl) rfl (GL.v (.assign rfl) rfl (GL.nil (GN.seq (GC.ret (?_))))))))
        (refine GR.one rfl rfl rfl () (congrArg Value.bool ?_) (Ent.refl _) trivial; unfold valT; (repeat' split) <;> first | rfl | (exfalso; omega) | (rw [decide_eq_decide]; omega) | (symm; rw [decide_eq_true_iff]; omega) | (symm; rw [decide_eq_false_iff_not]; omega) | (rw [decide_eq_true_iff]; omega) | (rw [decide_eq_false_iff_not]; omega))
      · refine GC.region (GL.v (.eql rfl rfl) rfl (GL.v (.assign rfl) rfl (GL.nil (GN.seq (?_)))))
        refine GC.condD rfl (fun hh3 => ?_) (fun hh3 => ?_)
        · refine GC.seq (GC.region (GL.v (.move rfl) rfl (GL.v (.eql rfl rfl) rfl (GL.v (.assign rfl) rfl (GL.nil (GN.seq (GC.ret (?_))))))))
          (refine GR.one rfl rfl rfl () (congrArg Value.bool ?_) (Ent.refl _) trivial; unfold valT; (repeat' split) <;> first | rfl | (exfalso; omega) | (rw [decide_eq_decide]; omega) | (symm; rw [decide_eq_true_iff]; omega) | (symm; rw [decide_eq_false_iff_not]; omega) | (rw [decide_eq_true_iff]; omega) | (rw [decide_eq_false_iff_not]; omega))
        · refine GC.seq (GC.seq (GC.region (GL.v (.eql rfl rfl) rfl (GL.v (.assign rfl) rfl (GL.nil (GN.seq (?_)))))))
          refine GC.condD rfl (fun hh4 => ?_) (fun hh4 => ?_)
          · refine GC.skip (GN.seq (GC.cond rfl (fun _ => ?_) (fun h => by first | (have := of_decide_eq_false h; contradiction) | (have := of_decide_eq_true h; contradiction) | (cases h; done))))
            refine GC.seq (GC.region (GL.v (.move rfl) rfl (GL.v (.eql rfl rfl) rfl (GL.v (.assign rfl) rfl (GL.nil (GN.seq (GC.ret (?_))))))))
            (refine GR.one rfl rfl rfl () (congrArg Value.bool ?_) (Ent.refl _) trivial; unfold valT; (repeat' split) <;> first | rfl | (exfalso; omega) | (rw [decide_eq_decide]; omega) | (symm; rw [decide_eq_true_iff]; omega) | (symm; rw [decide_eq_false_iff_not]; omega) | (rw [decide_eq_true_iff]; omega) | (rw [decide_eq_false_iff_not]; omega))
          · refine GC.region (GL.v (.eql rfl rfl) rfl (GL.v (.assign rfl) rfl (GL.nil (GN.seq (?_)))))
            refine GC.condD rfl (fun hh5 => ?_) (fun hh5 => ?_)
            · refine GC.seq (GC.region (GL.v (.move rfl) rfl (GL.v (.eql rfl rfl) rfl (GL.v (.assign rfl) rfl (GL.nil (GN.seq (GC.ret (?_))))))))
              (refine GR.one rfl rfl rfl () (congrArg Value.bool ?_) (Ent.refl _) trivial; unfold valT; (repeat' split) <;> first | rfl | (exfalso; omega) | (rw [decide_eq_decide]; omega) | (symm; rw [decide_eq_true_iff]; omega) | (symm; rw [decide_eq_false_iff_not]; omega) | (rw [decide_eq_true_iff]; omega) | (rw [decide_eq_false_iff_not]; omega))
            · refine GC.seq (GC.region (GL.v (.eql rfl rfl) rfl (GL.v (.assign rfl) rfl (GL.nil (GN.seq (?_))))))
              refine GC.condD rfl (fun hh6 => ?_) (fun hh6 => ?_)
              · refine GC.seq (GC.region (GL.v (.move rfl) rfl (GL.v (.eql rfl rfl) rfl (GL.v (.assign rfl) rfl (GL.nil (GN.seq (GC.ret (?_))))))))
                (refine GR.one rfl rfl rfl () (congrArg Value.bool ?_) (Ent.refl _) trivial; unfold valT; (repeat' split) <;> first | rfl | (exfalso; omega) | (rw [decide_eq_decide]; omega) | (symm; rw [decide_eq_true_iff]; omega) | (symm; rw [decide_eq_false_iff_not]; omega) | (rw [decide_eq_true_iff]; omega) | (rw [decide_eq_false_iff_not]; omega))
              · refine GC.skip (GN.blk (GN.seq (GC.seq (GC.region (GL.v (.assign rfl) rfl (GL.nil (GN.seq (GC.ret (?_)))))))))
                (refine GR.one rfl rfl rfl () (congrArg Value.bool ?_) (Ent.refl _) trivial; unfold valT; (repeat' split) <;> first | rfl | (exfalso; omega) | (rw [decide_eq_decide]; omega) | (symm; rw [decide_eq_true_iff]; omega) | (symm; rw [decide_eq_false_iff_not]; omega) | (rw [decide_eq_true_iff]; omega) | (rw [decide_eq_false_iff_not]; omega))
theorem tbl_exem : Tbl 130 exemT := fun num kind w h1 h2 => by
  refine tri_of_G 18 Tryz.func130 rfl Tryz.ntmps130 rfl (fun D => ?_)
  refine GC.seq (GC.region (GL.v (.assign rfl) rfl (GL.nil (GN.seq (GC.seq (GC.seq (GC.region (GL.v (.move rfl) rfl (GL.nil (GN.seq (GC.block (GC.seq (GC.seq (GC.region (GL.v (.eql rfl rfl) rfl (GL.v (.assign rfl) rfl (GL.nil (GN.seq (?_)))))))))))))))))))
  refine GC.condD rfl (fun hh0 => ?_) (fun hh0 => ?_)
  · refine GC.skip (GN.seq (GC.cond rfl (fun _ => ?_) (fun h => by first | (have := of_decide_eq_false h; contradiction) | (have := of_decide_eq_true h; contradiction) | (cases h; done))))
    refine GC.seq (GC.region (GL.v (.move rfl) rfl (GL.v (.eql rfl rfl) rfl (GL.v (.assign rfl) rfl (GL.nil (GN.seq (GC.ret (?_))))))))
    (refine GR.one rfl rfl rfl () (congrArg Value.bool ?_) (Ent.refl _) trivial; unfold exemT; (repeat' split) <;> first | rfl | (exfalso; omega) | (rw [decide_eq_decide]; omega) | (symm; rw [decide_eq_true_iff]; omega) | (symm; rw [decide_eq_false_iff_not]; omega) | (rw [decide_eq_true_iff]; omega) | (rw [decide_eq_false_iff_not]; omega))
  · refine GC.seq (GC.region (GL.v (.eql rfl rfl) rfl (GL.v (.assign rfl) rfl (GL.nil (GN.seq (?_))))))
    refine GC.condD rfl (fun hh1 => ?_) (fun hh1 => ?_)
    · refine GC.skip (GN.seq (GC.cond rfl (fun _ => ?_) (fun h => by first | (have := of_decide_eq_false h; contradiction) | (have := of_decide_eq_true h; contradiction) | (cases h; done))))
      refine GC.seq (GC.region (GL.v (.move rfl) rfl (GL.v (.eql rfl rfl) rfl (GL.v (.assign rfl) rfl (GL.nil (GN.seq (GC.ret (?_))))))))
      (refine GR.one rfl rfl rfl () (congrArg Value.bool ?_) (Ent.refl _) trivial; unfold exemT; (repeat' split) <;> first | rfl | (exfalso; omega) | (rw [decide_eq_decide]; omega) | (symm; rw [decide_eq_true_iff]; omega) | (symm; rw [decide_eq_false_iff_not]; omega) | (rw [decide_eq_true_iff]; omega) | (rw [decide_eq_false_iff_not]; omega))
    · refine GC.region (GL.v (.eql rfl rfl) rfl (GL.v (.assign rfl) rfl (GL.nil (GN.seq (?_)))))
      refine GC.condD rfl (fun hh2 => ?_) (fun hh2 => ?_)
      · refine GC.seq (GC.region (GL.v (.move rfl) rfl (GL.v (.eql rfl rfl) rfl (GL.v (.assign rfl) rfl (GL.nil (GN.seq (GC.ret (?_))))))))
        (refine GR.one rfl rfl rfl () (congrArg Value.bool ?_) (Ent.refl _) trivial; unfold exemT; (repeat' split) <;> first | rfl | (exfalso; omega) | (rw [decide_eq_decide]; omega) | (symm; rw [decide_eq_true_iff]; omega) | (symm; rw [decide_eq_false_iff_not]; omega) | (rw [decide_eq_true_iff]; omega) | (rw [decide_eq_false_iff_not]; omega))
      · refine GC.seq (GC.seq (GC.region (GL.v (.eql rfl rfl) rfl (GL.v (.assign rfl) rfl (GL.nil (GN.seq (?_)))))))
        refine GC.condD rfl (fun hh3 => ?_) (fun hh3 => ?_)
        · refine GC.skip (GN.seq (GC.cond rfl (fun _ => ?_) (fun h => by first | (have := of_decide_eq_false h; contradiction) | (have := of_decide_eq_true h; contradiction) | (cases h; done))))
          refine GC.seq (GC.region (GL.v (.move rfl) rfl (GL.v (.eql rfl rfl) rfl (GL.v (.assign rfl) rfl (GL.nil (GN.seq (GC.ret (?_))))))))
          (refine GR.one rfl rfl rfl () (congrArg Value.bool ?_) (Ent.refl _) trivial; unfold exemT; (repeat' split) <;> first | rfl | (exfalso; omega) | (rw [decide_eq_decide]; omega) | (symm; rw [decide_eq_true_iff]; omega) | (symm; rw [decide_eq_false_iff_not]; omega) | (rw [decide_eq_true_iff]; omega) | (rw [decide_eq_false_iff_not]; omega))
        · refine GC.seq (GC.region (GL.v (.eql rfl rfl) rfl (GL.v (.assign rfl) rfl (GL.nil (GN.seq (?_))))))
          refine GC.condD rfl (fun hh4 => ?_) (fun hh4 => ?_)
          · refine GC.skip (GN.seq (GC.cond rfl (fun _ => ?_) (fun h => by first | (have := of_decide_eq_false h; contradiction) | (have := of_decide_eq_true h; contradiction) | (cases h; done))))
            refine GC.seq (GC.region (GL.v (.move rfl) rfl (GL.v (.eql rfl rfl) rfl (GL.v (.assign rfl) rfl (GL.nil (GN.seq (GC.ret (?_))))))))
            (refine GR.one rfl rfl rfl () (congrArg Value.bool ?_) (Ent.refl _) trivial; unfold exemT; (repeat' split) <;> first | rfl | (exfalso; omega) | (rw [decide_eq_decide]; omega) | (symm; rw [decide_eq_true_iff]; omega) | (symm; rw [decide_eq_false_iff_not]; omega) | (rw [decide_eq_true_iff]; omega) | (rw [decide_eq_false_iff_not]; omega))
          · refine GC.region (GL.v (.eql rfl rfl) rfl (GL.v (.assign rfl) rfl (GL.nil (GN.seq (?_)))))
            refine GC.condD rfl (fun hh5 => ?_) (fun hh5 => ?_)
            · refine GC.seq (GC.region (GL.v (.move rfl) rfl (GL.v (.eql rfl rfl) rfl (GL.v (.assign rfl) rfl (GL.nil (GN.seq (GC.ret (?_))))))))
              (refine GR.one rfl rfl rfl () (congrArg Value.bool ?_) (Ent.refl _) trivial; unfold exemT; (repeat' split) <;> first | rfl | (exfalso; omega) | (rw [decide_eq_decide]; omega) | (symm; rw [decide_eq_true_iff]; omega) | (symm; rw [decide_eq_false_iff_not]; omega) | (rw [decide_eq_true_iff]; omega) | (rw [decide_eq_false_iff_not]; omega))
            · refine GC.skip (GN.blk (GN.seq (GC.seq (GC.region (GL.v (.assign rfl) rfl (GL.nil (GN.seq (GC.ret (?_)))))))))
              (refine GR.one rfl rfl rfl () (congrArg Value.bool ?_) (Ent.refl _) trivial; unfold exemT; (repeat' split) <;> first | rfl | (exfalso; omega) | (rw [decide_eq_decide]; omega) | (symm; rw [decide_eq_true_iff]; omega) | (symm; rw [decide_eq_false_iff_not]; omega) | (rw [decide_eq_true_iff]; omega) | (rw [decide_eq_false_iff_not]; omega))
theorem tbl_buck : Tbl 134 buckT := fun num kind w h1 h2 => by
  refine tri_of_G 14 Tryz.func134 rfl Tryz.ntmps134 rfl (fun D => ?_)
  refine GC.seq (GC.region (GL.v (.assign rfl) rfl (GL.nil (GN.seq (GC.seq (GC.seq (GC.region (GL.v (.move rfl) rfl (GL.nil (GN.seq (GC.block (GC.seq (GC.block (GC.seq (GC.block (GC.seq (GC.seq (GC.seq (GC.region (GL.v (.eql rfl rfl) rfl (GL.v (.assign rfl) rfl (GL.nil (GN.seq (?_))))))))))))))))))))))))
  refine GC.condD rfl (fun hh0 => ?_) (fun hh0 => ?_)
  · refine GC.exit (GX.seq (GX.seq (GX.blk (GN.seq (GC.seq (GC.region (GL.v (.move rfl) rfl (GL.v (.eql rfl rfl) rfl (GL.nil (GN.seq (?_)))))))))))
    refine GC.condD rfl (fun hh1 => ?_) (fun hh1 => ?_)
    · refine GC.seq (GC.region (GL.v (.assign rfl) rfl (GL.nil (GN.seq (GC.ret (?_))))))
      (refine GR.one rfl rfl rfl () (congrArg Value.bool ?_) (Ent.refl _) trivial; unfold buckT; (repeat' split) <;> first | rfl | (exfalso; omega) | (rw [decide_eq_decide]; omega) | (symm; rw [decide_eq_true_iff]; omega) | (symm; rw [decide_eq_false_iff_not]; omega) | (rw [decide_eq_true_iff]; omega) | (rw [decide_eq_false_iff_not]; omega))
    · refine GC.skip (GN.blk (GN.seq (GC.seq (GC.seq (GC.region (GL.v (.move rfl) rfl (GL.v (.eql rfl rfl) rfl (GL.v (.assign rfl) rfl (GL.nil (GN.seq (GC.ret (?_))))))))))))
      (refine GR.one rfl rfl rfl () (congrArg Value.bool ?_) (Ent.refl _) trivial; unfold buckT; (repeat' split) <;> first | rfl | (exfalso; omega) | (rw [decide_eq_decide]; omega) | (symm; rw [decide_eq_true_iff]; omega) | (symm; rw [decide_eq_false_iff_not]; omega) | (rw [decide_eq_true_iff]; omega) | (rw [decide_eq_false_iff_not]; omega))
  · refine GC.skip (GN.seq (GC.seq (GC.region (GL.v (.eql rfl rfl) rfl (GL.v (.assign rfl) rfl (GL.nil (GN.seq (?_))))))))
    refine GC.condD rfl (fun hh1 => ?_) (fun hh1 => ?_)
    · refine GC.exit (GX.seq (GX.other rfl (GX.seq (GX.blk (GN.seq (GC.seq (GC.seq (GC.region (GL.v (.move rfl) rfl (GL.v (.eql rfl rfl) rfl (GL.v (.assign rfl) rfl (GL.nil (GN.seq (GC.ret (?_)))))))))))))))
      (refine GR.one rfl rfl rfl () (congrArg Value.bool ?_) (Ent.refl _) trivial; unfold buckT; (repeat' split) <;> first | rfl | (exfalso; omega) | (rw [decide_eq_decide]; omega) | (symm; rw [decide_eq_true_iff]; omega) | (symm; rw [decide_eq_false_iff_not]; omega) | (rw [decide_eq_true_iff]; omega) | (rw [decide_eq_false_iff_not]; omega))
    · refine GC.skip (GN.seq (GC.exit (GX.other rfl (GX.seq (GX.other rfl (GX.seq (GX.blk (GN.seq (GC.seq (GC.region (GL.v (.assign rfl) rfl (GL.nil (GN.seq (GC.ret (?_)))))))))))))))
      (refine GR.one rfl rfl rfl () (congrArg Value.bool ?_) (Ent.refl _) trivial; unfold buckT; (repeat' split) <;> first | rfl | (exfalso; omega) | (rw [decide_eq_decide]; omega) | (symm; rw [decide_eq_true_iff]; omega) | (symm; rw [decide_eq_false_iff_not]; omega) | (rw [decide_eq_true_iff]; omega) | (rw [decide_eq_false_iff_not]; omega))
theorem tbl_exp : Tbl 45 expT := fun num kind w h1 h2 => by
  refine tri_of_G 29 Tryz.func45 rfl Tryz.ntmps45 rfl (fun D => ?_)
  refine GC.seq (GC.region (GL.v (.assign rfl) rfl (GL.nil (GN.seq (GC.seq (GC.seq (GC.region (GL.v (.move rfl) rfl (GL.nil (GN.seq (GC.block (GC.seq (GC.seq (GC.region (GL.v (.eql rfl rfl) rfl (GL.v (.assign rfl) rfl (GL.nil (GN.seq (?_)))))))))))))))))))
  refine GC.condD rfl (fun hh0 => ?_) (fun hh0 => ?_)
  · refine GC.skip (GN.seq (GC.cond rfl (fun _ => ?_) (fun h => by first | (have := of_decide_eq_false h; contradiction) | (have := of_decide_eq_true h; contradiction) | (cases h; done))))
    refine GC.seq (GC.region (GL.v (.move rfl) rfl (GL.v (.eql rfl rfl) rfl (GL.v (.assign rfl) rfl (GL.nil (GN.seq (GC.ret (?_))))))))
    (refine GR.one rfl rfl rfl () (congrArg Value.bool ?_) (Ent.refl _) trivial; unfold expT; (repeat' split) <;> first | rfl | (exfalso; omega) | (rw [decide_eq_decide]; omega) | (symm; rw [decide_eq_true_iff]; omega) | (symm; rw [decide_eq_false_iff_not]; omega) | (rw [decide_eq_true_iff]; omega) | (rw [decide_eq_false_iff_not]; omega))
  · refine GC.seq (GC.region (GL.v (.eql rfl rfl) rfl (GL.v (.assign rfl) rfl (GL.nil (GN.seq (?_))))))
    refine GC.condD rfl (fun hh1 => ?_) (fun hh1 => ?_)
    · refine GC.skip (GN.seq (GC.cond rfl (fun _ => ?_) (fun h => by first | (have := of_decide_eq_false h; contradiction) | (have := of_decide_eq_true h; contradiction) | (cases h; done))))
      refine GC.seq (GC.region (GL.v (.move rfl) rfl (GL.v (.eql rfl rfl) rfl (GL.v (.assign rfl) rfl (GL.nil (GN.seq (GC.ret (?_))))))))
      (refine GR.one rfl rfl rfl () (congrArg Value.bool ?_) (Ent.refl _) trivial; unfold expT; (repeat' split) <;> first | rfl | (exfalso; omega) | (rw [decide_eq_decide]; omega) | (symm; rw [decide_eq_true_iff]; omega) | (symm; rw [decide_eq_false_iff_not]; omega) | (rw [decide_eq_true_iff]; omega) | (rw [decide_eq_false_iff_not]; omega))
    · refine GC.seq (GC.region (GL.v (.eql rfl rfl) rfl (GL.v (.assign rfl) rfl (GL.nil (GN.seq (?_))))))
      refine GC.condD rfl (fun hh2 => ?_) (fun hh2 => ?_)
      · refine GC.skip (GN.seq (GC.cond rfl (fun _ => ?_) (fun h => by first | (have := of_decide_eq_false h; contradiction) | (have := of_decide_eq_true h; contradiction) | (cases h; done))))
        refine GC.seq (GC.region (GL.v (.move rfl) rfl (GL.v (.eql rfl rfl) rfl (GL.v (.assign rfl) rfl (GL.nil (GN.seq (GC.ret (?_))))))))
        (refine GR.one rfl rfl rfl () (congrArg Value.bool ?_) (Ent.refl _) trivial; unfold expT; (repeat' split) <;> first | rfl | (exfalso; omega) | (rw [decide_eq_decide]; omega) | (symm; rw [decide_eq_true_iff]; omega) | (symm; rw [decide_eq_false_iff_not]; omega) | (rw [decide_eq_true_iff]; omega) | (rw [decide_eq_false_iff_not]; omega))
      · refine GC.seq (GC.region (GL.v (.eql rfl rfl) rfl (GL.v (.assign rfl) rfl (GL.nil (GN.seq (?_))))))
        refine GC.condD rfl (fun hh3 => ?_) (fun hh3 => ?_)
        · refine GC.skip (GN.seq (GC.cond rfl (fun _ => ?_) (fun h => by first | (have := of_decide_eq_false h; contradiction) | (have := of_decide_eq_true h; contradiction) | (cases h; done))))
          refine GC.seq (GC.region (GL.v (.move rfl) rfl (GL.v (.eql rfl rfl) rfl (GL.v (.assign rfl) rfl (GL.nil (GN.seq (GC.ret (?_))))))))
          (refine GR.one rfl rfl rfl () (congrArg Value.bool ?_) (Ent.refl _) trivial; unfold expT; (repeat' split) <;> first | rfl | (exfalso; omega) | (rw [decide_eq_decide]; omega) | (symm; rw [decide_eq_true_iff]; omega) | (symm; rw [decide_eq_false_iff_not]; omega) | (rw [decide_eq_true_iff]; omega) | (rw [decide_eq_false_iff_not]; omega))
        · refine GC.seq (GC.region (GL.v (.eql rfl rfl) rfl (GL.v (.assign rfl) rfl (GL.nil (GN.seq (?_))))))
          refine GC.condD rfl (fun hh4 => ?_) (fun hh4 => ?_)
          · refine GC.skip (GN.seq (GC.cond rfl (fun _ => ?_) (fun h => by first | (have := of_decide_eq_false h; contradiction) | (have := of_decide_eq_true h; contradiction) | (cases h; done))))
            refine GC.seq (GC.region (GL.v (.move rfl) rfl (GL.v (.eql rfl rfl) rfl (GL.v (.assign rfl) rfl (GL.nil (GN.seq (GC.ret (?_))))))))
            (refine GR.one rfl rfl rfl () (congrArg Value.bool ?_) (Ent.refl _) trivial; unfold expT; (repeat' split) <;> first | rfl | (exfalso; omega) | (rw [decide_eq_decide]; omega) | (symm; rw [decide_eq_true_iff]; omega) | (symm; rw [decide_eq_false_iff_not]; omega) | (rw [decide_eq_true_iff]; omega) | (rw [decide_eq_false_iff_not]; omega))
          · refine GC.seq (GC.region (GL.v (.eql rfl rfl) rfl (GL.v (.assign rfl) rfl (GL.nil (GN.seq (?_))))))
            refine GC.condD rfl (fun hh5 => ?_) (fun hh5 => ?_)
            · refine GC.skip (GN.seq (GC.cond rfl (fun _ => ?_) (fun h => by first | (have := of_decide_eq_false h; contradiction) | (have := of_decide_eq_true h; contradiction) | (cases h; done))))
              refine GC.seq (GC.region (GL.v (.move rfl) rfl (GL.v (.eql rfl rfl) rfl (GL.v (.assign rfl) rfl (GL.nil (GN.seq (GC.ret (?_))))))))
              (refine GR.one rfl rfl rfl () (congrArg Value.bool ?_) (Ent.refl _) trivial; unfold expT; (repeat' split) <;> first | rfl | (exfalso; omega) | (rw [decide_eq_decide]; omega) | (symm; rw [decide_eq_true_iff]; omega) | (symm; rw [decide_eq_false_iff_not]; omega) | (rw [decide_eq_true_iff]; omega) | (rw [decide_eq_false_iff_not]; omega))
            · refine GC.seq (GC.region (GL.v (.eql rfl rfl) rfl (GL.v (.assign rfl) rfl (GL.nil (GN.seq (?_))))))
              refine GC.condD rfl (fun hh6 => ?_) (fun hh6 => ?_)
              · refine GC.skip (GN.seq (GC.cond rfl (fun _ => ?_) (fun h => by first | (have := of_decide_eq_false h; contradiction) | (have := of_decide_eq_true h; contradiction) | (cases h; done))))
                refine GC.seq (GC.region (GL.v (.move rfl) rfl (GL.v (.eql rfl rfl) rfl (GL.v (.assign rfl) rfl (GL.nil (GN.seq (GC.ret (?_))))))))
                (refine GR.one rfl rfl rfl () (congrArg Value.bool ?_) (Ent.refl _) trivial; unfold expT; (repeat' split) <;> first | rfl | (exfalso; omega) | (rw [decide_eq_decide]; omega) | (symm; rw [decide_eq_true_iff]; omega) | (symm; rw [decide_eq_false_iff_not]; omega) | (rw [decide_eq_true_iff]; omega) | (rw [decide_eq_false_iff_not]; omega))
              · refine GC.region (GL.v (.eql rfl rfl) rfl (GL.v (.assign rfl) rfl (GL.nil (GN.seq (?_)))))
                refine GC.condD rfl (fun hh7 => ?_) (fun hh7 => ?_)
                · refine GC.seq (GC.region (GL.v (.move rfl) rfl (GL.v (.eql rfl rfl) rfl (GL.v (.assign rfl) rfl (GL.nil (GN.seq (GC.ret (?_))))))))
                  (refine GR.one rfl rfl rfl () (congrArg Value.bool ?_) (Ent.refl _) trivial; unfold expT; (repeat' split) <;> first | rfl | (exfalso; omega) | (rw [decide_eq_decide]; omega) | (symm; rw [decide_eq_true_iff]; omega) | (symm; rw [decide_eq_false_iff_not]; omega) | (rw [decide_eq_true_iff]; omega) | (rw [decide_eq_false_iff_not]; omega))
                · refine GC.seq (GC.seq (GC.region (GL.v (.eql rfl rfl) rfl (GL.v (.assign rfl) rfl (GL.nil (GN.seq (?_)))))))
                  refine GC.condD rfl (fun hh8 => ?_) (fun hh8 => ?_)
                  · refine GC.skip (GN.seq (GC.cond rfl (fun _ => ?_) (fun h => by first | (have := of_decide_eq_false h; contradiction) | (have := of_decide_eq_true h; contradiction) | (cases h; done))))
                    refine GC.seq (GC.region (GL.v (.move rfl) rfl (GL.v (.eql rfl rfl) rfl (GL.v (.assign rfl) rfl (GL.nil (GN.seq (GC.ret (?_))))))))
                    (refine GR.one rfl rfl rfl () (congrArg Value.bool ?_) (Ent.refl _) trivial; unfold expT; (repeat' split) <;> first | rfl | (exfalso; omega) | (rw [decide_eq_decide]; omega) | (symm; rw [decide_eq_true_iff]; omega) | (symm; rw [decide_eq_false_iff_not]; omega) | (rw [decide_eq_true_iff]; omega) | (rw [decide_eq_false_iff_not]; omega))
                  · refine GC.seq (GC.region (GL.v (.eql rfl rfl) rfl (GL.v (.assign rfl) rfl (GL.nil (GN.seq (?_))))))
                    refine GC.condD rfl (fun hh9 => ?_) (fun hh9 => ?_)
                    · refine GC.skip (GN.seq (GC.cond rfl (fun _ => ?_) (fun h => by first | (have := of_decide_eq_false h; contradiction) | (have := of_decide_eq_true h; contradiction) | (cases h; done))))
                      refine GC.seq (GC.region (GL.v (.move rfl) rfl (GL.v (.eql rfl rfl) rfl (GL.v (.assign rfl) rfl (GL.nil (GN.seq (GC.ret (?_))))))))
                      (refine GR.one rfl rfl rfl () (congrArg Value.bool ?_) (Ent.refl _) trivial; unfold expT; (repeat' split) <;> first | rfl | (exfalso; omega) | (rw [decide_eq_decide]; omega) | (symm; rw [decide_eq_true_iff]; omega) | (symm; rw [decide_eq_false_iff_not]; omega) | (rw [decide_eq_true_iff]; omega) | (rw [decide_eq_false_iff_not]; omega))
                    · refine GC.seq (GC.region (GL.v (.eql rfl rfl) rfl (GL.v (.assign rfl) rfl (GL.nil (GN.seq (?_))))))
                      refine GC.condD rfl (fun hh10 => ?_) (fun hh10 => ?_)
                      · refine GC.skip (GN.seq (GC.cond rfl (fun _ => ?_) (fun h => by first | (have := of_decide_eq_false h; contradiction) | (have := of_decide_eq_true h; contradiction) | (cases h; done))))
                        refine GC.seq (GC.region (GL.v (.move rfl) rfl (GL.v (.eql rfl rfl) rfl (GL.v (.assign rfl) rfl (GL.nil (GN.seq (GC.ret (?_))))))))
                        (refine GR.one rfl rfl rfl () (congrArg Value.bool ?_) (Ent.refl _) trivial; unfold expT; (repeat' split) <;> first | rfl | (exfalso; omega) | (rw [decide_eq_decide]; omega) | (symm; rw [decide_eq_true_iff]; omega) | (symm; rw [decide_eq_false_iff_not]; omega) | (rw [decide_eq_true_iff]; omega) | (rw [decide_eq_false_iff_not]; omega))
                      · refine GC.region (GL.v (.eql rfl rfl) rfl (GL.v (.assign rfl) rfl (GL.nil (GN.seq (?_)))))
                        refine GC.condD rfl (fun hh11 => ?_) (fun hh11 => ?_)
                        · refine GC.seq (GC.region (GL.v (.move rfl) rfl (GL.v (.eql rfl rfl) rfl (GL.v (.assign rfl) rfl (GL.nil (GN.seq (GC.ret (?_))))))))
                          (refine GR.one rfl rfl rfl () (congrArg Value.bool ?_) (Ent.refl _) trivial; unfold expT; (repeat' split) <;> first | rfl | (exfalso; omega) | (rw [decide_eq_decide]; omega) | (symm; rw [decide_eq_true_iff]; omega) | (symm; rw [decide_eq_false_iff_not]; omega) | (rw [decide_eq_true_iff]; omega) | (rw [decide_eq_false_iff_not]; omega))
                        · refine GC.seq (GC.seq (GC.region (GL.v (.eql rfl rfl) rfl (GL.v (.assign rfl) rfl (GL.nil (GN.seq (?_)))))))
                          refine GC.condD rfl (fun hh12 => ?_) (fun hh12 => ?_)
                          · refine GC.skip (GN.seq (GC.cond rfl (fun _ => ?_) (fun h => by first | (have := of_decide_eq_false h; contradiction) | (have := of_decide_eq_true h; contradiction) | (cases h; done))))
                            refine GC.seq (GC.region (GL.v (.move rfl) rfl (GL.v (.eql rfl rfl) rfl (GL.v (.assign rfl) rfl (GL.nil (GN.seq (GC.ret (?_))))))))
                            (refine GR.one rfl rfl rfl () (congrArg Value.bool ?_) (Ent.refl _) trivial; unfold expT; (repeat' split) <;> first | rfl | (exfalso; omega) | (rw [decide_eq_decide]; omega) | (symm; rw [decide_eq_true_iff]; omega) | (symm; rw [decide_eq_false_iff_not]; omega) | (rw [decide_eq_true_iff]; omega) | (rw [decide_eq_false_iff_not]; omega))
                          · refine GC.region (GL.v (.eql rfl rfl) rfl (GL.v (.assign rfl) rfl (GL.nil (GN.seq (?_)))))
                            refine GC.condD rfl (fun hh13 => ?_) (fun hh13 => ?_)
                            · refine GC.seq (GC.region (GL.v (.move rfl) rfl (GL.v (.eql rfl rfl) rfl (GL.v (.assign rfl) rfl (GL.nil (GN.seq (GC.ret (?_))))))))
                              (refine GR.one rfl rfl rfl () (congrArg Value.bool ?_) (Ent.refl _) trivial; unfold expT; (repeat' split) <;> first | rfl | (exfalso; omega) | (rw [decide_eq_decide]; omega) | (symm; rw [decide_eq_true_iff]; omega) | (symm; rw [decide_eq_false_iff_not]; omega) | (rw [decide_eq_true_iff]; omega) | (rw [decide_eq_false_iff_not]; omega))
                            · refine GC.skip (GN.blk (GN.seq (GC.seq (GC.region (GL.v (.assign rfl) rfl (GL.nil (GN.seq (GC.ret (?_)))))))))
                              (refine GR.one rfl rfl rfl () (congrArg Value.bool ?_) (Ent.refl _) trivial; unfold expT; (repeat' split) <;> first | rfl | (exfalso; omega) | (rw [decide_eq_decide]; omega) | (symm; rw [decide_eq_true_iff]; omega) | (symm; rw [decide_eq_false_iff_not]; omega) | (rw [decide_eq_true_iff]; omega) | (rw [decide_eq_false_iff_not]; omega))
theorem tbl_num : Tbl 98 numT := fun num kind w h1 h2 => by
  refine tri_of_G 22 Tryz.func98 rfl Tryz.ntmps98 rfl (fun D => ?_)
  refine GC.seq (GC.region (GL.v (.assign rfl) rfl (GL.nil (GN.seq (GC.seq (GC.seq (GC.region (GL.v (.move rfl) rfl (GL.nil (GN.seq (GC.block (GC.seq (GC.seq (GC.region (GL.v (.eql rfl rfl) rfl (GL.v (.assign rfl) rfl (GL.nil (GN.seq (?_)))))))))))))))))))
  refine GC.condD rfl (fun hh0 => ?_) (fun hh0 => ?_)
  · refine GC.skip (GN.seq (GC.cond rfl (fun _ => ?_) (fun h => by first | (have := of_decide_eq_false h; contradiction) | (have := of_decide_eq_true h; contradiction) | (cases h; done))))
    refine GC.seq (GC.region (GL.v (.move rfl) rfl (GL.v (.eql rfl rfl) rfl (GL.v (.assign rfl) rfl (GL.nil (GN.seq (GC.ret (?_))))))))
    (refine GR.one rfl rfl rfl () (congrArg Value.bool ?_) (Ent.refl _) trivial; unfold numT; (repeat' split) <;> first | rfl | (exfalso; omega) | (rw [decide_eq_decide]; omega) | (symm; rw [decide_eq_true_iff]; omega) | (symm; rw [decide_eq_false_iff_not]; omega) | (rw [decide_eq_true_iff]; omega) | (rw [decide_eq_false_iff_not]; omega))
  · refine GC.seq (GC.region (GL.v (.eql rfl rfl) rfl (GL.v (.assign rfl) rfl (GL.nil (GN.seq (?_))))))
    refine GC.condD rfl (fun hh1 => ?_) (fun hh1 => ?_)
    · refine GC.skip (GN.seq (GC.cond rfl (fun _ => ?_) (fun h => by first | (have := of_decide_eq_false h; contradiction) | (have := of_decide_eq_true h; contradiction) | (cases h; done))))
      refine GC.seq (GC.region (GL.v (.move rfl) rfl (GL.v (.eql rfl rfl) rfl (GL.v (.assign rfl) rfl (GL.nil (GN.seq (GC.ret (?_))))))))
      (refine GR.one rfl rfl rfl () (congrArg Value.bool ?_) (Ent.refl _) trivial; unfold numT; (repeat' split) <;> first | rfl | (exfalso; omega) | (rw [decide_eq_decide]; omega) | (symm; rw [decide_eq_true_iff]; omega) | (symm; rw [decide_eq_false_iff_not]; omega) | (rw [decide_eq_true_iff]; omega) | (rw [decide_eq_false_iff_not]; omega))
    · refine GC.seq (GC.region (GL.v (.eql rfl rfl) rfl (GL.v (.assign rfl) rfl (GL.nil (GN.seq (?_))))))
      refine GC.condD rfl (fun hh2 => ?_) (fun hh2 => ?_)
      · refine GC.skip (GN.seq (GC.cond rfl (fun _ => ?_) (fun h => by first | (have := of_decide_eq_false h; contradiction) | (have := of_decide_eq_true h; contradiction) | (cases h; done))))
        refine GC.seq (GC.region (GL.v (.move rfl) rfl (GL.v (.eql rfl rfl) rfl (GL.v (.assign rfl) rfl (GL.nil (GN.seq (GC.ret (?_))))))))
        (refine GR.one rfl rfl rfl () (congrArg Value.bool ?_) (Ent.refl _) trivial; unfold numT; (repeat' split) <;> first | rfl | (exfalso; omega) | (rw [decide_eq_decide]; omega) | (symm; rw [decide_eq_true_iff]; omega) | (symm; rw [decide_eq_false_iff_not]; omega) | (rw [decide_eq_true_iff]; omega) | (rw [decide_eq_false_iff_not]; omega))
      · refine GC.region (GL.v (.eql rfl rfl) rfl (GL.v (.assign rfl) rfl (GL.nil (GN.seq (?_)))))
        refine GC.condD rfl (fun hh3 => ?_) (fun hh3 => ?_)
        · refine GC.seq (GC.region (GL.v (.move rfl) rfl (GL.v (.eql rfl rfl) rfl (GL.v (.assign rfl) rfl (GL.nil (GN.seq (GC.ret (?_))))))))
          (refine GR.one rfl rfl rfl () (congrArg Value.bool ?_) (Ent.refl _) trivial; unfold numT; (repeat' split) <;> first | rfl | (exfalso; omega) | (rw [decide_eq_decide]; omega) | (symm; rw [decide_eq_true_iff]; omega) | (symm; rw [decide_eq_false_iff_not]; omega) | (rw [decide_eq_true_iff]; omega) | (rw [decide_eq_false_iff_not]; omega))
        · refine GC.seq (GC.seq (GC.region (GL.v (.eql rfl rfl) rfl (GL.v (.assign rfl) rfl (GL.nil (GN.seq (?_)))))))
          refine GC.condD rfl (fun hh4 => ?_) (fun hh4 => ?_)
          · refine GC.skip (GN.seq (GC.cond rfl (fun _ => ?_) (fun h => by first | (have := of_decide_eq_false h; contradiction) | (have := of_decide_eq_true h; contradiction) | (cases h; done))))
            refine GC.seq (GC.region (GL.v (.move rfl) rfl (GL.v (.eql rfl rfl) rfl (GL.v (.assign rfl) rfl (GL.nil (GN.seq (GC.ret (?_))))))))
            (refine GR.one rfl rfl rfl () (congrArg Value.bool ?_) (Ent.refl _) trivial; unfold numT; (repeat' split) <;> first | rfl | (exfalso; omega) | (rw [decide_eq_decide]; omega) | (symm; rw [decide_eq_true_iff]; omega) | (symm; rw [decide_eq_false_iff_not]; omega) | (rw [decide_eq_true_iff]; omega) | (rw [decide_eq_false_iff_not]; omega))
          · refine GC.region (GL.v (.eql rfl rfl) rfl (GL.v (.assign rfl) rfl (GL.nil (GN.seq (?_)))))
            refine GC.condD rfl (fun hh5 => ?_) (fun hh5 => ?_)
            · refine GC.seq (GC.region (GL.v (.move rfl) rfl (GL.v (.eql rfl rfl) rfl (GL.v (.assign rfl) rfl (GL.nil (GN.seq (GC.ret (?_))))))))
              (refine GR.one rfl rfl rfl () (congrArg Value.bool ?_) (Ent.refl _) trivial; unfold numT; (repeat' split) <;> first | rfl | (exfalso; omega) | (rw [decide_eq_decide]; omega) | (symm; rw [decide_eq_true_iff]; omega) | (symm; rw [decide_eq_false_iff_not]; omega) | (rw [decide_eq_true_iff]; omega) | (rw [decide_eq_false_iff_not]; omega))
            · refine GC.seq (GC.region (GL.v (.eql rfl rfl) rfl (GL.v (.assign rfl) rfl (GL.nil (GN.seq (?_))))))
              refine GC.condD rfl (fun hh6 => ?_) (fun hh6 => ?_)
              · refine GC.seq (GC.region (GL.v (.move rfl) rfl (GL.v (.eql rfl rfl) rfl (GL.v (.assign rfl) rfl (GL.nil (GN.seq (GC.ret (?_))))))))
                (refine GR.one rfl rfl rfl () (congrArg Value.bool ?_) (Ent.refl _) trivial; unfold numT; (repeat' split) <;> first | rfl | (exfalso; omega) | (rw [decide_eq_decide]; omega) | (symm; rw [decide_eq_true_iff]; omega) | (symm; rw [decide_eq_false_iff_not]; omega) | (rw [decide_eq_true_iff]; omega) | (rw [decide_eq_false_iff_not]; omega))
              · refine GC.skip (GN.blk (GN.seq (GC.seq (GC.region (GL.v (.assign rfl) rfl (GL.nil (GN.seq (GC.ret (?_)))))))))
                (refine GR.one rfl rfl rfl () (congrArg Value.bool ?_) (Ent.refl _) trivial; unfold numT; (repeat' split) <;> first | rfl | (exfalso; omega) | (rw [decide_eq_decide]; omega) | (symm; rw [decide_eq_true_iff]; omega) | (symm; rw [decide_eq_false_iff_not]; omega) | (rw [decide_eq_true_iff]; omega) | (rw [decide_eq_false_iff_not]; omega))
theorem tbl_his : Tbl 107 hisT := fun num kind w h1 h2 => by
  refine tri_of_G 29 Tryz.func107 rfl Tryz.ntmps107 rfl (fun D => ?_)
  refine GC.seq (GC.region (GL.v (.assign rfl) rfl (GL.nil (GN.seq (GC.seq (GC.seq (GC.region (GL.v (.move rfl) rfl (GL.nil (GN.seq (GC.block (GC.seq (GC.block (GC.seq (GC.block (GC.seq (GC.block (GC.seq (GC.block (GC.seq (GC.seq (GC.seq (GC.seq (GC.region (GL.v (.eql rfl rfl) rfl (GL.v (.assign rfl) rfl (GL.nil (GN.seq (?_)))))))))))))))))))))))))))))
  refine GC.condD rfl (fun hh0 => ?_) (fun hh0 => ?_)
  · refine GC.skip (GN.seq (GC.cond rfl (fun _ => ?_) (fun h => by first | (have := of_decide_eq_false h; contradiction) | (have := of_decide_eq_true h; contradiction) | (cases h; done))))
    refine GC.exit (GX.seq (GX.seq (GX.blk (GN.seq (GC.seq (GC.region (GL.v (.move rfl) rfl (GL.v (.eql rfl rfl) rfl (GL.nil (GN.seq (?_)))))))))))
    refine GC.condD rfl (fun hh1 => ?_) (fun hh1 => ?_)
    · refine GC.seq (GC.region (GL.v (.assign rfl) rfl (GL.nil (GN.seq (GC.ret (?_))))))
      (refine GR.one rfl rfl rfl () (congrArg Value.bool ?_) (Ent.refl _) trivial; unfold hisT; (repeat' split) <;> first | rfl | (exfalso; omega) | (rw [decide_eq_decide]; omega) | (symm; rw [decide_eq_true_iff]; omega) | (symm; rw [decide_eq_false_iff_not]; omega) | (rw [decide_eq_true_iff]; omega) | (rw [decide_eq_false_iff_not]; omega))
    · refine GC.skip (GN.blk (GN.seq (GC.seq (GC.seq (GC.region (GL.v (.move rfl) rfl (GL.v (.eql rfl rfl) rfl (GL.v (.assign rfl) rfl (GL.nil (GN.seq (GC.ret (?_))))))))))))
      (refine GR.one rfl rfl rfl () (congrArg Value.bool ?_) (Ent.refl _) trivial; unfold hisT; (repeat' split) <;> first | rfl | (exfalso; omega) | (rw [decide_eq_decide]; omega) | (symm; rw [decide_eq_true_iff]; omega) | (symm; rw [decide_eq_false_iff_not]; omega) | (rw [decide_eq_true_iff]; omega) | (rw [decide_eq_false_iff_not]; omega))
  · refine GC.region (GL.v (.eql rfl rfl) rfl (GL.v (.assign rfl) rfl (GL.nil (GN.seq (?_)))))
    refine GC.condD rfl (fun hh1 => ?_) (fun hh1 => ?_)
    · refine GC.exit (GX.seq (GX.seq (GX.blk (GN.seq (GC.seq (GC.region (GL.v (.move rfl) rfl (GL.v (.eql rfl rfl) rfl (GL.nil (GN.seq (?_)))))))))))
      refine GC.condD rfl (fun hh2 => ?_) (fun hh2 => ?_)
      · refine GC.seq (GC.region (GL.v (.assign rfl) rfl (GL.nil (GN.seq (GC.ret (?_))))))
        (refine GR.one rfl rfl rfl () (congrArg Value.bool ?_) (Ent.refl _) trivial; unfold hisT; (repeat' split) <;> first | rfl | (exfalso; omega) | (rw [decide_eq_decide]; omega) | (symm; rw [decide_eq_true_iff]; omega) | (symm; rw [decide_eq_false_iff_not]; omega) | (rw [decide_eq_true_iff]; omega) | (rw [decide_eq_false_iff_not]; omega))
      · refine GC.skip (GN.blk (GN.seq (GC.seq (GC.seq (GC.region (GL.v (.move rfl) rfl (GL.v (.eql rfl rfl) rfl (GL.v (.assign rfl) rfl (GL.nil (GN.seq (GC.ret (?_))))))))))))
        (refine GR.one rfl rfl rfl () (congrArg Value.bool ?_) (Ent.refl _) trivial; unfold hisT; (repeat' split) <;> first | rfl | (exfalso; omega) | (rw [decide_eq_decide]; omega) | (symm; rw [decide_eq_true_iff]; omega) | (symm; rw [decide_eq_false_iff_not]; omega) | (rw [decide_eq_true_iff]; omega) | (rw [decide_eq_false_iff_not]; omega))
    · refine GC.skip (GN.seq (GC.seq (GC.seq (GC.seq (GC.region (GL.v (.eql rfl rfl) rfl (GL.v (.assign rfl) rfl (GL.nil (GN.seq (?_))))))))))
      refine GC.condD rfl (fun hh2 => ?_) (fun hh2 => ?_)
      · refine GC.skip (GN.seq (GC.cond rfl (fun _ => ?_) (fun h => by first | (have := of_decide_eq_false h; contradiction) | (have := of_decide_eq_true h; contradiction) | (cases h; done))))
        refine GC.exit (GX.seq (GX.seq (GX.other rfl (GX.seq (GX.blk (GN.seq (GC.seq (GC.seq (GC.region (GL.v (.move rfl) rfl (GL.v (.eql rfl rfl) rfl (GL.v (.assign rfl) rfl (GL.nil (GN.seq (GC.ret (?_))))))))))))))))
        (refine GR.one rfl rfl rfl () (congrArg Value.bool ?_) (Ent.refl _) trivial; unfold hisT; (repeat' split) <;> first | rfl | (exfalso; omega) | (rw [decide_eq_decide]; omega) | (symm; rw [decide_eq_true_iff]; omega) | (symm; rw [decide_eq_false_iff_not]; omega) | (rw [decide_eq_true_iff]; omega) | (rw [decide_eq_false_iff_not]; omega))
      · refine GC.seq (GC.region (GL.v (.eql rfl rfl) rfl (GL.v (.assign rfl) rfl (GL.nil (GN.seq (?_))))))
        refine GC.condD rfl (fun hh3 => ?_) (fun hh3 => ?_)
        · refine GC.skip (GN.seq (GC.cond rfl (fun _ => ?_) (fun h => by first | (have := of_decide_eq_false h; contradiction) | (have := of_decide_eq_true h; contradiction) | (cases h; done))))
          refine GC.exit (GX.seq (GX.seq (GX.other rfl (GX.seq (GX.blk (GN.seq (GC.seq (GC.seq (GC.region (GL.v (.move rfl) rfl (GL.v (.eql rfl rfl) rfl (GL.v (.assign rfl) rfl (GL.nil (GN.seq (GC.ret (?_))))))))))))))))
          (refine GR.one rfl rfl rfl () (congrArg Value.bool ?_) (Ent.refl _) trivial; unfold hisT; (repeat' split) <;> first | rfl | (exfalso; omega) | (rw [decide_eq_decide]; omega) | (symm; rw [decide_eq_true_iff]; omega) | (symm; rw [decide_eq_false_iff_not]; omega) | (rw [decide_eq_true_iff]; omega) | (rw [decide_eq_false_iff_not]; omega))
        · refine GC.seq (GC.region (GL.v (.eql rfl rfl) rfl (GL.v (.assign rfl) rfl (GL.nil (GN.seq (?_))))))
          refine GC.condD rfl (fun hh4 => ?_) (fun hh4 => ?_)
          · refine GC.skip (GN.seq (GC.cond rfl (fun _ => ?_) (fun h => by first | (have := of_decide_eq_false h; contradiction) | (have := of_decide_eq_true h; contradiction) | (cases h; done))))
            refine GC.exit (GX.seq (GX.seq (GX.other rfl (GX.seq (GX.blk (GN.seq (GC.seq (GC.seq (GC.region (GL.v (.move rfl) rfl (GL.v (.eql rfl rfl) rfl (GL.v (.assign rfl) rfl (GL.nil (GN.seq (GC.ret (?_))))))))))))))))
            (refine GR.one rfl rfl rfl () (congrArg Value.bool ?_) (Ent.refl _) trivial; unfold hisT; (repeat' split) <;> first | rfl | (exfalso; omega) | (rw [decide_eq_decide]; omega) | (symm; rw [decide_eq_true_iff]; omega) | (symm; rw [decide_eq_false_iff_not]; omega) | (rw [decide_eq_true_iff]; omega) | (rw [decide_eq_false_iff_not]; omega))
          · refine GC.seq (GC.region (GL.v (.eql rfl rfl) rfl (GL.v (.assign rfl) rfl (GL.nil (GN.seq (?_))))))
            refine GC.condD rfl (fun hh5 => ?_) (fun hh5 => ?_)
            · refine GC.skip (GN.seq (GC.cond rfl (fun _ => ?_) (fun h => by first | (have := of_decide_eq_false h; contradiction) | (have := of_decide_eq_true h; contradiction) | (cases h; done))))
              refine GC.exit (GX.seq (GX.seq (GX.other rfl (GX.seq (GX.blk (GN.seq (GC.seq (GC.seq (GC.region (GL.v (.move rfl) rfl (GL.v (.eql rfl rfl) rfl (GL.v (.assign rfl) rfl (GL.nil (GN.seq (GC.ret (?_))))))))))))))))
              (refine GR.one rfl rfl rfl () (congrArg Value.bool ?_) (Ent.refl _) trivial; unfold hisT; (repeat' split) <;> first | rfl | (exfalso; omega) | (rw [decide_eq_decide]; omega) | (symm; rw [decide_eq_true_iff]; omega) | (symm; rw [decide_eq_false_iff_not]; omega) | (rw [decide_eq_true_iff]; omega) | (rw [decide_eq_false_iff_not]; omega))
            · refine GC.seq (GC.region (GL.v (.eql rfl rfl) rfl (GL.v (.assign rfl) rfl (GL.nil (GN.seq (?_))))))
              refine GC.condD rfl (fun hh6 => ?_) (fun hh6 => ?_)
              · refine GC.skip (GN.seq (GC.cond rfl (fun _ => ?_) (fun h => by first | (have := of_decide_eq_false h; contradiction) | (have := of_decide_eq_true h; contradiction) | (cases h; done))))
                refine GC.exit (GX.seq (GX.seq (GX.other rfl (GX.seq (GX.blk (GN.seq (GC.seq (GC.seq (GC.region (GL.v (.move rfl) rfl (GL.v (.eql rfl rfl) rfl (GL.v (.assign rfl) rfl (GL.nil (GN.seq (GC.ret (?_))))))))))))))))
                (refine GR.one rfl rfl rfl () (congrArg Value.bool ?_) (Ent.refl _) trivial; unfold hisT; (repeat' split) <;> first | rfl | (exfalso; omega) | (rw [decide_eq_decide]; omega) | (symm; rw [decide_eq_true_iff]; omega) | (symm; rw [decide_eq_false_iff_not]; omega) | (rw [decide_eq_true_iff]; omega) | (rw [decide_eq_false_iff_not]; omega))
              · refine GC.region (GL.v (.eql rfl rfl) rfl (GL.v (.assign rfl) rfl (GL.nil (GN.seq (?_)))))
                refine GC.condD rfl (fun hh7 => ?_) (fun hh7 => ?_)
                · refine GC.exit (GX.seq (GX.seq (GX.other rfl (GX.seq (GX.blk (GN.seq (GC.seq (GC.seq (GC.region (GL.v (.move rfl) rfl (GL.v (.eql rfl rfl) rfl (GL.v (.assign rfl) rfl (GL.nil (GN.seq (GC.ret (?_))))))))))))))))
                  (refine GR.one rfl rfl rfl () (congrArg Value.bool ?_) (Ent.refl _) trivial; unfold hisT; (repeat' split) <;> first | rfl | (exfalso; omega) | (rw [decide_eq_decide]; omega) | (symm; rw [decide_eq_true_iff]; omega) | (symm; rw [decide_eq_false_iff_not]; omega) | (rw [decide_eq_true_iff]; omega) | (rw [decide_eq_false_iff_not]; omega))
                · refine GC.skip (GN.seq (GC.seq (GC.seq (GC.seq (GC.region (GL.v (.eql rfl rfl) rfl (GL.v (.assign rfl) rfl (GL.nil (GN.seq (?_))))))))))
                  refine GC.condD rfl (fun hh8 => ?_) (fun hh8 => ?_)
                  · refine GC.skip (GN.seq (GC.cond rfl (fun _ => ?_) (fun h => by first | (have := of_decide_eq_false h; contradiction) | (have := of_decide_eq_true h; contradiction) | (cases h; done))))
                    refine GC.exit (GX.seq (GX.seq (GX.other rfl (GX.seq (GX.other rfl (GX.seq (GX.blk (GN.seq (GC.seq (GC.seq (GC.region (GL.v (.move rfl) rfl (GL.v (.eql rfl rfl) rfl (GL.v (.assign rfl) rfl (GL.nil (GN.seq (GC.ret (?_))))))))))))))))))
                    (refine GR.one rfl rfl rfl () (congrArg Value.bool ?_) (Ent.refl _) trivial; unfold hisT; (repeat' split) <;> first | rfl | (exfalso; omega) | (rw [decide_eq_decide]; omega) | (symm; rw [decide_eq_true_iff]; omega) | (symm; rw [decide_eq_false_iff_not]; omega) | (rw [decide_eq_true_iff]; omega) | (rw [decide_eq_false_iff_not]; omega))
                  · refine GC.region (GL.v (.eql rfl rfl) rfl (GL.v (.assign rfl) rfl (GL.nil (GN.seq (?_)))))
                    refine GC.condD rfl (fun hh9 => ?_) (fun hh9 => ?_)
                    · refine GC.exit (GX.seq (GX.seq (GX.other rfl (GX.seq (GX.other rfl (GX.seq (GX.blk (GN.seq (GC.seq (GC.seq (GC.region (GL.v (.move rfl) rfl (GL.v (.eql rfl rfl) rfl (GL.v (.assign rfl) rfl (GL.nil (GN.seq (GC.ret (?_))))))))))))))))))
                      (refine GR.one rfl rfl rfl () (congrArg Value.bool ?_) (Ent.refl _) trivial; unfold hisT; (repeat' split) <;> first | rfl | (exfalso; omega) | (rw [decide_eq_decide]; omega) | (symm; rw [decide_eq_true_iff]; omega) | (symm; rw [decide_eq_false_iff_not]; omega) | (rw [decide_eq_true_iff]; omega) | (rw [decide_eq_false_iff_not]; omega))
                    · refine GC.skip (GN.seq (GC.seq (GC.region (GL.v (.eql rfl rfl) rfl (GL.v (.assign rfl) rfl (GL.nil (GN.seq (?_))))))))
                      refine GC.condD rfl (fun hh10 => ?_) (fun hh10 => ?_)
                      · refine GC.exit (GX.seq (GX.other rfl (GX.seq (GX.other rfl (GX.seq (GX.other rfl (GX.seq (GX.blk (GN.seq (GC.seq (GC.seq (GC.region (GL.v (.move rfl) rfl (GL.v (.eql rfl rfl) rfl (GL.v (.assign rfl) rfl (GL.nil (GN.seq (GC.ret (?_)))))))))))))))))))
                        (refine GR.one rfl rfl rfl () (congrArg Value.bool ?_) (Ent.refl _) trivial; unfold hisT; (repeat' split) <;> first | rfl | (exfalso; omega) | (rw [decide_eq_decide]; omega) | (symm; rw [decide_eq_true_iff]; omega) | (symm; rw [decide_eq_false_iff_not]; omega) | (rw [decide_eq_true_iff]; omega) | (rw [decide_eq_false_iff_not]; omega))
                      · refine GC.skip (GN.seq (GC.exit (GX.other rfl (GX.seq (GX.other rfl (GX.seq (GX.other rfl (GX.seq (GX.other rfl (GX.seq (GX.blk (GN.seq (GC.seq (GC.region (GL.v (.assign rfl) rfl (GL.nil (GN.seq (GC.ret (?_)))))))))))))))))))
                        (refine GR.one rfl rfl rfl () (congrArg Value.bool ?_) (Ent.refl _) trivial; unfold hisT; (repeat' split) <;> first | rfl | (exfalso; omega) | (rw [decide_eq_decide]; omega) | (symm; rw [decide_eq_true_iff]; omega) | (symm; rw [decide_eq_false_iff_not]; omega) | (rw [decide_eq_true_iff]; omega) | (rw [decide_eq_false_iff_not]; omega))

end Go.Proofs.Gw
/- Messages of one list: the closures that read them. -/
set_option linter.unusedVariables false
set_option linter.unusedSimpArgs false
namespace Go.Proofs.Gw
open Go Go.RowKit Go.IntWalk Go.Proofs.Gm

/-- A list and the other records. -/
def lisF {α : Type} (rep : α → List Value → FP) (k : Nat) (p : List α × Bs) (cs : List Value) : FP :=
  ⟨fun ok w => ∃ v, cs = [v, .string (mkS p.2)] ∧ (listF rep k p.1 v).holds ok w, fun ok w w' h h0 => by obtain ⟨v, h1, h2⟩ := h0; exact ⟨v, h1, (listF rep k p.1 v).loc ok w w' h h2⟩, fun ok ok' w h h0 => by obtain ⟨v, h1, h2⟩ := h0; exact ⟨v, h1, (listF rep k p.1 v).mono ok ok' w h h2⟩⟩

theorem readT_mem {t : Nat → Nat → Bool} {d : Int} {l : Bs} : (readT t d l).length ≤ l.length ∧ (∀ r, r ∈ readT t d l → r.s.length ≤ l.length) ∧ (readT t d l ≠ [] → 0 ≤ d) := by
  unfold readT
  split
  · exact ⟨by simp, (fun r h => by cases h), fun h => absurd rfl h⟩
  · rename_i hd
    split
    · exact ⟨by simp, (fun r h => by cases h), fun h => absurd rfl h⟩
    · rename_i rs hv
      have hm := allM_mem _ d l rs (Nat.le_refl _) hv
      exact ⟨Nat.le_trans (List.length_filter_le _ _) hm.1, fun r h => (hm.2 r (List.mem_filter.1 h).1).2.2.2.2.1, fun _ => by omega⟩

theorem LstB.fin {α : Type} (rep : α → List Value → FP) (e k : Nat) (rl : List (Res α)) (er : Option (Option Int)) (u : Bs) (v : Value) (Hs : List HP) :
    Ent (LstB (resF rep) e k rl v :: Hs) ((resF (lisF rep k) (finM (noteL er rl) (oks rl, u)) [v, .string (mkS u)]).hp :: Hs) := by
  cases h : noteL er rl with
  | some oc => exact Ent.head (h' := (resF (lisF rep k) (finM (some oc) (oks rl, u)) [v, .string (mkS u)]).hp) (fun _ _ _ => trivial) (Ent.refl _)
  | none =>
    refine Ent.trans (LstB.done (noteL_none h).2 Hs) ?_
    exact Ent.head (h := (listF rep k (oks rl) v).hp) (h' := (resF (lisF rep k) (finM none (oks rl, u)) [v, .string (mkS u)]).hp) (fun ok w h => ⟨v, rfl, h⟩) (Ent.refl _)
theorem lists_val (fr : Nat) [FnIs Tryz.prog fr] (m : Int → Bs → Res Val) (N : Nat) (hN : N ≤ 4294967296) (d : Int) (hd1 : -9223372036854775808 ≤ d) (hd2 : d ≤ 9223372036854775807) (hc : 0 ≤ d → RdC fr [] [] Emp valF 8 m N (d - 1)) (bx : Nat) :
    RdC 219 [] [ptr bx] (Blk bx 176 1 [(0, .func (.func fr) #[] #[])]) (lisF valF 8) 2 (fun d s => lisM (fun t => m (d - 1) t) d s) N d := fun s w hs => by
  have hsm : s.size ≤ mx := by unfold mx; omega
  have hM := readT_mem (t := loneT) (d := d) (l := bs s)
  rw [bs_length] at hM
  refine tri_of_G 25 Tryz.func219 rfl Tryz.ntmps219 rfl (fun D => ?_)
  refine GC.seq (GC.region (GL.w .alloc rfl (fun b5 _ => GL.v (.assign rfl) rfl (GL.nil (GN.seq (GC.seq (GC.region (GL.v (.move rfl) rfl (GL.v (.move rfl) rfl (?_))))))))))
  refine GL.call (As := []) rfl (fun w hst => Read_tri s d _ loneT tbl_lone w hsm hd1 hd2) rfl (fun ⟨g, v0⟩ _ => ?_)
  refine GL.v (.assign rfl) rfl (GL.nil (GN.seq (GC.seq (GC.region (GL.v (.move rfl) rfl (GL.v (.ld 2 rfl rfl rfl) rfl (?_)))))))
  refine GL.ent (Ent.intro (A := Emp) (fun _ => trivial) _) ?_
  refine GL.ent (Ent.front 1 _ _ rfl) ?_
  refine GL.call (As := [_, _]) rfl (fun w hst => List_val g ⟨mkS (readU loneT d (bs s)), d, s.size, v0, readT loneT d (bs s)⟩ _ 1 (fun h => hc (hM.2.2 h)) hsm (fun r hr => Nat.le_trans (hM.2.1 r hr) hs) (Nat.le_trans hM.1 (by omega)) hM.2.2 hd2 w) rfl (fun v hv => ?_)
  obtain ⟨A, c, rfl⟩ := hv
  refine GL.v (.assign rfl) rfl (GL.nil (GN.seq (GC.seq (?_))))
  refine GC.ent (Ent.front 1 _ _ rfl) ?_
  refine GC.open ?_
  rintro x hx
  refine GC.draw ([Blk g 93 5 [(0, x), (1, .string (mkS (readU loneT d (bs s)))), (2, .int .i64 d), (3, .int .i64 (s.size : Nat)), (4, v0)]]) (m := 12) rfl (by repeat (first | exact Ent.nil _ | (with_reducible exact Ent.refl _) | refine Ent.blk (by repeat (first | exact Sub.nil _ | refine Sub.cons rfl ?_)) ?_ | refine Ent.cons _ ?_ | refine Ent.trans (Ent.tail _ _) ?_)) ?_
  refine GA.take 0 rfl (by kernel_rfl) (by kernel_rfl) (by kernel_rfl) (.move rfl) rfl (GA.take 1 rfl (by kernel_rfl) (by kernel_rfl) (by kernel_rfl) (.move rfl) rfl (GA.take 2 rfl (by kernel_rfl) (by kernel_rfl) (by kernel_rfl) (.nilCheck rfl) rfl (GA.take 3 rfl (by kernel_rfl) (by kernel_rfl) (by kernel_rfl) (.fieldAddr rfl) rfl (GA.take 4 rfl (by kernel_rfl) (by kernel_rfl) (by kernel_rfl) (.ld 0 rfl rfl rfl) rfl (GA.take 5 rfl (by kernel_rfl) (by kernel_rfl) (by kernel_rfl) (.build (cs := [_, _]) rfl rfl) rfl (GA.take 6 rfl (by kernel_rfl) (by kernel_rfl) (by kernel_rfl) (.move rfl) rfl (GA.take 7 rfl (by kernel_rfl) (by kernel_rfl) (by kernel_rfl) (.nilCheck rfl) rfl (GA.take 8 rfl (by kernel_rfl) (by kernel_rfl) (by kernel_rfl) (.fieldAddr rfl) rfl (GA.take 9 rfl (by kernel_rfl) (by kernel_rfl) (by kernel_rfl) (.ld 0 rfl rfl rfl) rfl (?_))))))))))
  refine GA.one 10 (by kernel_rfl) (GAi.w0 rfl (.store 5 rfl rfl rfl rfl rfl rfl rfl) (fun _ _ => (by repeat (first | exact Ent.nil _ | (with_reducible exact Ent.refl _) | refine Ent.blk (by repeat (first | exact Sub.nil _ | refine Sub.cons rfl ?_)) ?_ | refine Ent.cons _ ?_ | refine Ent.trans (Ent.tail _ _) ?_))) (fun _ _ => ?_))
  refine GA.take 11 rfl (by kernel_rfl) (by kernel_rfl) (by kernel_rfl) (.assign rfl) rfl (GA.done (by kernel_rfl) (?_))
  refine GN.seq (GC.ret (?_))
  have e : errE (lisM (fun t => m (d - 1) t) d (bs s)) = noteL (readE d (bs s)) (rlM m (d - 1) 1 (readT loneT d (bs s))) := errE_fin _ _
  refine GR.cell2 5 [.slice A (rlM m (d - 1) 1 (readT loneT d (bs s))).length c, .string (mkS (readU loneT d (bs s)))] rfl rfl rfl rfl rfl rfl ⟨rfl, rfl, trivial⟩ ([.slice A (rlM m (d - 1) 1 (readT loneT d (bs s))).length c, .string (mkS (readU loneT d (bs s)))], x) rfl (Ent.trans (Ent.trans (Ent.front 3 _ _ rfl) (Ent.cons _ (Ent.trans (Ent.front 1 _ _ rfl) (Ent.cons _ (Ent.trans (Ent.front 4 _ _ rfl) (Ent.cons _ (Ent.nil _))))))) (Ent.trans (LstB.fin valF _ 8 _ (readE d (bs s)) (readU loneT d (bs s)) _ _) ?_)) ⟨rfl, rfl⟩
  simp only [e]
  exact Ent.refl _

theorem lists_key (fr : Nat) [FnIs Tryz.prog fr] (m : Int → Bs → Res Key) (N : Nat) (hN : N ≤ 4294967296) (d : Int) (hd1 : -9223372036854775808 ≤ d) (hd2 : d ≤ 9223372036854775807) (hc : 0 ≤ d → RdC fr [] [] Emp keyF 11 m N (d - 1)) (bx : Nat) :
    RdC 223 [] [ptr bx] (Blk bx 83 1 [(0, .func (.func fr) #[] #[])]) (lisF keyF 11) 2 (fun d s => lisM (fun t => m (d - 1) t) d s) N d := fun s w hs => by
  have hsm : s.size ≤ mx := by unfold mx; omega
  have hM := readT_mem (t := loneT) (d := d) (l := bs s)
  rw [bs_length] at hM
  refine tri_of_G 25 Tryz.func223 rfl Tryz.ntmps223 rfl (fun D => ?_)
  refine GC.seq (GC.region (GL.w .alloc rfl (fun b5 _ => GL.v (.assign rfl) rfl (GL.nil (GN.seq (GC.seq (GC.region (GL.v (.move rfl) rfl (GL.v (.move rfl) rfl (?_))))))))))
  refine GL.call (As := []) rfl (fun w hst => Read_tri s d _ loneT tbl_lone w hsm hd1 hd2) rfl (fun ⟨g, v0⟩ _ => ?_)
  refine GL.v (.assign rfl) rfl (GL.nil (GN.seq (GC.seq (GC.region (GL.v (.move rfl) rfl (GL.v (.ld 2 rfl rfl rfl) rfl (?_)))))))
  refine GL.ent (Ent.intro (A := Emp) (fun _ => trivial) _) ?_
  refine GL.ent (Ent.front 1 _ _ rfl) ?_
  refine GL.call (As := [_, _]) rfl (fun w hst => List_key g ⟨mkS (readU loneT d (bs s)), d, s.size, v0, readT loneT d (bs s)⟩ _ 1 (fun h => hc (hM.2.2 h)) hsm (fun r hr => Nat.le_trans (hM.2.1 r hr) hs) (Nat.le_trans hM.1 (by omega)) hM.2.2 hd2 w) rfl (fun v hv => ?_)
  obtain ⟨A, c, rfl⟩ := hv
  refine GL.v (.assign rfl) rfl (GL.nil (GN.seq (GC.seq (?_))))
  refine GC.ent (Ent.front 1 _ _ rfl) ?_
  refine GC.open ?_
  rintro x hx
  refine GC.draw ([Blk g 93 5 [(0, x), (1, .string (mkS (readU loneT d (bs s)))), (2, .int .i64 d), (3, .int .i64 (s.size : Nat)), (4, v0)]]) (m := 12) rfl (by repeat (first | exact Ent.nil _ | (with_reducible exact Ent.refl _) | refine Ent.blk (by repeat (first | exact Sub.nil _ | refine Sub.cons rfl ?_)) ?_ | refine Ent.cons _ ?_ | refine Ent.trans (Ent.tail _ _) ?_)) ?_
  refine GA.take 0 rfl (by kernel_rfl) (by kernel_rfl) (by kernel_rfl) (.move rfl) rfl (GA.take 1 rfl (by kernel_rfl) (by kernel_rfl) (by kernel_rfl) (.move rfl) rfl (GA.take 2 rfl (by kernel_rfl) (by kernel_rfl) (by kernel_rfl) (.nilCheck rfl) rfl (GA.take 3 rfl (by kernel_rfl) (by kernel_rfl) (by kernel_rfl) (.fieldAddr rfl) rfl (GA.take 4 rfl (by kernel_rfl) (by kernel_rfl) (by kernel_rfl) (.ld 0 rfl rfl rfl) rfl (GA.take 5 rfl (by kernel_rfl) (by kernel_rfl) (by kernel_rfl) (.build (cs := [_, _]) rfl rfl) rfl (GA.take 6 rfl (by kernel_rfl) (by kernel_rfl) (by kernel_rfl) (.move rfl) rfl (GA.take 7 rfl (by kernel_rfl) (by kernel_rfl) (by kernel_rfl) (.nilCheck rfl) rfl (GA.take 8 rfl (by kernel_rfl) (by kernel_rfl) (by kernel_rfl) (.fieldAddr rfl) rfl (GA.take 9 rfl (by kernel_rfl) (by kernel_rfl) (by kernel_rfl) (.ld 0 rfl rfl rfl) rfl (?_))))))))))
  refine GA.one 10 (by kernel_rfl) (GAi.w0 rfl (.store 5 rfl rfl rfl rfl rfl rfl rfl) (fun _ _ => (by repeat (first | exact Ent.nil _ | (with_reducible exact Ent.refl _) | refine Ent.blk (by repeat (first | exact Sub.nil _ | refine Sub.cons rfl ?_)) ?_ | refine Ent.cons _ ?_ | refine Ent.trans (Ent.tail _ _) ?_))) (fun _ _ => ?_))
  refine GA.take 11 rfl (by kernel_rfl) (by kernel_rfl) (by kernel_rfl) (.assign rfl) rfl (GA.done (by kernel_rfl) (?_))
  refine GN.seq (GC.ret (?_))
  have e : errE (lisM (fun t => m (d - 1) t) d (bs s)) = noteL (readE d (bs s)) (rlM m (d - 1) 1 (readT loneT d (bs s))) := errE_fin _ _
  refine GR.cell2 5 [.slice A (rlM m (d - 1) 1 (readT loneT d (bs s))).length c, .string (mkS (readU loneT d (bs s)))] rfl rfl rfl rfl rfl rfl ⟨rfl, rfl, trivial⟩ ([.slice A (rlM m (d - 1) 1 (readT loneT d (bs s))).length c, .string (mkS (readU loneT d (bs s)))], x) rfl (Ent.trans (Ent.trans (Ent.front 3 _ _ rfl) (Ent.cons _ (Ent.trans (Ent.front 1 _ _ rfl) (Ent.cons _ (Ent.trans (Ent.front 4 _ _ rfl) (Ent.cons _ (Ent.nil _))))))) (Ent.trans (LstB.fin keyF _ 11 _ (readE d (bs s)) (readU loneT d (bs s)) _ _) ?_)) ⟨rfl, rfl⟩
  simp only [e]
  exact Ent.refl _

end Go.Proofs.Gw
/- The part that counts alone. -/
set_option linter.unusedVariables false
set_option linter.unusedSimpArgs false
namespace Go.Proofs.Gw
open Go Go.RowKit Go.IntWalk Go.Proofs.Gm

theorem GAi.ent {C : Ctx} {K : List KI} {ρ : List (Nat × Value)} {Hs Hs' HS : List HP} {ops : Array Oper} {fuel : Nat} {listed : Array Bool} {i : Nat} (hh : Ent Hs Hs') (h : GAi C ops HS fuel listed K ρ Hs' i) : GAi C ops HS fuel listed K ρ Hs i := fun a w he hs => h a w he (hs.ent hh)

theorem mkLists_val (fr : Nat) (w : World) : Tri Tryz.prog 186 [.func (.func fr) #[] #[]] [] (fun bx : Nat => .func (.func 219) #[] #[ptr bx]) (fun bx => [Blk bx 176 1 [(0, .func (.func fr) #[] #[])]]) (fun _ => True) w := by
  refine tri_of_G 4 Tryz.func186 rfl Tryz.ntmps186 rfl (fun D => ?_)
  refine GC.seq (GC.region (GL.w (.box rfl rfl) rfl (fun b1 _ => GL.v (.assign rfl) rfl (GL.nil (GN.seq (GC.seq (GC.region (GL.v (.makeFunc1 rfl) rfl (GL.v (.assign rfl) rfl (GL.nil (GN.seq (GC.ret (?_)))))))))))))
  exact GR.one rfl rfl rfl b1 rfl (Ent.blk (by repeat (first | exact Sub.nil _ | refine Sub.cons rfl ?_)) (Ent.nil _)) trivial
theorem mkLists_key (fr : Nat) (w : World) : Tri Tryz.prog 188 [.func (.func fr) #[] #[]] [] (fun bx : Nat => .func (.func 223) #[] #[ptr bx]) (fun bx => [Blk bx 83 1 [(0, .func (.func fr) #[] #[])]]) (fun _ => True) w := by
  refine tri_of_G 4 Tryz.func188 rfl Tryz.ntmps188 rfl (fun D => ?_)
  refine GC.seq (GC.region (GL.w (.box rfl rfl) rfl (fun b1 _ => GL.v (.assign rfl) rfl (GL.nil (GN.seq (GC.seq (GC.region (GL.v (.makeFunc1 rfl) rfl (GL.v (.assign rfl) rfl (GL.nil (GN.seq (GC.ret (?_)))))))))))))
  exact GR.one rfl rfl rfl b1 rfl (Ent.blk (by repeat (first | exact Sub.nil _ | refine Sub.cons rfl ?_)) (Ent.nil _)) trivial

theorem Inner_val {α : Type} {f : Nat} {first captured : List Value} {Fr : HP} {rep : α → List Value → FP} {m : Int → Bs → Res α} {N : Nat} [FnIs Tryz.prog f] (g : Nat) (R : RM) (er : Option (Option Int)) (o : OneR) (A : Option Addr) (c : Nat) (hc : RdC f first captured Fr rep 2 m N (R.d - 1)) (hN : R.n ≤ mx) (hJ : o.all.flatten.length ≤ N) (hNm : N ≤ mx) (hn : o.all.length ≤ 4294967296) (hd : 0 ≤ R.d) (hd2 : R.d ≤ 9223372036854775807) (w : World) :
    Tri Tryz.prog 185 [ptr g, .agg (oneC o (.slice A o.all.length c)).toArray, .func (.func f) first.toArray captured.toArray] [RdS g R er, OwnT (.slice A o.all.length c) o.all, Fr] (fun cs : List Value => .agg cs.toArray) (fun cs => [RdS g R (note er (errE (m (R.d - 1) o.all.flatten))), (resF rep (m (R.d - 1) o.all.flatten) cs).hp, Fr]) (fun cs => cs.length = 2 ∧ cs.all one = true) w := by
  refine tri_of_G 15 Tryz.func185 rfl Tryz.ntmps185 rfl (fun D => ?_)
  refine GC.seq (GC.region (GL.w (.box rfl rfl) rfl (fun b4 _ => GL.w .alloc rfl (fun b6 _ => GL.nil (GN.seq (GC.seq (?_)))))))
  refine GC.draw ([Blk b4 230 4 (args0 0 (oneC o (.slice A o.all.length c)))]) (m := 9) rfl (by repeat (first | exact Ent.nil _ | (with_reducible exact Ent.refl _) | refine Ent.blk (by repeat (first | exact Sub.nil _ | refine Sub.cons rfl ?_)) ?_ | refine Ent.cons _ ?_ | refine Ent.trans (Ent.tail _ _) ?_)) ?_
  refine GA.take 0 rfl (by kernel_rfl) (by kernel_rfl) (by kernel_rfl) (.move rfl) rfl (GA.take 1 rfl (by kernel_rfl) (by kernel_rfl) (by kernel_rfl) (.fieldAddr rfl) rfl (GA.take 2 rfl (by kernel_rfl) (by kernel_rfl) (by kernel_rfl) (.ld 0 rfl rfl rfl) rfl (GA.take 3 rfl (by kernel_rfl) (by kernel_rfl) (by kernel_rfl) (.fieldAddr rfl) rfl (GA.take 4 rfl (by kernel_rfl) (by kernel_rfl) (by kernel_rfl) (.ld 0 rfl rfl rfl) rfl (GA.take 6 rfl (by kernel_rfl) (by kernel_rfl) (by kernel_rfl) (.move rfl) rfl (?_))))))
  refine GA.one 5 (by kernel_rfl) ?_
  refine GAi.ent (Ent.front 3 _ _ rfl) ?_
  refine GAi.call (As := [_]) rfl rfl (fun w hst => Join_tri _ o.all w (Nat.le_trans hJ hNm) hn) rfl (fun _ _ => (by repeat (first | exact Ent.nil _ | (with_reducible exact Ent.refl _) | refine Ent.blk (by repeat (first | exact Sub.nil _ | refine Sub.cons rfl ?_)) ?_ | refine Ent.cons _ ?_ | refine Ent.trans (Ent.tail _ _) ?_))) (fun _ _ => ?_)
  refine GA.one 7 (by kernel_rfl) ?_
  refine GAi.ent (Ent.front 4 _ _ rfl) ?_
  refine GAi.ent (Ent.front 4 _ _ rfl) ?_
  refine GAi.call (As := [_, _]) rfl rfl (fun w hst => part_lval g R er o.num (mkS o.all.flatten) hc (by rw [mkS_size]; exact hJ) hN hd hd2 w) rfl (fun cs hcs => (by repeat (first | exact Ent.nil _ | (with_reducible exact Ent.refl _) | refine Ent.blk (by repeat (first | exact Sub.nil _ | refine Sub.cons rfl ?_)) ?_ | refine Ent.cons _ ?_ | refine Ent.trans (Ent.tail _ _) ?_))) (fun cs hcs => ?_)
  obtain ⟨hl, h1⟩ := hcs
  refine GA.one 8 (by kernel_rfl) (GAi.w0 rfl (.store 4 rfl rfl rfl rfl (by rw [hl]; rfl) rfl h1) (fun _ _ => (by repeat (first | exact Ent.nil _ | (with_reducible exact Ent.refl _) | refine Ent.blk (by repeat (first | exact Sub.nil _ | refine Sub.cons rfl ?_)) ?_ | refine Ent.cons _ ?_ | refine Ent.trans (Ent.tail _ _) ?_))) (fun _ _ => ?_))
  refine GA.done (by kernel_rfl) (?_)
  refine GN.seq (GC.ret (?_))
  exact GR.cell1 4 cs rfl rfl rfl rfl (by rw [hl]; rfl) (lkN_stU _ _ _) cs rfl ((Ent.cons _ ((Ent.cons _ ((Ent.cons _ (Ent.nil _))))))) ⟨hl, h1⟩
theorem Inner_key {α : Type} {f : Nat} {first captured : List Value} {Fr : HP} {rep : α → List Value → FP} {m : Int → Bs → Res α} {N : Nat} [FnIs Tryz.prog f] (g : Nat) (R : RM) (er : Option (Option Int)) (o : OneR) (A : Option Addr) (c : Nat) (hc : RdC f first captured Fr rep 2 m N (R.d - 1)) (hN : R.n ≤ mx) (hJ : o.all.flatten.length ≤ N) (hNm : N ≤ mx) (hn : o.all.length ≤ 4294967296) (hd : 0 ≤ R.d) (hd2 : R.d ≤ 9223372036854775807) (w : World) :
    Tri Tryz.prog 187 [ptr g, .agg (oneC o (.slice A o.all.length c)).toArray, .func (.func f) first.toArray captured.toArray] [RdS g R er, OwnT (.slice A o.all.length c) o.all, Fr] (fun cs : List Value => .agg cs.toArray) (fun cs => [RdS g R (note er (errE (m (R.d - 1) o.all.flatten))), (resF rep (m (R.d - 1) o.all.flatten) cs).hp, Fr]) (fun cs => cs.length = 2 ∧ cs.all one = true) w := by
  refine tri_of_G 15 Tryz.func187 rfl Tryz.ntmps187 rfl (fun D => ?_)
  refine GC.seq (GC.region (GL.w (.box rfl rfl) rfl (fun b4 _ => GL.w .alloc rfl (fun b6 _ => GL.nil (GN.seq (GC.seq (?_)))))))
  refine GC.draw ([Blk b4 230 4 (args0 0 (oneC o (.slice A o.all.length c)))]) (m := 9) rfl (by repeat (first | exact Ent.nil _ | (with_reducible exact Ent.refl _) | refine Ent.blk (by repeat (first | exact Sub.nil _ | refine Sub.cons rfl ?_)) ?_ | refine Ent.cons _ ?_ | refine Ent.trans (Ent.tail _ _) ?_)) ?_
  refine GA.take 0 rfl (by kernel_rfl) (by kernel_rfl) (by kernel_rfl) (.move rfl) rfl (GA.take 1 rfl (by kernel_rfl) (by kernel_rfl) (by kernel_rfl) (.fieldAddr rfl) rfl (GA.take 2 rfl (by kernel_rfl) (by kernel_rfl) (by kernel_rfl) (.ld 0 rfl rfl rfl) rfl (GA.take 3 rfl (by kernel_rfl) (by kernel_rfl) (by kernel_rfl) (.fieldAddr rfl) rfl (GA.take 4 rfl (by kernel_rfl) (by kernel_rfl) (by kernel_rfl) (.ld 0 rfl rfl rfl) rfl (GA.take 6 rfl (by kernel_rfl) (by kernel_rfl) (by kernel_rfl) (.move rfl) rfl (?_))))))
  refine GA.one 5 (by kernel_rfl) ?_
  refine GAi.ent (Ent.front 3 _ _ rfl) ?_
  refine GAi.call (As := [_]) rfl rfl (fun w hst => Join_tri _ o.all w (Nat.le_trans hJ hNm) hn) rfl (fun _ _ => (by repeat (first | exact Ent.nil _ | (with_reducible exact Ent.refl _) | refine Ent.blk (by repeat (first | exact Sub.nil _ | refine Sub.cons rfl ?_)) ?_ | refine Ent.cons _ ?_ | refine Ent.trans (Ent.tail _ _) ?_))) (fun _ _ => ?_)
  refine GA.one 7 (by kernel_rfl) ?_
  refine GAi.ent (Ent.front 4 _ _ rfl) ?_
  refine GAi.ent (Ent.front 4 _ _ rfl) ?_
  refine GAi.call (As := [_, _]) rfl rfl (fun w hst => part_lkey g R er o.num (mkS o.all.flatten) hc (by rw [mkS_size]; exact hJ) hN hd hd2 w) rfl (fun cs hcs => (by repeat (first | exact Ent.nil _ | (with_reducible exact Ent.refl _) | refine Ent.blk (by repeat (first | exact Sub.nil _ | refine Sub.cons rfl ?_)) ?_ | refine Ent.cons _ ?_ | refine Ent.trans (Ent.tail _ _) ?_))) (fun cs hcs => ?_)
  obtain ⟨hl, h1⟩ := hcs
  refine GA.one 8 (by kernel_rfl) (GAi.w0 rfl (.store 4 rfl rfl rfl rfl (by rw [hl]; rfl) rfl h1) (fun _ _ => (by repeat (first | exact Ent.nil _ | (with_reducible exact Ent.refl _) | refine Ent.blk (by repeat (first | exact Sub.nil _ | refine Sub.cons rfl ?_)) ?_ | refine Ent.cons _ ?_ | refine Ent.trans (Ent.tail _ _) ?_))) (fun _ _ => ?_))
  refine GA.done (by kernel_rfl) (?_)
  refine GN.seq (GC.ret (?_))
  exact GR.cell1 4 cs rfl rfl rfl rfl (by rw [hl]; rfl) (lkN_stU _ _ _) cs rfl ((Ent.cons _ ((Ent.cons _ ((Ent.cons _ (Ent.nil _))))))) ⟨hl, h1⟩

end Go.Proofs.Gw
/- How long what is joined can be. -/
set_option linter.unusedVariables false
namespace Go.Proofs.Gw
open Go Go.Proofs.Gm

theorem restM_s {d : Int} {num kind n k : Nat} {l s : Bs} (h : restM d num kind l = .ok (n, s, k)) : s.length ≤ k := by
  rw [restM] at h
  repeat' split at h
  all_goals first
    | (cases h; done)
    | (simp only [Except.ok.injEq, Prod.mk.injEq] at h; obtain ⟨_, rfl, rfl⟩ := h; simp; done)
    | (simp only [Except.ok.injEq, Prod.mk.injEq] at h; obtain ⟨_, rfl, rfl⟩ := h; rw [List.length_take]; omega)
theorem recM_s {d : Int} {l : Bs} {r : Rec} {k : Nat} (h : recM d l = .ok (r, k)) : r.s.length ≤ r.raw.length := by
  have hk := recM_ok h
  rw [hk.2.2.2.2.2.2.2, List.length_take, Nat.min_eq_left hk.2.1]
  unfold recM at h
  split at h
  · cases h
  · split at h
    · cases h
    · rename_i n S i hr
      simp only [Except.ok.injEq, Prod.mk.injEq] at h
      obtain ⟨rfl, rfl⟩ := h
      have := restM_s hr
      simp only; omega
theorem allM_s : ∀ (m : Nat) (d : Int) (l : Bs) (rs : List Rec), l.length ≤ m → allM d l = .ok rs → ∀ r, r ∈ rs → r.s.length ≤ r.raw.length := by
  intro m
  induction m with
  | zero =>
    intro d l rs hl h r hr
    rcases allM_ok h with ⟨_, rfl⟩ | ⟨r', k, rs', hr', hq, rfl, hne⟩
    · cases hr
    · exact absurd (List.eq_nil_of_length_eq_zero (by omega)) hne
  | succ m ih =>
    intro d l rs hl h r hr
    rcases allM_ok h with ⟨_, rfl⟩ | ⟨r', k, rs', hr', hq, rfl, hne⟩
    · cases hr
    · have hk := recM_ok hr'
      rcases List.mem_cons.1 hr with rfl | hr
      · exact recM_s hr'
      · exact ih d (l.drop k) rs' (by simp; omega) hq r hr
theorem flat_filter_le (p : Rec → Bool) : ∀ (rs : List Rec), (∀ r, r ∈ rs → r.s.length ≤ r.raw.length) → ((rs.filter p).flatMap (·.s)).length ≤ (rs.flatMap (·.raw)).length
  | [], _ => by simp
  | r :: rs, h => by
    have h1 := flat_filter_le p rs (fun x hx => h x (List.mem_cons_of_mem _ hx))
    have h2 := h r List.mem_cons_self
    rw [List.filter_cons]
    split
    · rw [List.flatMap_cons, List.flatMap_cons, List.length_append, List.length_append]; omega
    · rw [List.flatMap_cons, List.length_append]; omega
theorem readT_flat (t : Nat → Nat → Bool) (d : Int) (l : Bs) (p : Rec → Bool) : (((readT t d l).filter p).flatMap (·.s)).length ≤ l.length := by
  unfold readT
  split
  · simp
  · split
    · simp
    · rename_i rs hv
      have h1 := allM_raw _ d l rs (Nat.le_refl _) hv
      have h2 := flat_filter_le (fun r => p r && t r.num r.kind) rs (allM_s _ d l rs (Nat.le_refl _) hv)
      rw [h1] at h2
      unfold takenM
      rw [List.filter_filter]; exact h2
theorem joinM_len (t : Nat → Nat → Bool) (d : Int) (l : Bs) (num : Nat) : (joinM num (readT t d l)).length ≤ l.length := readT_flat t d l _
theorem oneM_flat (ns : List Nat) (rs : List Rec) : (oneM ns rs).all.flatten.length ≤ (rs.flatMap (·.s)).length := by
  suffices h : ∀ (l : List Rec) (o : OneR), (l.foldl (oneS ns) o).all.flatten.length ≤ o.all.flatten.length + (l.flatMap (·.s)).length by
    have := h rs one0; simpa [oneM, one0] using this
  intro l
  induction l with
  | nil => intro o; simp
  | cons r l ih =>
    intro o
    rw [List.foldl_cons, List.flatMap_cons, List.length_append]
    refine Nat.le_trans (ih _) ?_
    have : (oneS ns o r).all.flatten.length ≤ o.all.flatten.length + r.s.length := by
      unfold oneS; repeat' split
      · rw [List.flatten_append, List.length_append]; simp
      · simp
      · omega
    omega
theorem oneM_len_flat (t : Nat → Nat → Bool) (d : Int) (l : Bs) (ns : List Nat) : (oneM ns (readT t d l)).all.flatten.length ≤ l.length := by
  refine Nat.le_trans (oneM_flat ns _) ?_
  have := readT_flat t d l (fun _ => true)
  rwa [List.filter_eq_self.2 (fun _ _ => rfl)] at this
end Go.Proofs.Gw
/- Attributes that are read. -/
set_option linter.unusedVariables false
set_option linter.unusedSimpArgs false
namespace Go.Proofs.Gw
open Go Go.RowKit Go.IntWalk Go.Proofs.Gm

theorem Text_tri (g : Nat) (R : RM) (er : Option (Option Int)) (num : Nat) (w : World) (hn : R.rs.length ≤ mx) (hN : R.n ≤ mx) (hS : ∀ r, r ∈ R.rs → r.s.length ≤ mx) :
    Tri Tryz.prog 125 [ptr g, .int .i64 (num : Int)] [RdS g R er] (fun _ : Unit => .string (mkS (lastM R.rs num).s)) (fun _ => [RdS g R (checkE num er R.rs)]) (fun _ => True) w := by
  refine tri_of_G 12 Tryz.func125 rfl Tryz.ntmps125 rfl (fun D => ?_)
  refine GC.seq (GC.region (GL.v (.assign rfl) rfl (GL.nil (GN.seq (GC.seq (GC.region (GL.v (.move rfl) rfl (GL.v (.move rfl) rfl (?_)))))))))
  refine GL.call (As := [_]) rfl (fun w hst => RCheck_tri g R er num w hn hN hS) rfl (fun _ _ => ?_)
  refine GL.nil (GN.seq (GC.seq (GC.region (GL.v (.move rfl) rfl (GL.v (.move rfl) rfl (?_))))))
  refine GL.call (As := [_]) rfl (fun w hst => last_tri g R _ num w hn) rfl (fun _ _ => ?_)
  refine GL.v (.field (sz := 1) (g := false) (o := 3) rfl (fun w => fld_s _ w)) rfl ?_
  refine GL.v (.assign rfl) rfl (GL.nil (GN.seq (GC.ret (?_))))
  exact GR.one rfl rfl rfl () rfl (Ent.refl _) trivial
/-- A reader's cells but the error. -/
abbrev RdB (g : Nat) (R : RM) : HP := Blk g 93 5 [(1, .string R.unk), (2, .int .i64 R.d), (3, .int .i64 R.n), (4, R.v)]
theorem RdS.blk (g : Nat) (R : RM) (er : Option (Option Int)) (Hs : List HP) : Ent (RdS g R er :: Hs) (RdB g R :: Hs) := fun D w h => by
  obtain ⟨x, hx, h2⟩ := Sat.open h
  have key : Ent (RdS1 g R er x ++ Hs) (RdB g R :: Hs) := Ent.blk (by repeat (first | exact Sub.nil _ | refine Sub.cons rfl ?_)) ((Ent.tail _ _).trans (Ent.tail _ _))
  exact key D w h2

theorem list8 {l : List Value} (h : l.length = 8) : ∃ a1 a2 a3 a4 a5 a6 a7 a8, l = [a1, a2, a3, a4, a5, a6, a7, a8] := by
  match l, h with
  | [a1, a2, a3, a4, a5, a6, a7, a8], _ => exact ⟨_, _, _, _, _, _, _, _, rfl⟩
theorem val0_rep (ok : Nat → Prop) (w : World) : VR ok w val0 [.int .i64 0, .string emptyS, .bool false, .int .u64 0, .slice none 0 0, .slice none 0 0, .string emptyS, .string emptyS] :=
  VR.mk (cl := []) (cm := []) ⟨rfl, none, 0, rfl, fun h => absurd h (by simp)⟩ .nil ⟨rfl, none, 0, rfl, fun h => absurd h (by simp)⟩ .nil
theorem keyE (d : Int) (s : Bs) : errE (keyM d s) = note (checkE 1 (readE d s) (readT keyT d s)) (errP (partM valM (d - 1) 2 (readT keyT d s))) := by
  rw [keyM_eq]; exact errE_fin _ _
/-- An attribute's cells, out of its value's. -/
theorem key_fin (d : Int) (s : Bs) (cs : List Value) (Hs : List HP) :
    Ent ((partF valF [.int .i64 0, .string emptyS, .bool false, .int .u64 0, .slice none 0 0, .slice none 0 0, .string emptyS, .string emptyS] (partM valM (d - 1) 2 (readT keyT d s)) cs).hp :: Hs)
      ((resF keyF (keyM d s) ([.string (mkS (lastM (readT keyT d s) 1).s), .bool (decide (ofNum (readT keyT d s) 2 ≠ []))] ++ cs ++ [.string (mkS (readU keyT d s))])).hp :: Hs) := by
  have e : keyM d s = finM (note (checkE 1 (readE d s) (readT keyT d s)) (errP (partM valM (d - 1) 2 (readT keyT d s)))) (.mk (lastM (readT keyT d s) 1).s (decide (ofNum (readT keyT d s) 2 ≠ [])) (partD val0 (partM valM (d - 1) 2 (readT keyT d s))) (readU keyT d s)) := by rw [keyM_eq]; rfl
  rw [e]
  generalize hp : partM valM (d - 1) 2 (readT keyT d s) = p
  cases h : note (checkE 1 (readE d s) (readT keyT d s)) (errP p) with
  | some oc => exact Ent.head (h := (partF valF _ p cs).hp) (h' := (resF keyF (finM (some oc) _) _).hp) (fun _ _ _ => trivial) (Ent.refl _)
  | none =>
    have h2 := (note_eq_none h).2
    refine Ent.head (h := (partF valF _ p cs).hp) (h' := (resF keyF (finM none _) _).hp) (fun ok w h3 => KR.mk ?_) (Ent.refl _)
    match p, h2, h3 with
    | none, _, h3 => have h4 : cs = _ := h3; rw [h4]; exact val0_rep ok w
    | some (.ok v), _, h3 => exact h3
theorem key_rd (N : Nat) (hN : N ≤ 4294967296) (d : Int) (hd1 : -9223372036854775808 ≤ d) (hd2 : d ≤ 9223372036854775807) (hc : 0 ≤ d → RdC 127 [] [] Emp valF 8 valM N (d - 1)) : RdC 47 [] [] Emp keyF 11 keyM N d := fun s w hs => by
  have hsm : s.size ≤ mx := by unfold mx; omega
  have hM := readT_mem (t := keyT) (d := d) (l := bs s)
  rw [bs_length] at hM
  have hmx : N ≤ mx := by unfold mx; omega
  have hrl : (readT keyT d (bs s)).length ≤ mx := Nat.le_trans hM.1 hsm
  have hrs : ∀ r, r ∈ readT keyT d (bs s) → r.s.length ≤ mx := fun r hr => Nat.le_trans (hM.2.1 r hr) hsm
  refine tri_of_G 36 Tryz.func47 rfl Tryz.ntmps47 rfl (fun D => ?_)
  refine GC.seq (GC.region (GL.w .alloc rfl (fun b4 _ => GL.v (.assign rfl) rfl (GL.nil (GN.seq (GC.seq (GC.region (GL.v (.move rfl) rfl (GL.v (.move rfl) rfl (?_))))))))))
  refine GL.call (As := []) rfl (fun w hst => Read_tri s d _ keyT tbl_key w hsm hd1 hd2) rfl (fun ⟨g, v0⟩ _ => ?_)
  refine GL.v (.assign rfl) rfl (GL.nil (GN.seq (GC.seq (?_))))
  refine GC.ent (Ent.front 2 _ _ rfl) ?_
  refine GC.ent (Ent.front 1 _ _ rfl) ?_
  refine GC.draw ([RdB g ⟨mkS (readU keyT d (bs s)), d, s.size, v0, readT keyT d (bs s)⟩]) (m := 9) rfl (Ent.trans (RdS.blk _ _ _ _) (Ent.cons _ (Ent.nil _))) ?_
  refine GA.take 0 rfl (by kernel_rfl) (by kernel_rfl) (by kernel_rfl) (.move rfl) rfl (GA.take 2 rfl (by kernel_rfl) (by kernel_rfl) (by kernel_rfl) (.move rfl) rfl (GA.take 3 rfl (by kernel_rfl) (by kernel_rfl) (by kernel_rfl) (.nilCheck rfl) rfl (GA.take 4 rfl (by kernel_rfl) (by kernel_rfl) (by kernel_rfl) (.fieldAddr rfl) rfl (GA.take 5 rfl (by kernel_rfl) (by kernel_rfl) (by kernel_rfl) (.ld 0 rfl rfl rfl) rfl (?_)))))
  refine GA.two 1 7 (by kernel_rfl) ?_ ?_
  · skip
    refine GAi.call (As := [_]) rfl rfl (fun w hst => Text_tri g _ _ 1 w hrl hsm hrs) rfl (fun _ _ => (Ent.trans (RdS.blk _ _ _ _) (Ent.cons _ (Ent.nil _)))) (fun _ _ => ?_)
    refine GA.take 6 rfl (by kernel_rfl) (by kernel_rfl) (by kernel_rfl) (.build (cs := [_, _, _, _, _, _, _, _, _, _, _]) rfl rfl) rfl (?_)
    refine GA.one 7 (by kernel_rfl) (GAi.w rfl .alloc rfl (fun _ _ => (Ent.trans (Ent.front 1 _ _ rfl) (Ent.trans (RdS.blk _ _ _ _) (Ent.cons _ (Ent.nil _))))) (fun b7 _ => ?_))
    refine GA.one 8 (by kernel_rfl) (GAi.w0 rfl (.store 0 rfl rfl rfl rfl rfl rfl rfl) (fun _ _ => (Ent.trans (Ent.front 1 _ _ rfl) (Ent.trans (RdS.blk _ _ _ _) (Ent.cons _ (Ent.nil _))))) (fun _ _ => ?_))
    refine GA.done (by kernel_rfl) (?_)
    refine GN.seq (GC.seq (GC.region (GL.v (.move rfl) rfl (?_))))
    refine GL.ent (Ent.front 2 _ _ rfl) ?_
    refine GL.ent (Ent.front 2 _ _ rfl) ?_
    refine GL.call (As := [_, _]) rfl (fun w hst => Part_val g _ _ 2 (fun h => hc (hM.2.2 h)) hsm (Nat.le_trans (joinM_len keyT d (bs s) 2) (by rw [bs_length]; exact hs)) hmx (Nat.le_trans hM.1 (by omega)) hM.2.2 hd2 w) rfl (fun cs hcs => ?_)
    obtain ⟨hl, h1⟩ := hcs
    simp only at hl h1 ⊢
    have h2 : (([Value.string (mkS (lastM (readT keyT d (bs s)) 1).s), Value.bool (decide (ofNum (readT keyT d (bs s)) 2 ≠ []))] ++ cs ++ [Value.string (mkS (readU keyT d (bs s)))] : List Value)).all one = true := by
      rw [List.all_append, List.all_append, h1]; rfl
    obtain ⟨a1, a2, a3, a4, a5, a6, a7, a8, rfl⟩ := list8 hl
    refine GL.v (.move rfl) rfl (GL.v (.extract rfl rfl) rfl (GL.v (.extract rfl rfl) rfl (GL.v (.fieldAddr rfl) rfl (GL.w0 (.store 3 rfl rfl rfl rfl rfl rfl h1) (fun _ _ => GL.v (.fieldAddr rfl) rfl (GL.w0 (.store 3 rfl rfl rfl rfl rfl rfl rfl) (fun _ _ => GL.nil (GN.seq (GC.seq (GC.seq (GC.region (GL.v (.move rfl) rfl (GL.v (.nilCheck rfl) rfl (GL.v (.fieldAddr rfl) rfl (?_)))))))))))))))
    refine GL.open ?_
    rintro x hx
    have hk := keyE d (bs s)
    rcases hx with ⟨hn, rfl⟩ | ⟨⟨oc, ho⟩, t, u, rfl⟩
    · refine GL.v (.ld 0 rfl rfl rfl) rfl (GL.v (.neqNil rfl (by first | exact .inl rfl | exact .inr ⟨_, _, rfl⟩ | assumption)) rfl (GL.nil (GN.seq (?_))))
      refine GC.cond rfl (fun h => Bool.noConfusion (h.symm.trans (rfl) : true = false)) (fun _ => ?_)
      refine GC.skip (GN.seq (GC.seq (GC.region (GL.v (.ldN 5 [_, _, _, _, _, _, _, _, _, _, _] rfl rfl rfl ⟨rfl, rfl, rfl, rfl, rfl, rfl, rfl, rfl, rfl, rfl, rfl, trivial⟩) rfl (GL.w0 (.store 6 rfl rfl rfl rfl rfl rfl h2) (fun _ _ => GL.v (.assign rfl) rfl (GL.nil (GN.seq (GC.ret (?_))))))))))
      refine GR.cell2 6 ([Value.string (mkS (lastM (readT keyT d (bs s)) 1).s), Value.bool (decide (ofNum (readT keyT d (bs s)) 2 ≠ []))] ++ [a1, a2, a3, a4, a5, a6, a7, a8] ++ [Value.string (mkS (readU keyT d (bs s)))]) rfl rfl rfl rfl rfl rfl ⟨rfl, rfl, rfl, rfl, rfl, rfl, rfl, rfl, rfl, rfl, rfl, trivial⟩ (_, .nilIface) rfl (Ent.trans (Ent.trans (Ent.front 3 _ _ rfl) (Ent.cons _ (Ent.trans (Ent.front 1 _ _ rfl) (Ent.cons _ (Ent.trans (Ent.front 2 _ _ rfl) (Ent.cons _ (Ent.nil _))))))) (Ent.trans (key_fin d (bs s) [a1, a2, a3, a4, a5, a6, a7, a8] _) ?_)) ⟨rfl, h2⟩
      simp only [hk]
      exact Ent.refl _
    · skip
      refine GL.v (.ld 0 rfl rfl rfl) rfl (GL.v (.neqNil rfl (by first | exact .inl rfl | exact .inr ⟨_, _, rfl⟩ | assumption)) rfl (GL.nil (GN.seq (?_))))
      refine GC.cond rfl (fun _ => ?_) (fun h => Bool.noConfusion (h.symm.trans (rfl) : false = true))
      refine GC.seq (?_)
      refine GC.draw ([Blk g 93 5 [(0, .iface t u)]]) (m := 7) rfl (by repeat (first | exact Ent.nil _ | (with_reducible exact Ent.refl _) | refine Ent.blk (by repeat (first | exact Sub.nil _ | refine Sub.cons rfl ?_)) ?_ | refine Ent.cons _ ?_ | refine Ent.trans (Ent.tail _ _) ?_)) ?_
      refine GA.take 0 rfl (by kernel_rfl) (by kernel_rfl) (by kernel_rfl) (.build (cs := [_, _, _, _, _, _, _, _, _, _, _]) rfl rfl) rfl (GA.take 1 rfl (by kernel_rfl) (by kernel_rfl) (by kernel_rfl) (.move rfl) rfl (GA.take 2 rfl (by kernel_rfl) (by kernel_rfl) (by kernel_rfl) (.nilCheck rfl) rfl (GA.take 3 rfl (by kernel_rfl) (by kernel_rfl) (by kernel_rfl) (.fieldAddr rfl) rfl (GA.take 4 rfl (by kernel_rfl) (by kernel_rfl) (by kernel_rfl) (.ld 0 rfl rfl rfl) rfl (?_)))))
      refine GA.one 5 (by kernel_rfl) (GAi.w0 rfl (.store 6 rfl rfl rfl rfl rfl rfl rfl) (fun _ _ => (by repeat (first | exact Ent.nil _ | (with_reducible exact Ent.refl _) | refine Ent.blk (by repeat (first | exact Sub.nil _ | refine Sub.cons rfl ?_)) ?_ | refine Ent.cons _ ?_ | refine Ent.trans (Ent.tail _ _) ?_))) (fun _ _ => ?_))
      refine GA.take 6 rfl (by kernel_rfl) (by kernel_rfl) (by kernel_rfl) (.assign rfl) rfl (GA.done (by kernel_rfl) (?_))
      refine GN.seq (GC.ret (?_))
      refine GR.cell2 6 [.string emptyS, .bool false, .int .i64 0, .string emptyS, .bool false, .int .u64 0, .slice none 0 0, .slice none 0 0, .string emptyS, .string emptyS, .string emptyS] rfl rfl rfl rfl rfl rfl ⟨rfl, rfl, rfl, rfl, rfl, rfl, rfl, rfl, rfl, rfl, rfl, trivial⟩ ([.string emptyS, .bool false, .int .i64 0, .string emptyS, .bool false, .int .u64 0, .slice none 0 0, .slice none 0 0, .string emptyS, .string emptyS, .string emptyS], .iface t u) rfl (Ent.trans (Ent.trans (Ent.front 3 _ _ rfl) (Ent.cons _ (Ent.trans (Ent.front 1 _ _ rfl) (Ent.cons _ (Ent.trans (Ent.front 2 _ _ rfl) (Ent.cons _ (Ent.nil _))))))) ?_) ⟨rfl, rfl⟩
      cases hkm : keyM d (bs s) with
      | ok a => rw [hkm, ho] at hk; cases hk
      | error oc2 =>
        rw [hkm] at hk
        simp only [hk]
        exact Ent.head (h' := (resF keyF (.error oc2) _).hp) (fun _ _ _ => trivial) (Ent.refl _)
  · skip
    refine GAi.w rfl .alloc rfl (fun b7 _ => (Ent.trans (Ent.front 1 _ _ rfl) (Ent.trans (RdS.blk _ _ _ _) (Ent.cons _ (Ent.nil _))))) (fun b7 _ => ?_)
    refine GA.one 1 (by kernel_rfl) ?_
    refine GAi.ent (Ent.front 1 _ _ rfl) ?_
    refine GAi.call (As := [_]) rfl rfl (fun w hst => Text_tri g _ _ 1 w hrl hsm hrs) rfl (fun _ _ => (Ent.trans (RdS.blk _ _ _ _) (Ent.cons _ (Ent.nil _)))) (fun _ _ => ?_)
    refine GA.take 6 rfl (by kernel_rfl) (by kernel_rfl) (by kernel_rfl) (.build (cs := [_, _, _, _, _, _, _, _, _, _, _]) rfl rfl) rfl (?_)
    refine GA.one 8 (by kernel_rfl) (GAi.w0 rfl (.store 1 rfl rfl rfl rfl rfl rfl rfl) (fun _ _ => (Ent.trans (RdS.blk _ _ _ _) (Ent.cons _ (Ent.nil _)))) (fun _ _ => ?_))
    refine GA.done (by kernel_rfl) (?_)
    refine GN.seq (GC.seq (GC.region (GL.v (.move rfl) rfl (?_))))
    refine GL.ent (Ent.front 2 _ _ rfl) ?_
    refine GL.ent (Ent.front 1 _ _ rfl) ?_
    refine GL.call (As := [_, _]) rfl (fun w hst => Part_val g _ _ 2 (fun h => hc (hM.2.2 h)) hsm (Nat.le_trans (joinM_len keyT d (bs s) 2) (by rw [bs_length]; exact hs)) hmx (Nat.le_trans hM.1 (by omega)) hM.2.2 hd2 w) rfl (fun cs hcs => ?_)
    obtain ⟨hl, h1⟩ := hcs
    simp only at hl h1 ⊢
    have h2 : (([Value.string (mkS (lastM (readT keyT d (bs s)) 1).s), Value.bool (decide (ofNum (readT keyT d (bs s)) 2 ≠ []))] ++ cs ++ [Value.string (mkS (readU keyT d (bs s)))] : List Value)).all one = true := by
      rw [List.all_append, List.all_append, h1]; rfl
    obtain ⟨a1, a2, a3, a4, a5, a6, a7, a8, rfl⟩ := list8 hl
    refine GL.v (.move rfl) rfl (GL.v (.extract rfl rfl) rfl (GL.v (.extract rfl rfl) rfl (GL.v (.fieldAddr rfl) rfl (GL.w0 (.store 3 rfl rfl rfl rfl rfl rfl h1) (fun _ _ => GL.v (.fieldAddr rfl) rfl (GL.w0 (.store 3 rfl rfl rfl rfl rfl rfl rfl) (fun _ _ => GL.nil (GN.seq (GC.seq (GC.seq (GC.region (GL.v (.move rfl) rfl (GL.v (.nilCheck rfl) rfl (GL.v (.fieldAddr rfl) rfl (?_)))))))))))))))
    refine GL.open ?_
    rintro x hx
    have hk := keyE d (bs s)
    rcases hx with ⟨hn, rfl⟩ | ⟨⟨oc, ho⟩, t, u, rfl⟩
    · refine GL.v (.ld 0 rfl rfl rfl) rfl (GL.v (.neqNil rfl (by first | exact .inl rfl | exact .inr ⟨_, _, rfl⟩ | assumption)) rfl (GL.nil (GN.seq (?_))))
      refine GC.cond rfl (fun h => Bool.noConfusion (h.symm.trans (rfl) : true = false)) (fun _ => ?_)
      refine GC.skip (GN.seq (GC.seq (GC.region (GL.v (.ldN 5 [_, _, _, _, _, _, _, _, _, _, _] rfl rfl rfl ⟨rfl, rfl, rfl, rfl, rfl, rfl, rfl, rfl, rfl, rfl, rfl, trivial⟩) rfl (GL.w0 (.store 6 rfl rfl rfl rfl rfl rfl h2) (fun _ _ => GL.v (.assign rfl) rfl (GL.nil (GN.seq (GC.ret (?_))))))))))
      refine GR.cell2 6 ([Value.string (mkS (lastM (readT keyT d (bs s)) 1).s), Value.bool (decide (ofNum (readT keyT d (bs s)) 2 ≠ []))] ++ [a1, a2, a3, a4, a5, a6, a7, a8] ++ [Value.string (mkS (readU keyT d (bs s)))]) rfl rfl rfl rfl rfl rfl ⟨rfl, rfl, rfl, rfl, rfl, rfl, rfl, rfl, rfl, rfl, rfl, trivial⟩ (_, .nilIface) rfl (Ent.trans (Ent.trans (Ent.front 3 _ _ rfl) (Ent.cons _ (Ent.trans (Ent.front 1 _ _ rfl) (Ent.cons _ (Ent.trans (Ent.front 2 _ _ rfl) (Ent.cons _ (Ent.nil _))))))) (Ent.trans (key_fin d (bs s) [a1, a2, a3, a4, a5, a6, a7, a8] _) ?_)) ⟨rfl, h2⟩
      simp only [hk]
      exact Ent.refl _
    · skip
      refine GL.v (.ld 0 rfl rfl rfl) rfl (GL.v (.neqNil rfl (by first | exact .inl rfl | exact .inr ⟨_, _, rfl⟩ | assumption)) rfl (GL.nil (GN.seq (?_))))
      refine GC.cond rfl (fun _ => ?_) (fun h => Bool.noConfusion (h.symm.trans (rfl) : false = true))
      refine GC.seq (?_)
      refine GC.draw ([Blk g 93 5 [(0, .iface t u)]]) (m := 7) rfl (by repeat (first | exact Ent.nil _ | (with_reducible exact Ent.refl _) | refine Ent.blk (by repeat (first | exact Sub.nil _ | refine Sub.cons rfl ?_)) ?_ | refine Ent.cons _ ?_ | refine Ent.trans (Ent.tail _ _) ?_)) ?_
      refine GA.take 0 rfl (by kernel_rfl) (by kernel_rfl) (by kernel_rfl) (.build (cs := [_, _, _, _, _, _, _, _, _, _, _]) rfl rfl) rfl (GA.take 1 rfl (by kernel_rfl) (by kernel_rfl) (by kernel_rfl) (.move rfl) rfl (GA.take 2 rfl (by kernel_rfl) (by kernel_rfl) (by kernel_rfl) (.nilCheck rfl) rfl (GA.take 3 rfl (by kernel_rfl) (by kernel_rfl) (by kernel_rfl) (.fieldAddr rfl) rfl (GA.take 4 rfl (by kernel_rfl) (by kernel_rfl) (by kernel_rfl) (.ld 0 rfl rfl rfl) rfl (?_)))))
      refine GA.one 5 (by kernel_rfl) (GAi.w0 rfl (.store 6 rfl rfl rfl rfl rfl rfl rfl) (fun _ _ => (by repeat (first | exact Ent.nil _ | (with_reducible exact Ent.refl _) | refine Ent.blk (by repeat (first | exact Sub.nil _ | refine Sub.cons rfl ?_)) ?_ | refine Ent.cons _ ?_ | refine Ent.trans (Ent.tail _ _) ?_))) (fun _ _ => ?_))
      refine GA.take 6 rfl (by kernel_rfl) (by kernel_rfl) (by kernel_rfl) (.assign rfl) rfl (GA.done (by kernel_rfl) (?_))
      refine GN.seq (GC.ret (?_))
      refine GR.cell2 6 [.string emptyS, .bool false, .int .i64 0, .string emptyS, .bool false, .int .u64 0, .slice none 0 0, .slice none 0 0, .string emptyS, .string emptyS, .string emptyS] rfl rfl rfl rfl rfl rfl ⟨rfl, rfl, rfl, rfl, rfl, rfl, rfl, rfl, rfl, rfl, rfl, trivial⟩ ([.string emptyS, .bool false, .int .i64 0, .string emptyS, .bool false, .int .u64 0, .slice none 0 0, .slice none 0 0, .string emptyS, .string emptyS, .string emptyS], .iface t u) rfl (Ent.trans (Ent.trans (Ent.front 3 _ _ rfl) (Ent.cons _ (Ent.trans (Ent.front 1 _ _ rfl) (Ent.cons _ (Ent.trans (Ent.front 2 _ _ rfl) (Ent.cons _ (Ent.nil _))))))) ?_) ⟨rfl, rfl⟩
      cases hkm : keyM d (bs s) with
      | ok a => rw [hkm, ho] at hk; cases hk
      | error oc2 =>
        rw [hkm] at hk
        simp only [hk]
        exact Ent.head (h' := (resF keyF (.error oc2) _).hp) (fun _ _ _ => trivial) (Ent.refl _)

end Go.Proofs.Gw
