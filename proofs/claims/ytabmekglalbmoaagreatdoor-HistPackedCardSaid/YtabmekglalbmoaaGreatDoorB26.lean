/- Texts that a claim of this seat leans on: HQ. No statement is claimed in this text. -/
import Derived.Test.YtabmekglalbmoaaGreatDoorB25
import Derived.Test.YtabmekglalbmoaaGreatDoorB8
import Derived.Test.YtabmekglalbmoaaGreatDoorB16
/- Counts told one by one, packed, or both: the law's function. -/
set_option linter.unusedVariables false
set_option linter.unusedSimpArgs false
namespace Go.Proofs.Gw
open Go Go.RowKit Go.IntWalk Go.Proofs.Gm

section
variable {C : Ctx} {ρ : List (Nat × Value)} {S : World → Prop} {ty T e : TypeId} {x hi : Operand} {g : Bool} {sz n c : Nat} {k : IntKind} {j : Int}
theorem OpV.sliceHiA {A : Option Addr} [hT : TSl C.P T e] [hE : TSz C.P e g sz] (hx : ev ρ x = some (.slice A n c)) (hh : ev ρ hi = some (.int k j)) (h0 : 0 ≤ j) (h1 : j ≤ c) : OpV C ρ S (.slice T x none (some hi) none) ty (.slice A j.toNat c) := fun a w he _ _ _ _ _ => by
  obtain ⟨h2, h3⟩ := elem_of (C := C) (T := T) (e := e)
  have h := run_slice_h (P := C.P) (w := w) T A n c h2 k j h0 h1
  have hs := (run_sizeOf hE.out w).1
  simp only [execOp, Option.map, he.eval hx, he.eval hh, run_sliceAt_slice (P := C.P) w T _ _ _ _ h2, Sem.run_bind, h, h3, hs, Result.andThen_ok, Sem.run_pure]
  cases A <;> simp [sliced, Addr.add]
end
theorem nums_take {l : List Nat} {A : Option Addr} {c : Nat} {ok : Nat → Prop} {w : World} (h : (numsF l (.slice A l.length c)).holds ok w) (j : Nat) (hj : j ≤ l.length) : (numsF (l.take j) (.slice A j c)).holds ok w := by
  obtain ⟨h1, A', c', e, h2⟩ := h
  simp only [Value.slice.injEq, true_and] at e
  obtain ⟨rfl, rfl⟩ := e
  have hl : (l.take j).length = j := by rw [List.length_take]; omega
  show rowS ok w 1 (.slice A j c) (l.take j).length (u64C (l.take j))
  rw [hl]
  refine ⟨by rw [List.length_map, hl, Nat.mul_one], A, c, rfl, fun h0 => ?_⟩
  obtain ⟨g, off, e1, hg, hm, cs, T, fr, e2, e3⟩ := h2 (by omega)
  refine ⟨g, off, e1, hg, by omega, cs, T, fr, e2, fun i u hi => e3 i u ?_⟩
  rw [List.getElem?_map] at hi ⊢
  have : (l.take j)[i]? = l[i]? := by
    rw [List.getElem?_take]
    split
    · rfl
    · rename_i hge; rw [List.getElem?_eq_none (by omega)] at hi; simp at hi
  rw [this] at hi; exact hi
abbrev hisN (l : List Nat) : His := ⟨[], 0, 0, 0, ⟨false, 0⟩, ⟨false, 0⟩, ⟨false, 0⟩, l, [], [], 0, []⟩
abbrev hisT1 (n : Nat) : His := ⟨[], 0, 0, n, ⟨false, 0⟩, ⟨false, 0⟩, ⟨false, 0⟩, [], [], [], 0, []⟩
theorem marV_true (s : Bs) : marV true s = .tuple #[.string (mkS s), .nilIface] := rfl
theorem hisN_w (l : List Nat) : hisW (hisN l) = fixsW 6 l := by simp [hisW, fixedW, optW, vW, partsW, fixsW, textW]
theorem hisT1_w (n : Nat) : hisW (hisT1 n) = fixedW 4 n := by simp [hisW, fixedW, optW, vW, partsW, fixsW, textW]
theorem z64 : 0 < 2 ^ 64 := by decide
theorem z32 : 0 < 2 ^ 32 := by decide
theorem hisN_fit {l : List Nat} (h : ∀ n, n ∈ l → n < 2 ^ 64) : fitH (hisN l) := by
  refine ⟨z64, z64, z64, z64, z64, z64, h, fun n h => (by cases h), z32, ?_, fun n h => (by cases h)⟩
  unfold fitLK; trivial
theorem hisT1_fit {n : Nat} (h : n < 2 ^ 64) : fitH (hisT1 n) := by
  refine ⟨z64, z64, h, z64, z64, z64, fun n h => (by cases h), fun n h => (by cases h), z32, ?_, fun n h => (by cases h)⟩
  unfold fitLK; trivial
theorem fix4_size (n : Nat) : (mkS (fixW 4 n)).size = 9 := by rw [mkS_size, fix4, List.length_cons, leM_len]
theorem flat_fix6_len : ∀ (l : List Nat), (l.flatMap (fixW 6)).length = 9 * l.length
  | [] => rfl
  | n :: l => by rw [List.flatMap_cons, List.length_append, flat_fix6_len l, fix6, List.length_cons, leM_len, List.length_cons]; omega
theorem extract4 (n : Nat) : (mkS (fixW 4 n)).extract (1 : Int).toNat (mkS (fixW 4 n)).size = mkS (leM 8 n) := bs_inj (by
  rw [bs_extract, bs_mkS, bs_mkS, mkS_size, fix4, List.take_length]; rfl)
theorem fix4_0 : mkS (fixW 4 0) = ⟨#[33, 0, 0, 0, 0, 0, 0, 0, 0]⟩ := by rw [fix4]; rfl
theorem hpacked_tri (l : List Nat) (A : Option Addr) (c : Nat) (cut : Int) (ok0 : Nat → Prop) (w0 w : World) (hl : (numsF l (.slice A l.length c)).holds ok0 w0) (h64 : ∀ n, n ∈ l → n < 2 ^ 64) (hlc : l.length ≤ c) (hd1 : -9223372036854775808 ≤ cut) (hd2 : cut ≤ 9223372036854775807) :
    Tri Tryz.prog 9 [.slice A l.length c, .int .i64 cut] [Sn ok0 w0] (fun _ : Unit => .bool true) (fun _ => [Sn ok0 w0]) (fun _ => True) w := by
  have hbl := nums_len hl
  refine tri_of_G 133 Tryz.func9 rfl Tryz.ntmps9 rfl (fun D => ?_)
  refine GC.seq (GC.region (GL.v (.assign rfl) rfl (GL.nil (GN.seq (GC.seq (GC.seq (GC.region (?_))))))))
  refine GL.call (As := []) rfl (fun w hst => first13_tri w) rfl (fun _ _ => ?_)
  refine GL.v (.not rfl) rfl (GL.nil (GN.seq (?_)))
  refine GC.cond rfl (fun h => Bool.noConfusion (h.symm.trans (rfl) : true = false)) (fun _ => ?_)
  refine GC.skip (GN.seq (GC.seq (GC.seq (GC.region (GL.v (.move rfl) rfl (GL.v (.lenSl rfl) rfl (GL.v (.gtr rfl rfl) rfl (GL.v (.move rfl) rfl (?_)))))))))
  refine GL.partD 22 rfl (fun g1 => ?_) (fun g1 => ?_)
  · refine GL.sg rfl rfl rfl rfl (GL.sg rfl rfl rfl rfl (GL.v (.pickT rfl rfl) rfl (GL.v (.move rfl) rfl (GL.sg rfl rfl rfl rfl (GL.sg rfl rfl rfl rfl (GL.sg rfl rfl rfl rfl (GL.sg rfl rfl rfl rfl (GL.v (.pickT rfl rfl) rfl (GL.nil (GN.seq (GC.cond rfl (fun _ => ?_) (fun h => by first | (have := of_decide_eq_false h; contradiction) | (have := of_decide_eq_true h; contradiction) | (cases h; done)))))))))))))
    refine GC.seq (GC.region (?_))
    refine GL.call (As := []) rfl (fun w hst => first13_tri w) rfl (fun _ _ => ?_)
    refine GL.v (.assign rfl) rfl (GL.nil (GN.seq (GC.ret (?_))))
    exact GR.one rfl rfl rfl () rfl (Ent.refl _) trivial
  refine GL.vg rfl rfl (.move rfl) rfl (GL.vg rfl rfl (.lss rfl rfl) rfl (GL.v (.pickF rfl rfl) rfl (GL.v (.move rfl) rfl (?_))))
  refine GL.partD 26 rfl (fun g2 => ?_) (fun g2 => ?_)
  · refine GL.sg rfl rfl rfl rfl (GL.sg rfl rfl rfl rfl (GL.sg rfl rfl rfl rfl (GL.sg rfl rfl rfl rfl (GL.v (.pickT rfl rfl) rfl (GL.nil (GN.seq (GC.cond rfl (fun _ => ?_) (fun h => by first | (have := of_decide_eq_false h; contradiction) | (have := of_decide_eq_true h; contradiction) | (cases h; done)))))))))
    refine GC.seq (GC.region (?_))
    refine GL.call (As := []) rfl (fun w hst => first13_tri w) rfl (fun _ _ => ?_)
    refine GL.v (.assign rfl) rfl (GL.nil (GN.seq (GC.ret (?_))))
    exact GR.one rfl rfl rfl () rfl (Ent.refl _) trivial
  refine GL.vg rfl rfl (.move rfl) rfl (GL.vg rfl rfl (.move rfl) rfl (GL.vg rfl rfl (.lenSl rfl) rfl (GL.vg rfl rfl (.gtr rfl rfl) rfl (GL.v (.pickF rfl rfl) rfl (GL.nil (GN.seq (?_)))))))
  refine GC.condD rfl (fun g3 => ?_) (fun g3 => ?_)
  · refine GC.seq (GC.region (?_))
    refine GL.call (As := []) rfl (fun w hst => first13_tri w) rfl (fun _ _ => ?_)
    refine GL.v (.assign rfl) rfl (GL.nil (GN.seq (GC.ret (?_))))
    exact GR.one rfl rfl rfl () rfl (Ent.refl _) trivial
  obtain ⟨k, rfl⟩ : ∃ k : Nat, cut = (k : Int) := ⟨cut.toNat, by omega⟩
  refine GC.skip (GN.seq (GC.seq (GC.region (GL.v (.move rfl) rfl (GL.v (.move rfl) rfl (GL.v (.sliceHiA rfl rfl (by omega) (by omega)) rfl (GL.v (.build (cs := [_, _, _, _, _, _, _, _, _, _, _, _, _, _, _]) rfl rfl) rfl (?_))))))))
  have hk : k ≤ l.length := by omega
  refine GL.call (As := [_]) rfl (fun w hst => MarHis_tri (hisN (l.take k)) 0 _ ok0 w0 w (by simp only [szH, szLK, szLX, List.map_nil, List.sum_nil, List.length_nil, List.length_take]; omega) (hisN_fit fun n hn => h64 n (List.mem_of_mem_take hn)) (by omega) (by omega) (hisF_bare rfl rfl (nums_take hl k hk) (nums_nil _ _ none 0))) rfl (fun _ _ => ?_)
  rw [bare_may (x := hisN (l.take k)) (d := 0) (by omega) rfl rfl rfl rfl rfl rfl, hisN_w, marV_true]
  refine GL.v (.move rfl) rfl (GL.v (.extract rfl rfl) rfl (GL.v (.extract rfl rfl) rfl (GL.v (.assign rfl) rfl (GL.v (.assign rfl) rfl (GL.nil (GN.seq (GC.seq (GC.region (GL.v (.assign rfl) rfl (GL.nil (GN.seq (GC.seq (GC.seq (GC.region (GL.v (.move rfl) rfl (GL.v (.assign rfl) rfl (GL.nil (GN.seq (GC.block (?_))))))))))))))))))))
  refine GC.loop (γ := Nat) (fun i => k ≤ i ∧ i ≤ l.length) (fun i => [(0, .slice A l.length c), (5, .string (mkS (fixsW 6 (l.take k)))), (6, .nilIface), (7, .string (mkS (((l.drop k).take (i - k)).flatMap (fixW 6)))), (8, .int .i64 (i : Int))]) (fun _ => [Sn ok0 w0]) (fun i => l.length - i) k ⟨Nat.le_refl _, hk⟩ (Sub.cons rfl (Sub.cons rfl (Sub.cons rfl (Sub.cons (by rw [Nat.sub_self, List.take_zero]; rfl) (Sub.cons rfl (Sub.nil _)))))) ((Ent.cons _ (Ent.nil _))) ?_
  rintro i ⟨hi1, hi2⟩
  have h49 : (⟨#[49]⟩ : ByteArray).size = 1 := rfl
  have hz1 : (mkS (fixsW 6 (l.take k))).size ≤ 2500 := by rw [mkS_size]; have := fixsW_len 6 (l.take k) (by rw [List.length_take]; omega); rw [List.length_take] at this; omega
  have hz2 : (mkS (((l.drop k).take (i - k)).flatMap (fixW 6))).size ≤ 2700 := by rw [mkS_size, flat_fix6_len, List.length_take, List.length_drop]; omega
  refine GC.seq (GC.seq (GC.region (GL.v (.move rfl) rfl (GL.v (.move rfl) rfl (GL.v (.lenSl rfl) rfl (GL.v (.lss rfl rfl) rfl (GL.nil (GN.seq (?_)))))))))
  refine GC.condD rfl (fun hlt => ?_) (fun hlt => ?_)
  · have hil : i < l.length := by omega
    obtain ⟨m, hm⟩ : ∃ m, l[i]? = some m := ⟨_, List.getElem?_eq_getElem hil⟩
    have hm64 := h64 m (List.mem_of_getElem? hm)
    have hdr : (l.drop k).take (i + 1 - k) = (l.drop k).take (i - k) ++ [m] := by
      rw [show i + 1 - k = (i - k) + 1 by omega, List.take_add_one, List.getElem?_drop, show k + (i - k) = i by omega, hm]; rfl
    obtain ⟨A', c', e1, hA⟩ := numsF.form (l := l) (v := .slice A l.length c) (ok := ok0) (w := w0) hl
    simp only [Value.slice.injEq, true_and] at e1
    obtain ⟨rfl, rfl⟩ := e1
    obtain ⟨g, off, rfl⟩ := hA (by omega)
    refine GC.skip (GN.seq (GC.seq (GC.block (GC.seq (GC.region (GL.v (.move rfl) rfl (GL.v (.move rfl) rfl (GL.v (.indexAddr rfl rfl (by omega) (by omega)) rfl (GL.v (.ldNumF 0 (F := snapF ok0 w0) (c := c) (j := i) (m := m) rfl (fun ok w h => snap_fp hl h) rfl hm) rfl (GL.v (.build (cs := [_, _, _, _, _, _, _, _, _, _, _, _, _, _, _]) rfl rfl) rfl (?_)))))))))))
    refine GL.call (As := [_]) rfl (fun w hst => MarHis_tri (hisT1 m) 0 _ ok0 w0 w (by simp [szH, szLK, szLX]) (hisT1_fit hm64) (by omega) (by omega) (hisF_bare rfl rfl (nums_nil _ _ none 0) (nums_nil _ _ none 0))) rfl (fun _ _ => ?_)
    rw [bare_may (x := hisT1 m) (d := 0) (by omega) rfl rfl rfl rfl rfl rfl, hisT1_w, marV_true]
    refine GL.v (.move rfl) rfl (GL.v (.extract rfl rfl) rfl (GL.v (.extract rfl rfl) rfl (GL.v (.assign rfl) rfl (GL.v (.assign rfl) rfl (GL.nil (GN.seq (GC.seq (GC.seq (GC.region (GL.v (.move rfl) rfl (GL.v (.isF (.neqNil rfl (.inl rfl)) rfl) rfl (GL.v (.move rfl) rfl (GL.vg rfl rfl (.move rfl) rfl (GL.vg rfl rfl (.move rfl) rfl (GL.vg rfl rfl (.indexAddr rfl rfl (by omega) (by omega)) rfl (GL.vg rfl rfl (.ldNumF 0 (F := snapF ok0 w0) (c := c) (j := i) (m := m) rfl (fun ok w h => snap_fp hl h) rfl hm) rfl (GL.vg rfl rfl (.gtr rfl rfl) rfl (GL.vg rfl rfl (.move rfl) rfl (?_)))))))))))))))))))
    refine GL.partD 65 rfl (fun h1 => ?_) (fun h1 => ?_)
    · have e4 : fixedW 4 m = fixW 4 m := by unfold fixedW; rw [if_pos (by omega)]
      rw [e4]
      have hsz := fix4_size m
      have hx9 : ((mkS (fixW 4 m)).extract (Int.toNat 1) (mkS (fixW 4 m)).size).size = 8 := by rw [extract4, mkS_size, leM_len]
      refine GL.vg rfl rfl (.move rfl) rfl (GL.vg rfl rfl (.lenS rfl) rfl (GL.vg rfl rfl (.isF (.neq rfl rfl) (decide_eq_false (by rw [hsz]; decide))) rfl (GL.vg rfl rfl (.pickT rfl rfl) rfl (GL.v (.pickF rfl rfl) rfl (GL.nil (GN.seq (GC.cond rfl (fun h => by first | (have := of_decide_eq_false h; contradiction) | (have := of_decide_eq_true h; contradiction) | (cases h; done)) (fun _ => ?_))))))))
      refine GC.skip (GN.seq (GC.seq (GC.seq (GC.region (GL.v (.move rfl) rfl (GL.v (.move rfl) rfl (GL.v (.indexAddr rfl rfl (by omega) (by omega)) rfl (GL.v (.ldNumF 0 (F := snapF ok0 w0) (c := c) (j := i) (m := m) rfl (fun ok w h => snap_fp hl h) rfl hm) rfl (GL.v (.isF (.eql rfl rfl) (decide_eq_false (by omega))) rfl (GL.nil (GN.seq (GC.cond rfl (fun h => by first | (have := of_decide_eq_false h; contradiction) | (have := of_decide_eq_true h; contradiction) | (cases h; done)) (fun _ => ?_)))))))))))))
      refine GC.skip (GN.seq (GC.region (GL.v (.move rfl) rfl (GL.v (.move rfl) rfl (GL.v (.sliceSL rfl rfl (by omega) (by rw [hsz]; omega)) rfl (GL.v (.addS rfl rfl (by rw [hx9]; decide)) rfl (GL.v (.addS rfl rfl (by rw [ByteArray.size_append, hx9, h49]; omega)) rfl (GL.v (.assign rfl) rfl (GL.nil (GN.blk (GN.seq (GC.region (GL.v (.move rfl) rfl (GL.v (.add rfl rfl (i64_in _ (by omega))) rfl (GL.v (.assign rfl) rfl (GL.nil (?_)))))))))))))))))
      refine GN.loop (i + 1) ⟨by omega, by omega⟩ (by omega) (Sub.cons rfl (Sub.cons rfl (Sub.cons rfl (Sub.cons (congrArg (fun x => some (Value.string x)) ?_) (Sub.cons rfl (Sub.nil _)))))) (Ent.refl _)
      rw [hdr, List.flatMap_append, flat1, extract4, ← mkS_app, fix6, show mkS (49 :: leM 8 m) = ⟨#[49]⟩ ++ mkS (leM 8 m) from mkS_app [49] (leM 8 m) ▸ rfl]
    · have e0 : m = 0 := by omega
      have hx9 : (ByteArray.extract ⟨#[33, 0, 0, 0, 0, 0, 0, 0, 0]⟩ (Int.toNat 1) (ByteArray.size ⟨#[33, 0, 0, 0, 0, 0, 0, 0, 0]⟩)).size = 8 := by rw [← fix4_0, extract4, mkS_size, leM_len]
      refine GL.sg rfl rfl rfl rfl (GL.sg rfl rfl rfl rfl (GL.sg rfl rfl rfl rfl (GL.vg rfl rfl (.pickF rfl rfl) rfl (GL.v (.pickF rfl rfl) rfl (GL.nil (GN.seq (GC.cond rfl (fun h => by first | (have := of_decide_eq_false h; contradiction) | (have := of_decide_eq_true h; contradiction) | (cases h; done)) (fun _ => ?_))))))))
      refine GC.skip (GN.seq (GC.seq (GC.seq (GC.region (GL.v (.move rfl) rfl (GL.v (.move rfl) rfl (GL.v (.indexAddr rfl rfl (by omega) (by omega)) rfl (GL.v (.ldNumF 0 (F := snapF ok0 w0) (c := c) (j := i) (m := m) rfl (fun ok w h => snap_fp hl h) rfl hm) rfl (GL.v (.isT (.eql rfl rfl) (decide_eq_true (by omega))) rfl (GL.nil (GN.seq (GC.cond rfl (fun _ => ?_) (fun h => by first | (have := of_decide_eq_false h; contradiction) | (have := of_decide_eq_true h; contradiction) | (cases h; done))))))))))))))
      refine GC.region (GL.v (.assign rfl) rfl (GL.nil (GN.seq (GC.region (GL.v (.move rfl) rfl (GL.v (.move rfl) rfl (GL.v (.sliceSL rfl rfl (by omega) (by decide)) rfl (GL.v (.addS rfl rfl (by rw [hx9]; decide)) rfl (GL.v (.addS rfl rfl (by rw [ByteArray.size_append, hx9, h49]; omega)) rfl (GL.v (.assign rfl) rfl (GL.nil (GN.blk (GN.seq (GC.region (GL.v (.move rfl) rfl (GL.v (.add rfl rfl (i64_in _ (by omega))) rfl (GL.v (.assign rfl) rfl (GL.nil (?_)))))))))))))))))))
      refine GN.loop (i + 1) ⟨by omega, by omega⟩ (by omega) (Sub.cons rfl (Sub.cons rfl (Sub.cons rfl (Sub.cons (congrArg (fun x => some (Value.string x)) ?_) (Sub.cons rfl (Sub.nil _)))))) (Ent.refl _)
      rw [hdr, List.flatMap_append, flat1, ← fix4_0, extract4, ← mkS_app, e0, fix6, show mkS (49 :: leM 8 0) = ⟨#[49]⟩ ++ mkS (leM 8 0) from mkS_app [49] (leM 8 0) ▸ rfl]
  · have hie : i = l.length := by omega
    subst hie
    have htk : (l.drop k).take (l.length - k) = l.drop k := List.take_of_length_le (by rw [List.length_drop]; omega)
    rw [htk] at hz2 ⊢
    have hlaw := packed_law h64 (by omega) k
    refine GC.exit (GX.seq (GX.loop (GX.blk (GN.seq (GC.seq (GC.region (GL.v (.move rfl) rfl (GL.v (.move rfl) rfl (GL.v (.addS rfl rfl (by omega)) rfl (?_))))))))))
    rw [mkS_app]
    refine GL.ent (Ent.intro (A := Emp) (fun _ => trivial) _) ?_
    refine GL.call (As := [_]) rfl (fun w hst => His_rd 4294967296 (by omega) 0 (by omega) (by omega) (mkS (fixsW 6 (l.take k) ++ (l.drop k).flatMap (fixW 6))) w (by rw [← mkS_app, ByteArray.size_append]; omega)) rfl (fun ⟨cs, e⟩ hcs => ?_)
    obtain ⟨hcl, hco⟩ := hcs
    simp only [bs_mkS, hlaw] at hcl hco ⊢
    refine GL.fact 1 (φ := _) rfl (fun ok w h => ErF.form h) (fun hf => ?_)
    have he : e = .nilIface := by
      rcases hf with h | ⟨⟨oc, h⟩, _⟩
      · exact h.2
      · cases h
    subst he
    refine GL.opn (fun D w h => Sat.snap h) (fun p hp => ?_)
    obtain ⟨ok1, w1⟩ := p
    simp only at hp ⊢
    obtain ⟨v1, v2, v3, v4, rfl, q1, q2, q3, q4⟩ := hisF_form (x := hisN l) hp
    obtain ⟨A1, c1, rfl⟩ := listF.form q1
    obtain ⟨A2, c2, rfl⟩ := numsF.form2 q2
    obtain ⟨A3, c3, rfl⟩ := numsF.form2 q3
    obtain ⟨A4, c4, rfl⟩ := listF.form q4
    refine GL.v (.move rfl) rfl (GL.v (.extract rfl rfl) rfl (GL.v (.extract rfl rfl) rfl (GL.w .alloc rfl (fun b11 _ => GL.w0 (.store 0 rfl rfl rfl rfl rfl rfl rfl) (fun _ _ => GL.v (.assign rfl) rfl (GL.nil (GN.seq (GC.seq (GC.region (GL.v (.ldN 0 [_, _, _, _, _, _, _, _, _, _, _, _, _, _, _] rfl rfl rfl ⟨rfl, rfl, rfl, rfl, rfl, rfl, rfl, rfl, rfl, rfl, rfl, rfl, rfl, rfl, rfl, trivial⟩) rfl (?_)))))))))))
    refine GL.ent (Ent.front 1 _ _ rfl) ?_
    refine GL.call (As := [_]) rfl (fun w hst => MarHis_tri (hisN l) 0 _ ok1 w1 w (by simp only [szH, szLK, szLX, List.map_nil, List.sum_nil, List.length_nil]; omega) (hisN_fit h64) (by omega) (by omega) hp) rfl (fun _ _ => ?_)
    rw [bare_may (x := hisN l) (d := 0) (by omega) rfl rfl rfl rfl rfl rfl, hisN_w, marV_true]
    refine GL.v (.move rfl) rfl (GL.v (.extract rfl rfl) rfl (GL.v (.extract rfl rfl) rfl (GL.v (.assign rfl) rfl (GL.v (.assign rfl) rfl (GL.nil (GN.seq (GC.seq (GC.region (GL.v (.move rfl) rfl (GL.v (.build (cs := [_, _, _, _, _, _, _, _, _, _, _, _, _, _, _]) rfl rfl) rfl (?_)))))))))))
    refine GL.ent (Ent.front 4 _ _ rfl) ?_
    refine GL.call (As := [_]) rfl (fun w hst => MarHis_tri (hisN l) 0 _ ok0 w0 w (by simp only [szH, szLK, szLX, List.map_nil, List.sum_nil, List.length_nil]; omega) (hisN_fit h64) (by omega) (by omega) (hisF_bare rfl rfl hl (nums_nil _ _ none 0))) rfl (fun _ _ => ?_)
    rw [bare_may (x := hisN l) (d := 0) (by omega) rfl rfl rfl rfl rfl rfl, hisN_w, marV_true]
    refine GL.v (.move rfl) rfl (GL.v (.extract rfl rfl) rfl (GL.v (.extract rfl rfl) rfl (GL.v (.assign rfl) rfl (GL.v (.assign rfl) rfl (GL.nil (GN.seq (GC.seq (GC.region (?_)))))))))
    refine GL.call (As := []) rfl (fun w hst => first13_tri w) rfl (fun _ _ => ?_)
    refine GL.v (.move rfl) rfl (GL.vg rfl rfl (.move rfl) rfl (GL.vg rfl rfl (.isT (.eqlNil rfl (.inl rfl)) rfl) rfl (GL.v (.pickT rfl rfl) rfl (GL.v (.move rfl) rfl (GL.vg rfl rfl (.move rfl) rfl (GL.vg rfl rfl (.isT (.eqlNil rfl (.inl rfl)) rfl) rfl (GL.v (.pickT rfl rfl) rfl (GL.v (.move rfl) rfl (GL.vg rfl rfl (.move rfl) rfl (GL.vg rfl rfl (.isT (.eqlNil rfl (.inl rfl)) rfl) rfl (GL.v (.pickT rfl rfl) rfl (GL.v (.move rfl) rfl (GL.vg rfl rfl (.move rfl) rfl (GL.vg rfl rfl (.isT (.eqlNil rfl (.inl rfl)) rfl) rfl (GL.v (.pickT rfl rfl) rfl (GL.v (.move rfl) rfl (GL.vg rfl rfl (.fieldAddr rfl) rfl (GL.vg rfl rfl (.ld 2 rfl rfl rfl) rfl (GL.vg rfl rfl (.move rfl) rfl (GL.gd rfl rfl (?_)))))))))))))))))))))
    refine GL.call (As := []) rfl (fun w hst => Nums_tri l l _ _ w (hst.sn 1 rfl q2) (hst.sn 0 rfl hl)) rfl (fun _ _ => ?_)
    rw [show decide (l = l) = true from decide_eq_true rfl]
    refine GL.v (.pickT rfl rfl) rfl (GL.v (.move rfl) rfl (GL.vg rfl rfl (.move rfl) rfl (GL.vg rfl rfl (.move rfl) rfl (GL.vg rfl rfl (.isT (.eqlS rfl rfl) (decide_eq_true rfl)) rfl (GL.v (.pickT rfl rfl) rfl (GL.v (.move rfl) rfl (GL.vg rfl rfl (.fieldAddr rfl) rfl (GL.vg rfl rfl (.ld 2 rfl rfl rfl) rfl (GL.vg rfl rfl (.lenSl rfl) rfl (GL.vg rfl rfl (.isT (.eql rfl rfl) (decide_eq_true rfl)) rfl (GL.v (.pickT rfl rfl) rfl (GL.v (.assign rfl) rfl (GL.nil (GN.seq (GC.ret (?_))))))))))))))))
    exact GR.one rfl rfl rfl () rfl ((Ent.cons _ (Ent.nil _))) trivial
end Go.Proofs.Gw
