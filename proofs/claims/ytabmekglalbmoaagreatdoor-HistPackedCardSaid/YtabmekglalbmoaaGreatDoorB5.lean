/- Texts that a claim of this seat leans on: F4, F5, F6, S1, E2, E3, E4. No statement is claimed in this text. -/
import Derived.Test.YtabmekglalbmoaaGreatDoorB4
import Derived.Test.YtabmekglalbmoaaGreatDoorB3
/- Contracts of package wire's reader: what stands behind a tag, groups, records. -/
set_option linter.unusedVariables false
set_option linter.unusedSimpArgs false
namespace Go.Proofs.Gw
open Go Go.RowKit Go.IntWalk Go.Proofs.Gm

def mkS (l : Bs) : ByteArray := ⟨l.toArray⟩
theorem bs_mkS (l : Bs) : bs (mkS l) = l := by simp [bs, mkS]
theorem mkS_bs (s : ByteArray) : mkS (bs s) = s := bs_inj (bs_mkS _)
theorem mkS_size (l : Bs) : (mkS l).size = l.length := by rw [← bs_length, bs_mkS]
theorem extract_mkS (s : ByteArray) (a n : Nat) : s.extract a (a + n) = mkS (((bs s).drop a).take n) := bs_inj (by rw [bs_extract, bs_mkS, List.drop_take]; congr 1; omega)

abbrev RecB (rb num kind n : Nat) (S R : ByteArray) : HP := Blk rb 169 5 [(0, .int .i64 (num : Int)), (1, .int .i64 (kind : Int)), (2, .int .u64 (n : Int)), (3, .string S), (4, .string R)]
/-- What 'rest' leaves. -/
def restB (g : Nat) (s : ByteArray) (rb num kind : Nat) (d : Int) (at_ : Nat) : Except Int (Nat × Bs × Nat) → List HP
  | .ok (n, S, k) => [RdO g s ((at_ + k : Nat) : Int) d, RecB rb num kind n (mkS S) emptyS]
  | .error c => [RdE g s d c]
/-- What 'group' leaves. -/
def grpB (g : Nat) (s : ByteArray) (d : Int) (at_ : Nat) : Except Int Nat → List HP
  | .ok k => [RdO g s ((at_ + k : Nat) : Int) d]
  | .error c => [RdE g s d c]
def GrpS (g : Nat) (s : ByteArray) (m : Nat) : Prop := ∀ (at_ num : Nat) (d : Int) (w : World), at_ ≤ s.size → s.size - at_ ≤ m → -9223372036854775808 ≤ d → d ≤ 9223372036854775807 →
  Tri Tryz.prog 236 [ptr g, .int .i64 (num : Int)] [RdO g s at_ d] (fun _ : Unit => .tuple #[]) (fun _ => grpB g s d at_ (if d < 1 then .error 6 else grpM (d - 1) num ((bs s).drop at_))) (fun _ => True) w
def RestS (g : Nat) (s : ByteArray) (m : Nat) : Prop := ∀ (at_ num kind at0 rb : Nat) (d : Int) (w : World), at_ ≤ s.size → s.size - at_ ≤ m → at0 ≤ s.size → -9223372036854775808 ≤ d → d ≤ 9223372036854775807 →
  Tri Tryz.prog 213 [ptr g, ptr rb, .int .i64 (at0 : Int)] [RdO g s at_ d, RecB rb num kind 0 emptyS emptyS] (fun _ : Unit => .tuple #[]) (fun _ => restB g s rb num kind d at_ (restM d num kind ((bs s).drop at_))) (fun _ => True) w

theorem restM_0 (d : Int) (num : Nat) (l : Bs) : restM d num 0 l = match vget l with | .error c => .error c | .ok (n, k) => .ok (n, [], k) := by rw [restM]; simp; rfl
theorem restM_1 (d : Int) (num : Nat) (l : Bs) : restM d num 1 l = if 8 ≤ l.length then .ok (le (l.take 8), [], 8) else .error 1 := by rw [restM]; simp
theorem restM_5 (d : Int) (num : Nat) (l : Bs) : restM d num 5 l = if 4 ≤ l.length then .ok (le (l.take 4), [], 4) else .error 1 := by rw [restM]; simp
theorem restM_2 (d : Int) (num : Nat) (l : Bs) : restM d num 2 l = match vget l with | .error c => .error c | .ok (n, k) => if n ≤ l.length - k then .ok (0, (l.drop k).take n, k + n) else .error 1 := by rw [restM]; simp; rfl
theorem restM_3 (d : Int) (num : Nat) (l : Bs) : restM d num 3 l = if d < 1 then .error 6 else match grpM (d - 1) num l with | .error c => .error c | .ok k => .ok (0, [], k) := by rw [restM]; simp; rfl
theorem restM_x (d : Int) (num kind : Nat) (l : Bs) (h0 : kind ≠ 0) (h1 : kind ≠ 1) (h5 : kind ≠ 5) (h2 : kind ≠ 2) (h3 : kind ≠ 3) : restM d num kind l = .error 3 := by rw [restM]; simp [h0, h1, h5, h2, h3]

theorem rest_of (g : Nat) (s : ByteArray) (m : Nat) (hs : s.size ≤ mx) (hg : GrpS g s m) : RestS g s m := by
  intro at_ num kind at0 rb d w ha hm h0 hd1 hd2
  have hlen : ((bs s).drop at_).length = s.size - at_ := by rw [List.length_drop, bs_length]
  by_cases k0 : kind = 0
  · subst k0
    rw [restM_0]
    rcases hv : vget ((bs s).drop at_) with c | ⟨n, k⟩
    · simp only [restB]
      refine tri_of_G 53 Tryz.func213 rfl Tryz.ntmps213 rfl (fun D => ?_)
      refine GC.seq (GC.region (GL.v (.assign rfl) rfl (GL.nil (GN.seq (GC.seq (GC.region (GL.v (.move rfl) rfl (GL.v (.nilCheck rfl) rfl (GL.v (.fieldAddr rfl) rfl (GL.v (.ld 1 rfl rfl rfl) rfl (GL.nil (GN.seq (GC.block (GC.seq (GC.block (GC.seq (GC.block (GC.seq (GC.block (GC.seq (GC.block (GC.seq (GC.block (GC.seq (GC.block (GC.seq (GC.seq (GC.seq (GC.region (GL.v (.eql rfl rfl) rfl (GL.v (.assign rfl) rfl (GL.nil (GN.seq (?_))))))))))))))))))))))))))))))))))
      refine GC.cond rfl (fun _ => ?_) (fun h => Bool.noConfusion (h.symm.trans (decide_eq_true (rfl)) : false = true))
      refine GC.exit (GX.seq (GX.seq (GX.blk (GN.seq (GC.seq (GC.region (GL.v (.move rfl) rfl (GL.v (.move rfl) rfl (?_)))))))))
      refine GL.call (As := [_]) rfl (fun w hst => rvarint_err g s at_ c d w hs ha hv) rfl (fun _ _ => ?_)
      refine GL.v (.nilCheck rfl) rfl (GL.v (.fieldAddr rfl) rfl (GL.w0 (.store 1 rfl rfl rfl rfl rfl rfl rfl) (fun _ _ => GL.nil (GN.seq (GC.exit (GX.other rfl (GX.seq (GX.other rfl (GX.seq (GX.other rfl (GX.seq (GX.other rfl (GX.seq (GX.other rfl (GX.seq (GX.blk (?_)))))))))))))))))
      exact GN.nil (GR.none rfl rfl () rfl (Ent.cons _ (Ent.nil _)) trivial)
    · simp only [restB]
      refine tri_of_G 53 Tryz.func213 rfl Tryz.ntmps213 rfl (fun D => ?_)
      refine GC.seq (GC.region (GL.v (.assign rfl) rfl (GL.nil (GN.seq (GC.seq (GC.region (GL.v (.move rfl) rfl (GL.v (.nilCheck rfl) rfl (GL.v (.fieldAddr rfl) rfl (GL.v (.ld 1 rfl rfl rfl) rfl (GL.nil (GN.seq (GC.block (GC.seq (GC.block (GC.seq (GC.block (GC.seq (GC.block (GC.seq (GC.block (GC.seq (GC.block (GC.seq (GC.block (GC.seq (GC.seq (GC.seq (GC.region (GL.v (.eql rfl rfl) rfl (GL.v (.assign rfl) rfl (GL.nil (GN.seq (?_))))))))))))))))))))))))))))))))))
      refine GC.cond rfl (fun _ => ?_) (fun h => Bool.noConfusion (h.symm.trans (decide_eq_true (rfl)) : false = true))
      refine GC.exit (GX.seq (GX.seq (GX.blk (GN.seq (GC.seq (GC.region (GL.v (.move rfl) rfl (GL.v (.move rfl) rfl (?_)))))))))
      refine GL.call (As := [_]) rfl (fun w hst => rvarint_ok g s at_ n k d w hs ha hv) rfl (fun _ _ => ?_)
      refine GL.v (.nilCheck rfl) rfl (GL.v (.fieldAddr rfl) rfl (GL.w0 (.store 1 rfl rfl rfl rfl rfl rfl rfl) (fun _ _ => GL.nil (GN.seq (GC.exit (GX.other rfl (GX.seq (GX.other rfl (GX.seq (GX.other rfl (GX.seq (GX.other rfl (GX.seq (GX.other rfl (GX.seq (GX.blk (?_)))))))))))))))))
      exact GN.nil (GR.none rfl rfl () rfl (by repeat (first | exact Ent.nil _ | (with_reducible exact Ent.refl _) | refine Ent.blk (by repeat (first | exact Sub.nil _ | refine Sub.cons rfl ?_)) ?_ | refine Ent.cons _ ?_ | refine Ent.trans (Ent.tail _ _) ?_)) trivial)
  by_cases k1 : kind = 1
  · subst k1
    rw [restM_1]
    by_cases h8 : 8 ≤ ((bs s).drop at_).length
    · rw [if_pos h8]
      simp only [restB]
      refine tri_of_G 53 Tryz.func213 rfl Tryz.ntmps213 rfl (fun D => ?_)
      refine GC.seq (GC.region (GL.v (.assign rfl) rfl (GL.nil (GN.seq (GC.seq (GC.region (GL.v (.move rfl) rfl (GL.v (.nilCheck rfl) rfl (GL.v (.fieldAddr rfl) rfl (GL.v (.ld 1 rfl rfl rfl) rfl (GL.nil (GN.seq (GC.block (GC.seq (GC.block (GC.seq (GC.block (GC.seq (GC.block (GC.seq (GC.block (GC.seq (GC.block (GC.seq (GC.block (GC.seq (GC.seq (GC.seq (GC.region (GL.v (.eql rfl rfl) rfl (GL.v (.assign rfl) rfl (GL.nil (GN.seq (?_))))))))))))))))))))))))))))))))))
      refine GC.cond rfl (fun h => Bool.noConfusion (h.symm.trans (decide_eq_false ((by omega))) : true = false)) (fun _ => ?_)
      refine GC.skip (GN.seq (GC.seq (GC.seq (GC.region (GL.v (.eql rfl rfl) rfl (GL.v (.assign rfl) rfl (GL.nil (GN.seq (?_)))))))))
      refine GC.cond rfl (fun _ => ?_) (fun h => Bool.noConfusion (h.symm.trans (decide_eq_true (rfl)) : false = true))
      refine GC.exit (GX.seq (GX.seq (GX.other rfl (GX.seq (GX.blk (GN.seq (GC.region (GL.v (.move rfl) rfl (GL.v (.add rfl rfl (i64_in _ (by omega))) rfl (GL.v (.assign rfl) rfl (GL.nil (GN.blk (GN.seq (GC.seq (GC.seq (GC.region (GL.v (.move rfl) rfl (GL.v (.add rfl rfl (i64_in _ (by omega))) rfl (GL.v (.assign rfl) rfl (GL.nil (GN.seq (GC.region (GL.v (.move rfl) rfl (GL.v (.move rfl) rfl (GL.v (.move rfl) rfl (?_))))))))))))))))))))))))))
      refine GL.call (As := [_]) rfl (fun w hst => little_ok g s at_ 8 d w hs ha (by omega) (by omega)) rfl (fun _ _ => ?_)
      refine GL.v (.nilCheck rfl) rfl (GL.v (.fieldAddr rfl) rfl (GL.w0 (.store 1 rfl rfl rfl rfl rfl rfl rfl) (fun _ _ => GL.nil (GN.seq (GC.exit (GX.other rfl (GX.seq (GX.other rfl (GX.seq (GX.other rfl (GX.seq (GX.blk (?_)))))))))))))
      exact GN.nil (GR.none rfl rfl () rfl (by repeat (first | exact Ent.nil _ | (with_reducible exact Ent.refl _) | refine Ent.blk (by repeat (first | exact Sub.nil _ | refine Sub.cons rfl ?_)) ?_ | refine Ent.cons _ ?_ | refine Ent.trans (Ent.tail _ _) ?_)) trivial)
    · rw [if_neg h8]
      simp only [restB]
      refine tri_of_G 53 Tryz.func213 rfl Tryz.ntmps213 rfl (fun D => ?_)
      refine GC.seq (GC.region (GL.v (.assign rfl) rfl (GL.nil (GN.seq (GC.seq (GC.region (GL.v (.move rfl) rfl (GL.v (.nilCheck rfl) rfl (GL.v (.fieldAddr rfl) rfl (GL.v (.ld 1 rfl rfl rfl) rfl (GL.nil (GN.seq (GC.block (GC.seq (GC.block (GC.seq (GC.block (GC.seq (GC.block (GC.seq (GC.block (GC.seq (GC.block (GC.seq (GC.block (GC.seq (GC.seq (GC.seq (GC.region (GL.v (.eql rfl rfl) rfl (GL.v (.assign rfl) rfl (GL.nil (GN.seq (?_))))))))))))))))))))))))))))))))))
      refine GC.cond rfl (fun h => Bool.noConfusion (h.symm.trans (decide_eq_false ((by omega))) : true = false)) (fun _ => ?_)
      refine GC.skip (GN.seq (GC.seq (GC.seq (GC.region (GL.v (.eql rfl rfl) rfl (GL.v (.assign rfl) rfl (GL.nil (GN.seq (?_)))))))))
      refine GC.cond rfl (fun _ => ?_) (fun h => Bool.noConfusion (h.symm.trans (decide_eq_true (rfl)) : false = true))
      refine GC.exit (GX.seq (GX.seq (GX.other rfl (GX.seq (GX.blk (GN.seq (GC.region (GL.v (.move rfl) rfl (GL.v (.add rfl rfl (i64_in _ (by omega))) rfl (GL.v (.assign rfl) rfl (GL.nil (GN.blk (GN.seq (GC.seq (GC.seq (GC.region (GL.v (.move rfl) rfl (GL.v (.add rfl rfl (i64_in _ (by omega))) rfl (GL.v (.assign rfl) rfl (GL.nil (GN.seq (GC.region (GL.v (.move rfl) rfl (GL.v (.move rfl) rfl (GL.v (.move rfl) rfl (?_))))))))))))))))))))))))))
      refine GL.call (As := [_]) rfl (fun w hst => little_err g s at_ 8 d w hs ha (by omega) (by omega)) rfl (fun _ _ => ?_)
      refine GL.v (.nilCheck rfl) rfl (GL.v (.fieldAddr rfl) rfl (GL.w0 (.store 1 rfl rfl rfl rfl rfl rfl rfl) (fun _ _ => GL.nil (GN.seq (GC.exit (GX.other rfl (GX.seq (GX.other rfl (GX.seq (GX.other rfl (GX.seq (GX.blk (?_)))))))))))))
      exact GN.nil (GR.none rfl rfl () rfl (Ent.cons _ (Ent.nil _)) trivial)
  by_cases k5 : kind = 5
  · subst k5
    rw [restM_5]
    by_cases h8 : 4 ≤ ((bs s).drop at_).length
    · rw [if_pos h8]
      simp only [restB]
      refine tri_of_G 53 Tryz.func213 rfl Tryz.ntmps213 rfl (fun D => ?_)
      refine GC.seq (GC.region (GL.v (.assign rfl) rfl (GL.nil (GN.seq (GC.seq (GC.region (GL.v (.move rfl) rfl (GL.v (.nilCheck rfl) rfl (GL.v (.fieldAddr rfl) rfl (GL.v (.ld 1 rfl rfl rfl) rfl (GL.nil (GN.seq (GC.block (GC.seq (GC.block (GC.seq (GC.block (GC.seq (GC.block (GC.seq (GC.block (GC.seq (GC.block (GC.seq (GC.block (GC.seq (GC.seq (GC.seq (GC.region (GL.v (.eql rfl rfl) rfl (GL.v (.assign rfl) rfl (GL.nil (GN.seq (?_))))))))))))))))))))))))))))))))))
      refine GC.cond rfl (fun h => Bool.noConfusion (h.symm.trans (decide_eq_false ((by omega))) : true = false)) (fun _ => ?_)
      refine GC.skip (GN.seq (GC.seq (GC.seq (GC.region (GL.v (.eql rfl rfl) rfl (GL.v (.assign rfl) rfl (GL.nil (GN.seq (?_)))))))))
      refine GC.cond rfl (fun h => Bool.noConfusion (h.symm.trans (decide_eq_false ((by omega))) : true = false)) (fun _ => ?_)
      refine GC.skip (GN.seq (GC.seq (GC.seq (GC.region (GL.v (.eql rfl rfl) rfl (GL.v (.assign rfl) rfl (GL.nil (GN.seq (?_)))))))))
      refine GC.cond rfl (fun _ => ?_) (fun h => Bool.noConfusion (h.symm.trans (decide_eq_true (rfl)) : false = true))
      refine GC.exit (GX.seq (GX.seq (GX.other rfl (GX.seq (GX.other rfl (GX.seq (GX.blk (GN.seq (GC.seq (GC.seq (GC.region (GL.v (.move rfl) rfl (GL.v (.add rfl rfl (i64_in _ (by omega))) rfl (GL.v (.assign rfl) rfl (GL.nil (GN.seq (GC.region (GL.v (.move rfl) rfl (GL.v (.move rfl) rfl (GL.v (.move rfl) rfl (?_)))))))))))))))))))))
      refine GL.call (As := [_]) rfl (fun w hst => little_ok g s at_ 4 d w hs ha (by omega) (by omega)) rfl (fun _ _ => ?_)
      refine GL.v (.nilCheck rfl) rfl (GL.v (.fieldAddr rfl) rfl (GL.w0 (.store 1 rfl rfl rfl rfl rfl rfl rfl) (fun _ _ => GL.nil (GN.seq (GC.exit (GX.other rfl (GX.seq (GX.other rfl (GX.seq (GX.other rfl (GX.seq (GX.blk (?_)))))))))))))
      exact GN.nil (GR.none rfl rfl () rfl (by repeat (first | exact Ent.nil _ | (with_reducible exact Ent.refl _) | refine Ent.blk (by repeat (first | exact Sub.nil _ | refine Sub.cons rfl ?_)) ?_ | refine Ent.cons _ ?_ | refine Ent.trans (Ent.tail _ _) ?_)) trivial)
    · rw [if_neg h8]
      simp only [restB]
      refine tri_of_G 53 Tryz.func213 rfl Tryz.ntmps213 rfl (fun D => ?_)
      refine GC.seq (GC.region (GL.v (.assign rfl) rfl (GL.nil (GN.seq (GC.seq (GC.region (GL.v (.move rfl) rfl (GL.v (.nilCheck rfl) rfl (GL.v (.fieldAddr rfl) rfl (GL.v (.ld 1 rfl rfl rfl) rfl (GL.nil (GN.seq (GC.block (GC.seq (GC.block (GC.seq (GC.block (GC.seq (GC.block (GC.seq (GC.block (GC.seq (GC.block (GC.seq (GC.block (GC.seq (GC.seq (GC.seq (GC.region (GL.v (.eql rfl rfl) rfl (GL.v (.assign rfl) rfl (GL.nil (GN.seq (?_))))))))))))))))))))))))))))))))))
      refine GC.cond rfl (fun h => Bool.noConfusion (h.symm.trans (decide_eq_false ((by omega))) : true = false)) (fun _ => ?_)
      refine GC.skip (GN.seq (GC.seq (GC.seq (GC.region (GL.v (.eql rfl rfl) rfl (GL.v (.assign rfl) rfl (GL.nil (GN.seq (?_)))))))))
      refine GC.cond rfl (fun h => Bool.noConfusion (h.symm.trans (decide_eq_false ((by omega))) : true = false)) (fun _ => ?_)
      refine GC.skip (GN.seq (GC.seq (GC.seq (GC.region (GL.v (.eql rfl rfl) rfl (GL.v (.assign rfl) rfl (GL.nil (GN.seq (?_)))))))))
      refine GC.cond rfl (fun _ => ?_) (fun h => Bool.noConfusion (h.symm.trans (decide_eq_true (rfl)) : false = true))
      refine GC.exit (GX.seq (GX.seq (GX.other rfl (GX.seq (GX.other rfl (GX.seq (GX.blk (GN.seq (GC.seq (GC.seq (GC.region (GL.v (.move rfl) rfl (GL.v (.add rfl rfl (i64_in _ (by omega))) rfl (GL.v (.assign rfl) rfl (GL.nil (GN.seq (GC.region (GL.v (.move rfl) rfl (GL.v (.move rfl) rfl (GL.v (.move rfl) rfl (?_)))))))))))))))))))))
      refine GL.call (As := [_]) rfl (fun w hst => little_err g s at_ 4 d w hs ha (by omega) (by omega)) rfl (fun _ _ => ?_)
      refine GL.v (.nilCheck rfl) rfl (GL.v (.fieldAddr rfl) rfl (GL.w0 (.store 1 rfl rfl rfl rfl rfl rfl rfl) (fun _ _ => GL.nil (GN.seq (GC.exit (GX.other rfl (GX.seq (GX.other rfl (GX.seq (GX.other rfl (GX.seq (GX.blk (?_)))))))))))))
      exact GN.nil (GR.none rfl rfl () rfl (Ent.cons _ (Ent.nil _)) trivial)
  by_cases k2 : kind = 2
  · subst k2
    rw [restM_2]
    rcases hv : vget ((bs s).drop at_) with c | ⟨n, k⟩
    · simp only [restB]
      refine tri_of_G 53 Tryz.func213 rfl Tryz.ntmps213 rfl (fun D => ?_)
      refine GC.seq (GC.region (GL.v (.assign rfl) rfl (GL.nil (GN.seq (GC.seq (GC.region (GL.v (.move rfl) rfl (GL.v (.nilCheck rfl) rfl (GL.v (.fieldAddr rfl) rfl (GL.v (.ld 1 rfl rfl rfl) rfl (GL.nil (GN.seq (GC.block (GC.seq (GC.block (GC.seq (GC.block (GC.seq (GC.block (GC.seq (GC.block (GC.seq (GC.block (GC.seq (GC.block (GC.seq (GC.seq (GC.seq (GC.region (GL.v (.eql rfl rfl) rfl (GL.v (.assign rfl) rfl (GL.nil (GN.seq (?_))))))))))))))))))))))))))))))))))
      refine GC.cond rfl (fun h => Bool.noConfusion (h.symm.trans (decide_eq_false ((by omega))) : true = false)) (fun _ => ?_)
      refine GC.skip (GN.seq (GC.seq (GC.seq (GC.region (GL.v (.eql rfl rfl) rfl (GL.v (.assign rfl) rfl (GL.nil (GN.seq (?_)))))))))
      refine GC.cond rfl (fun h => Bool.noConfusion (h.symm.trans (decide_eq_false ((by omega))) : true = false)) (fun _ => ?_)
      refine GC.skip (GN.seq (GC.seq (GC.seq (GC.region (GL.v (.eql rfl rfl) rfl (GL.v (.assign rfl) rfl (GL.nil (GN.seq (?_)))))))))
      refine GC.cond rfl (fun h => Bool.noConfusion (h.symm.trans (decide_eq_false ((by omega))) : true = false)) (fun _ => ?_)
      refine GC.skip (GN.seq (GC.seq (GC.seq (GC.region (GL.v (.eql rfl rfl) rfl (GL.v (.assign rfl) rfl (GL.nil (GN.seq (?_)))))))))
      refine GC.cond rfl (fun _ => ?_) (fun h => Bool.noConfusion (h.symm.trans (decide_eq_true (rfl)) : false = true))
      refine GC.exit (GX.seq (GX.seq (GX.other rfl (GX.seq (GX.other rfl (GX.seq (GX.other rfl (GX.seq (GX.blk (GN.seq (GC.seq (GC.region (GL.v (.move rfl) rfl (GL.v (.move rfl) rfl (GL.v (.move rfl) rfl (?_))))))))))))))))
      refine GL.call (As := [_]) rfl (fun w hst => rvarint_err g s at_ c d w hs ha hv) rfl (fun _ _ => ?_)
      refine GL.call (As := [_]) rfl (fun w hst => takeE g s 0 d c w) rfl (fun _ _ => ?_)
      refine GL.v (.nilCheck rfl) rfl (GL.v (.fieldAddr rfl) rfl (GL.w0 (.store 1 rfl rfl rfl rfl rfl rfl rfl) (fun _ _ => GL.nil (GN.seq (GC.exit (GX.other rfl (GX.seq (GX.other rfl (GX.seq (GX.blk (?_)))))))))))
      exact GN.nil (GR.none rfl rfl () rfl (Ent.cons _ (Ent.nil _)) trivial)
    · have hk := vget_ok hv
      by_cases hn : n ≤ ((bs s).drop at_).length - k
      · simp only [if_pos hn, restB]
        refine tri_of_G 53 Tryz.func213 rfl Tryz.ntmps213 rfl (fun D => ?_)
        refine GC.seq (GC.region (GL.v (.assign rfl) rfl (GL.nil (GN.seq (GC.seq (GC.region (GL.v (.move rfl) rfl (GL.v (.nilCheck rfl) rfl (GL.v (.fieldAddr rfl) rfl (GL.v (.ld 1 rfl rfl rfl) rfl (GL.nil (GN.seq (GC.block (GC.seq (GC.block (GC.seq (GC.block (GC.seq (GC.block (GC.seq (GC.block (GC.seq (GC.block (GC.seq (GC.block (GC.seq (GC.seq (GC.seq (GC.region (GL.v (.eql rfl rfl) rfl (GL.v (.assign rfl) rfl (GL.nil (GN.seq (?_))))))))))))))))))))))))))))))))))
        refine GC.cond rfl (fun h => Bool.noConfusion (h.symm.trans (decide_eq_false ((by omega))) : true = false)) (fun _ => ?_)
        refine GC.skip (GN.seq (GC.seq (GC.seq (GC.region (GL.v (.eql rfl rfl) rfl (GL.v (.assign rfl) rfl (GL.nil (GN.seq (?_)))))))))
        refine GC.cond rfl (fun h => Bool.noConfusion (h.symm.trans (decide_eq_false ((by omega))) : true = false)) (fun _ => ?_)
        refine GC.skip (GN.seq (GC.seq (GC.seq (GC.region (GL.v (.eql rfl rfl) rfl (GL.v (.assign rfl) rfl (GL.nil (GN.seq (?_)))))))))
        refine GC.cond rfl (fun h => Bool.noConfusion (h.symm.trans (decide_eq_false ((by omega))) : true = false)) (fun _ => ?_)
        refine GC.skip (GN.seq (GC.seq (GC.seq (GC.region (GL.v (.eql rfl rfl) rfl (GL.v (.assign rfl) rfl (GL.nil (GN.seq (?_)))))))))
        refine GC.cond rfl (fun _ => ?_) (fun h => Bool.noConfusion (h.symm.trans (decide_eq_true (rfl)) : false = true))
        refine GC.exit (GX.seq (GX.seq (GX.other rfl (GX.seq (GX.other rfl (GX.seq (GX.other rfl (GX.seq (GX.blk (GN.seq (GC.seq (GC.region (GL.v (.move rfl) rfl (GL.v (.move rfl) rfl (GL.v (.move rfl) rfl (?_))))))))))))))))
        refine GL.call (As := [_]) rfl (fun w hst => rvarint_ok g s at_ n k d w hs ha hv) rfl (fun _ _ => ?_)
        refine GL.call (As := [_]) rfl (fun w hst => take_ok g s (at_ + k) n d w hs (by omega) (by omega)) rfl (fun _ _ => ?_)
        refine GL.v (.nilCheck rfl) rfl (GL.v (.fieldAddr rfl) rfl (GL.w0 (.store 1 rfl rfl rfl rfl rfl rfl rfl) (fun _ _ => GL.nil (GN.seq (GC.exit (GX.other rfl (GX.seq (GX.other rfl (GX.seq (GX.blk (?_)))))))))))
        refine GN.nil (GR.none rfl rfl () rfl ?_ trivial)
        rw [extract_mkS, List.drop_drop, show ((at_ + (k + n) : Nat) : Int) = ((at_ + k : Nat) : Int) + (n : Int) by omega]
        exact (by repeat (first | exact Ent.nil _ | (with_reducible exact Ent.refl _) | refine Ent.blk (by repeat (first | exact Sub.nil _ | refine Sub.cons rfl ?_)) ?_ | refine Ent.cons _ ?_ | refine Ent.trans (Ent.tail _ _) ?_))
      · simp only [if_neg hn, restB]
        refine tri_of_G 53 Tryz.func213 rfl Tryz.ntmps213 rfl (fun D => ?_)
        refine GC.seq (GC.region (GL.v (.assign rfl) rfl (GL.nil (GN.seq (GC.seq (GC.region (GL.v (.move rfl) rfl (GL.v (.nilCheck rfl) rfl (GL.v (.fieldAddr rfl) rfl (GL.v (.ld 1 rfl rfl rfl) rfl (GL.nil (GN.seq (GC.block (GC.seq (GC.block (GC.seq (GC.block (GC.seq (GC.block (GC.seq (GC.block (GC.seq (GC.block (GC.seq (GC.block (GC.seq (GC.seq (GC.seq (GC.region (GL.v (.eql rfl rfl) rfl (GL.v (.assign rfl) rfl (GL.nil (GN.seq (?_))))))))))))))))))))))))))))))))))
        refine GC.cond rfl (fun h => Bool.noConfusion (h.symm.trans (decide_eq_false ((by omega))) : true = false)) (fun _ => ?_)
        refine GC.skip (GN.seq (GC.seq (GC.seq (GC.region (GL.v (.eql rfl rfl) rfl (GL.v (.assign rfl) rfl (GL.nil (GN.seq (?_)))))))))
        refine GC.cond rfl (fun h => Bool.noConfusion (h.symm.trans (decide_eq_false ((by omega))) : true = false)) (fun _ => ?_)
        refine GC.skip (GN.seq (GC.seq (GC.seq (GC.region (GL.v (.eql rfl rfl) rfl (GL.v (.assign rfl) rfl (GL.nil (GN.seq (?_)))))))))
        refine GC.cond rfl (fun h => Bool.noConfusion (h.symm.trans (decide_eq_false ((by omega))) : true = false)) (fun _ => ?_)
        refine GC.skip (GN.seq (GC.seq (GC.seq (GC.region (GL.v (.eql rfl rfl) rfl (GL.v (.assign rfl) rfl (GL.nil (GN.seq (?_)))))))))
        refine GC.cond rfl (fun _ => ?_) (fun h => Bool.noConfusion (h.symm.trans (decide_eq_true (rfl)) : false = true))
        refine GC.exit (GX.seq (GX.seq (GX.other rfl (GX.seq (GX.other rfl (GX.seq (GX.other rfl (GX.seq (GX.blk (GN.seq (GC.seq (GC.region (GL.v (.move rfl) rfl (GL.v (.move rfl) rfl (GL.v (.move rfl) rfl (?_))))))))))))))))
        refine GL.call (As := [_]) rfl (fun w hst => rvarint_ok g s at_ n k d w hs ha hv) rfl (fun _ _ => ?_)
        refine GL.call (As := [_]) rfl (fun w hst => take_err g s (at_ + k) n d w hs (by omega) (by omega)) rfl (fun _ _ => ?_)
        refine GL.v (.nilCheck rfl) rfl (GL.v (.fieldAddr rfl) rfl (GL.w0 (.store 1 rfl rfl rfl rfl rfl rfl rfl) (fun _ _ => GL.nil (GN.seq (GC.exit (GX.other rfl (GX.seq (GX.other rfl (GX.seq (GX.blk (?_)))))))))))
        exact GN.nil (GR.none rfl rfl () rfl (Ent.cons _ (Ent.nil _)) trivial)
  by_cases k3 : kind = 3
  · subst k3
    have hgg := hg at_ num d
    rw [restM_3]
    refine tri_of_G 53 Tryz.func213 rfl Tryz.ntmps213 rfl (fun D => ?_)
    refine GC.seq (GC.region (GL.v (.assign rfl) rfl (GL.nil (GN.seq (GC.seq (GC.region (GL.v (.move rfl) rfl (GL.v (.nilCheck rfl) rfl (GL.v (.fieldAddr rfl) rfl (GL.v (.ld 1 rfl rfl rfl) rfl (GL.nil (GN.seq (GC.block (GC.seq (GC.block (GC.seq (GC.block (GC.seq (GC.block (GC.seq (GC.block (GC.seq (GC.block (GC.seq (GC.block (GC.seq (GC.seq (GC.seq (GC.region (GL.v (.eql rfl rfl) rfl (GL.v (.assign rfl) rfl (GL.nil (GN.seq (?_))))))))))))))))))))))))))))))))))
    refine GC.cond rfl (fun h => Bool.noConfusion (h.symm.trans (decide_eq_false ((by omega))) : true = false)) (fun _ => ?_)
    refine GC.skip (GN.seq (GC.seq (GC.seq (GC.region (GL.v (.eql rfl rfl) rfl (GL.v (.assign rfl) rfl (GL.nil (GN.seq (?_)))))))))
    refine GC.cond rfl (fun h => Bool.noConfusion (h.symm.trans (decide_eq_false ((by omega))) : true = false)) (fun _ => ?_)
    refine GC.skip (GN.seq (GC.seq (GC.seq (GC.region (GL.v (.eql rfl rfl) rfl (GL.v (.assign rfl) rfl (GL.nil (GN.seq (?_)))))))))
    refine GC.cond rfl (fun h => Bool.noConfusion (h.symm.trans (decide_eq_false ((by omega))) : true = false)) (fun _ => ?_)
    refine GC.skip (GN.seq (GC.seq (GC.seq (GC.region (GL.v (.eql rfl rfl) rfl (GL.v (.assign rfl) rfl (GL.nil (GN.seq (?_)))))))))
    refine GC.cond rfl (fun h => Bool.noConfusion (h.symm.trans (decide_eq_false ((by omega))) : true = false)) (fun _ => ?_)
    refine GC.skip (GN.seq (GC.seq (GC.region (GL.v (.eql rfl rfl) rfl (GL.v (.assign rfl) rfl (GL.nil (GN.seq (?_))))))))
    refine GC.cond rfl (fun _ => ?_) (fun h => Bool.noConfusion (h.symm.trans (decide_eq_true (rfl)) : false = true))
    refine GC.exit (GX.seq (GX.other rfl (GX.seq (GX.other rfl (GX.seq (GX.other rfl (GX.seq (GX.other rfl (GX.seq (GX.blk (GN.seq (GC.seq (GC.region (GL.v (.move rfl) rfl (GL.v (.move rfl) rfl (GL.v (.nilCheck rfl) rfl (GL.v (.fieldAddr rfl) rfl (GL.v (.ld 1 rfl rfl rfl) rfl (?_)))))))))))))))))))
    refine GL.call (As := [_]) rfl (fun w hst => hgg w ha hm hd1 hd2) rfl (fun _ _ => ?_)
    refine GL.nil (GN.seq (GC.exit (GX.other rfl (GX.seq (GX.blk (?_))))))
    refine GN.nil (GR.none rfl rfl () rfl ?_ trivial)
    by_cases h1 : d < 1
    · simp only [if_pos h1, restB, grpB]; exact Ent.cons _ (Ent.nil _)
    · simp only [if_neg h1]
      rcases hq : grpM (d - 1) num ((bs s).drop at_) with c | k
      · simp only [restB, grpB]; exact Ent.cons _ (Ent.nil _)
      · simp only [restB, grpB]; exact Ent.refl _
  · rw [restM_x d num kind _ k0 k1 k5 k2 k3]
    simp only [restB]
    refine tri_of_G 53 Tryz.func213 rfl Tryz.ntmps213 rfl (fun D => ?_)
    refine GC.seq (GC.region (GL.v (.assign rfl) rfl (GL.nil (GN.seq (GC.seq (GC.region (GL.v (.move rfl) rfl (GL.v (.nilCheck rfl) rfl (GL.v (.fieldAddr rfl) rfl (GL.v (.ld 1 rfl rfl rfl) rfl (GL.nil (GN.seq (GC.block (GC.seq (GC.block (GC.seq (GC.block (GC.seq (GC.block (GC.seq (GC.block (GC.seq (GC.block (GC.seq (GC.block (GC.seq (GC.seq (GC.seq (GC.region (GL.v (.eql rfl rfl) rfl (GL.v (.assign rfl) rfl (GL.nil (GN.seq (?_))))))))))))))))))))))))))))))))))
    refine GC.cond rfl (fun h => Bool.noConfusion (h.symm.trans (decide_eq_false ((by omega))) : true = false)) (fun _ => ?_)
    refine GC.skip (GN.seq (GC.seq (GC.seq (GC.region (GL.v (.eql rfl rfl) rfl (GL.v (.assign rfl) rfl (GL.nil (GN.seq (?_)))))))))
    refine GC.cond rfl (fun h => Bool.noConfusion (h.symm.trans (decide_eq_false ((by omega))) : true = false)) (fun _ => ?_)
    refine GC.skip (GN.seq (GC.seq (GC.seq (GC.region (GL.v (.eql rfl rfl) rfl (GL.v (.assign rfl) rfl (GL.nil (GN.seq (?_)))))))))
    refine GC.cond rfl (fun h => Bool.noConfusion (h.symm.trans (decide_eq_false ((by omega))) : true = false)) (fun _ => ?_)
    refine GC.skip (GN.seq (GC.seq (GC.seq (GC.region (GL.v (.eql rfl rfl) rfl (GL.v (.assign rfl) rfl (GL.nil (GN.seq (?_)))))))))
    refine GC.cond rfl (fun h => Bool.noConfusion (h.symm.trans (decide_eq_false ((by omega))) : true = false)) (fun _ => ?_)
    refine GC.skip (GN.seq (GC.seq (GC.region (GL.v (.eql rfl rfl) rfl (GL.v (.assign rfl) rfl (GL.nil (GN.seq (?_))))))))
    refine GC.cond rfl (fun h => Bool.noConfusion (h.symm.trans (decide_eq_false ((by omega))) : true = false)) (fun _ => ?_)
    refine GC.skip (GN.seq (GC.exit (GX.other rfl (GX.seq (GX.other rfl (GX.seq (GX.other rfl (GX.seq (GX.other rfl (GX.seq (GX.other rfl (GX.seq (GX.blk (GN.seq (GC.seq (GC.region (GL.v (.move rfl) rfl (GL.v (.move rfl) rfl (GL.v (.makeInterface rfl) rfl (?_))))))))))))))))))))
    refine GL.call (As := [_]) rfl (fun w hst => failsO g s at_ d 3 at0 w (by omega) (by omega) h0) rfl (fun _ _ => ?_)
    refine GL.nil (GN.seq (GC.exit (GX.blk (?_))))
    exact GN.nil (GR.none rfl rfl () rfl (Ent.cons _ (Ent.nil _)) trivial)

/-! in error -/
theorem RdE.open1 {g : Nat} {s : ByteArray} {d c : Int} {D : Nat → Prop} {w : World} {Hs : List HP} (h : Sat D w (RdE g s d c :: Hs)) : ∃ x, RdE2 s x ∧ Sat D w (RdE1 g s d c x ++ Hs) := Sat.open h

theorem grpE (g : Nat) (s : ByteArray) (num : Nat) (d c : Int) (w : World) (hd1 : -9223372036854775808 ≤ d) (hd2 : d ≤ 9223372036854775807) : Tri Tryz.prog 236 [ptr g, .int .i64 (num : Int)] [RdE g s d c] (fun _ : Unit => .tuple #[]) (fun _ => [RdE g s d c]) (fun _ => True) w := by
  refine Tri.open ?_
  rintro ⟨at_, u, q⟩ ⟨h0, h1, h2, t, u', rfl⟩
  refine tri_of_G 70 Tryz.func236 rfl Tryz.ntmps236 rfl (fun D => ?_)
  refine GC.seq (GC.seq (GC.region (GL.v (.move rfl) rfl (GL.v (.nilCheck rfl) rfl (GL.v (.fieldAddr rfl) rfl (GL.v (.ld 0 rfl rfl rfl) rfl (GL.v (.lss rfl rfl) rfl (GL.nil (GN.seq (?_))))))))))
  refine GC.condD rfl (fun hlt => ?_) (fun hlt => ?_)
  · refine GC.seq (GC.region (GL.v (.move rfl) rfl (GL.v (.move rfl) rfl (GL.v (.nilCheck rfl) rfl (GL.v (.fieldAddr rfl) rfl (GL.v (.ld 0 rfl rfl rfl) rfl (GL.v (.makeInterface rfl) rfl (?_))))))))
    refine GL.ent (Ent.close (Bs := RdE1 g s d c) (p := RdE2 s) (at_, .iface t u', q) ⟨h0, h1, h2, _, _, rfl⟩ []) ?_
    refine GL.call (As := [_]) rfl (fun w hst => failsE g s d c _ _ w) rfl (fun _ _ => ?_)
    refine GL.nil (GN.seq (GC.ret (?_)))
    exact GR.none rfl rfl () rfl (Ent.refl _) trivial
  · refine GC.skip (GN.seq (GC.seq (GC.region (GL.v (.move rfl) rfl (GL.v (.nilCheck rfl) rfl (GL.v (.fieldAddr rfl) rfl (GL.v (.ld 0 rfl rfl rfl) rfl (GL.v (.sub rfl rfl (i64_in _ (by omega))) rfl (GL.v (.nilCheck rfl) rfl (GL.v (.fieldAddr rfl) rfl (GL.w0 (.store 0 rfl rfl rfl rfl rfl rfl rfl) (fun _ _ => GL.nil (GN.seq (GC.seq (GC.block (?_))))))))))))))))
    refine GC.loop (γ := Unit) (fun _ => True) (fun _ => [(0, ptr g)]) (fun _ => RdE1 g s (d - 1) c (at_, .iface t u', q)) (fun _ => 0) () trivial (by repeat (first | exact Sub.nil _ | refine Sub.cons rfl ?_)) (by repeat (first | exact Ent.nil _ | (with_reducible exact Ent.refl _) | refine Ent.blk (by repeat (first | exact Sub.nil _ | refine Sub.cons rfl ?_)) ?_ | refine Ent.cons _ ?_ | refine Ent.trans (Ent.tail _ _) ?_)) ?_
    intro _ _
    refine GC.seq (GC.seq (GC.region (GL.v (.move rfl) rfl (GL.v (.nilCheck rfl) rfl (GL.v (.fieldAddr rfl) rfl (GL.v (.ld 0 rfl rfl rfl) rfl (GL.v (.eqlNil rfl (by first | exact .inl rfl | exact .inr ⟨_, _, rfl⟩ | assumption)) rfl (GL.nil (GN.seq (?_))))))))))
    refine GC.cond rfl (fun h => Bool.noConfusion (h.symm.trans (rfl) : true = false)) (fun _ => ?_)
    refine GC.exit (GX.seq (GX.loop (GX.blk (GN.seq (GC.region (GL.v (.move rfl) rfl (GL.v (.nilCheck rfl) rfl (GL.v (.fieldAddr rfl) rfl (GL.v (.ld 0 rfl rfl rfl) rfl (GL.v (.add (z := d) rfl rfl (by rw [i64_in _ (by omega)]; omega)) rfl (GL.v (.nilCheck rfl) rfl (GL.v (.fieldAddr rfl) rfl (GL.w0 (.store 0 rfl rfl rfl rfl rfl rfl rfl) (fun _ _ => GL.nil (?_)))))))))))))))
    exact GN.nil (GR.none rfl rfl () rfl (Ent.trans (by repeat (first | exact Ent.nil _ | (with_reducible exact Ent.refl _) | refine Ent.blk (by repeat (first | exact Sub.nil _ | refine Sub.cons rfl ?_)) ?_ | refine Ent.cons _ ?_ | refine Ent.trans (Ent.tail _ _) ?_)) (Ent.close (Bs := RdE1 g s d c) (p := RdE2 s) (at_, .iface t u', q) ⟨h0, h1, h2, _, _, rfl⟩ [])) trivial)

theorem restE (g : Nat) (s : ByteArray) (num kind rb : Nat) (at0 : Int) (d c : Int) (w : World) (hk : kind < 8) (hd1 : -9223372036854775808 ≤ d) (hd2 : d ≤ 9223372036854775807) : Tri Tryz.prog 213 [ptr g, ptr rb, .int .i64 at0] [RdE g s d c, RecB rb num kind 0 emptyS emptyS] (fun _ : Unit => .tuple #[]) (fun _ => [RdE g s d c]) (fun _ => True) w := by
  refine tri_of_G 53 Tryz.func213 rfl Tryz.ntmps213 rfl (fun D => ?_)
  refine GC.seq (GC.region (GL.v (.assign rfl) rfl (GL.nil (GN.seq (GC.seq (GC.region (GL.v (.move rfl) rfl (GL.v (.nilCheck rfl) rfl (GL.v (.fieldAddr rfl) rfl (GL.v (.ld 1 rfl rfl rfl) rfl (GL.nil (GN.seq (GC.block (GC.seq (GC.block (GC.seq (GC.block (GC.seq (GC.block (GC.seq (GC.block (GC.seq (GC.block (GC.seq (GC.block (GC.seq (GC.seq (GC.seq (GC.region (GL.v (.eql rfl rfl) rfl (GL.v (.assign rfl) rfl (GL.nil (GN.seq (?_))))))))))))))))))))))))))))))))))
  refine GC.condD rfl (fun k0 => ?_) (fun k0 => ?_)
  · refine GC.exit (GX.seq (GX.seq (GX.blk (GN.seq (GC.seq (GC.region (GL.v (.move rfl) rfl (GL.v (.move rfl) rfl (?_)))))))))
    refine GL.call (As := [_]) rfl (fun w hst => rvarintE g s d c w) rfl (fun _ _ => ?_)
    refine GL.v (.nilCheck rfl) rfl (GL.v (.fieldAddr rfl) rfl (GL.w0 (.store 1 rfl rfl rfl rfl rfl rfl rfl) (fun _ _ => GL.nil (GN.seq (GC.exit (GX.other rfl (GX.seq (GX.other rfl (GX.seq (GX.other rfl (GX.seq (GX.other rfl (GX.seq (GX.other rfl (GX.seq (GX.blk (?_)))))))))))))))))
    exact GN.nil (GR.none rfl rfl () rfl (Ent.cons _ (Ent.nil _)) trivial)
  · refine GC.skip (GN.seq (GC.seq (GC.seq (GC.region (GL.v (.eql rfl rfl) rfl (GL.v (.assign rfl) rfl (GL.nil (GN.seq (?_)))))))))
    refine GC.condD rfl (fun k1 => ?_) (fun k1 => ?_)
    · refine GC.exit (GX.seq (GX.seq (GX.other rfl (GX.seq (GX.blk (GN.seq (GC.region (GL.v (.move rfl) rfl (GL.v (.add rfl rfl (i64_in _ (by omega))) rfl (GL.v (.assign rfl) rfl (GL.nil (GN.blk (GN.seq (GC.seq (GC.seq (GC.region (GL.v (.move rfl) rfl (GL.v (.add rfl rfl (i64_in _ (by omega))) rfl (GL.v (.assign rfl) rfl (GL.nil (GN.seq (GC.region (GL.v (.move rfl) rfl (GL.v (.move rfl) rfl (GL.v (.move rfl) rfl (?_))))))))))))))))))))))))))
      refine GL.call (As := [_]) rfl (fun w hst => littleE g s 8 d c w (by omega)) rfl (fun _ _ => ?_)
      refine GL.v (.nilCheck rfl) rfl (GL.v (.fieldAddr rfl) rfl (GL.w0 (.store 1 rfl rfl rfl rfl rfl rfl rfl) (fun _ _ => GL.nil (GN.seq (GC.exit (GX.other rfl (GX.seq (GX.other rfl (GX.seq (GX.other rfl (GX.seq (GX.blk (?_)))))))))))))
      exact GN.nil (GR.none rfl rfl () rfl (Ent.cons _ (Ent.nil _)) trivial)
    · refine GC.skip (GN.seq (GC.seq (GC.seq (GC.region (GL.v (.eql rfl rfl) rfl (GL.v (.assign rfl) rfl (GL.nil (GN.seq (?_)))))))))
      refine GC.condD rfl (fun k5 => ?_) (fun k5 => ?_)
      · refine GC.exit (GX.seq (GX.seq (GX.other rfl (GX.seq (GX.other rfl (GX.seq (GX.blk (GN.seq (GC.seq (GC.seq (GC.region (GL.v (.move rfl) rfl (GL.v (.add rfl rfl (i64_in _ (by omega))) rfl (GL.v (.assign rfl) rfl (GL.nil (GN.seq (GC.region (GL.v (.move rfl) rfl (GL.v (.move rfl) rfl (GL.v (.move rfl) rfl (?_)))))))))))))))))))))
        refine GL.call (As := [_]) rfl (fun w hst => littleE g s 4 d c w (by omega)) rfl (fun _ _ => ?_)
        refine GL.v (.nilCheck rfl) rfl (GL.v (.fieldAddr rfl) rfl (GL.w0 (.store 1 rfl rfl rfl rfl rfl rfl rfl) (fun _ _ => GL.nil (GN.seq (GC.exit (GX.other rfl (GX.seq (GX.other rfl (GX.seq (GX.other rfl (GX.seq (GX.blk (?_)))))))))))))
        exact GN.nil (GR.none rfl rfl () rfl (Ent.cons _ (Ent.nil _)) trivial)
      · refine GC.skip (GN.seq (GC.seq (GC.seq (GC.region (GL.v (.eql rfl rfl) rfl (GL.v (.assign rfl) rfl (GL.nil (GN.seq (?_)))))))))
        refine GC.condD rfl (fun k2 => ?_) (fun k2 => ?_)
        · refine GC.exit (GX.seq (GX.seq (GX.other rfl (GX.seq (GX.other rfl (GX.seq (GX.other rfl (GX.seq (GX.blk (GN.seq (GC.seq (GC.region (GL.v (.move rfl) rfl (GL.v (.move rfl) rfl (GL.v (.move rfl) rfl (?_))))))))))))))))
          refine GL.call (As := [_]) rfl (fun w hst => rvarintE g s d c w) rfl (fun _ _ => ?_)
          refine GL.call (As := [_]) rfl (fun w hst => takeE g s 0 d c w) rfl (fun _ _ => ?_)
          refine GL.v (.nilCheck rfl) rfl (GL.v (.fieldAddr rfl) rfl (GL.w0 (.store 1 rfl rfl rfl rfl rfl rfl rfl) (fun _ _ => GL.nil (GN.seq (GC.exit (GX.other rfl (GX.seq (GX.other rfl (GX.seq (GX.blk (?_)))))))))))
          exact GN.nil (GR.none rfl rfl () rfl (Ent.cons _ (Ent.nil _)) trivial)
        · refine GC.skip (GN.seq (GC.seq (GC.region (GL.v (.eql rfl rfl) rfl (GL.v (.assign rfl) rfl (GL.nil (GN.seq (?_))))))))
          refine GC.condD rfl (fun k3 => ?_) (fun k3 => ?_)
          · refine GC.exit (GX.seq (GX.other rfl (GX.seq (GX.other rfl (GX.seq (GX.other rfl (GX.seq (GX.other rfl (GX.seq (GX.blk (GN.seq (GC.seq (GC.region (GL.v (.move rfl) rfl (GL.v (.move rfl) rfl (GL.v (.nilCheck rfl) rfl (GL.v (.fieldAddr rfl) rfl (GL.v (.ld 1 rfl rfl rfl) rfl (?_)))))))))))))))))))
            refine GL.call (As := [_]) rfl (fun w hst => grpE g s num d c w hd1 hd2) rfl (fun _ _ => ?_)
            refine GL.nil (GN.seq (GC.exit (GX.other rfl (GX.seq (GX.blk (?_))))))
            exact GN.nil (GR.none rfl rfl () rfl (Ent.cons _ (Ent.nil _)) trivial)
          · refine GC.skip (GN.seq (GC.exit (GX.other rfl (GX.seq (GX.other rfl (GX.seq (GX.other rfl (GX.seq (GX.other rfl (GX.seq (GX.other rfl (GX.seq (GX.blk (GN.seq (GC.seq (GC.region (GL.v (.move rfl) rfl (GL.v (.move rfl) rfl (GL.v (.makeInterface rfl) rfl (?_))))))))))))))))))))
            refine GL.call (As := [_]) rfl (fun w hst => failsE g s d c _ _ w) rfl (fun _ _ => ?_)
            refine GL.nil (GN.seq (GC.exit (GX.blk (?_))))
            exact GN.nil (GR.none rfl rfl () rfl (Ent.cons _ (Ent.nil _)) trivial)

/-! groups -/
def shE (j : Nat) : Except Int Nat → Except Int Nat
  | .ok k => .ok (j + k)
  | .error c => .error c
theorem grpM_step (d : Int) (num : Nat) (l : Bs) : grpM d num l = match tagM l with
  | .error c => .error c
  | .ok (n, kind, k) => if kind = 4 then (if n = num then .ok k else .error 3) else match restM d n kind (l.drop k) with
    | .error c => .error c
    | .ok (_, _, j) => shE (k + j) (grpM d num (l.drop (k + j))) := by
  rw [grpM]
  split
  · rename_i h; rw [h]
  · rename_i n kind k h
    rw [h]
    simp only
    split
    · rfl
    · split
      · rename_i h2; simp only [h2]
      · rename_i h2; simp only [h2]
        split <;> rename_i h3 <;> simp only [h3, shE]

theorem shE_shE (a b : Nat) (x : Except Int Nat) : shE a (shE b x) = shE (a + b) x := by cases x <;> simp [shE, Nat.add_assoc]
theorem shE_0 (x : Except Int Nat) : shE 0 x = x := by cases x <;> simp [shE]
def grpI (g : Nat) (s : ByteArray) (d : Int) : Nat ⊕ Int → List HP
  | .inl p => [RdO g s p d]
  | .inr c => [RdE g s d c]

theorem grp_of (g : Nat) (s : ByteArray) (m : Nat) (hs : s.size ≤ mx) (hr : ∀ m', m' < m → RestS g s m') : GrpS g s m := by
  intro at_ num d w ha hm hd1 hd2
  by_cases hd : d < 1
  · rw [if_pos hd]
    simp only [grpB]
    refine tri_of_G 70 Tryz.func236 rfl Tryz.ntmps236 rfl (fun D => ?_)
    refine GC.seq (GC.seq (GC.region (GL.v (.move rfl) rfl (GL.v (.nilCheck rfl) rfl (GL.v (.fieldAddr rfl) rfl (GL.v (.ld 0 rfl rfl rfl) rfl (GL.v (.lss rfl rfl) rfl (GL.nil (GN.seq (?_))))))))))
    refine GC.cond rfl (fun _ => ?_) (fun h => Bool.noConfusion (h.symm.trans (decide_eq_true (hd)) : false = true))
    refine GC.seq (GC.region (GL.v (.move rfl) rfl (GL.v (.move rfl) rfl (GL.v (.nilCheck rfl) rfl (GL.v (.fieldAddr rfl) rfl (GL.v (.ld 0 rfl rfl rfl) rfl (GL.v (.makeInterface rfl) rfl (?_))))))))
    refine GL.call (As := [_]) rfl (fun w hst => failsO g s at_ d 6 at_ w (by omega) (by omega) ha) rfl (fun _ _ => ?_)
    refine GL.nil (GN.seq (GC.ret (?_)))
    exact GR.none rfl rfl () rfl (Ent.refl _) trivial
  rw [if_neg hd]
  refine tri_of_G 70 Tryz.func236 rfl Tryz.ntmps236 rfl (fun D => ?_)
  refine GC.seq (GC.seq (GC.region (GL.v (.move rfl) rfl (GL.v (.nilCheck rfl) rfl (GL.v (.fieldAddr rfl) rfl (GL.v (.ld 0 rfl rfl rfl) rfl (GL.v (.lss rfl rfl) rfl (GL.nil (GN.seq (?_))))))))))
  refine GC.cond rfl (fun h => Bool.noConfusion (h.symm.trans (decide_eq_false (hd)) : true = false)) (fun _ => ?_)
  refine GC.skip (GN.seq (GC.seq (GC.region (GL.v (.move rfl) rfl (GL.v (.nilCheck rfl) rfl (GL.v (.fieldAddr rfl) rfl (GL.v (.ld 0 rfl rfl rfl) rfl (GL.v (.sub rfl rfl (i64_in _ (by omega))) rfl (GL.v (.nilCheck rfl) rfl (GL.v (.fieldAddr rfl) rfl (GL.w0 (.store 0 rfl rfl rfl rfl rfl rfl rfl) (fun _ _ => GL.nil (GN.seq (GC.seq (GC.block (?_))))))))))))))))
  refine GC.loop (γ := Nat ⊕ Int) (fun x => match x with | .inl p => at_ ≤ p ∧ p ≤ s.size ∧ grpM (d - 1) num ((bs s).drop at_) = shE (p - at_) (grpM (d - 1) num ((bs s).drop p)) | .inr c => grpM (d - 1) num ((bs s).drop at_) = .error c) (fun _ => [(0, ptr g), (1, .int .i64 (num : Int))]) (fun x => grpI g s (d - 1) x) (fun x => match x with | .inl p => s.size - p + 1 | .inr _ => 0) (.inl at_) ⟨Nat.le_refl _, ha, by rw [Nat.sub_self, shE_0]⟩ (by repeat (first | exact Sub.nil _ | refine Sub.cons rfl ?_)) (by repeat (first | exact Ent.nil _ | (with_reducible exact Ent.refl _) | refine Ent.blk (by repeat (first | exact Sub.nil _ | refine Sub.cons rfl ?_)) ?_ | refine Ent.cons _ ?_ | refine Ent.trans (Ent.tail _ _) ?_)) ?_
  rintro (p | c) hp
  · obtain ⟨hp1, hp2, hp3⟩ := hp
    simp only [grpI]
    have hlp : ((bs s).drop p).length = s.size - p := by rw [List.length_drop, bs_length]
    rcases ht : tagM ((bs s).drop p) with c | ⟨n, kind, k⟩
    · skip
      refine GC.seq (GC.seq (GC.region (GL.v (.move rfl) rfl (GL.v (.nilCheck rfl) rfl (GL.v (.fieldAddr rfl) rfl (GL.v (.ld 0 rfl rfl rfl) rfl (GL.v (.eqlNil rfl (by first | exact .inl rfl | exact .inr ⟨_, _, rfl⟩ | assumption)) rfl (GL.nil (GN.seq (?_))))))))))
      refine GC.cond rfl (fun _ => ?_) (fun h => Bool.noConfusion (h.symm.trans (rfl) : false = true))
      refine GC.skip (GN.seq (GC.block (GC.seq (GC.region (GL.v (.move rfl) rfl (GL.v (.nilCheck rfl) rfl (GL.v (.fieldAddr rfl) rfl (GL.v (.ld 0 rfl rfl rfl) rfl (GL.v (.assign rfl) rfl (GL.nil (GN.seq (GC.seq (GC.region (GL.v (.move rfl) rfl (?_)))))))))))))))
      refine GL.call (As := [_]) rfl (fun w hst => tag_bad g s p c (d - 1) w hs hp2 ht) rfl (fun x hx => ?_)
      refine GL.open ?_
      rintro ⟨at2, u, q⟩ ⟨h0, h1, h2, t, u', rfl⟩
      refine GL.v (.move rfl) rfl (GL.v (.extract rfl rfl) rfl (GL.v (.extract rfl rfl) rfl (GL.v (.assign rfl) rfl (GL.v (.assign rfl) rfl (GL.nil (GN.seq (GC.seq (GC.seq (GC.region (GL.v (.move rfl) rfl (GL.v (.nilCheck rfl) rfl (GL.v (.fieldAddr rfl) rfl (GL.v (.ld 0 rfl rfl rfl) rfl (GL.v (.eqlNil rfl (by first | exact .inl rfl | exact .inr ⟨_, _, rfl⟩ | assumption)) rfl (GL.v (.move rfl) rfl (?_))))))))))))))))
      refine GL.part 45 rfl (fun h => by cases h) (fun h => ?_)
      refine GL.sg rfl rfl rfl rfl (GL.sg rfl rfl rfl rfl (GL.v (.pickF rfl rfl) rfl (GL.nil (GN.seq (GC.cond rfl (fun h => by first | (have := of_decide_eq_false h; contradiction) | (have := of_decide_eq_true h; contradiction) | (cases h; done)) (fun _ => ?_))))))
      refine GC.skip (GN.seq (GC.region (GL.v (.move rfl) rfl (GL.v (.move rfl) rfl (GL.v (.move rfl) rfl (GL.v (.build (cs := [_, _, _, _, _]) rfl rfl) rfl (GL.w (.box rfl rfl) rfl (fun b60 _ => GL.v (.move rfl) rfl (?_)))))))))
      refine GL.ent (Hs' := [RdE g s (d - 1) c, RecB _ x.1 x.2 0 emptyS emptyS]) ((Ent.swap _ _ _).trans ((Ent.cons _ (Ent.swap _ _ _)).trans ((Ent.close (Bs := RdE1 g s (d - 1) c) (p := RdE2 s) (at2, .iface t u', q) ⟨h0, h1, h2, _, _, rfl⟩ _).trans (Ent.cons _ (Ent.blk (by repeat (first | exact Sub.nil _ | refine Sub.cons rfl ?_)) (Ent.refl _)))))) ?_
      refine GL.call (As := [_, _]) rfl (fun w hst => restE g s x.1 x.2 _ _ (d - 1) c w hx (by omega) (by omega)) rfl (fun _ _ => ?_)
      refine GL.nil (GN.blk (?_))
      refine GN.loop (.inr c) ?_ (by simp) (by repeat (first | exact Sub.nil _ | refine Sub.cons rfl ?_)) (Ent.refl _)
      simp only
      rw [hp3, grpM_step, ht]; rfl
    · have hk := tagM_ok ht
      by_cases h4 : kind = 4
      · subst h4
        by_cases hn : n = num
        · subst hn
          refine GC.seq (GC.seq (GC.region (GL.v (.move rfl) rfl (GL.v (.nilCheck rfl) rfl (GL.v (.fieldAddr rfl) rfl (GL.v (.ld 0 rfl rfl rfl) rfl (GL.v (.eqlNil rfl (by first | exact .inl rfl | exact .inr ⟨_, _, rfl⟩ | assumption)) rfl (GL.nil (GN.seq (?_))))))))))
          refine GC.cond rfl (fun _ => ?_) (fun h => Bool.noConfusion (h.symm.trans (rfl) : false = true))
          refine GC.skip (GN.seq (GC.block (GC.seq (GC.region (GL.v (.move rfl) rfl (GL.v (.nilCheck rfl) rfl (GL.v (.fieldAddr rfl) rfl (GL.v (.ld 0 rfl rfl rfl) rfl (GL.v (.assign rfl) rfl (GL.nil (GN.seq (GC.seq (GC.region (GL.v (.move rfl) rfl (?_)))))))))))))))
          refine GL.call (As := [_]) rfl (fun w hst => tag_ok g s p n 4 k (d - 1) w hs hp2 ht) rfl (fun _ _ => ?_)
          refine GL.v (.move rfl) rfl (GL.v (.extract rfl rfl) rfl (GL.v (.extract rfl rfl) rfl (GL.v (.assign rfl) rfl (GL.v (.assign rfl) rfl (GL.nil (GN.seq (GC.seq (GC.seq (GC.region (GL.v (.move rfl) rfl (GL.v (.nilCheck rfl) rfl (GL.v (.fieldAddr rfl) rfl (GL.v (.ld 0 rfl rfl rfl) rfl (GL.v (.eqlNil rfl (by first | exact .inl rfl | exact .inr ⟨_, _, rfl⟩ | assumption)) rfl (GL.v (.move rfl) rfl (?_))))))))))))))))
          refine GL.part 45 rfl (fun h => ?_) (fun h => by cases h)
          refine GL.vg rfl rfl (.move rfl) rfl (GL.vg rfl rfl (.eql rfl rfl) rfl (GL.v (.pickT rfl rfl) rfl (GL.nil (GN.seq (?_)))))
          refine GC.cond rfl (fun _ => ?_) (fun h => Bool.noConfusion (h.symm.trans (decide_eq_true (rfl)) : false = true))
          refine GC.seq (GC.seq (GC.region (GL.v (.move rfl) rfl (GL.v (.move rfl) rfl (GL.v (.neq rfl rfl) rfl (GL.nil (GN.seq (?_))))))))
          refine GC.cond rfl (fun h => Bool.noConfusion (h.symm.trans (decide_eq_false ((by omega))) : true = false)) (fun _ => ?_)
          refine GC.skip (GN.seq (GC.exit (GX.seq (GX.other rfl (GX.loop (GX.blk (GN.seq (GC.region (GL.v (.move rfl) rfl (GL.v (.nilCheck rfl) rfl (GL.v (.fieldAddr rfl) rfl (GL.v (.ld 0 rfl rfl rfl) rfl (GL.v (.add (z := d) rfl rfl (by rw [i64_in _ (by omega)]; omega)) rfl (GL.v (.nilCheck rfl) rfl (GL.v (.fieldAddr rfl) rfl (GL.w0 (.store 0 rfl rfl rfl rfl rfl rfl rfl) (fun _ _ => GL.nil (?_))))))))))))))))))
          refine GN.nil (GR.none rfl rfl () rfl ?_ trivial)
          rw [hp3, grpM_step, ht]
          simp only [if_true, shE, grpB]
          rw [show ((at_ + (p - at_ + k) : Nat) : Int) = (p : Int) + (k : Int) by omega]
          exact (by repeat (first | exact Ent.nil _ | (with_reducible exact Ent.refl _) | refine Ent.blk (by repeat (first | exact Sub.nil _ | refine Sub.cons rfl ?_)) ?_ | refine Ent.cons _ ?_ | refine Ent.trans (Ent.tail _ _) ?_))
        · skip
          refine GC.seq (GC.seq (GC.region (GL.v (.move rfl) rfl (GL.v (.nilCheck rfl) rfl (GL.v (.fieldAddr rfl) rfl (GL.v (.ld 0 rfl rfl rfl) rfl (GL.v (.eqlNil rfl (by first | exact .inl rfl | exact .inr ⟨_, _, rfl⟩ | assumption)) rfl (GL.nil (GN.seq (?_))))))))))
          refine GC.cond rfl (fun _ => ?_) (fun h => Bool.noConfusion (h.symm.trans (rfl) : false = true))
          refine GC.skip (GN.seq (GC.block (GC.seq (GC.region (GL.v (.move rfl) rfl (GL.v (.nilCheck rfl) rfl (GL.v (.fieldAddr rfl) rfl (GL.v (.ld 0 rfl rfl rfl) rfl (GL.v (.assign rfl) rfl (GL.nil (GN.seq (GC.seq (GC.region (GL.v (.move rfl) rfl (?_)))))))))))))))
          refine GL.call (As := [_]) rfl (fun w hst => tag_ok g s p n 4 k (d - 1) w hs hp2 ht) rfl (fun _ _ => ?_)
          refine GL.v (.move rfl) rfl (GL.v (.extract rfl rfl) rfl (GL.v (.extract rfl rfl) rfl (GL.v (.assign rfl) rfl (GL.v (.assign rfl) rfl (GL.nil (GN.seq (GC.seq (GC.seq (GC.region (GL.v (.move rfl) rfl (GL.v (.nilCheck rfl) rfl (GL.v (.fieldAddr rfl) rfl (GL.v (.ld 0 rfl rfl rfl) rfl (GL.v (.eqlNil rfl (by first | exact .inl rfl | exact .inr ⟨_, _, rfl⟩ | assumption)) rfl (GL.v (.move rfl) rfl (?_))))))))))))))))
          refine GL.part 45 rfl (fun h => ?_) (fun h => by cases h)
          refine GL.vg rfl rfl (.move rfl) rfl (GL.vg rfl rfl (.eql rfl rfl) rfl (GL.v (.pickT rfl rfl) rfl (GL.nil (GN.seq (?_)))))
          refine GC.cond rfl (fun _ => ?_) (fun h => Bool.noConfusion (h.symm.trans (decide_eq_true (rfl)) : false = true))
          refine GC.seq (GC.seq (GC.region (GL.v (.move rfl) rfl (GL.v (.move rfl) rfl (GL.v (.neq rfl rfl) rfl (GL.nil (GN.seq (?_))))))))
          refine GC.cond rfl (fun _ => ?_) (fun h => Bool.noConfusion (h.symm.trans (decide_eq_true ((by omega))) : false = true))
          refine GC.region (GL.v (.move rfl) rfl (GL.v (.move rfl) rfl (GL.v (.makeInterface rfl) rfl (?_))))
          refine GL.call (As := [_]) rfl (fun w hst => failsO g s _ (d - 1) 3 p w (by omega) (by omega) hp2) rfl (fun _ _ => ?_)
          refine GL.open ?_
          rintro ⟨at2, u, q⟩ ⟨h0, h1, h2, t, u', rfl⟩
          refine GL.nil (GN.seq (GC.exit (GX.seq (GX.other rfl (GX.loop (GX.blk (GN.seq (GC.region (GL.v (.move rfl) rfl (GL.v (.nilCheck rfl) rfl (GL.v (.fieldAddr rfl) rfl (GL.v (.ld 0 rfl rfl rfl) rfl (GL.v (.add (z := d) rfl rfl (by rw [i64_in _ (by omega)]; omega)) rfl (GL.v (.nilCheck rfl) rfl (GL.v (.fieldAddr rfl) rfl (GL.w0 (.store 0 rfl rfl rfl rfl rfl rfl rfl) (fun _ _ => GL.nil (?_))))))))))))))))))
          refine GN.nil (GR.none rfl rfl () rfl ?_ trivial)
          rw [hp3, grpM_step, ht]
          simp only [if_true, if_neg hn, shE, grpB]
          exact Ent.trans (by repeat (first | exact Ent.nil _ | (with_reducible exact Ent.refl _) | refine Ent.blk (by repeat (first | exact Sub.nil _ | refine Sub.cons rfl ?_)) ?_ | refine Ent.cons _ ?_ | refine Ent.trans (Ent.tail _ _) ?_)) (Ent.close (Bs := RdE1 g s d 3) (p := RdE2 s) (at2, .iface t u', q) ⟨h0, h1, h2, _, _, rfl⟩ [])
      · have hrr := hr (s.size - (p + k)) (by omega) (p + k) n kind p
        have hcast : ((p + k : Nat) : Int) = (p : Int) + (k : Int) := by omega
        rw [hcast] at hrr
        rcases hq : restM (d - 1) n kind ((bs s).drop (p + k)) with c | ⟨n', S, j⟩
        · rw [← List.drop_drop] at hq
          refine GC.seq (GC.seq (GC.region (GL.v (.move rfl) rfl (GL.v (.nilCheck rfl) rfl (GL.v (.fieldAddr rfl) rfl (GL.v (.ld 0 rfl rfl rfl) rfl (GL.v (.eqlNil rfl (by first | exact .inl rfl | exact .inr ⟨_, _, rfl⟩ | assumption)) rfl (GL.nil (GN.seq (?_))))))))))
          refine GC.cond rfl (fun _ => ?_) (fun h => Bool.noConfusion (h.symm.trans (rfl) : false = true))
          refine GC.skip (GN.seq (GC.block (GC.seq (GC.region (GL.v (.move rfl) rfl (GL.v (.nilCheck rfl) rfl (GL.v (.fieldAddr rfl) rfl (GL.v (.ld 0 rfl rfl rfl) rfl (GL.v (.assign rfl) rfl (GL.nil (GN.seq (GC.seq (GC.region (GL.v (.move rfl) rfl (?_)))))))))))))))
          refine GL.call (As := [_]) rfl (fun w hst => tag_ok g s p n kind k (d - 1) w hs hp2 ht) rfl (fun _ _ => ?_)
          refine GL.v (.move rfl) rfl (GL.v (.extract rfl rfl) rfl (GL.v (.extract rfl rfl) rfl (GL.v (.assign rfl) rfl (GL.v (.assign rfl) rfl (GL.nil (GN.seq (GC.seq (GC.seq (GC.region (GL.v (.move rfl) rfl (GL.v (.nilCheck rfl) rfl (GL.v (.fieldAddr rfl) rfl (GL.v (.ld 0 rfl rfl rfl) rfl (GL.v (.eqlNil rfl (by first | exact .inl rfl | exact .inr ⟨_, _, rfl⟩ | assumption)) rfl (GL.v (.move rfl) rfl (?_))))))))))))))))
          refine GL.part 45 rfl (fun h => ?_) (fun h => by cases h)
          refine GL.vg rfl rfl (.move rfl) rfl (GL.vg rfl rfl (.eql rfl rfl) rfl (GL.v (.pickT rfl rfl) rfl (GL.nil (GN.seq (?_)))))
          refine GC.cond rfl (fun h => Bool.noConfusion (h.symm.trans (decide_eq_false ((by omega))) : true = false)) (fun _ => ?_)
          refine GC.skip (GN.seq (GC.region (GL.v (.move rfl) rfl (GL.v (.move rfl) rfl (GL.v (.move rfl) rfl (GL.v (.build (cs := [_, _, _, _, _]) rfl rfl) rfl (GL.w (.box rfl rfl) rfl (fun b60 _ => GL.v (.move rfl) rfl (?_)))))))))
          refine GL.ent (Hs' := [RdO g s ((p : Int) + (k : Int)) (d - 1), RecB _ n kind 0 emptyS emptyS]) ((Ent.swap _ _ _).trans (Ent.cons _ (Ent.blk (by repeat (first | exact Sub.nil _ | refine Sub.cons rfl ?_)) (Ent.refl _)))) ?_
          refine GL.call (As := [_, _]) rfl (fun w hst => hrr _ (d - 1) w (by omega) (Nat.le_refl _) hp2 (by omega) (by omega)) rfl (fun _ _ => ?_)
          refine GL.nil (GN.blk (?_))
          rw [← List.drop_drop, hq]
          refine GN.loop (.inr c) ?_ (by simp) (by repeat (first | exact Sub.nil _ | refine Sub.cons rfl ?_)) (Ent.refl _)
          simp only
          rw [hp3, grpM_step, ht]
          simp only [if_neg h4, hq, shE]
        · have hjl := (restM_le _ _ (Nat.le_refl _)).1 _ _ _ _ _ _ hq
          rw [← List.drop_drop] at hq
          rw [List.length_drop, bs_length] at hjl
          refine GC.seq (GC.seq (GC.region (GL.v (.move rfl) rfl (GL.v (.nilCheck rfl) rfl (GL.v (.fieldAddr rfl) rfl (GL.v (.ld 0 rfl rfl rfl) rfl (GL.v (.eqlNil rfl (by first | exact .inl rfl | exact .inr ⟨_, _, rfl⟩ | assumption)) rfl (GL.nil (GN.seq (?_))))))))))
          refine GC.cond rfl (fun _ => ?_) (fun h => Bool.noConfusion (h.symm.trans (rfl) : false = true))
          refine GC.skip (GN.seq (GC.block (GC.seq (GC.region (GL.v (.move rfl) rfl (GL.v (.nilCheck rfl) rfl (GL.v (.fieldAddr rfl) rfl (GL.v (.ld 0 rfl rfl rfl) rfl (GL.v (.assign rfl) rfl (GL.nil (GN.seq (GC.seq (GC.region (GL.v (.move rfl) rfl (?_)))))))))))))))
          refine GL.call (As := [_]) rfl (fun w hst => tag_ok g s p n kind k (d - 1) w hs hp2 ht) rfl (fun _ _ => ?_)
          refine GL.v (.move rfl) rfl (GL.v (.extract rfl rfl) rfl (GL.v (.extract rfl rfl) rfl (GL.v (.assign rfl) rfl (GL.v (.assign rfl) rfl (GL.nil (GN.seq (GC.seq (GC.seq (GC.region (GL.v (.move rfl) rfl (GL.v (.nilCheck rfl) rfl (GL.v (.fieldAddr rfl) rfl (GL.v (.ld 0 rfl rfl rfl) rfl (GL.v (.eqlNil rfl (by first | exact .inl rfl | exact .inr ⟨_, _, rfl⟩ | assumption)) rfl (GL.v (.move rfl) rfl (?_))))))))))))))))
          refine GL.part 45 rfl (fun h => ?_) (fun h => by cases h)
          refine GL.vg rfl rfl (.move rfl) rfl (GL.vg rfl rfl (.eql rfl rfl) rfl (GL.v (.pickT rfl rfl) rfl (GL.nil (GN.seq (?_)))))
          refine GC.cond rfl (fun h => Bool.noConfusion (h.symm.trans (decide_eq_false ((by omega))) : true = false)) (fun _ => ?_)
          refine GC.skip (GN.seq (GC.region (GL.v (.move rfl) rfl (GL.v (.move rfl) rfl (GL.v (.move rfl) rfl (GL.v (.build (cs := [_, _, _, _, _]) rfl rfl) rfl (GL.w (.box rfl rfl) rfl (fun b60 _ => GL.v (.move rfl) rfl (?_)))))))))
          refine GL.ent (Hs' := [RdO g s ((p : Int) + (k : Int)) (d - 1), RecB _ n kind 0 emptyS emptyS]) ((Ent.swap _ _ _).trans (Ent.cons _ (Ent.blk (by repeat (first | exact Sub.nil _ | refine Sub.cons rfl ?_)) (Ent.refl _)))) ?_
          refine GL.call (As := [_, _]) rfl (fun w hst => hrr _ (d - 1) w (by omega) (Nat.le_refl _) hp2 (by omega) (by omega)) rfl (fun _ _ => ?_)
          refine GL.nil (GN.blk (?_))
          rw [← List.drop_drop, hq]
          refine GN.loop (.inl (p + k + j)) ?_ (by simp only; omega) (by repeat (first | exact Sub.nil _ | refine Sub.cons rfl ?_)) (Ent.cons _ (Ent.nil _))
          refine ⟨by omega, by omega, ?_⟩
          rw [hp3, grpM_step, ht]
          simp only [if_neg h4, hq, shE_shE]
          rw [List.drop_drop]
          congr 1
          · omega
          · congr 2; omega
  · simp only [grpI]
    refine GC.open ?_
    rintro ⟨at2, u, q⟩ ⟨h0, h1, h2, t, u', rfl⟩
    refine GC.seq (GC.seq (GC.region (GL.v (.move rfl) rfl (GL.v (.nilCheck rfl) rfl (GL.v (.fieldAddr rfl) rfl (GL.v (.ld 0 rfl rfl rfl) rfl (GL.v (.eqlNil rfl (by first | exact .inl rfl | exact .inr ⟨_, _, rfl⟩ | assumption)) rfl (GL.nil (GN.seq (?_))))))))))
    refine GC.cond rfl (fun h => Bool.noConfusion (h.symm.trans (rfl) : true = false)) (fun _ => ?_)
    refine GC.exit (GX.seq (GX.loop (GX.blk (GN.seq (GC.region (GL.v (.move rfl) rfl (GL.v (.nilCheck rfl) rfl (GL.v (.fieldAddr rfl) rfl (GL.v (.ld 0 rfl rfl rfl) rfl (GL.v (.add (z := d) rfl rfl (by rw [i64_in _ (by omega)]; omega)) rfl (GL.v (.nilCheck rfl) rfl (GL.v (.fieldAddr rfl) rfl (GL.w0 (.store 0 rfl rfl rfl rfl rfl rfl rfl) (fun _ _ => GL.nil (?_)))))))))))))))
    refine GN.nil (GR.none rfl rfl () rfl ?_ trivial)
    simp only at hp
    rw [hp]
    simp only [grpB]
    exact Ent.trans (by repeat (first | exact Ent.nil _ | (with_reducible exact Ent.refl _) | refine Ent.blk (by repeat (first | exact Sub.nil _ | refine Sub.cons rfl ?_)) ?_ | refine Ent.cons _ ?_ | refine Ent.trans (Ent.tail _ _) ?_)) (Ent.close (Bs := RdE1 g s d c) (p := RdE2 s) (at2, .iface t u', q) ⟨h0, h1, h2, _, _, rfl⟩ [])

theorem grp_all (g : Nat) (s : ByteArray) (hs : s.size ≤ mx) : ∀ m, GrpS g s m ∧ RestS g s m := by
  intro m
  induction m using Nat.strongRecOn with
  | _ m ih =>
    have hg := grp_of g s m hs fun m' h => (ih m' h).2
    exact ⟨hg, rest_of g s m hs hg⟩

end Go.Proofs.Gw
/- Contracts of package wire: one record, all records. -/
set_option linter.unusedVariables false
set_option linter.unusedSimpArgs false
namespace Go.Proofs.Gw
open Go Go.RowKit Go.IntWalk Go.Proofs.Gm

/-- A record's cells. -/
def recC (r : Rec) : List Value := [.int .i64 (r.num : Int), .int .i64 (r.kind : Int), .int .u64 (r.n : Int), .string (mkS r.s), .string (mkS r.raw)]
def rec0 : List Value := [.int .i64 0, .int .i64 0, .int .u64 0, .string emptyS, .string emptyS]

theorem record_ok (g : Nat) (s : ByteArray) (at_ k : Nat) (r : Rec) (d : Int) (w : World) (hs : s.size ≤ mx) (ha : at_ ≤ s.size) (hd1 : -9223372036854775808 ≤ d) (hd2 : d ≤ 9223372036854775807) (hv : recM d ((bs s).drop at_) = .ok (r, k)) :
    Tri Tryz.prog 179 [ptr g] [RdO g s at_ d] (fun _ : Unit => .agg (recC r).toArray) (fun _ => [RdO g s ((at_ + k : Nat) : Int) d]) (fun _ => True) w := by
  have hk := recM_ok hv
  unfold recM at hv
  split at hv
  · cases hv
  · rename_i num kind j ht
    split at hv
    · cases hv
    · rename_i n S i hr
      simp only [Except.ok.injEq, Prod.mk.injEq] at hv
      obtain ⟨rfl, rfl⟩ := hv
      have hj := tagM_ok ht
      have hlp : ((bs s).drop at_).length = s.size - at_ := by rw [List.length_drop, bs_length]
      have hrr := fun rb w => (grp_all g s hs _).2 (at_ + j) num kind at_ rb d w (by omega) (Nat.le_refl _) ha hd1 hd2
      rw [← List.drop_drop, hr] at hrr
      simp only [restB] at hrr
      have hcast : ((at_ + j : Nat) : Int) = (at_ : Int) + (j : Int) := by omega
      rw [hcast] at hrr
      refine tri_of_G 42 Tryz.func179 rfl Tryz.ntmps179 rfl (fun D => ?_)
      refine GC.seq (GC.region (GL.w .alloc rfl (fun b2 _ => GL.nil (GN.seq (GC.seq (GC.region (GL.v (.move rfl) rfl (GL.v (.nilCheck rfl) rfl (GL.v (.fieldAddr rfl) rfl (GL.v (.ld 1 rfl rfl rfl) rfl (GL.v (.assign rfl) rfl (GL.nil (GN.seq (GC.seq (GC.region (GL.w .alloc rfl (fun b4 _ => GL.nil (GN.seq (GC.seq (GC.region (GL.v (.move rfl) rfl (?_))))))))))))))))))))))
      refine GL.ent (Ent.front 2 _ _ rfl) ?_
      refine GL.call (As := [_]) rfl (fun w hst => tag_ok g s at_ num kind j d w hs ha ht) rfl (fun _ _ => ?_)
      refine GL.v (.move rfl) rfl (GL.v (.extract rfl rfl) rfl (GL.v (.extract rfl rfl) rfl (GL.v (.fieldAddr rfl) rfl (GL.w0 (.store 1 rfl rfl rfl rfl rfl rfl rfl) (fun _ _ => GL.v (.fieldAddr rfl) rfl (GL.w0 (.store 1 rfl rfl rfl rfl rfl rfl rfl) (fun _ _ => GL.nil (GN.seq (GC.seq (GC.seq (GC.region (GL.v (.move rfl) rfl (GL.v (.nilCheck rfl) rfl (GL.v (.fieldAddr rfl) rfl (GL.v (.ld 0 rfl rfl rfl) rfl (GL.v (.eqlNil rfl (by first | exact .inl rfl | exact .inr ⟨_, _, rfl⟩ | assumption)) rfl (GL.nil (GN.seq (?_)))))))))))))))))))
      refine GC.cond rfl (fun _ => ?_) (fun h => Bool.noConfusion (h.symm.trans (rfl) : false = true))
      refine GC.region (GL.v (.move rfl) rfl (GL.v (.move rfl) rfl (?_)))
      refine GL.ent (Ent.front 1 _ _ rfl) ?_
      refine GL.ent (Ent.front 1 _ _ rfl) ?_
      refine GL.ent (Hs' := [RdO g s ((at_ : Int) + (j : Int)) d, RecB _ num kind 0 emptyS emptyS, _]) (Ent.cons _ (Ent.blk (by repeat (first | exact Sub.nil _ | refine Sub.cons rfl ?_)) (Ent.refl _))) ?_
      refine GL.call (As := [_, _]) rfl (fun w hst => hrr _ w) rfl (fun _ _ => ?_)
      refine GL.nil (GN.seq (GC.seq (GC.seq (GC.region (GL.v (.move rfl) rfl (GL.v (.nilCheck rfl) rfl (GL.v (.fieldAddr rfl) rfl (GL.v (.ld 0 rfl rfl rfl) rfl (GL.v (.neqNil rfl (by first | exact .inl rfl | exact .inr ⟨_, _, rfl⟩ | assumption)) rfl (GL.nil (GN.seq (?_))))))))))))
      refine GC.cond rfl (fun h => Bool.noConfusion (h.symm.trans (rfl) : true = false)) (fun _ => ?_)
      refine GC.skip (GN.seq (GC.seq (?_)))
      refine GC.draw ([RdO g s ((at_ : Int) + (j : Int) + (i : Int)) d]) (m := 12) rfl (by repeat (first | exact Ent.refl _ | exact Ent.nil _ | refine Ent.cons _ ?_ | refine Ent.trans (Ent.tail _ _) ?_)) ?_
      refine GA.take 0 rfl (by kernel_rfl) (by kernel_rfl) (by kernel_rfl) (.move rfl) rfl (GA.take 1 rfl (by kernel_rfl) (by kernel_rfl) (by kernel_rfl) (.nilCheck rfl) rfl (GA.take 2 rfl (by kernel_rfl) (by kernel_rfl) (by kernel_rfl) (.fieldAddr rfl) rfl (GA.take 3 rfl (by kernel_rfl) (by kernel_rfl) (by kernel_rfl) (.ld 0 rfl rfl rfl) rfl (GA.take 4 rfl (by kernel_rfl) (by kernel_rfl) (by kernel_rfl) (.move rfl) rfl (GA.take 5 rfl (by kernel_rfl) (by kernel_rfl) (by kernel_rfl) (.move rfl) rfl (GA.take 6 rfl (by kernel_rfl) (by kernel_rfl) (by kernel_rfl) (.nilCheck rfl) rfl (GA.take 7 rfl (by kernel_rfl) (by kernel_rfl) (by kernel_rfl) (.fieldAddr rfl) rfl (GA.take 8 rfl (by kernel_rfl) (by kernel_rfl) (by kernel_rfl) (.ld 0 rfl rfl rfl) rfl (GA.take 9 rfl (by kernel_rfl) (by kernel_rfl) (by kernel_rfl) (.sliceS rfl rfl rfl (by omega) (by omega) (by omega)) rfl (GA.take 10 rfl (by kernel_rfl) (by kernel_rfl) (by kernel_rfl) (.fieldAddr rfl) rfl (?_)))))))))))
      refine GA.one 11 (by kernel_rfl) (GAi.w0 rfl (.store 1 rfl rfl rfl rfl rfl rfl rfl) (fun _ _ => (Ent.cons _ (Ent.nil _))) (fun _ _ => ?_))
      refine GA.done (by kernel_rfl) (?_)
      refine GN.seq (GC.seq (GC.region (GL.v (.ldN 1 [_, _, _, _, _] rfl rfl rfl ⟨rfl, rfl, rfl, rfl, rfl, trivial⟩) rfl (GL.w0 (.store 2 rfl rfl rfl rfl rfl rfl rfl) (fun _ _ => GL.nil (GN.seq (GC.ret (?_))))))))
      have e : s.extract ((at_ : Int)).toNat ((at_ : Int) + (j : Int) + (i : Int)).toNat = mkS (((bs s).drop at_).take (j + i)) := by
        rw [← extract_mkS]; congr 1
        omega
      rw [e]
      have e2 : ((at_ + (j + i) : Nat) : Int) = (at_ : Int) + (j : Int) + (i : Int) := by omega
      rw [e2]
      exact GR.cell1 2 (recC ⟨num, kind, n, S, ((bs s).drop at_).take (j + i)⟩) rfl rfl rfl rfl rfl ⟨rfl, rfl, rfl, rfl, rfl, trivial⟩ () rfl (Ent.cons _ (Ent.nil _)) trivial

theorem record_err (g : Nat) (s : ByteArray) (at_ : Nat) (c d : Int) (w : World) (hs : s.size ≤ mx) (ha : at_ ≤ s.size) (hd1 : -9223372036854775808 ≤ d) (hd2 : d ≤ 9223372036854775807) (hv : recM d ((bs s).drop at_) = .error c) :
    Tri Tryz.prog 179 [ptr g] [RdO g s at_ d] (fun _ : Unit => .agg rec0.toArray) (fun _ => [RdE g s d c]) (fun _ => True) w := by
  unfold recM at hv
  split at hv
  · rename_i c' ht
    cases hv
    refine tri_of_G 42 Tryz.func179 rfl Tryz.ntmps179 rfl (fun D => ?_)
    refine GC.seq (GC.region (GL.w .alloc rfl (fun b2 _ => GL.nil (GN.seq (GC.seq (GC.region (GL.v (.move rfl) rfl (GL.v (.nilCheck rfl) rfl (GL.v (.fieldAddr rfl) rfl (GL.v (.ld 1 rfl rfl rfl) rfl (GL.v (.assign rfl) rfl (GL.nil (GN.seq (GC.seq (GC.region (GL.w .alloc rfl (fun b4 _ => GL.nil (GN.seq (GC.seq (GC.region (GL.v (.move rfl) rfl (?_))))))))))))))))))))))
    refine GL.ent (Ent.front 2 _ _ rfl) ?_
    refine GL.call (As := [_]) rfl (fun w hst => tag_bad g s at_ c d w hs ha ht) rfl (fun _ _ => ?_)
    refine GL.open ?_
    rintro ⟨at2, u, q⟩ ⟨h0, h1, h2, t, u', rfl⟩
    refine GL.v (.move rfl) rfl (GL.v (.extract rfl rfl) rfl (GL.v (.extract rfl rfl) rfl (GL.v (.fieldAddr rfl) rfl (GL.w0 (.store 2 rfl rfl rfl rfl rfl rfl rfl) (fun _ _ => GL.v (.fieldAddr rfl) rfl (GL.w0 (.store 2 rfl rfl rfl rfl rfl rfl rfl) (fun _ _ => GL.nil (GN.seq (GC.seq (GC.seq (GC.region (GL.v (.move rfl) rfl (GL.v (.nilCheck rfl) rfl (GL.v (.fieldAddr rfl) rfl (GL.v (.ld 0 rfl rfl rfl) rfl (GL.v (.eqlNil rfl (by first | exact .inl rfl | exact .inr ⟨_, _, rfl⟩ | assumption)) rfl (GL.nil (GN.seq (?_)))))))))))))))))))
    refine GC.cond rfl (fun h => Bool.noConfusion (h.symm.trans (rfl) : true = false)) (fun _ => ?_)
    refine GC.skip (GN.seq (GC.seq (GC.seq (GC.region (GL.v (.move rfl) rfl (GL.v (.nilCheck rfl) rfl (GL.v (.fieldAddr rfl) rfl (GL.v (.ld 0 rfl rfl rfl) rfl (GL.v (.neqNil rfl (by first | exact .inl rfl | exact .inr ⟨_, _, rfl⟩ | assumption)) rfl (GL.nil (GN.seq (?_))))))))))))
    refine GC.cond rfl (fun _ => ?_) (fun h => Bool.noConfusion (h.symm.trans (rfl) : false = true))
    refine GC.seq (GC.region (GL.v (.build (cs := [_, _, _, _, _]) rfl rfl) rfl (GL.w0 (.store 3 rfl rfl rfl rfl rfl rfl rfl) (fun _ _ => GL.nil (GN.seq (GC.ret (?_)))))))
    exact GR.cell1 3 rec0 rfl rfl rfl rfl rfl ⟨rfl, rfl, rfl, rfl, rfl, trivial⟩ () rfl ((Ent.close (Bs := RdE1 g s d c) (p := RdE2 s) (at2, .iface t u', q) ⟨h0, h1, h2, _, _, rfl⟩ _).trans (Ent.cons _ (Ent.nil _))) trivial
  · rename_i num kind j ht
    split at hv
    · rename_i c' hr
      cases hv
      have hj := tagM_ok ht
      have hlp : ((bs s).drop at_).length = s.size - at_ := by rw [List.length_drop, bs_length]
      have hrr := fun rb w => (grp_all g s hs _).2 (at_ + j) num kind at_ rb d w (by omega) (Nat.le_refl _) ha hd1 hd2
      rw [← List.drop_drop, hr] at hrr
      simp only [restB] at hrr
      have hcast : ((at_ + j : Nat) : Int) = (at_ : Int) + (j : Int) := by omega
      rw [hcast] at hrr
      refine tri_of_G 42 Tryz.func179 rfl Tryz.ntmps179 rfl (fun D => ?_)
      refine GC.seq (GC.region (GL.w .alloc rfl (fun b2 _ => GL.nil (GN.seq (GC.seq (GC.region (GL.v (.move rfl) rfl (GL.v (.nilCheck rfl) rfl (GL.v (.fieldAddr rfl) rfl (GL.v (.ld 1 rfl rfl rfl) rfl (GL.v (.assign rfl) rfl (GL.nil (GN.seq (GC.seq (GC.region (GL.w .alloc rfl (fun b4 _ => GL.nil (GN.seq (GC.seq (GC.region (GL.v (.move rfl) rfl (?_))))))))))))))))))))))
      refine GL.ent (Ent.front 2 _ _ rfl) ?_
      refine GL.call (As := [_]) rfl (fun w hst => tag_ok g s at_ num kind j d w hs ha ht) rfl (fun _ _ => ?_)
      refine GL.v (.move rfl) rfl (GL.v (.extract rfl rfl) rfl (GL.v (.extract rfl rfl) rfl (GL.v (.fieldAddr rfl) rfl (GL.w0 (.store 1 rfl rfl rfl rfl rfl rfl rfl) (fun _ _ => GL.v (.fieldAddr rfl) rfl (GL.w0 (.store 1 rfl rfl rfl rfl rfl rfl rfl) (fun _ _ => GL.nil (GN.seq (GC.seq (GC.seq (GC.region (GL.v (.move rfl) rfl (GL.v (.nilCheck rfl) rfl (GL.v (.fieldAddr rfl) rfl (GL.v (.ld 0 rfl rfl rfl) rfl (GL.v (.eqlNil rfl (by first | exact .inl rfl | exact .inr ⟨_, _, rfl⟩ | assumption)) rfl (GL.nil (GN.seq (?_)))))))))))))))))))
      refine GC.cond rfl (fun _ => ?_) (fun h => Bool.noConfusion (h.symm.trans (rfl) : false = true))
      refine GC.region (GL.v (.move rfl) rfl (GL.v (.move rfl) rfl (?_)))
      refine GL.ent (Ent.front 1 _ _ rfl) ?_
      refine GL.ent (Ent.front 1 _ _ rfl) ?_
      refine GL.ent (Hs' := [RdO g s ((at_ : Int) + (j : Int)) d, RecB _ num kind 0 emptyS emptyS, _]) (Ent.cons _ (Ent.blk (by repeat (first | exact Sub.nil _ | refine Sub.cons rfl ?_)) (Ent.refl _))) ?_
      refine GL.call (As := [_, _]) rfl (fun w hst => hrr _ w) rfl (fun _ _ => ?_)
      refine GL.open ?_
      rintro ⟨at2, u, q⟩ ⟨h0, h1, h2, t, u', rfl⟩
      refine GL.nil (GN.seq (GC.seq (GC.seq (GC.region (GL.v (.move rfl) rfl (GL.v (.nilCheck rfl) rfl (GL.v (.fieldAddr rfl) rfl (GL.v (.ld 0 rfl rfl rfl) rfl (GL.v (.neqNil rfl (by first | exact .inl rfl | exact .inr ⟨_, _, rfl⟩ | assumption)) rfl (GL.nil (GN.seq (?_))))))))))))
      refine GC.cond rfl (fun _ => ?_) (fun h => Bool.noConfusion (h.symm.trans (rfl) : false = true))
      refine GC.seq (GC.region (GL.v (.build (cs := [_, _, _, _, _]) rfl rfl) rfl (GL.w0 (.store 2 rfl rfl rfl rfl rfl rfl rfl) (fun _ _ => GL.nil (GN.seq (GC.ret (?_)))))))
      exact GR.cell1 2 rec0 rfl rfl rfl rfl rfl ⟨rfl, rfl, rfl, rfl, rfl, trivial⟩ () rfl ((Ent.close (Bs := RdE1 g s d c) (p := RdE2 s) (at2, .iface t u', q) ⟨h0, h1, h2, _, _, rfl⟩ _).trans (Ent.cons _ (Ent.nil _))) trivial
    · cases hv

end Go.Proofs.Gw
/- Contracts of package wire: all records. -/
set_option linter.unusedVariables false
set_option linter.unusedSimpArgs false
namespace Go.Proofs.Gw
open Go Go.RowKit Go.IntWalk Go.Proofs.Gm

theorem allM_ok {d : Int} {l : Bs} {rs : List Rec} (h : allM d l = .ok rs) : l = [] ∧ rs = [] ∨ ∃ r k rs', recM d l = .ok (r, k) ∧ allM d (l.drop k) = .ok rs' ∧ rs = r :: rs' ∧ l ≠ [] := by
  rw [allM] at h
  split at h
  · rename_i e; cases h; exact .inl ⟨e, rfl⟩
  · split at h
    · cases h
    · rename_i r k hr
      split at h
      · cases h
      · rename_i rs' hq
        cases h
        exact .inr ⟨r, k, rs', hr, hq, rfl, by assumption⟩
theorem allM_err {d : Int} {l : Bs} {c : Int} (h : allM d l = .error c) : l ≠ [] ∧ (recM d l = .error c ∨ ∃ r k, recM d l = .ok (r, k) ∧ allM d (l.drop k) = .error c) := by
  rw [allM] at h
  split at h
  · cases h
  · rename_i hne
    split at h
    · rename_i hr; cases h; exact ⟨hne, .inl hr⟩
    · rename_i r k hr
      split at h
      · rename_i hq; cases h; exact ⟨hne, .inr ⟨r, k, hr, hq⟩⟩
      · cases h

abbrev recs (rs : List Rec) : List Value := rs.flatMap recC
abbrev OwnR (v : Value) (rs : List Rec) : HP := Own 169 5 v rs.length (recs rs)

theorem All_ok (s : ByteArray) (d : Int) (rs : List Rec) (w : World) (hs : s.size ≤ mx) (hd1 : -9223372036854775808 ≤ d) (hd2 : d ≤ 9223372036854775807) (hv : allM d (bs s) = .ok rs) :
    Tri Tryz.prog 120 [.string s, .int .i64 d] [] (fun v : Value => .tuple #[v, .nilIface]) (fun v => [OwnR v rs]) (fun v => ∃ A c, v = .slice A rs.length c) w := by
  have hs' := hs
  unfold mx at hs'
  refine tri_of_G 36 Tryz.func120 rfl Tryz.ntmps120 rfl (fun D => ?_)
  refine GC.seq (GC.region (GL.v (.assign rfl) rfl (GL.v (.assign rfl) rfl (GL.nil (GN.seq (GC.seq (GC.region (GL.v (.assign rfl) rfl (GL.nil (GN.seq (GC.seq (GC.region (GL.v (.move rfl) rfl (GL.v (.move rfl) rfl (GL.v (.build (cs := [_, _, _, _]) rfl rfl) rfl (GL.w (.box rfl rfl) rfl (fun b12 _ => GL.v (.assign rfl) rfl (GL.nil (GN.seq (GC.seq (GC.block (?_))))))))))))))))))))))
  refine GC.loop (γ := Nat × List Rec × List Rec × Option Addr × Nat) (fun g => g.1 ≤ s.size ∧ g.2.1.length ≤ g.1 ∧ allM d ((bs s).drop g.1) = .ok g.2.2.1 ∧ rs = g.2.1 ++ g.2.2.1) (fun g => [(0, .string s), (7, ptr b12), (6, .slice g.2.2.2.1 g.2.1.length g.2.2.2.2)]) (fun g => [RdO b12 s (g.1 : Int) d, OwnR (.slice g.2.2.2.1 g.2.1.length g.2.2.2.2) g.2.1]) (fun g => s.size - g.1) (0, [], rs, none, 0) ⟨by simp, by simp, by simpa using hv, rfl⟩ (Sub.cons rfl (Sub.cons rfl (Sub.cons rfl (Sub.nil _)))) ?_ ?_
  · exact ((Ent.intro (A := OwnR (.slice none 0 0) []) (fun w => Own.nil _ _ w) _).trans (Ent.swap _ _ _)).trans (Ent.blk (by repeat (first | exact Sub.nil _ | refine Sub.cons rfl ?_)) (Ent.refl _))
  rintro ⟨at_, pre, post, A, cp⟩ ⟨h1, h2, h3, h4⟩
  simp only at h1 h2 h3 h4 ⊢
  refine GC.seq (GC.seq (GC.region (GL.v (.move rfl) rfl (GL.v (.nilCheck rfl) rfl (GL.v (.fieldAddr rfl) rfl (GL.v (.ld 0 rfl rfl rfl) rfl (GL.v (.move rfl) rfl (GL.v (.lenS rfl) rfl (GL.v (.lss rfl rfl) rfl (GL.nil (GN.seq (?_))))))))))))
  refine GC.condD rfl (fun hlt => ?_) (fun hlt => ?_)
  · rcases allM_ok h3 with ⟨e1, _⟩ | ⟨r, k, post', hr, hp, rfl, _⟩
    · exfalso
      have := congrArg List.length e1
      simp [bs_length] at this
      omega
    · have hk := recM_ok hr
      have hl : ((bs s).drop at_).length = s.size - at_ := by rw [List.length_drop, bs_length]
      refine GC.skip (GN.seq (GC.block (GC.seq (GC.region (GL.v (.move rfl) rfl (?_))))))
      refine GL.call (As := [_]) rfl (fun w hst => record_ok _ s at_ k r d w hs h1 hd1 hd2 hr) rfl (fun _ _ => ?_)
      refine GL.w .alloc rfl (fun b8 _ => GL.w0 (.store 0 rfl rfl rfl rfl rfl rfl rfl) (fun _ _ => GL.nil (GN.seq (GC.seq (GC.seq (GC.region (GL.v (.move rfl) rfl (GL.v (.nilCheck rfl) rfl (GL.v (.fieldAddr rfl) rfl (GL.v (.ld 1 rfl rfl rfl) rfl (GL.v (.neqNil rfl (by first | exact .inl rfl | exact .inr ⟨_, _, rfl⟩ | assumption)) rfl (GL.nil (GN.seq (?_))))))))))))))
      refine GC.cond rfl (fun h => Bool.noConfusion (h.symm.trans (rfl) : true = false)) (fun _ => ?_)
      refine GC.skip (GN.seq (GC.region (GL.v (.move rfl) rfl (GL.v (.ldN 0 [_, _, _, _, _] rfl rfl rfl ⟨rfl, rfl, rfl, rfl, rfl, trivial⟩) rfl (?_)))))
      refine GL.w (.bone (recC r) rfl rfl rfl rfl rfl rfl) rfl (fun bP _ => ?_)
      refine GL.w (.append 3 0 (recC r) rfl rfl rfl rfl rfl ⟨rfl, rfl, rfl, rfl, rfl, trivial⟩ rfl rfl rfl rfl rfl (by omega)) rfl (fun q _ => ?_)
      refine GL.v (.assign rfl) rfl (GL.nil (GN.blk (?_)))
      have e1 : pre.length + 1 = (pre ++ [r]).length := by simp
      have e2 : recs pre ++ recC r = recs (pre ++ [r]) := by simp [recs]
      have e3 : (at_ : Int) + (k : Int) = ((at_ + k : Nat) : Int) := by omega
      have e4 : (bs s).drop (at_ + k) = ((bs s).drop at_).drop k := by rw [List.drop_drop]
      rw [e1, e2]
      refine GN.loop (at_ + k, pre ++ [r], post', q.1, q.2) ⟨by simp only; omega, by simp only [List.length_append, List.length_singleton]; omega, by simp only [e4]; exact hp, by simp only; rw [h4]; simp⟩ (by simp only; omega) (Sub.cons rfl (Sub.cons rfl (Sub.cons rfl (Sub.nil _)))) ?_
      refine Ent.trans (Ent.front 2 _ _ rfl) (Ent.trans (Ent.cons _ (Ent.front 2 _ _ rfl)) ?_)
      exact Ent.cons _ (Ent.cons _ (Ent.nil _))
  · refine GC.exit (GX.seq (GX.loop (GX.blk (GN.seq (GC.seq (GC.region (GL.v (.move rfl) rfl (GL.v (.assign rfl) rfl (GL.v (.assign rfl) rfl (GL.nil (GN.seq (GC.ret (?_)))))))))))))
    rcases allM_ok h3 with ⟨e1, rfl⟩ | ⟨r, k, post', hr, hp, rfl, _⟩
    · rw [List.append_nil] at h4
      subst h4
      refine GR.two rfl rfl rfl rfl _ rfl (Ent.trans (Ent.tail _ _) (Ent.refl _)) ⟨_, _, rfl⟩
    · exfalso
      have hk := recM_ok hr
      have hl : ((bs s).drop at_).length = s.size - at_ := by rw [List.length_drop, bs_length]
      omega

theorem All_err (s : ByteArray) (d c : Int) (w : World) (hs : s.size ≤ mx) (hd1 : -9223372036854775808 ≤ d) (hd2 : d ≤ 9223372036854775807) (hv : allM d (bs s) = .error c) :
    Tri Tryz.prog 120 [.string s, .int .i64 d] [] (fun x : Value × Nat => .tuple #[.slice none 0 0, x.1]) (fun x => [Er x.1 (.at_ x.2 (.code c))]) (fun x => x.2 ≤ s.size ∧ ∃ t u, x.1 = .iface t u) w := by
  have hs' := hs
  unfold mx at hs'
  refine tri_of_G 36 Tryz.func120 rfl Tryz.ntmps120 rfl (fun D => ?_)
  refine GC.seq (GC.region (GL.v (.assign rfl) rfl (GL.v (.assign rfl) rfl (GL.nil (GN.seq (GC.seq (GC.region (GL.v (.assign rfl) rfl (GL.nil (GN.seq (GC.seq (GC.region (GL.v (.move rfl) rfl (GL.v (.move rfl) rfl (GL.v (.build (cs := [_, _, _, _]) rfl rfl) rfl (GL.w (.box rfl rfl) rfl (fun b12 _ => GL.v (.assign rfl) rfl (GL.nil (GN.seq (GC.seq (GC.block (?_))))))))))))))))))))))
  refine GC.loop (γ := Nat × List Rec × Option Addr × Nat) (fun g => g.1 ≤ s.size ∧ g.2.1.length ≤ g.1 ∧ allM d ((bs s).drop g.1) = .error c) (fun g => [(0, .string s), (7, ptr b12), (6, .slice g.2.2.1 g.2.1.length g.2.2.2)]) (fun g => [RdO b12 s (g.1 : Int) d, OwnR (.slice g.2.2.1 g.2.1.length g.2.2.2) g.2.1]) (fun g => s.size - g.1) (0, [], none, 0) ⟨by simp, by simp, by simpa using hv⟩ (Sub.cons rfl (Sub.cons rfl (Sub.cons rfl (Sub.nil _)))) ?_ ?_
  · exact ((Ent.intro (A := OwnR (.slice none 0 0) []) (fun w => Own.nil _ _ w) _).trans (Ent.swap _ _ _)).trans (Ent.blk (by repeat (first | exact Sub.nil _ | refine Sub.cons rfl ?_)) (Ent.refl _))
  rintro ⟨at_, pre, A, cp⟩ ⟨h1, h2, h3⟩
  simp only at h1 h2 h3 ⊢
  refine GC.seq (GC.seq (GC.region (GL.v (.move rfl) rfl (GL.v (.nilCheck rfl) rfl (GL.v (.fieldAddr rfl) rfl (GL.v (.ld 0 rfl rfl rfl) rfl (GL.v (.move rfl) rfl (GL.v (.lenS rfl) rfl (GL.v (.lss rfl rfl) rfl (GL.nil (GN.seq (?_))))))))))))
  have hl : ((bs s).drop at_).length = s.size - at_ := by rw [List.length_drop, bs_length]
  obtain ⟨hne, h3'⟩ := allM_err h3
  refine GC.condD rfl (fun hlt => ?_) (fun hlt => ?_)
  · rcases h3' with hr | ⟨r, k, hr, hp⟩
    · refine GC.skip (GN.seq (GC.block (GC.seq (GC.region (GL.v (.move rfl) rfl (?_))))))
      refine GL.call (As := [_]) rfl (fun w hst => record_err _ s at_ c d w hs h1 hd1 hd2 hr) rfl (fun _ _ => ?_)
      refine GL.open ?_
      rintro ⟨at2, u, q⟩ ⟨h0, h1', h2', t, u', rfl⟩
      refine GL.w .alloc rfl (fun b8 _ => GL.w0 (.store 0 rfl rfl rfl rfl rfl rfl rfl) (fun _ _ => GL.nil (GN.seq (GC.seq (GC.seq (GC.region (GL.v (.move rfl) rfl (GL.v (.nilCheck rfl) rfl (GL.v (.fieldAddr rfl) rfl (GL.v (.ld 1 rfl rfl rfl) rfl (GL.v (.neqNil rfl (by first | exact .inl rfl | exact .inr ⟨_, _, rfl⟩ | assumption)) rfl (GL.nil (GN.seq (?_))))))))))))))
      refine GC.cond rfl (fun _ => ?_) (fun h => Bool.noConfusion (h.symm.trans (rfl) : false = true))
      refine GC.seq (?_)
      refine GC.draw _ (m := 6) rfl (Ent.refl _) ?_
      refine GA.take 0 rfl (by kernel_rfl) (by kernel_rfl) (by kernel_rfl) (.move rfl) rfl (GA.take 1 rfl (by kernel_rfl) (by kernel_rfl) (by kernel_rfl) (.nilCheck rfl) rfl (GA.take 2 rfl (by kernel_rfl) (by kernel_rfl) (by kernel_rfl) (.fieldAddr rfl) rfl (GA.take 3 rfl (by kernel_rfl) (by kernel_rfl) (by kernel_rfl) (.ld 1 rfl rfl rfl) rfl (GA.take 4 rfl (by kernel_rfl) (by kernel_rfl) (by kernel_rfl) (.assign rfl) rfl (GA.take 5 rfl (by kernel_rfl) (by kernel_rfl) (by kernel_rfl) (.assign rfl) rfl (GA.done (by kernel_rfl) (?_)))))))
      refine GN.seq (GC.ret (?_))
      exact GR.two rfl rfl rfl rfl (.iface t u', q) rfl (Ent.trans (Ent.front 2 _ _ rfl) (Ent.cons _ (Ent.nil _))) ⟨h2', _, _, rfl⟩
    · have hk := recM_ok hr
      refine GC.skip (GN.seq (GC.block (GC.seq (GC.region (GL.v (.move rfl) rfl (?_))))))
      refine GL.call (As := [_]) rfl (fun w hst => record_ok _ s at_ k r d w hs h1 hd1 hd2 hr) rfl (fun _ _ => ?_)
      refine GL.w .alloc rfl (fun b8 _ => GL.w0 (.store 0 rfl rfl rfl rfl rfl rfl rfl) (fun _ _ => GL.nil (GN.seq (GC.seq (GC.seq (GC.region (GL.v (.move rfl) rfl (GL.v (.nilCheck rfl) rfl (GL.v (.fieldAddr rfl) rfl (GL.v (.ld 1 rfl rfl rfl) rfl (GL.v (.neqNil rfl (by first | exact .inl rfl | exact .inr ⟨_, _, rfl⟩ | assumption)) rfl (GL.nil (GN.seq (?_))))))))))))))
      refine GC.cond rfl (fun h => Bool.noConfusion (h.symm.trans (rfl) : true = false)) (fun _ => ?_)
      refine GC.skip (GN.seq (GC.region (GL.v (.move rfl) rfl (GL.v (.ldN 0 [_, _, _, _, _] rfl rfl rfl ⟨rfl, rfl, rfl, rfl, rfl, trivial⟩) rfl (?_)))))
      refine GL.w (.bone (recC r) rfl rfl rfl rfl rfl rfl) rfl (fun bP _ => ?_)
      refine GL.w (.append 3 0 (recC r) rfl rfl rfl rfl rfl ⟨rfl, rfl, rfl, rfl, rfl, trivial⟩ rfl rfl rfl rfl rfl (by omega)) rfl (fun q _ => ?_)
      refine GL.v (.assign rfl) rfl (GL.nil (GN.blk (?_)))
      have e1 : pre.length + 1 = (pre ++ [r]).length := by simp
      have e2 : recs pre ++ recC r = recs (pre ++ [r]) := by simp [recs]
      have e3 : (at_ : Int) + (k : Int) = ((at_ + k : Nat) : Int) := by omega
      have e4 : (bs s).drop (at_ + k) = ((bs s).drop at_).drop k := by rw [List.drop_drop]
      rw [e1, e2]
      refine GN.loop (at_ + k, pre ++ [r], q.1, q.2) ⟨by simp only; omega, by simp only [List.length_append, List.length_singleton]; omega, by simp only [e4]; exact hp⟩ (by simp only; omega) (Sub.cons rfl (Sub.cons rfl (Sub.cons rfl (Sub.nil _)))) ?_
      refine Ent.trans (Ent.front 2 _ _ rfl) (Ent.trans (Ent.cons _ (Ent.front 2 _ _ rfl)) ?_)
      exact Ent.cons _ (Ent.cons _ (Ent.nil _))
  · exfalso
    have hz : ((bs s).drop at_).length = 0 := by omega
    exact hne (List.eq_nil_of_length_eq_zero hz)

end Go.Proofs.Gw
/- Contracts of the library's functions on texts: strings.Builder. -/
set_option linter.unusedVariables false
set_option linter.unusedSimpArgs false
namespace Go.Proofs.Gw
open Go Go.RowKit Go.IntWalk Go.Proofs.Gm

theorem u8_cells : Tryz.prog.cellsOf 5 = 1 := by kernel_rfl
/-- A type of which a builder lies at the head, and nothing else. -/
def LiesB (T : Nat) : Prop := liesAt Tryz.prog Tryz.prog.depth T (2 / Tryz.prog.cellsOf T) 0 135 1 = true
theorem liesB : LiesB 135 := by unfold LiesB; kernel_rfl
theorem liesW : LiesB 137 := by unfold LiesB; kernel_rfl

abbrev Bld1 (T b : Nat) (l : Bs) (x : Value × Option Addr × Nat) : List HP := [Blk b T 2 [(0, x.1), (1, .slice x.2.1 l.length x.2.2)], Own 5 1 (.slice x.2.1 l.length x.2.2) l.length (byC l)]
abbrev Bld2 (b : Nat) (l : Bs) (x : Value × Option Addr × Nat) : Prop := (x.1 = .pointer none ∨ x.1 = ptr b) ∧ (l = [] → x.2.1 = none ∧ x.2.2 = 0 ∨ x.2.2 ≠ 0)
/-- A builder that holds these bytes. -/
def Bld (T b : Nat) (l : Bs) : HP := ExH (Bld1 T b l) (Bld2 b l)

theorem copyCheck_tri (T b : Nat) (hT : LiesB T) (c0 v : Value) (w : World) (h : c0 = .pointer none ∨ c0 = ptr b) : Tri Tryz.prog 180 [ptr b] [Blk b T 2 [(0, c0), (1, v)]] (fun _ : Unit => .tuple #[]) (fun _ => [Blk b T 2 [(0, ptr b), (1, v)]]) (fun _ => True) w := by
  rcases h with rfl | rfl
  · refine tri_of_G 20 Tryz.func180 rfl Tryz.ntmps180 rfl (fun D => ?_)
    refine GC.seq (GC.region (GL.v (.move rfl) rfl (GL.v (.nilCheck rfl) rfl (GL.v (.fieldAddr rfl) rfl (GL.v (.ld 0 rfl rfl rfl) rfl (?_))))))
    refine GL.v (.eqlPNil rfl) rfl ?_
    refine GL.nil (GN.seq (?_))
    refine GC.cond rfl (fun _ => ?_) (fun h => Bool.noConfusion (h.symm.trans (rfl) : false = true))
    refine GC.region (GL.v (.move rfl) rfl (GL.v (.move rfl) rfl (?_)))
    refine GL.v (.toUnsafe 0 rfl rfl rfl) rfl ?_
    refine GL.v (.noEscape Tryz.func214 rfl rfl rfl rfl rfl) rfl ?_
    refine GL.v (.fromUnsafe 0 rfl rfl hT) rfl ?_
    refine GL.v (.nilCheck rfl) rfl (GL.v (.fieldAddr rfl) rfl (GL.w0 (.store 0 rfl rfl rfl rfl rfl rfl rfl) (fun _ _ => GL.nil (?_))))
    exact GN.nil (GR.none rfl rfl () rfl (by repeat (first | exact Ent.nil _ | (with_reducible exact Ent.refl _) | refine Ent.blk (by repeat (first | exact Sub.nil _ | refine Sub.cons rfl ?_)) ?_ | refine Ent.cons _ ?_ | refine Ent.trans (Ent.tail _ _) ?_)) trivial)
  · refine tri_of_G 20 Tryz.func180 rfl Tryz.ntmps180 rfl (fun D => ?_)
    refine GC.seq (GC.region (GL.v (.move rfl) rfl (GL.v (.nilCheck rfl) rfl (GL.v (.fieldAddr rfl) rfl (GL.v (.ld 0 rfl rfl rfl) rfl (?_))))))
    refine GL.v (.eqlPNil rfl) rfl ?_
    refine GL.nil (GN.seq (?_))
    refine GC.cond rfl (fun h => Bool.noConfusion (h.symm.trans (rfl) : true = false)) (fun _ => ?_)
    refine GC.seq (GC.region (GL.v (.move rfl) rfl (GL.v (.nilCheck rfl) rfl (GL.v (.fieldAddr rfl) rfl (GL.v (.ld 0 rfl rfl rfl) rfl (GL.v (.move rfl) rfl (?_)))))))
    refine GL.v (.neqPSame rfl rfl) rfl ?_
    refine GL.nil (GN.seq (?_))
    refine GC.cond rfl (fun h => Bool.noConfusion (h.symm.trans (rfl) : true = false)) (fun _ => ?_)
    refine GC.skip (?_)
    exact GN.nil (GR.none rfl rfl () rfl (Ent.refl _) trivial)

theorem WriteString_tri (T b : Nat) (hT : LiesB T) (l : Bs) (s : ByteArray) (w : World) (hn : l.length + s.size ≤ 140737488355328) : Tri Tryz.prog 121 [ptr b, .string s] [Bld T b l] (fun _ : Unit => .tuple #[.int .i64 s.size, .nilIface]) (fun _ => [Bld T b (l ++ bs s)]) (fun _ => True) w := by
  refine Tri.open ?_
  rintro ⟨c0, A, c⟩ ⟨h0, h1⟩
  refine tri_of_G 19 Tryz.func121 rfl Tryz.ntmps121 rfl (fun D => ?_)
  refine GC.seq (GC.region (GL.v (.assign rfl) rfl (GL.v (.assign rfl) rfl (GL.nil (GN.seq (GC.seq (GC.region (GL.v (.move rfl) rfl (?_)))))))))
  refine GL.call (As := [_]) rfl (fun w hst => copyCheck_tri T b hT c0 _ w h0) rfl (fun _ _ => ?_)
  refine GL.nil (GN.seq (GC.seq (GC.region (GL.v (.move rfl) rfl (GL.v (.move rfl) rfl (GL.v (.nilCheck rfl) rfl (GL.v (.fieldAddr rfl) rfl (GL.v (.ld 0 rfl rfl rfl) rfl (GL.v (.move rfl) rfl (?_))))))))))
  refine GL.w (.appendS 1 rfl rfl rfl hn) rfl (fun q hq => ?_)
  refine GL.v (.nilCheck rfl) rfl (GL.v (.fieldAddr rfl) rfl (GL.w0 (.store 0 rfl rfl rfl rfl rfl rfl rfl) (fun _ _ => GL.nil (GN.seq (GC.seq (GC.region (GL.v (.move rfl) rfl (GL.v (.lenS rfl) rfl (GL.v (.assign rfl) rfl (GL.v (.assign rfl) rfl (GL.nil (GN.seq (GC.ret (?_))))))))))))))
  refine GR.two rfl rfl rfl rfl () rfl (Ent.trans (by repeat (first | exact Ent.nil _ | (with_reducible exact Ent.refl _) | refine Ent.blk (by repeat (first | exact Sub.nil _ | refine Sub.cons rfl ?_)) ?_ | refine Ent.cons _ ?_ | refine Ent.trans (Ent.tail _ _) ?_)) (Ent.close (Bs := Bld1 T b (l ++ bs s)) (p := Bld2 b (l ++ bs s)) (ptr b, q.1, q.2) ⟨.inr rfl, fun e => ?_⟩ [])) trivial
  have e1 := List.append_eq_nil_iff.1 e
  have e2 := h1 e1.1
  have e3 := hq (by rw [← bs_length, e1.2]; rfl)
  simp only [Value.slice.injEq] at e3 e2 ⊢
  rw [← e3.1, ← e3.2.2]; exact e2

theorem String_tri (T b : Nat) (l : Bs) (w : World) : Tri Tryz.prog 122 [ptr b] [Bld T b l] (fun _ : Unit => .string (mkS l)) (fun _ => []) (fun _ => True) w := by
  refine Tri.open ?_
  rintro ⟨c0, A, c⟩ ⟨h0, h1⟩
  refine tri_of_G 14 Tryz.func122 rfl Tryz.ntmps122 rfl (fun D => ?_)
  refine GC.seq (GC.region (GL.v (.assign rfl) rfl (GL.nil (GN.seq (GC.seq (?_))))))
  refine GC.draw ([Blk b T 2 [(0, c0), (1, .slice A l.length c)]]) (m := 12) rfl (by repeat (first | exact Ent.refl _ | exact Ent.nil _ | refine Ent.cons _ ?_ | refine Ent.trans (Ent.tail _ _) ?_)) ?_
  refine GA.take 0 rfl (by kernel_rfl) (by kernel_rfl) (by kernel_rfl) (.move rfl) rfl (GA.take 1 rfl (by kernel_rfl) (by kernel_rfl) (by kernel_rfl) (.nilCheck rfl) rfl (GA.take 2 rfl (by kernel_rfl) (by kernel_rfl) (by kernel_rfl) (.fieldAddr rfl) rfl (GA.take 3 rfl (by kernel_rfl) (by kernel_rfl) (by kernel_rfl) (.ld 0 rfl rfl rfl) rfl (GA.take 5 rfl (by kernel_rfl) (by kernel_rfl) (by kernel_rfl) (.move rfl) rfl (GA.take 6 rfl (by kernel_rfl) (by kernel_rfl) (by kernel_rfl) (.nilCheck rfl) rfl (GA.take 7 rfl (by kernel_rfl) (by kernel_rfl) (by kernel_rfl) (.fieldAddr rfl) rfl (GA.take 8 rfl (by kernel_rfl) (by kernel_rfl) (by kernel_rfl) (.ld 0 rfl rfl rfl) rfl (GA.take 9 rfl (by kernel_rfl) (by kernel_rfl) (by kernel_rfl) (.lenSl rfl) rfl (?_)))))))))
  refine GA.one 4 (by kernel_rfl) ?_
  refine GAi.v rfl (.sliceData 1 rfl rfl (fun e => (h1 (List.eq_nil_of_length_eq_zero e)).imp (fun h => h.1) id)) rfl (Ent.cons _ (Ent.nil _)) ?_
  refine GA.one 10 (by kernel_rfl) ?_
  refine GAi.w rfl (.unsafeString 1 u8_cells rfl rfl rfl rfl) rfl (fun _ _ => (Ent.cons _ (Ent.nil _))) (fun _ _ => ?_)
  refine GA.take 11 rfl (by kernel_rfl) (by kernel_rfl) (by kernel_rfl) (.assign rfl) rfl (GA.done (by kernel_rfl) (?_))
  refine GN.seq (GC.ret (?_))
  exact GR.one rfl rfl rfl () rfl (Ent.nil _) trivial
theorem Bld.zero (T b : Nat) (Hs : List HP) : Ent (Blk b T 2 [(0, .pointer none), (1, .slice none 0 0)] :: Hs) (Bld T b [] :: Hs) :=
  Ent.trans ((Ent.intro (A := Own 5 1 (.slice none 0 0) 0 []) (fun w => Own.nil _ _ w) _).trans (Ent.swap _ _ _)) (Ent.close (Bs := Bld1 T b []) (p := Bld2 b []) (.pointer none, none, 0) ⟨.inl rfl, fun _ => .inl ⟨rfl, rfl⟩⟩ Hs)

end Go.Proofs.Gw
/- errors.As at the program's two targets; blame.Place, blame.Code. -/
set_option linter.unusedVariables false
set_option linter.unusedSimpArgs false
namespace Go.Proofs.Gw
open Go Go.RowKit Go.IntWalk Go.Proofs.Gm Go.Extern

theorem rl_method (z : Sem Value) (f : TypeId → Addr → Nat → Nat → Sem Value) (v : Value) : ReflectliteValue.method z f #[v] = (do match ← ReflectliteValue.parts v with | none => z | some (t, a, fl) => f t a fl (fl % 32)) := rfl
theorem AsT.isNil {tt te kd fl : Nat} (h : AsT tt te kd fl) {a p : Addr} {w : World} (ha : w.cell? a = some (.pointer (some p))) :
    (ReflectliteValue.method (ReflectliteValue.valueError "reflectlite.Value.IsNil" 0) ReflectliteValue.isNil #[rval tt a 150]).run Tryz.prog w = .ok (.bool false) w := by
  have hu : (underlying tt).run Tryz.prog w = .ok (.pointer te) w := run_underlying h.und w
  rw [rl_method]
  simp only [Sem.run_bind, h.parts, Result.andThen_ok]
  simp [ReflectliteValue.isNil, loadVar, isAgg, hu, ha, Result.andThen]
theorem AsT.elemV {tt te kd fl : Nat} (h : AsT tt te kd fl) {a p : Addr} {w : World} (ha : w.cell? a = some (.pointer (some p))) :
    (ReflectliteValue.method (ReflectliteValue.valueError "reflectlite.Value.Elem" 0) ReflectliteValue.elem #[rval tt a 150]).run Tryz.prog w = .ok (rval te p fl) w := by
  have hu : (underlying tt).run Tryz.prog w = .ok (.pointer te) w := run_underlying h.und w
  rw [rl_method]
  simp only [Sem.run_bind, h.parts, Result.andThen_ok]
  simp [ReflectliteValue.elem, loadVar, isAgg, hu, ha, Result.andThen, h.elemOf, h.mkE]

theorem AsT.valueOf' {tt te kd fl : Nat} (h : AsT tt te kd fl) (t : Addr) (w : World) : ((fun args : Array Value => ReflectliteValue.unpack (args.getD 0 (.tuple #[]))) [Value.iface tt (.pointer (some t))].toArray).run Tryz.prog w = .ok (rval tt ⟨w.heap.size, 0, none⟩ 150) (w.alloc (.cells [Value.pointer (some t)].toArray tt)) := h.valueOf t w
theorem Blk.at {C : Ctx} {Hs : List HP} {w : World} (i : Nat) {b T n o : Nat} {u : List (Nat × Value)} {v : Value} (hi : Hs[i]? = some (Blk b T n u)) (hs : St C Hs w) (hv : lk u o = some v) : w.cell? ⟨b, o, none⟩ = some v := by
  obtain ⟨ok, _, h1, cs, h2, h3, h4⟩ := Sat.at i hi hs.sat
  rw [cell?_of_heap h2]; exact h4 _ _ hv
theorem rls (v x : Value) : ReflectliteValue.set #[v, x] = (do
    let (some (dst, a, fl), some (src, b, _)) := (← ReflectliteValue.parts v, ← ReflectliteValue.parts x)
      | unsupported (.noEntry "extern/(internal/reflectlite.Value).Set.zeroValue")
    if fl / ReflectliteValue.flagAddr % 2 == 0 then unsupported (.noEntry "extern/(internal/reflectlite.Value).Set.unaddressable")
    let val ← loadVar src b
    if ← Rtype.directlyAssignable dst src then storeVar dst a val
    else if ← Rtype.implements dst src then
      if (← Rtype.kind src) == 20 then
        match val with
        | .nilIface => unsupported (.noEntry "extern/reflectlite: a nil value of one interface type handed on as a value of another")
        | _ => storeVar dst a val
      else storeVar dst a (.iface src val)
    else panicString ("reflectlite.Set: value of type " ++ (← Rtype.spelt src) ++ " is not assignable to type " ++ (← Rtype.spelt dst))
    pure (.tuple #[])) := rfl
theorem AsT.set {tt te kd fl fl2 : Nat} (h : AsT tt te kd fl) {u : Value} (hu : AsU te fl2 u) {C : Ctx} {Hs : List HP} {w : World} (hP : C.P = Tryz.prog) [hz : TSz Tryz.prog te false 1] (h1 : one u = true) (hc : u.cells = #[u]) (hs : St C Hs w) (i : Nat) {b k n : Nat} {us : List (Nat × Value)} (hi : Hs[i]? = some (Blk b te (n + 1) us)) (ha : w.cell? ⟨k, 0, none⟩ = some u) :
    ∃ (x : Unit) (w' : World), (ReflectliteValue.set [rval te ⟨b, 0, none⟩ fl, rval te ⟨k, 0, none⟩ fl2].toArray).run C.P w = .ok (.tuple #[]) w' ∧ St C (Hs.set i (Blk b te (n + 1) (stU 0 [u] us))) w' ∧ True := by
  obtain ⟨ok, hok, hbk, cur, hcur, hsz, hu'⟩ := Sat.at i hi hs.sat
  have hst := run_storeCells_at Tryz.prog b 0 te [u] 0 cur w hcur (by simp; omega) (fun v hv => by rw [← one_iff]; simp at hv; subst hv; exact h1)
  simp only [Nat.add_zero] at hst
  refine ⟨(), w.setRow b (cur.toList.take 0 ++ [u] ++ cur.toList.drop (0 + [u].length)).toArray, ?_, ?_, trivial⟩
  · rw [hP]
    have hl := run_loadVar1 (P := Tryz.prog) (t := te) (w := w) (p := ⟨k, 0, none⟩) hz.out ha
    have hf : (fl / ReflectliteValue.flagAddr % 2 == 0) = false := by rw [h.flA]; rfl
    have h3 : (storeVar te ⟨b, 0, none⟩ u).run Tryz.prog w = .ok () (w.setRow b (cur.toList.take 0 ++ [u] ++ cur.toList.drop (0 + [u].length)).toArray) := by
      simp only [storeVar, Sem.run_bind, (run_sizeOf hz.out w).1, hc, Result.andThen_ok]
      simpa using hst
    show (ReflectliteValue.set #[rval te ⟨b, 0, none⟩ fl, rval te ⟨k, 0, none⟩ fl2]).run Tryz.prog w = _
    rw [rls]
    simp only [Sem.run_bind, h.partsE, hu.parts, Result.andThen_ok]
    rw [if_neg (by rw [hf]; simp)]
    simp only [Sem.run_bind, Sem.run_pure, hl, h.direct, Result.andThen_ok, if_true, h3]
  · refine hs.upd i hi rfl rfl rfl (by simp) fun ok hk ⟨h2, cur', hcur', hsz', hu''⟩ => ?_
    rw [hcur] at hcur'
    injection hcur' with e; injection e with e _ _; subst e
    refine ⟨ok, fun k hkk => ⟨by simpa using hk k hkk, fun _ => hkk⟩, fun k _ hnk => setRow_other w b k _ (fun e => hnk (e ▸ h2)), h2, _, setRow_heap w b cur _ te _ hcur, ?_, fun o v hv => ?_⟩
    · simp; omega
    · rcases lk_stU [u] 0 us o v hv with ⟨h3, h4⟩ | ⟨h3, h4⟩
      · have : o = 0 := by
          have := (List.getElem?_eq_some_iff.1 h4).1
          simp at this; omega
        subst this
        simpa using h4
      · have h5 := hu' o v h4
        have ho : 1 ≤ o := by
          rcases h3 with h3 | h3
          · omega
          · simpa using h3
        rw [List.getElem?_toArray]
        simp only [List.take_zero, List.nil_append, Nat.zero_add, List.length_singleton]
        rw [List.getElem?_append_right (by simpa using ho), List.getElem?_drop]
        simp only [List.length_singleton]
        rw [show 1 + (o - 1) = o by omega]
        simpa using h5

/-- errors.as at an error of the target's own type. -/
theorem as_hit (tt te kd fl fl2 : Nat) (h : AsT tt te kd fl) (u old : Value) (hu : AsU te fl2 u) [hz : TSz Tryz.prog te false 1] (h1 : one u = true) (hc : u.cells = #[u]) (b k : Nat) (w : World) :
    Tri Tryz.prog 149 [.iface te u, .iface tt (ptr b), rval tt ⟨k, 0, none⟩ 150, rty te] [Blk b te 1 [(0, old)], Blk k tt 1 [(0, ptr b)]] (fun _ : Unit => .bool true) (fun _ => [Blk b te 1 [(0, u)]]) (fun _ => True) w := by
  refine tri_of_G 62 Tryz.func149 rfl Tryz.ntmps149 rfl (fun D => ?_)
  refine GC.seq (GC.region (GL.w (.box rfl rfl) rfl (fun b6 _ => GL.v (.assign rfl) rfl (GL.nil (GN.seq (GC.block (?_)))))))
  refine GC.loop (γ := Unit) (fun _ => True) (fun _ => [(0, .iface te u), (1, .iface tt (ptr b)), (3, rty te), (6, ptr b6)]) (fun _ => [Blk b te 1 [(0, old)], Blk k tt 1 [(0, ptr b)], Blk b6 195 3 [(0, hnd tt), (1, ptr k), (2, .int .u64 150)]]) (fun _ => 0) () trivial (Sub.cons rfl (Sub.cons rfl (Sub.cons rfl (Sub.cons rfl (Sub.nil _))))) ?_ ?_
  · exact (Ent.front 1 _ _ rfl).trans (Ent.cons _ ((Ent.front 1 _ _ rfl).trans (Ent.cons _ (Ent.blk (by repeat (first | exact Sub.nil _ | refine Sub.cons rfl ?_)) (Ent.refl _)))))
  rintro _ _
  refine GC.block (GC.seq (GC.seq (GC.region (GL.v (.move rfl) rfl (?_)))))
  refine GL.v (.ext rfl (by exact fun w _ => hu.typeOf w)) rfl ?_
  refine GL.v (.move rfl) rfl (?_)
  refine GL.v (.inv rfl rfl (m_asg te) (by exact fun w _ => h.asg w)) rfl ?_
  refine GL.nil (GN.seq (?_))
  refine GC.cond rfl (fun _ => ?_) (fun h => Bool.noConfusion (h.symm.trans (rfl) : false = true))
  refine GC.seq (GC.region (GL.v (.ldN 2 [_, _, _] rfl rfl rfl ⟨rfl, rfl, rfl, trivial⟩) rfl (?_)))
  refine GL.v (.ext rfl (by exact fun w hs => h.elemV (Blk.at 1 rfl hs rfl))) rfl ?_
  refine GL.v (.move rfl) rfl (?_)
  refine GL.w (.extNew (T := te) (val := fun q => rval te ⟨q, 0, none⟩ fl2) (cs := [u]) rfl (by exact fun w => hu.valueOf w)) rfl (fun nb _ => ?_)
  refine GL.w (.ext (val := fun _ : Unit => .tuple #[]) rfl (by exact fun w hs => h.set hu rfl h1 hc hs 1 rfl (Blk.at 0 rfl hs rfl))) rfl (fun _ _ => ?_)
  refine GL.nil (GN.seq (GC.seq (GC.region (GL.v (.assign rfl) rfl (GL.nil (GN.seq (GC.ret (?_))))))))
  exact GR.one rfl rfl rfl () rfl (Ent.trans (Ent.tail _ _) (Ent.trans (Ent.blk (by repeat (first | exact Sub.nil _ | refine Sub.cons rfl ?_)) (Ent.refl _)) (Ent.cons _ (Ent.nil _)))) trivial

/-- errors.As, by what errors.as does. -/
theorem As_of (tt te kd fl : Nat) (h : AsT tt te kd fl) (t b : Nat) (u : Value) (As : List HP) {X : Type} (val : X → Value) (Bs : X → List HP) (p : X → Prop) (hone : ∀ x, p x → True)
    (hA : ∀ (k : Nat) (w : World), Tri Tryz.prog 149 [.iface t u, .iface tt (ptr b), rval tt ⟨k, 0, none⟩ 150, rty te] (Blk k tt 1 [(0, ptr b)] :: As) val Bs p w) (w : World) :
    Tri Tryz.prog 68 [.iface t u, .iface tt (ptr b)] As val Bs p w := by
  refine tri_of_G 42 Tryz.func68 rfl Tryz.ntmps68 rfl (fun D => ?_)
  refine GC.seq (GC.region (GL.v (.assign rfl) rfl (GL.nil (GN.seq (GC.seq (GC.seq (GC.region (GL.v (.move rfl) rfl (GL.v (.eqlNil rfl (by first | exact .inl rfl | exact .inr ⟨_, _, rfl⟩ | assumption)) rfl (GL.nil (GN.seq (?_))))))))))))
  refine GC.cond rfl (fun h => Bool.noConfusion (h.symm.trans (rfl) : true = false)) (fun _ => ?_)
  refine GC.skip (GN.seq (GC.seq (GC.seq (GC.region (GL.v (.move rfl) rfl (GL.v (.eqlNil rfl (by first | exact .inl rfl | exact .inr ⟨_, _, rfl⟩ | assumption)) rfl (GL.nil (GN.seq (?_)))))))))
  refine GC.cond rfl (fun h => Bool.noConfusion (h.symm.trans (rfl) : true = false)) (fun _ => ?_)
  refine GC.skip (GN.seq (GC.seq (GC.region (GL.v (.move rfl) rfl (?_)))))
  refine GL.w (.extNew (T := tt) (val := fun q => rval tt ⟨q, 0, none⟩ 150) (cs := [.pointer (some ⟨b, 0, none⟩)]) rfl (by exact fun w => h.valueOf' ⟨b, 0, none⟩ w)) rfl (fun v _ => ?_)
  refine GL.w .alloc rfl (fun b5 _ => GL.w0 (.store 0 rfl rfl rfl rfl rfl rfl rfl) (fun _ _ => GL.nil (GN.seq (GC.seq (GC.region (GL.v (.ldN 0 [_, _, _] rfl rfl rfl ⟨rfl, rfl, rfl, trivial⟩) rfl (?_)))))))
  refine GL.v (.ext rfl (by exact fun w _ => h.type _ w)) rfl ?_
  refine GL.v (.assign rfl) rfl (GL.nil (GN.seq (GC.seq (GC.seq (GC.region (GL.v (.move rfl) rfl (?_)))))))
  refine GL.v (.inv rfl rfl (m_kind tt) (by exact fun w _ => h.kind w)) rfl ?_
  refine GL.v (.neq rfl rfl) rfl (GL.v (.move rfl) rfl (?_))
  refine GL.vg rfl rfl (.ldN 0 [_, _, _] rfl rfl rfl ⟨rfl, rfl, rfl, trivial⟩) rfl (GL.gd rfl rfl (?_))
  refine GL.v (.ext rfl (by exact fun w hs => h.isNil (Blk.at 1 rfl hs rfl))) rfl ?_
  refine GL.v (.pickF rfl rfl) rfl (GL.nil (GN.seq (?_)))
  refine GC.cond rfl (fun h => Bool.noConfusion (h.symm.trans (rfl) : true = false)) (fun _ => ?_)
  refine GC.skip (GN.seq (GC.seq (GC.region (GL.v (.move rfl) rfl (?_)))))
  refine GL.v (.inv rfl rfl (m_elem tt) (by exact fun w _ => h.elem w)) rfl ?_
  refine GL.v (.assign rfl) rfl (GL.nil (GN.seq (GC.seq (GC.seq (GC.region (GL.v (.move rfl) rfl (?_)))))))
  refine GL.v (.inv rfl rfl (m_kind te) (by exact fun w _ => h.kindE w)) rfl ?_
  refine GL.v (.neq rfl rfl) rfl (GL.v (.move rfl) rfl (?_))
  refine GL.set 30 (.bool true) rfl (by rw [decide_eq_true h.kd20]) ?_
  refine GL.vg rfl rfl (.move rfl) rfl (GL.gd rfl rfl (?_))
  refine GL.v .ldG rfl ?_
  refine GL.gd rfl rfl (?_)
  refine GL.v (.inv rfl rfl (m_impl te) (by exact fun w _ => h.impl w)) rfl ?_
  refine GL.vg rfl rfl (.not rfl) rfl (GL.v (.pickT rfl rfl) rfl (GL.nil (GN.seq (?_))))
  refine GC.cond rfl (fun h => Bool.noConfusion (h.symm.trans (rfl) : true = false)) (fun _ => ?_)
  refine GC.skip (GN.seq (GC.seq (GC.region (GL.v (.move rfl) rfl (GL.v (.move rfl) rfl (GL.v (.ldN 0 [_, _, _] rfl rfl rfl ⟨rfl, rfl, rfl, trivial⟩) rfl (GL.v (.move rfl) rfl (?_))))))))
  refine GL.ent (Hs' := (Blk v tt 1 [(0, ptr b)] :: As) ++ []) (by rw [List.append_nil]; exact Ent.trans (Ent.tail _ _) (Ent.blk (u' := [(0, ptr b)]) (by repeat (first | exact Sub.nil _ | refine Sub.cons rfl ?_)) (Ent.refl _))) ?_
  refine GL.call (As := Blk v tt 1 [(0, ptr b)] :: As) (Hs0 := []) rfl (fun w hst => hA v w) rfl (fun x hx => ?_)
  refine GL.v (.assign rfl) rfl (GL.nil (GN.seq (GC.ret (?_))))
  exact GR.one rfl rfl rfl x rfl (by rw [List.append_nil]; exact Ent.refl _) hx

end Go.Proofs.Gw
/- blame.Place, blame.Code. -/
set_option linter.unusedVariables false
set_option linter.unusedSimpArgs false
namespace Go.Proofs.Gw
open Go Go.RowKit Go.IntWalk Go.Proofs.Gm Go.Extern

theorem as_miss (c : Int) (b k : Nat) (old : Value) (w : World) :
    Tri Tryz.prog 149 [codeV c, .iface 188 (ptr b), rval 188 ⟨k, 0, none⟩ 150, rty 187] [Blk k 188 1 [(0, ptr b)], Blk b 187 1 [(0, old)]] (fun _ : Unit => .bool false) (fun _ => []) (fun _ => True) w := by
  refine tri_of_G 62 Tryz.func149 rfl Tryz.ntmps149 rfl (fun D => ?_)
  refine GC.seq (GC.region (GL.w (.box rfl rfl) rfl (fun b6 _ => GL.v (.assign rfl) rfl (GL.nil (GN.seq (GC.block (?_)))))))
  refine GC.loop (γ := Unit) (fun _ => True) (fun _ => [(0, codeV c), (1, .iface 188 (ptr b)), (3, rty 187), (6, ptr b6)]) (fun _ => []) (fun _ => 0) () trivial (Sub.cons rfl (Sub.cons rfl (Sub.cons rfl (Sub.cons rfl (Sub.nil _))))) (Ent.nil _) ?_
  rintro _ _
  refine GC.block (GC.seq (GC.seq (GC.region (GL.v (.move rfl) rfl (?_)))))
  refine GL.v (.ext rfl (by exact fun w _ => typeOf_any 45 (.int .i64 c) w)) rfl ?_
  refine GL.v (.move rfl) rfl (?_)
  refine GL.v (.inv rfl rfl (m_asg 45) (by exact fun w _ => asg_45_187 w)) rfl ?_
  refine GL.nil (GN.seq (?_))
  refine GC.cond rfl (fun h => Bool.noConfusion (h.symm.trans (rfl) : true = false)) (fun _ => ?_)
  refine GC.skip (GN.seq (GC.seq (GC.seq (GC.region (GL.v (.move rfl) rfl (?_))))))
  refine GL.v (.tassert rfl (fun w => ta_as_45 (.int .i64 c) w)) rfl ?_
  refine GL.v (.move rfl) rfl (GL.v (.extract rfl rfl) rfl (GL.v (.extract rfl rfl) rfl (GL.v (.assign rfl) rfl (GL.v (.assign rfl) rfl (GL.nil (GN.seq (GC.seq (GC.region (GL.v (.move rfl) rfl (GL.v (.move rfl) rfl (?_)))))))))))
  refine GL.sg rfl rfl rfl rfl (GL.sg rfl rfl rfl rfl (GL.sg rfl rfl rfl rfl (GL.v (.pickF rfl rfl) rfl (GL.nil (GN.seq (GC.cond rfl (fun h => by first | (have := of_decide_eq_false h; contradiction) | (have := of_decide_eq_true h; contradiction) | (cases h; done)) (fun _ => ?_)))))))
  refine GC.skip (GN.seq (GC.seq (GC.region (GL.v (.move rfl) rfl (GL.nil (GN.seq (GC.block (GC.seq (GC.region (?_))))))))))
  refine GL.v (.tassert rfl (fun w => ta_un_45 (.int .i64 c) w)) rfl ?_
  refine GL.v (.extract rfl rfl) rfl (GL.v (.extract rfl rfl) rfl (GL.nil (GN.seq (?_))))
  refine GC.cond rfl (fun h => Bool.noConfusion (h.symm.trans (rfl) : true = false)) (fun _ => ?_)
  refine GC.seq (GC.region (?_))
  refine GL.v (.tassert rfl (fun w => ta_us_45 (.int .i64 c) w)) rfl ?_
  refine GL.v (.extract rfl rfl) rfl (GL.v (.extract rfl rfl) rfl (GL.nil (GN.seq (?_))))
  refine GC.cond rfl (fun h => Bool.noConfusion (h.symm.trans (rfl) : true = false)) (fun _ => ?_)
  refine GC.seq (GC.region (GL.v (.assign rfl) rfl (GL.nil (GN.seq (GC.seq (GC.region (GL.v (.assign rfl) rfl (GL.nil (GN.seq (GC.ret (?_)))))))))))
  exact GR.one rfl rfl rfl () rfl (Ent.nil _) trivial

theorem Place_code (c : Int) (w : World) : Tri Tryz.prog 62 [codeV c] [] (fun _ : Unit => .tuple #[.int .i64 0, .bool false]) (fun _ => []) (fun _ => True) w := by
  refine tri_of_G 13 Tryz.func62 rfl Tryz.ntmps62 rfl (fun D => ?_)
  refine GC.seq (GC.region (GL.v (.assign rfl) rfl (GL.v (.assign rfl) rfl (GL.nil (GN.seq (GC.seq (GC.region (GL.w .alloc rfl (fun b4 _ => GL.nil (GN.seq (GC.seq (GC.seq (GC.region (GL.v (.move rfl) rfl (GL.v (.makeInterface rfl) rfl (?_))))))))))))))))
  refine GL.call (As := [_]) rfl (fun w hst => As_of 188 187 22 406 asT_place 45 b4 (.int .i64 c) [Blk b4 187 1 [(0, .pointer none)]] (fun _ : Unit => .bool false) (fun _ => []) (fun _ => True) (fun _ _ => trivial) (fun k w => as_miss c b4 k _ w) w) rfl (fun _ _ => ?_)
  refine GL.v (.not rfl) rfl (GL.nil (GN.seq (?_)))
  refine GC.cond rfl (fun _ => ?_) (fun h => Bool.noConfusion (h.symm.trans (rfl) : false = true))
  refine GC.seq (GC.region (GL.v (.assign rfl) rfl (GL.v (.assign rfl) rfl (GL.nil (GN.seq (GC.ret (?_)))))))
  exact GR.two rfl rfl rfl rfl () rfl (Ent.nil _) trivial

theorem Er.atForm {v : Value} {p : Int} {e : GE} {ok : Nat → Prop} {w : World} (h : (Er v (.at_ p e)).holds ok w) : ∃ b, v = .iface 187 (ptr b) := by
  obtain ⟨b, v', h1, _⟩ := h
  exact ⟨b, h1⟩
theorem Er.atCell {b : Nat} {p : Int} {e : GE} {ok : Nat → Prop} {w : World} (h : (Er (.iface 187 (ptr b)) (.at_ p e)).holds ok w) : w.cell? ⟨b, 0, none⟩ = some (.int .i64 p) := by
  obtain ⟨b', v', h1, h2, h3, _⟩ := h
  injection h1 with _ h1; injection h1 with h1; injection h1 with h1; injection h1 with h1; subst h1
  rw [cell?_of_heap h3]; rfl

theorem Place_at (v : Value) (p : Int) (e : GE) (w : World) : Tri Tryz.prog 62 [v] [Er v (.at_ p e)] (fun _ : Unit => .tuple #[.int .i64 p, .bool true]) (fun _ => [Er v (.at_ p e)]) (fun _ => True) w := by
  refine tri_of_G 13 Tryz.func62 rfl Tryz.ntmps62 rfl (fun D => ?_)
  refine GC.fact 0 rfl (fun ok w h => Er.atForm h) (fun hv => ?_)
  obtain ⟨bw, rfl⟩ := hv
  refine GC.seq (GC.region (GL.v (.assign rfl) rfl (GL.v (.assign rfl) rfl (GL.nil (GN.seq (GC.seq (GC.region (GL.w .alloc rfl (fun b4 _ => GL.nil (GN.seq (GC.seq (GC.seq (GC.region (GL.v (.move rfl) rfl (GL.v (.makeInterface rfl) rfl (?_))))))))))))))))
  refine GL.call (As := [_]) rfl (fun w hst => As_of 188 187 22 406 asT_place 187 b4 (ptr bw) [Blk b4 187 1 [(0, .pointer none)]] (fun _ : Unit => .bool true) (fun _ => [Blk b4 187 1 [(0, ptr bw)]]) (fun _ => True) (fun _ _ => trivial) (fun k w => (as_hit 188 187 22 406 150 asT_place (ptr bw) _ (asU_place ⟨bw, 0, none⟩) rfl rfl b4 k w).ent (Ent.swap _ _ _)) w) rfl (fun _ _ => ?_)
  refine GL.v (.not rfl) rfl (GL.nil (GN.seq (?_)))
  refine GC.cond rfl (fun h => Bool.noConfusion (h.symm.trans (rfl) : true = false)) (fun _ => ?_)
  refine GC.skip (GN.seq (GC.seq (GC.region (GL.v (.ld 0 rfl rfl rfl) rfl (GL.v (.nilCheck rfl) rfl (GL.v (.fieldAddr rfl) rfl (?_)))))))
  refine GL.v (OpV.load1 (p := ⟨bw, 0, none⟩) rfl (fun w hs => by obtain ⟨ok, _, h1⟩ := Sat.at 1 rfl hs.sat; exact Er.atCell h1)) rfl ?_
  refine GL.v (.assign rfl) rfl (GL.v (.assign rfl) rfl (GL.nil (GN.seq (GC.ret (?_)))))
  exact GR.two rfl rfl rfl rfl () rfl (Ent.trans (Ent.tail _ _) (Ent.refl _)) trivial

end Go.Proofs.Gw
/- blame.Code. -/
set_option linter.unusedVariables false
set_option linter.unusedSimpArgs false
namespace Go.Proofs.Gw
open Go Go.RowKit Go.IntWalk Go.Proofs.Gm Go.Extern

/-- An error, and one within it. -/
def Er2 (v0 : Value) (e0 : GE) (v : Value) (e : GE) : HP where
  holds ok w := (Er v0 e0).holds ok w ∧ (Er v e).holds ok w
  loc ok w w' h h1 := ⟨(Er v0 e0).loc ok w w' h h1.1, (Er v e).loc ok w w' h h1.2⟩
/-- .. and the one below, out of its block. -/
def Er3 (v0 : Value) (e0 : GE) (v : Value) (e : GE) (b T : Nat) (n : Int) : HP where
  holds ok w := (Er2 v0 e0 v e).holds ok w ∧ ok b ∧ w.heap[b]? = some (.cells #[.int .i64 n, v] T (0, 0))
  loc ok w w' h h1 := ⟨(Er2 v0 e0 v e).loc ok w w' h h1.1, h1.2.1, by rw [h b h1.2.1]; exact h1.2.2⟩

theorem Unwrap_at (v0 : Value) (e0 e : GE) (b : Nat) (p : Int) (w : World) : Tri Tryz.prog 270 [ptr b] [Er2 v0 e0 (.iface 187 (ptr b)) (.at_ p e)] (fun v : Value => v) (fun v => [Er2 v0 e0 v e]) (fun v => ∃ t u, v = .iface t u) w := by
  refine Tri.opn (X := Value) (Hs' := fun v => [Er3 v0 e0 v e b 190 p]) (p := fun v => ∃ t u, v = .iface t u) ?_ ?_
  · rintro D w ⟨ok, h1, ⟨h2, b', v', h3, h4, h5, h6⟩, h7⟩
    injection h3 with _ h3; injection h3 with h3; injection h3 with h3; injection h3 with h3; subst h3
    exact ⟨v', Er.iface (ok := ok) (w := w) (e := e) h6, ok, h1, ⟨⟨h2, h6⟩, h4, h5⟩, h7⟩
  rintro v ⟨t, u, rfl⟩
  refine tri_of_G 7 Tryz.func270 rfl Tryz.ntmps270 rfl (fun D => ?_)
  refine GC.seq (GC.region (GL.v (.assign rfl) rfl (GL.nil (GN.seq (GC.seq (GC.region (GL.v (.move rfl) rfl (GL.v (.nilCheck rfl) rfl (GL.v (.fieldAddr rfl) rfl (?_))))))))))
  refine GL.v (OpV.load1 (p := ⟨b, 1, none⟩) (v := .iface t u) rfl (fun w hs => by obtain ⟨ok, _, h1, h2, h3⟩ := Sat.at 0 rfl hs.sat; rw [cell?_of_heap h3]; rfl)) rfl ?_
  refine GL.v (.assign rfl) rfl (GL.nil (GN.seq (GC.ret (?_))))
  exact GR.one rfl rfl rfl (.iface t u) rfl (Ent.head (by exact fun _ _ h => h.1) (Ent.refl _)) ⟨_, _, rfl⟩
theorem Unwrap_in (v0 : Value) (e0 e : GE) (b : Nat) (p : Int) (w : World) : Tri Tryz.prog 286 [ptr b] [Er2 v0 e0 (.iface 271 (ptr b)) (.in_ p e)] (fun v : Value => v) (fun v => [Er2 v0 e0 v e]) (fun v => ∃ t u, v = .iface t u) w := by
  refine Tri.opn (X := Value) (Hs' := fun v => [Er3 v0 e0 v e b 273 p]) (p := fun v => ∃ t u, v = .iface t u) ?_ ?_
  · rintro D w ⟨ok, h1, ⟨h2, b', v', h3, h4, h5, h6⟩, h7⟩
    injection h3 with _ h3; injection h3 with h3; injection h3 with h3; injection h3 with h3; subst h3
    exact ⟨v', Er.iface (ok := ok) (w := w) (e := e) h6, ok, h1, ⟨⟨h2, h6⟩, h4, h5⟩, h7⟩
  rintro v ⟨t, u, rfl⟩
  refine tri_of_G 7 Tryz.func286 rfl Tryz.ntmps286 rfl (fun D => ?_)
  refine GC.seq (GC.region (GL.v (.assign rfl) rfl (GL.nil (GN.seq (GC.seq (GC.region (GL.v (.move rfl) rfl (GL.v (.nilCheck rfl) rfl (GL.v (.fieldAddr rfl) rfl (?_))))))))))
  refine GL.v (OpV.load1 (p := ⟨b, 1, none⟩) (v := .iface t u) rfl (fun w hs => by obtain ⟨ok, _, h1, h2, h3⟩ := Sat.at 0 rfl hs.sat; rw [cell?_of_heap h3]; rfl)) rfl ?_
  refine GL.v (.assign rfl) rfl (GL.nil (GN.seq (GC.ret (?_))))
  exact GR.one rfl rfl rfl (.iface t u) rfl (Ent.head (by exact fun _ _ h => h.1) (Ent.refl _)) ⟨_, _, rfl⟩

def GE.dep : GE → Nat
  | .code _ => 0
  | .at_ _ e => e.dep + 1
  | .in_ _ e => e.dep + 1

theorem as_code (v0 : Value) (e0 : GE) (b k : Nat) (old : Value) (w : World) (t0 : Nat) (u0 : Value) (hv0 : v0 = .iface t0 u0) :
    Tri Tryz.prog 149 [v0, .iface 119 (ptr b), rval 119 ⟨k, 0, none⟩ 150, rty 45] [Blk k 119 1 [(0, ptr b)], Blk b 45 1 [(0, old)], Er v0 e0] (fun _ : Unit => .bool true) (fun _ => [Blk b 45 1 [(0, .int .i64 e0.cod)], Er v0 e0]) (fun _ => True) w := by
  subst hv0
  refine tri_of_G 62 Tryz.func149 rfl Tryz.ntmps149 rfl (fun D => ?_)
  refine GC.seq (GC.region (GL.w (.box rfl rfl) rfl (fun b6 _ => GL.v (.assign rfl) rfl (GL.nil (GN.seq (GC.block (?_)))))))
  refine GC.loop (γ := Nat × Value × GE) (fun g => g.2.2.cod = e0.cod) (fun g => [(0, .iface g.1 g.2.1), (1, .iface 119 (ptr b)), (3, rty 45), (6, ptr b6)]) (fun g => [Blk b 45 1 [(0, old)], Blk k 119 1 [(0, ptr b)], Er2 (.iface t0 u0) e0 (.iface g.1 g.2.1) g.2.2, Blk b6 195 3 [(0, hnd 119), (1, ptr k), (2, .int .u64 150)]]) (fun g => g.2.2.dep) (t0, u0, e0) rfl (Sub.cons rfl (Sub.cons rfl (Sub.cons rfl (Sub.cons rfl (Sub.nil _))))) ?_ ?_
  · exact (Ent.front 2 _ _ rfl).trans (Ent.cons _ ((Ent.front 1 _ _ rfl).trans (Ent.cons _ ((Ent.front 1 _ _ rfl).trans (Ent.head (by exact fun _ _ h => ⟨h, h⟩) (Ent.blk (by repeat (first | exact Sub.nil _ | refine Sub.cons rfl ?_)) (Ent.refl _)))))))
  rintro ⟨t, u, e⟩ he
  simp only at he ⊢
  cases e with
  | code c =>
    refine GC.fact 2 (φ := Value.iface t u = .iface 45 (.int .i64 c)) rfl (fun ok w h => h.2) (fun hv => ?_)
    injection hv with h1 h2
    subst h1; subst h2
    have he' : c = e0.cod := he
    subst he'
    refine GC.block (GC.seq (GC.seq (GC.region (GL.v (.move rfl) rfl (?_)))))
    refine GL.v (.ext rfl (by exact fun w _ => (asU_code e0.cod).typeOf w)) rfl ?_
    refine GL.v (.move rfl) rfl (?_)
    refine GL.v (.inv rfl rfl (m_asg 45) (by exact fun w _ => asT_code.asg w)) rfl ?_
    refine GL.nil (GN.seq (?_))
    refine GC.cond rfl (fun _ => ?_) (fun h => Bool.noConfusion (h.symm.trans (rfl) : false = true))
    refine GC.seq (GC.region (GL.v (.ldN 3 [_, _, _] rfl rfl rfl ⟨rfl, rfl, rfl, trivial⟩) rfl (?_)))
    refine GL.v (.ext rfl (by exact fun w hs => asT_code.elemV (Blk.at 1 rfl hs rfl))) rfl ?_
    refine GL.v (.move rfl) rfl (?_)
    refine GL.w (.extNew (T := 45) (val := fun q => rval 45 ⟨q, 0, none⟩ 130) (cs := [.int .i64 e0.cod]) rfl (by exact fun w => (asU_code e0.cod).valueOf w)) rfl (fun nb _ => ?_)
    refine GL.w (.ext (val := fun _ : Unit => .tuple #[]) rfl (by exact fun w hs => asT_code.set (asU_code e0.cod) rfl rfl rfl hs 1 rfl (Blk.at 0 rfl hs rfl))) rfl (fun _ _ => ?_)
    refine GL.nil (GN.seq (GC.seq (GC.region (GL.v (.assign rfl) rfl (GL.nil (GN.seq (GC.ret (?_))))))))
    exact GR.one rfl rfl rfl () rfl (Ent.trans (Ent.tail _ _) (Ent.trans (Ent.blk (by repeat (first | exact Sub.nil _ | refine Sub.cons rfl ?_)) (Ent.refl _)) (Ent.cons _ ((Ent.tail _ _).trans (Ent.head (by exact fun _ _ h => h.1) (Ent.nil _)))))) trivial
  | at_ p e' =>
    refine GC.fact 2 (φ := ∃ bw, Value.iface t u = .iface 187 (ptr bw)) rfl (fun ok w h => Er.atForm h.2) (fun hv => ?_)
    obtain ⟨bw, hv⟩ := hv
    injection hv with h1 h2
    subst h1; subst h2
    refine GC.block (GC.seq (GC.seq (GC.region (GL.v (.move rfl) rfl (?_)))))
    refine GL.v (.ext rfl (by exact fun w _ => typeOf_any 187 _ w)) rfl ?_
    refine GL.v (.move rfl) rfl (?_)
    refine GL.v (.inv rfl rfl (m_asg 187) (by exact fun w _ => asg_187_45 w)) rfl ?_
    refine GL.nil (GN.seq (?_))
    refine GC.cond rfl (fun h => Bool.noConfusion (h.symm.trans (rfl) : true = false)) (fun _ => ?_)
    refine GC.skip (GN.seq (GC.seq (GC.seq (GC.region (GL.v (.move rfl) rfl (?_))))))
    refine GL.v (.tassert rfl (fun w => ta_as_187 _ w)) rfl ?_
    refine GL.v (.move rfl) rfl (GL.v (.extract rfl rfl) rfl (GL.v (.extract rfl rfl) rfl (GL.v (.assign rfl) rfl (GL.v (.assign rfl) rfl (GL.nil (GN.seq (GC.seq (GC.region (GL.v (.move rfl) rfl (GL.v (.move rfl) rfl (?_)))))))))))
    refine GL.sg rfl rfl rfl rfl (GL.sg rfl rfl rfl rfl (GL.sg rfl rfl rfl rfl (GL.v (.pickF rfl rfl) rfl (GL.nil (GN.seq (GC.cond rfl (fun h => by first | (have := of_decide_eq_false h; contradiction) | (have := of_decide_eq_true h; contradiction) | (cases h; done)) (fun _ => ?_)))))))
    refine GC.skip (GN.seq (GC.seq (GC.region (GL.v (.move rfl) rfl (GL.nil (GN.seq (GC.block (GC.seq (GC.region (?_))))))))))
    refine GL.v (.tassert rfl (fun w => ta_un_187 _ w)) rfl ?_
    refine GL.v (.extract rfl rfl) rfl (GL.v (.extract rfl rfl) rfl (GL.nil (GN.seq (?_))))
    refine GC.cond rfl (fun _ => ?_) (fun h => Bool.noConfusion (h.symm.trans (rfl) : false = true))
    refine GC.seq (GC.region (GL.v (.assign rfl) rfl (GL.nil (GN.seq (GC.seq (GC.region (GL.v (.move rfl) rfl (?_))))))))
    refine GL.ent (Ent.front 2 _ _ rfl) ?_
    refine GL.inv (As := [_]) rfl rfl (m_unw_187 bw) (fun w hst => Unwrap_at _ e0 e' bw p w) rfl (fun v hv => ?_)
    obtain ⟨t', u', rfl⟩ := hv
    refine GL.v (.assign rfl) rfl (GL.nil (GN.seq (GC.seq (GC.region (GL.v (.move rfl) rfl (GL.v (.eqlNil rfl (by first | exact .inl rfl | exact .inr ⟨_, _, rfl⟩ | assumption)) rfl (GL.nil (GN.seq (?_)))))))))
    refine GC.cond rfl (fun h => Bool.noConfusion (h.symm.trans (rfl) : true = false)) (fun _ => ?_)
    refine GC.skip (GN.blk (GN.blk (?_)))
    exact GN.loop (t', u', e') he (Nat.lt_succ_self _) (Sub.cons rfl (Sub.cons rfl (Sub.cons rfl (Sub.cons rfl (Sub.nil _))))) ((Ent.front 1 _ _ rfl).trans (Ent.cons _ (Ent.swap _ _ _)))
  | in_ p e' =>
    refine GC.fact 2 (φ := ∃ bw, Value.iface t u = .iface 271 (ptr bw)) rfl (fun ok w h => by obtain ⟨b, v', h1, _⟩ := h.2; exact ⟨b, h1⟩) (fun hv => ?_)
    obtain ⟨bw, hv⟩ := hv
    injection hv with h1 h2
    subst h1; subst h2
    refine GC.block (GC.seq (GC.seq (GC.region (GL.v (.move rfl) rfl (?_)))))
    refine GL.v (.ext rfl (by exact fun w _ => typeOf_any 271 _ w)) rfl ?_
    refine GL.v (.move rfl) rfl (?_)
    refine GL.v (.inv rfl rfl (m_asg 271) (by exact fun w _ => asg_271_45 w)) rfl ?_
    refine GL.nil (GN.seq (?_))
    refine GC.cond rfl (fun h => Bool.noConfusion (h.symm.trans (rfl) : true = false)) (fun _ => ?_)
    refine GC.skip (GN.seq (GC.seq (GC.seq (GC.region (GL.v (.move rfl) rfl (?_))))))
    refine GL.v (.tassert rfl (fun w => ta_as_271 _ w)) rfl ?_
    refine GL.v (.move rfl) rfl (GL.v (.extract rfl rfl) rfl (GL.v (.extract rfl rfl) rfl (GL.v (.assign rfl) rfl (GL.v (.assign rfl) rfl (GL.nil (GN.seq (GC.seq (GC.region (GL.v (.move rfl) rfl (GL.v (.move rfl) rfl (?_)))))))))))
    refine GL.sg rfl rfl rfl rfl (GL.sg rfl rfl rfl rfl (GL.sg rfl rfl rfl rfl (GL.v (.pickF rfl rfl) rfl (GL.nil (GN.seq (GC.cond rfl (fun h => by first | (have := of_decide_eq_false h; contradiction) | (have := of_decide_eq_true h; contradiction) | (cases h; done)) (fun _ => ?_)))))))
    refine GC.skip (GN.seq (GC.seq (GC.region (GL.v (.move rfl) rfl (GL.nil (GN.seq (GC.block (GC.seq (GC.region (?_))))))))))
    refine GL.v (.tassert rfl (fun w => ta_un_271 _ w)) rfl ?_
    refine GL.v (.extract rfl rfl) rfl (GL.v (.extract rfl rfl) rfl (GL.nil (GN.seq (?_))))
    refine GC.cond rfl (fun _ => ?_) (fun h => Bool.noConfusion (h.symm.trans (rfl) : false = true))
    refine GC.seq (GC.region (GL.v (.assign rfl) rfl (GL.nil (GN.seq (GC.seq (GC.region (GL.v (.move rfl) rfl (?_))))))))
    refine GL.ent (Ent.front 2 _ _ rfl) ?_
    refine GL.inv (As := [_]) rfl rfl (m_unw_271 bw) (fun w hst => Unwrap_in _ e0 e' bw p w) rfl (fun v hv => ?_)
    obtain ⟨t', u', rfl⟩ := hv
    refine GL.v (.assign rfl) rfl (GL.nil (GN.seq (GC.seq (GC.region (GL.v (.move rfl) rfl (GL.v (.eqlNil rfl (by first | exact .inl rfl | exact .inr ⟨_, _, rfl⟩ | assumption)) rfl (GL.nil (GN.seq (?_)))))))))
    refine GC.cond rfl (fun h => Bool.noConfusion (h.symm.trans (rfl) : true = false)) (fun _ => ?_)
    refine GC.skip (GN.blk (GN.blk (?_)))
    exact GN.loop (t', u', e') he (Nat.lt_succ_self _) (Sub.cons rfl (Sub.cons rfl (Sub.cons rfl (Sub.cons rfl (Sub.nil _))))) ((Ent.front 1 _ _ rfl).trans (Ent.cons _ (Ent.swap _ _ _)))

/-- blame.Code: what the error says in the end. -/
theorem Code_tri (v : Value) (e : GE) (w : World) : Tri Tryz.prog 20 [v] [Er v e] (fun _ : Unit => .int .i64 e.cod) (fun _ => [Er v e]) (fun _ => True) w := by
  refine tri_of_G 11 Tryz.func20 rfl Tryz.ntmps20 rfl (fun D => ?_)
  refine GC.fact 0 rfl (fun ok w h => Er.iface h) (fun hv => ?_)
  obtain ⟨t, u, rfl⟩ := hv
  refine GC.seq (GC.region (GL.v (.assign rfl) rfl (GL.nil (GN.seq (GC.seq (GC.seq (GC.region (GL.v (.move rfl) rfl (GL.v (.eqlNil rfl (by first | exact .inl rfl | exact .inr ⟨_, _, rfl⟩ | assumption)) rfl (GL.nil (GN.seq (?_))))))))))))
  refine GC.cond rfl (fun h => Bool.noConfusion (h.symm.trans (rfl) : true = false)) (fun _ => ?_)
  refine GC.skip (GN.seq (GC.seq (GC.region (GL.w .alloc rfl (fun b3 _ => GL.nil (GN.seq (GC.seq (GC.seq (GC.region (GL.v (.move rfl) rfl (GL.v (.makeInterface rfl) rfl (?_))))))))))))
  refine GL.call (As := [_, _]) rfl (fun w hst => As_of 119 45 2 386 asT_code t b3 u [Blk b3 45 1 [(0, .int .i64 0)], Er (.iface t u) e] (fun _ : Unit => .bool true) (fun _ => [Blk b3 45 1 [(0, .int .i64 e.cod)], Er (.iface t u) e]) (fun _ => True) (fun _ _ => trivial) (fun k w => as_code _ e b3 k _ w t u rfl) w) rfl (fun _ _ => ?_)
  refine GL.v (.not rfl) rfl (GL.nil (GN.seq (?_)))
  refine GC.cond rfl (fun h => Bool.noConfusion (h.symm.trans (rfl) : true = false)) (fun _ => ?_)
  refine GC.skip (GN.seq (GC.seq (GC.region (GL.v (.ld 0 rfl rfl rfl) rfl (GL.v (.assign rfl) rfl (GL.nil (GN.seq (GC.ret (?_)))))))))
  exact GR.one rfl rfl rfl () rfl (Ent.trans (Ent.tail _ _) (Ent.refl _)) trivial
theorem Code_nil (w : World) : Tri Tryz.prog 20 [.nilIface] [] (fun _ : Unit => .int .i64 0) (fun _ => []) (fun _ => True) w := by
  refine tri_of_G 11 Tryz.func20 rfl Tryz.ntmps20 rfl (fun D => ?_)
  refine GC.seq (GC.region (GL.v (.assign rfl) rfl (GL.nil (GN.seq (GC.seq (GC.seq (GC.region (GL.v (.move rfl) rfl (GL.v (.eqlNil rfl (by first | exact .inl rfl | exact .inr ⟨_, _, rfl⟩ | assumption)) rfl (GL.nil (GN.seq (?_))))))))))))
  refine GC.cond rfl (fun _ => ?_) (fun h => Bool.noConfusion (h.symm.trans (rfl) : false = true))
  refine GC.seq (GC.region (GL.v (.assign rfl) rfl (GL.nil (GN.seq (GC.ret (?_))))))
  exact GR.one rfl rfl rfl () rfl (Ent.refl _) trivial

end Go.Proofs.Gw
