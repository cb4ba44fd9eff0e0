/- Texts that a claim of this seat leans on: J3. No statement is claimed in this text. -/
import Derived.Test.YtabmekglalbmoaaGreatDoorB16
import Derived.Test.YtabmekglalbmoaaGreatDoorB17
/- Records of other types, before and behind a point: the law's function. -/
set_option linter.unusedVariables false
set_option linter.unusedSimpArgs false
namespace Go.Proofs.Gw
open Go Go.RowKit Go.IntWalk Go.Proofs.Gm

theorem expF_unk (x : Expo) (u : Bs) (v1 v2 v3 v4 : Value) {ok : Nat → Prop} {w : World} (h : (expF x [v1, .int .u64 (x.start : Int), .int .u64 (x.time : Int), .int .u64 (x.count : Int), .bool x.sum.has, .int .u64 (x.sum.n : Int), .bool x.min.has, .int .u64 (x.min.n : Int), .bool x.max.has, .int .u64 (x.max.n : Int), .int .i32 x.scale, .int .u64 (x.zero : Int), .bool x.hasPos, .int .i32 x.pos.off, v2, .string (mkS x.pos.unk), .bool x.hasNeg, .int .i32 x.neg.off, v3, .string (mkS x.neg.unk), v4, .int .u32 (x.flags : Int), .int .u64 (x.thr : Int), .string (mkS x.unk)]).holds ok w) :
    (expF { x with unk := u } [v1, .int .u64 (x.start : Int), .int .u64 (x.time : Int), .int .u64 (x.count : Int), .bool x.sum.has, .int .u64 (x.sum.n : Int), .bool x.min.has, .int .u64 (x.min.n : Int), .bool x.max.has, .int .u64 (x.max.n : Int), .int .i32 x.scale, .int .u64 (x.zero : Int), .bool x.hasPos, .int .i32 x.pos.off, v2, .string (mkS x.pos.unk), .bool x.hasNeg, .int .i32 x.neg.off, v3, .string (mkS x.neg.unk), v4, .int .u32 (x.flags : Int), .int .u64 (x.thr : Int), .string (mkS u)]).holds ok w := by
  obtain ⟨⟨a1, a2, a3, a4⟩, e, k1, k2, k3, k4⟩ := h
  have e : [v1, _, _, _, _, _, _, _, _, _, _, _, _, _, v2, _, _, _, v3, _, v4, _, _, _] = _ := e
  simp only [List.cons.injEq, and_true, true_and] at e
  obtain ⟨rfl, rfl, rfl, rfl⟩ := e
  exact ⟨(v1, v2, v3, v4), rfl, k1, k2, k3, k4⟩
theorem others_tri (s : ByteArray) (d num n : Int) (hd1 : -9223372036854775808 ≤ d) (hd2 : d ≤ 9223372036854775807) (hn1 : 0 ≤ n) (hn2 : n ≤ 18446744073709551615) (w : World) : Tri Tryz.prog 7 [.string s, .int .i64 d, .int .i64 num, .int .u64 n] [] (fun _ : Unit => .bool true) (fun _ => []) (fun _ => True) w := by
  obtain ⟨n, rfl⟩ : ∃ m : Nat, n = (m : Int) := ⟨n.toNat, by omega⟩
  refine tri_of_G 133 Tryz.func7 rfl Tryz.ntmps7 rfl (fun D => ?_)
  refine GC.seq (GC.region (GL.v (.assign rfl) rfl (GL.nil (GN.seq (GC.seq (GC.seq (GC.region (?_))))))))
  -- call
  refine GL.call (As := []) rfl (fun w hst => first14_tri w) rfl (fun _ _ => ?_)
  refine GL.v (.not rfl) rfl (GL.nil (GN.seq (?_)))
  -- if
  refine GC.cond rfl (fun h => Bool.noConfusion (h.symm.trans (rfl) : true = false)) (fun _ => ?_)
  refine GC.skip (GN.seq (GC.seq (GC.seq (GC.region (GL.v (.move rfl) rfl (GL.v (.lenS rfl) rfl (GL.v (.gtr rfl rfl) rfl (GL.v (.move rfl) rfl (?_)))))))))
  -- part
  refine GL.partD 24 rfl (fun g1 => ?_) (fun g1 => ?_)
  · refine GL.sg rfl rfl rfl rfl (GL.sg rfl rfl rfl rfl (GL.v (.pickT rfl rfl) rfl (GL.v (.move rfl) rfl (GL.sg rfl rfl rfl rfl (GL.sg rfl rfl rfl rfl (GL.v (.pickT rfl rfl) rfl (GL.nil (GN.seq (GC.cond rfl (fun _ => ?_) (fun h => by first | (have := of_decide_eq_false h; contradiction) | (have := of_decide_eq_true h; contradiction) | (cases h; done)))))))))))
    refine GC.seq (GC.region (?_))
    -- call
    refine GL.call (As := []) rfl (fun w hst => first14_tri w) rfl (fun _ _ => ?_)
    refine GL.v (.assign rfl) rfl (GL.nil (GN.seq (GC.ret (?_))))
    -- ret
    exact GR.one rfl rfl rfl () rfl (Ent.nil _) trivial
  refine GL.vg rfl rfl (.move rfl) rfl (GL.vg rfl rfl (.lss rfl rfl) rfl (GL.v (.pickF rfl rfl) rfl (GL.v (.move rfl) rfl (?_))))
  -- part
  refine GL.partD 28 rfl (fun g2 => ?_) (fun g2 => ?_)
  · refine GL.sg rfl rfl rfl rfl (GL.sg rfl rfl rfl rfl (GL.v (.pickT rfl rfl) rfl (GL.nil (GN.seq (GC.cond rfl (fun _ => ?_) (fun h => by first | (have := of_decide_eq_false h; contradiction) | (have := of_decide_eq_true h; contradiction) | (cases h; done)))))))
    refine GC.seq (GC.region (?_))
    -- call
    refine GL.call (As := []) rfl (fun w hst => first14_tri w) rfl (fun _ _ => ?_)
    refine GL.v (.assign rfl) rfl (GL.nil (GN.seq (GC.ret (?_))))
    -- ret
    exact GR.one rfl rfl rfl () rfl (Ent.nil _) trivial
  refine GL.vg rfl rfl (.move rfl) rfl (GL.vg rfl rfl (.geq rfl rfl) rfl (GL.v (.pickF rfl rfl) rfl (GL.nil (GN.seq (?_)))))
  -- if
  refine GC.condD rfl (fun g3 => ?_) (fun g3 => ?_)
  · refine GC.seq (GC.region (?_))
    -- call
    refine GL.call (As := []) rfl (fun w hst => first14_tri w) rfl (fun _ _ => ?_)
    refine GL.v (.assign rfl) rfl (GL.nil (GN.seq (GC.ret (?_))))
    -- ret
    exact GR.one rfl rfl rfl () rfl (Ent.nil _) trivial
  obtain ⟨m, rfl⟩ : ∃ m : Nat, num = (m : Int) := ⟨num.toNat, by omega⟩
  have hm1 : 1 ≤ m := by omega
  have hm2 : m ≤ 536870911 := by omega
  have htl := tagW_len m 5
  refine GC.skip (GN.seq (GC.seq (GC.region (GL.v (.move rfl) rfl (GL.v (.move rfl) rfl (?_))))))
  -- call
  refine GL.ent (Ent.intro (A := Emp) (fun _ => trivial) _) ?_
  refine GL.call (As := [_]) rfl (fun w hst => Exp_rd 4294967296 (by omega) d hd1 hd2 s w (by omega)) rfl (fun ⟨c1, e1⟩ hc1 => ?_)
  obtain ⟨l1, o1⟩ := hc1
  simp only at l1 o1 ⊢
  refine GL.fact 1 (φ := _) rfl (fun ok w h => ErF.form h) (fun hf1 => ?_)
  refine GL.v (.move rfl) rfl (GL.v (.extract rfl rfl) rfl (GL.v (.extract rfl rfl) rfl (GL.w .alloc rfl (fun b9 _ => GL.w0 (.store 0 rfl rfl rfl rfl (by rw [l1]; rfl) rfl o1) (fun _ _ => GL.v (.assign rfl) rfl (GL.nil (GN.seq (GC.seq (GC.region (GL.v (.move rfl) rfl (?_)))))))))))
  -- call
  refine GL.call (As := []) rfl (fun w hst => Tag_tri m 5 w (by omega) (by omega)) rfl (fun _ _ => ?_)
  refine GL.v (.addS rfl rfl (by rw [mkS_size]; show _ + 4 ≤ _; omega)) rfl (?_)
  -- upto
  rw [show mkS (tagW m 5) ++ (⟨#[97, 98, 99, 100]⟩ : ByteArray) = mkS (tagW m 5 ++ [97, 98, 99, 100]) from mkS_app (tagW m 5) [97, 98, 99, 100]]
  generalize hU : tagW m 5 ++ [97, 98, 99, 100] = U
  have hUl : U.length ≤ 14 := by rw [← hU, List.length_append]; simp; omega
  refine GL.v (.assign rfl) rfl (GL.nil (GN.seq (GC.seq (GC.region (GL.v (.move rfl) rfl (GL.v (.move rfl) rfl (GL.v (.addS rfl rfl (by rw [mkS_size]; omega)) rfl (GL.v (.move rfl) rfl (?_)))))))))
  -- call
  refine GL.ent (Ent.front 3 _ _ rfl) ?_
  refine GL.call (As := [_]) rfl (fun w hst => Exp_rd 4294967296 (by omega) d hd1 hd2 (s ++ mkS U) w (by rw [ByteArray.size_append, mkS_size]; omega)) rfl (fun ⟨c2, e2⟩ hc2 => ?_)
  obtain ⟨l2, o2⟩ := hc2
  simp only at l2 o2 ⊢
  refine GL.fact 1 (φ := _) rfl (fun ok w h => ErF.form h) (fun hf2 => ?_)
  refine GL.v (.move rfl) rfl (GL.v (.extract rfl rfl) rfl (GL.v (.extract rfl rfl) rfl (GL.w .alloc rfl (fun b12 _ => GL.w0 (.store 0 rfl rfl rfl rfl (by rw [l2]; rfl) rfl o2) (fun _ _ => GL.v (.assign rfl) rfl (GL.nil (GN.seq (GC.seq (GC.region (GL.v (.move rfl) rfl (GL.v (.move rfl) rfl (GL.v (.addS rfl rfl (by rw [mkS_size]; omega)) rfl (GL.v (.move rfl) rfl (?_))))))))))))))
  -- call
  refine GL.ent (Ent.front 3 _ _ rfl) ?_
  refine GL.call (As := [_]) rfl (fun w hst => Exp_rd 4294967296 (by omega) d hd1 hd2 (mkS U ++ s) w (by rw [ByteArray.size_append, mkS_size]; omega)) rfl (fun ⟨c3, e3⟩ hc3 => ?_)
  obtain ⟨l3, o3⟩ := hc3
  simp only at l3 o3 ⊢
  refine GL.fact 1 (φ := _) rfl (fun ok w h => ErF.form h) (fun hf3 => ?_)
  refine GL.v (.move rfl) rfl (GL.v (.extract rfl rfl) rfl (GL.v (.extract rfl rfl) rfl (GL.w .alloc rfl (fun b14 _ => GL.w0 (.store 0 rfl rfl rfl rfl (by rw [l3]; rfl) rfl o3) (fun _ _ => GL.v (.assign rfl) rfl (GL.nil (GN.seq (GC.seq (GC.seq (GC.region (?_)))))))))))
  -- upto
  rcases hf1 with ⟨h1, rfl⟩ | ⟨⟨oc, h1⟩, t', u', rfl⟩
  · obtain ⟨x, hx⟩ := errE_ok h1
    obtain ⟨hb, hc, hv⟩ := exp_others m n hm1 hm2 hx
    rw [hU] at hb hc
    have hb' : expM d (bs (s ++ mkS U)) = .ok { x with unk := x.unk ++ U } := by rw [bs_append, bs_mkS]; exact hb
    have hc' : expM d (bs (mkS U ++ s)) = .ok { x with unk := U ++ x.unk } := by rw [bs_append, bs_mkS]; exact hc
    rw [hb'] at hf2
    rw [hc'] at hf3
    have h2 : e2 = .nilIface := by
      rcases hf2 with h | ⟨⟨oc, h⟩, _⟩
      · exact h.2
      · cases h
    have h3 : e3 = .nilIface := by
      rcases hf3 with h | ⟨⟨oc, h⟩, _⟩
      · exact h.2
      · cases h
    subst h2; subst h3
    simp only [hx, hb', hc']
    refine GL.fact 1 (φ := _) rfl (fun ok w h => expF_form h) (fun hf => ?_)
    obtain ⟨A1, k1, A2, k2, A3, k3, A4, k4, rfl⟩ := hf
    refine GL.fact 5 (φ := _) rfl (fun ok w h => expF_form h) (fun hf => ?_)
    obtain ⟨B1, m1, B2, m2, B3, m3, B4, m4, rfl⟩ := hf
    refine GL.fact 8 (φ := _) rfl (fun ok w h => expF_form h) (fun hf => ?_)
    obtain ⟨D1, n1, D2, n2, D3, n3, D4, n4, rfl⟩ := hf
    have sx := exp_small hx
    rw [bs_length] at sx
    have hfl : (fixW 536870911 n).length ≤ 18 := by
      unfold fixW; refine Nat.le_trans (putW_len _ _ _) ?_; rw [leM_len]; omega
    refine GL.v (.move rfl) rfl (GL.v (.isF (.neqNil rfl (.inl rfl)) rfl) rfl (GL.nil (GN.seq (GC.cond rfl (fun h => by first | (have := of_decide_eq_false h; contradiction) | (have := of_decide_eq_true h; contradiction) | (cases h; done)) (fun _ => ?_)))))
    refine GC.skip (GN.seq (GC.seq (GC.seq (GC.region (GL.v (.move rfl) rfl (GL.v (.isF (.neqNil rfl (.inl rfl)) rfl) rfl (GL.v (.move rfl) rfl (GL.vg rfl rfl (.move rfl) rfl (GL.vg rfl rfl (.isF (.neqNil rfl (.inl rfl)) rfl) rfl (GL.v (.pickF rfl rfl) rfl (GL.v (.move rfl) rfl (GL.vg rfl rfl (.fieldAddr rfl) rfl (GL.vg rfl rfl (.ld 4 rfl rfl rfl) rfl (GL.vg rfl rfl (.fieldAddr rfl) rfl (GL.vg rfl rfl (.ld 7 rfl rfl rfl) rfl (GL.vg rfl rfl (.move rfl) rfl (GL.vg rfl rfl (.addS rfl rfl (by rw [mkS_size, mkS_size]; omega)) rfl (GL.vg rfl rfl (.isF (.neqS rfl rfl) (decide_eq_false (fun h => h (by rw [mkS_app])))) rfl (GL.v (.pickF rfl rfl) rfl (GL.v (.move rfl) rfl (GL.vg rfl rfl (.fieldAddr rfl) rfl (GL.vg rfl rfl (.ld 0 rfl rfl rfl) rfl (GL.vg rfl rfl (.move rfl) rfl (GL.vg rfl rfl (.fieldAddr rfl) rfl (GL.vg rfl rfl (.ld 7 rfl rfl rfl) rfl (GL.vg rfl rfl (.addS rfl rfl (by rw [mkS_size, mkS_size]; omega)) rfl (GL.vg rfl rfl (.isF (.neqS rfl rfl) (decide_eq_false (fun h => h (by rw [mkS_app])))) rfl (GL.v (.pickF rfl rfl) rfl (GL.nil (GN.seq (GC.cond rfl (fun h => by first | (have := of_decide_eq_false h; contradiction) | (have := of_decide_eq_true h; contradiction) | (cases h; done)) (fun _ => ?_))))))))))))))))))))))))))))))))
    refine GC.skip (GN.seq (GC.seq (?_)))
    -- draw
    refine GC.draw ([Blk b9 33 24 [(23, .string (mkS x.unk))]]) (m := 8) rfl (by repeat (first | exact Ent.nil _ | (with_reducible exact Ent.refl _) | refine Ent.blk (by repeat (first | exact Sub.nil _ | refine Sub.cons rfl ?_)) ?_ | refine Ent.cons _ ?_ | refine Ent.trans (Ent.tail _ _) ?_)) ?_
    refine GA.take 0 rfl (by kernel_rfl) (by kernel_rfl) (by kernel_rfl) (.fieldAddr rfl) rfl (GA.take 1 rfl (by kernel_rfl) (by kernel_rfl) (by kernel_rfl) (.ld 0 rfl rfl rfl) rfl (GA.take 2 rfl (by kernel_rfl) (by kernel_rfl) (by kernel_rfl) (.fieldAddr rfl) rfl (GA.take 3 rfl (by kernel_rfl) (by kernel_rfl) (by kernel_rfl) (.ld 0 rfl rfl rfl) rfl (GA.take 4 rfl (by kernel_rfl) (by kernel_rfl) (by kernel_rfl) (.fieldAddr rfl) rfl (?_)))))
    refine GA.one 5 (by kernel_rfl) (GAi.w0 rfl (.store 4 rfl rfl rfl rfl rfl rfl rfl) (fun _ _ => (by repeat (first | exact Ent.nil _ | (with_reducible exact Ent.refl _) | refine Ent.blk (by repeat (first | exact Sub.nil _ | refine Sub.cons rfl ?_)) ?_ | refine Ent.cons _ ?_ | refine Ent.trans (Ent.tail _ _) ?_))) (fun _ _ => ?_))
    refine GA.take 6 rfl (by kernel_rfl) (by kernel_rfl) (by kernel_rfl) (.fieldAddr rfl) rfl (?_)
    refine GA.one 7 (by kernel_rfl) (GAi.w0 rfl (.store 0 rfl rfl rfl rfl rfl rfl rfl) (fun _ _ => (by repeat (first | exact Ent.nil _ | (with_reducible exact Ent.refl _) | refine Ent.blk (by repeat (first | exact Sub.nil _ | refine Sub.cons rfl ?_)) ?_ | refine Ent.cons _ ?_ | refine Ent.trans (Ent.tail _ _) ?_))) (fun _ _ => ?_))
    refine GA.done (by kernel_rfl) (?_)
    -- drawn
    refine GN.seq (GC.seq (GC.region (GL.v (.move rfl) rfl (?_))))
    -- call
    refine GL.call (As := []) rfl (fun w hst => Fixed_w 536870911 n w (by omega) (by omega)) rfl (fun _ _ => ?_)
    generalize hV : fixW 536870911 n = V at hfl hv
    refine GL.v (.assign rfl) rfl (GL.nil (GN.seq (GC.seq (GC.region (GL.v (.move rfl) rfl (GL.v (.move rfl) rfl (GL.v (.addS rfl rfl (by rw [mkS_size]; omega)) rfl (GL.v (.move rfl) rfl (GL.v (.addS rfl rfl (by rw [ByteArray.size_append, mkS_size]; omega)) rfl (GL.v (.move rfl) rfl (?_)))))))))))
    -- call
    refine GL.ent (Ent.front 3 _ _ rfl) ?_
    refine GL.call (As := [_]) rfl (fun w hst => Exp_rd 4294967296 (by omega) d hd1 hd2 (mkS V ++ s ++ mkS V) w (by rw [ByteArray.size_append, ByteArray.size_append, mkS_size]; omega)) rfl (fun ⟨c4, e4⟩ hc4 => ?_)
    obtain ⟨l4, o4⟩ := hc4
    simp only at l4 o4 ⊢
    have hv' : expM d (bs (mkS V ++ s ++ mkS V)) = .ok { x with unk := V ++ x.unk ++ V } := by rw [bs_append, bs_append, bs_mkS]; exact hv
    simp only [hv']
    refine GL.fact 1 (φ := _) rfl (fun ok w h => ErF.form h) (fun hf4 => ?_)
    have h4 : e4 = .nilIface := by
      rcases hf4 with h | ⟨⟨oc, h⟩, _⟩
      · exact h.2
      · cases h
    subst h4
    refine GL.fact 0 (φ := _) rfl (fun ok w h => expF_form h) (fun hf => ?_)
    obtain ⟨G1, r1, G2, r2, G3, r3, G4, r4, rfl⟩ := hf
    refine GL.v (.move rfl) rfl (GL.v (.extract rfl rfl) rfl (GL.v (.extract rfl rfl) rfl (GL.w .alloc rfl (fun b17 _ => GL.w0 (.store 0 rfl rfl rfl rfl rfl rfl rfl) (fun _ _ => GL.v (.assign rfl) rfl (GL.nil (GN.seq (GC.seq (GC.region (?_))))))))))
    -- call
    refine GL.call (As := []) rfl (fun w hst => first14_tri w) rfl (fun _ _ => ?_)
    refine GL.v (.move rfl) rfl (GL.vg rfl rfl (.ldN 10 [_, _, _, _, _, _, _, _, _, _, _, _, _, _, _, _, _, _, _, _, _, _, _, _] rfl rfl rfl ⟨rfl, rfl, rfl, rfl, rfl, rfl, rfl, rfl, rfl, rfl, rfl, rfl, rfl, rfl, rfl, rfl, rfl, rfl, rfl, rfl, rfl, rfl, rfl, rfl, trivial⟩) rfl (GL.vg rfl rfl (.ldN 7 [_, _, _, _, _, _, _, _, _, _, _, _, _, _, _, _, _, _, _, _, _, _, _, _] rfl rfl rfl ⟨rfl, rfl, rfl, rfl, rfl, rfl, rfl, rfl, rfl, rfl, rfl, rfl, rfl, rfl, rfl, rfl, rfl, rfl, rfl, rfl, rfl, rfl, rfl, rfl, trivial⟩) rfl (GL.gd rfl rfl (?_))))
    -- call
    refine GL.call (As := []) rfl (fun w hst => SameExp_tri x x _ _ w (hst.fp 11 rfl) (by have := hst.fp 8 rfl; exact expF_unk { x with unk := x.unk ++ U } x.unk _ _ _ _ this)) rfl (fun _ _ => ?_)
    rw [sameE_self]
    refine GL.v (.pickT rfl rfl) rfl (GL.v (.move rfl) rfl (GL.vg rfl rfl (.ldN 10 [_, _, _, _, _, _, _, _, _, _, _, _, _, _, _, _, _, _, _, _, _, _, _, _] rfl rfl rfl ⟨rfl, rfl, rfl, rfl, rfl, rfl, rfl, rfl, rfl, rfl, rfl, rfl, rfl, rfl, rfl, rfl, rfl, rfl, rfl, rfl, rfl, rfl, rfl, rfl, trivial⟩) rfl (GL.vg rfl rfl (.ldN 4 [_, _, _, _, _, _, _, _, _, _, _, _, _, _, _, _, _, _, _, _, _, _, _, _] rfl rfl rfl ⟨rfl, rfl, rfl, rfl, rfl, rfl, rfl, rfl, rfl, rfl, rfl, rfl, rfl, rfl, rfl, rfl, rfl, rfl, rfl, rfl, rfl, rfl, rfl, rfl, trivial⟩) rfl (GL.gd rfl rfl (?_)))))
    -- call
    refine GL.call (As := []) rfl (fun w hst => SameExp_tri x x _ _ w (hst.fp 11 rfl) (by have := hst.fp 5 rfl; exact expF_unk { x with unk := U ++ x.unk } x.unk _ _ _ _ this)) rfl (fun _ _ => ?_)
    rw [sameE_self]
    refine GL.v (.pickT rfl rfl) rfl (GL.v (.move rfl) rfl (GL.vg rfl rfl (.move rfl) rfl (GL.vg rfl rfl (.isT (.eqlNil rfl (.inl rfl)) rfl) rfl (GL.v (.pickT rfl rfl) rfl (GL.v (.move rfl) rfl (GL.vg rfl rfl (.fieldAddr rfl) rfl (GL.vg rfl rfl (.ld 0 rfl rfl rfl) rfl (GL.vg rfl rfl (.move rfl) rfl (GL.vg rfl rfl (.fieldAddr rfl) rfl (GL.vg rfl rfl (.ld 10 rfl rfl rfl) rfl (GL.vg rfl rfl (.addS rfl rfl (by rw [mkS_size, mkS_size]; omega)) rfl (GL.vg rfl rfl (.move rfl) rfl (GL.vg rfl rfl (.addS rfl rfl (by rw [mkS_app, mkS_size, mkS_size, List.length_append]; omega)) rfl (GL.vg rfl rfl (.isT (.eqlS rfl rfl) (decide_eq_true (by rw [mkS_app, mkS_app]))) rfl (GL.v (.pickT rfl rfl) rfl (GL.v (.assign rfl) rfl (GL.nil (GN.seq (GC.ret (?_))))))))))))))))))))
    -- ret
    exact GR.one rfl rfl rfl () rfl (Ent.nil _) trivial
  · obtain ⟨oc3, h3⟩ := exp_others_err m hm1 hm2 h1
    rw [hU] at h3
    have h3' : ∃ t u, e3 = .iface t u := by
      rcases hf3 with ⟨h, _⟩ | ⟨_, h⟩
      · rw [bs_append, bs_mkS, h3] at h; cases h
      · exact h
    obtain ⟨t3, u3, rfl⟩ := h3'
    refine GL.v (.move rfl) rfl (GL.v (.isT (.neqNil rfl (.inr ⟨_, _, rfl⟩)) rfl) rfl (GL.nil (GN.seq (GC.cond rfl (fun _ => ?_) (fun h => by first | (have := of_decide_eq_false h; contradiction) | (have := of_decide_eq_true h; contradiction) | (cases h; done))))))
    refine GC.seq (GC.region (?_))
    -- call
    refine GL.call (As := []) rfl (fun w hst => first14_tri w) rfl (fun _ _ => ?_)
    refine GL.v (.move rfl) rfl (GL.vg rfl rfl (.move rfl) rfl (GL.vg rfl rfl (.isT (.neqNil rfl (.inr ⟨_, _, rfl⟩)) rfl) rfl (GL.v (.pickT rfl rfl) rfl (GL.v (.assign rfl) rfl (GL.nil (GN.seq (GC.ret (?_))))))))
    -- ret
    exact GR.one rfl rfl rfl () rfl (Ent.nil _) trivial
end Go.Proofs.Gw
