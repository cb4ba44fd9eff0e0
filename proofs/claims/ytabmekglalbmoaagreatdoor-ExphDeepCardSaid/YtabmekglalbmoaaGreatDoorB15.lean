/- Texts that a claim of this seat leans on: J2. No statement is claimed in this text. -/
import Derived.Test.YtabmekglalbmoaaGreatDoorB12
import Derived.Test.YtabmekglalbmoaaGreatDoorB10
/- Groups as deep as told, behind a point: the law's function. -/
set_option linter.unusedVariables false
set_option linter.unusedSimpArgs false
namespace Go.Proofs.Gw
open Go Go.RowKit Go.IntWalk Go.Proofs.Gm

theorem deep_tri (s : ByteArray) (d : Int) (hd1 : -9223372036854775808 ≤ d) (hd2 : d ≤ 9223372036854775807) (w : World) : Tri Tryz.prog 5 [.string s, .int .i64 d] [] (fun _ : Unit => .bool true) (fun _ => []) (fun _ => True) w := by
  refine tri_of_G 115 Tryz.func5 rfl Tryz.ntmps5 rfl (fun D => ?_)
  refine GC.seq (GC.region (GL.v (.assign rfl) rfl (GL.nil (GN.seq (GC.seq (GC.seq (GC.region (?_))))))))
  -- call
  refine GL.call (As := []) rfl (fun w hst => first14_tri w) rfl (fun _ _ => ?_)
  refine GL.v (.not rfl) rfl (GL.nil (GN.seq (?_)))
  -- if
  refine GC.cond rfl (fun h => Bool.noConfusion (h.symm.trans (rfl) : true = false)) (fun _ => ?_)
  refine GC.skip (GN.seq (GC.seq (GC.seq (GC.region (GL.v (.move rfl) rfl (GL.v (.lenS rfl) rfl (GL.v (.gtr rfl rfl) rfl (GL.v (.move rfl) rfl (?_)))))))))
  -- part
  refine GL.partD 22 rfl (fun g1 => ?_) (fun g1 => ?_)
  · refine GL.sg rfl rfl rfl rfl (GL.sg rfl rfl rfl rfl (GL.v (.pickT rfl rfl) rfl (GL.v (.move rfl) rfl (GL.sg rfl rfl rfl rfl (GL.sg rfl rfl rfl rfl (GL.v (.pickT rfl rfl) rfl (GL.nil (GN.seq (GC.cond rfl (fun _ => ?_) (fun h => by first | (have := of_decide_eq_false h; contradiction) | (have := of_decide_eq_true h; contradiction) | (cases h; done)))))))))))
    refine GC.seq (GC.region (?_))
    -- call
    refine GL.call (As := []) rfl (fun w hst => first14_tri w) rfl (fun _ _ => ?_)
    refine GL.v (.assign rfl) rfl (GL.nil (GN.seq (GC.ret (?_))))
    -- ret
    exact GR.one rfl rfl rfl () rfl (Ent.nil _) trivial
  refine GL.vg rfl rfl (.move rfl) rfl (GL.vg rfl rfl (.lss rfl rfl) rfl (GL.v (.pickF rfl rfl) rfl (GL.v (.move rfl) rfl (?_))))
  -- part
  refine GL.partD 26 rfl (fun g2 => ?_) (fun g2 => ?_)
  · refine GL.sg rfl rfl rfl rfl (GL.sg rfl rfl rfl rfl (GL.v (.pickT rfl rfl) rfl (GL.nil (GN.seq (GC.cond rfl (fun _ => ?_) (fun h => by first | (have := of_decide_eq_false h; contradiction) | (have := of_decide_eq_true h; contradiction) | (cases h; done)))))))
    refine GC.seq (GC.region (?_))
    -- call
    refine GL.call (As := []) rfl (fun w hst => first14_tri w) rfl (fun _ _ => ?_)
    refine GL.v (.assign rfl) rfl (GL.nil (GN.seq (GC.ret (?_))))
    -- ret
    exact GR.one rfl rfl rfl () rfl (Ent.nil _) trivial
  refine GL.vg rfl rfl (.move rfl) rfl (GL.vg rfl rfl (.gtr rfl rfl) rfl (GL.v (.pickF rfl rfl) rfl (GL.nil (GN.seq (?_)))))
  -- if
  refine GC.condD rfl (fun g3 => ?_) (fun g3 => ?_)
  · refine GC.seq (GC.region (?_))
    -- call
    refine GL.call (As := []) rfl (fun w hst => first14_tri w) rfl (fun _ _ => ?_)
    refine GL.v (.assign rfl) rfl (GL.nil (GN.seq (GC.ret (?_))))
    -- ret
    exact GR.one rfl rfl rfl () rfl (Ent.nil _) trivial
  obtain ⟨n, rfl⟩ : ∃ n : Nat, d = (n : Int) := ⟨d.toNat, by omega⟩
  have hn : n ≤ 100 := by omega
  refine GC.skip (GN.seq (GC.seq (GC.region (GL.v (.move rfl) rfl (GL.v (.move rfl) rfl (?_))))))
  -- call
  refine GL.ent (Ent.intro (A := Emp) (fun _ => trivial) _) ?_
  refine GL.call (As := [_]) rfl (fun w hst => Exp_rd 4294967296 (by omega) n hd1 hd2 s w (by omega)) rfl (fun ⟨c1, e1⟩ hc1 => ?_)
  obtain ⟨l1, o1⟩ := hc1
  simp only at l1 o1 ⊢
  refine GL.fact 1 (φ := _) rfl (fun ok w h => ErF.form h) (fun hf1 => ?_)
  refine GL.v (.move rfl) rfl (GL.v (.extract rfl rfl) rfl (GL.v (.extract rfl rfl) rfl (GL.w .alloc rfl (fun b5 _ => GL.w0 (.store 0 rfl rfl rfl rfl (by rw [l1]; rfl) rfl o1) (fun _ _ => GL.v (.assign rfl) rfl (GL.nil (GN.seq (GC.seq (GC.seq (GC.region (?_)))))))))))
  -- upto
  rcases hf1 with ⟨h1, rfl⟩ | ⟨_, t', u', rfl⟩
  · obtain ⟨x, hx⟩ := errE_ok h1
    obtain ⟨q1, q2, ⟨k4, q4⟩, ⟨k5, q5⟩⟩ := exp_deep hx
    simp only [hx]
    refine GL.fact 1 (φ := _) rfl (fun ok w h => expF_form h) (fun hf => ?_)
    obtain ⟨A1, m1, A2, m2, A3, m3, A4, m4, rfl⟩ := hf
    have sx := exp_small hx
    rw [bs_length] at sx
    have hnl := nest_len n
    have t90b : tagW 90 3 = [211, 5] := by simp [tagW, putM]
    have t90e : tagW 90 4 = [212, 5] := by simp [tagW, putM]
    have t91b : tagW 91 3 = [219, 5] := by simp [tagW, putM]
    have t91e : tagW 91 4 = [220, 5] := by simp [tagW, putM]
    have t92e : tagW 92 4 = [228, 5] := by simp [tagW, putM]
    refine GL.v (.move rfl) rfl (GL.v (.isF (.neqNil rfl (.inl rfl)) rfl) rfl (GL.nil (GN.seq (GC.cond rfl (fun h => by first | (have := of_decide_eq_false h; contradiction) | (have := of_decide_eq_true h; contradiction) | (cases h; done)) (fun _ => ?_)))))
    refine GC.skip (GN.seq (GC.seq (GC.region (GL.v (.assign rfl) rfl (GL.nil (GN.seq (GC.seq (GC.seq (GC.region (GL.v (.assign rfl) rfl (GL.nil (GN.seq (GC.block (?_))))))))))))))
    -- loop
    refine GC.loop (γ := Nat) (fun i => i ≤ n) (fun i => [(0, .string s), (1, .int .i64 (n : Int)), (5, ptr b5), (7, .string (mkS (nest i))), (8, .int .i64 (i : Int))]) (fun _ => [Blk b5 33 24 [(23, .string (mkS x.unk))], Emp]) (fun i => n - i) 0 (Nat.zero_le _) (Sub.cons rfl (Sub.cons rfl (Sub.cons rfl (Sub.cons rfl (Sub.cons rfl (Sub.nil _)))))) ((Ent.blk (by repeat (first | exact Sub.nil _ | refine Sub.cons rfl ?_)) (Ent.trans (Ent.front 2 _ _ rfl) (Ent.cons _ (Ent.nil _))))) ?_
    intro i hi
    have hil := nest_len i
    refine GC.seq (GC.seq (GC.region (GL.v (.move rfl) rfl (GL.v (.move rfl) rfl (GL.v (.lss rfl rfl) rfl (GL.nil (GN.seq (?_))))))))
    -- if
    refine GC.condD rfl (fun hlt => ?_) (fun hlt => ?_)
    · refine GC.skip (GN.seq (GC.seq (GC.block (GC.region (?_)))))
      -- call
      refine GL.call (As := []) rfl (fun w hst => Tag_tri 90 3 w (by omega) (by omega)) rfl (fun _ _ => ?_)
      refine GL.v (.move rfl) rfl (GL.v (.addS rfl rfl (by rw [t90b, mkS_size, mkS_size, hil]; simp; omega)) rfl (?_))
      -- call
      refine GL.call (As := []) rfl (fun w hst => Tag_tri 90 4 w (by omega) (by omega)) rfl (fun _ _ => ?_)
      refine GL.v (.addS rfl rfl (by rw [t90b, t90e, mkS_app, mkS_size, mkS_size]; simp [hil]; omega)) rfl (GL.v (.assign rfl) rfl (GL.nil (GN.blk (GN.seq (GC.region (GL.v (.move rfl) rfl (GL.v (.add rfl rfl (i64_in _ (by omega))) rfl (GL.v (.assign rfl) rfl (GL.nil (?_))))))))))
      -- next
      refine GN.loop (i + 1) (by omega) (by omega) (Sub.cons rfl (Sub.cons rfl (Sub.cons rfl (Sub.cons (congrArg (fun z => some (Value.string z)) ?_) (Sub.cons rfl (Sub.nil _)))))) (Ent.refl _)
      rw [t90b, t90e, mkS_app, mkS_app]; rfl
    · have hie : i = n := by omega
      subst hie
      refine GC.exit (GX.seq (GX.loop (GX.blk (GN.seq (GC.seq (GC.region (GL.v (.move rfl) rfl (GL.v (.move rfl) rfl (GL.v (.addS rfl rfl (by rw [mkS_size, hil]; omega)) rfl (GL.v (.move rfl) rfl (?_)))))))))))
      -- call
      refine GL.ent (Ent.front 1 _ _ rfl) ?_
      refine GL.call (As := [_]) rfl (fun w hst => Exp_rd 4294967296 (by omega) i hd1 hd2 (s ++ mkS (nest i)) w (by rw [ByteArray.size_append, mkS_size, hil]; omega)) rfl (fun ⟨c2, e2⟩ hc2 => ?_)
      obtain ⟨l2, o2⟩ := hc2
      simp only at l2 o2 ⊢
      simp only [bs_append, bs_mkS, q1]
      refine GL.fact 0 (φ := _) rfl (fun ok w h => expF_form h) (fun hf => ?_)
      obtain ⟨B1, n1, B2, n2, B3, n3, B4, n4, rfl⟩ := hf
      refine GL.fact 1 (φ := _) rfl (fun ok w h => ErF.form h) (fun hf2 => ?_)
      have he2 : e2 = .nilIface := by
        rcases hf2 with h | ⟨⟨oc, h⟩, _⟩
        · exact h.2
        · cases h
      subst he2
      refine GL.v (.move rfl) rfl (GL.v (.extract rfl rfl) rfl (GL.v (.extract rfl rfl) rfl (GL.w .alloc rfl (fun b9 _ => GL.w0 (.store 0 rfl rfl rfl rfl rfl rfl rfl) (fun _ _ => GL.v (.assign rfl) rfl (GL.nil (GN.seq (GC.seq (GC.region (GL.v (.move rfl) rfl (?_)))))))))))
      -- call
      refine GL.call (As := []) rfl (fun w hst => Tag_tri 91 3 w (by omega) (by omega)) rfl (fun _ _ => ?_)
      rw [t91b]
      refine GL.v (.addS rfl rfl (by rw [mkS_size]; simp; omega)) rfl (GL.v (.move rfl) rfl (GL.v (.addS rfl rfl (by rw [ByteArray.size_append, mkS_size, mkS_size, hil]; simp; omega)) rfl (?_)))
      -- call
      refine GL.call (As := []) rfl (fun w hst => Tag_tri 91 4 w (by omega) (by omega)) rfl (fun _ _ => ?_)
      rw [t91e]
      refine GL.v (.addS rfl rfl (by rw [ByteArray.size_append, ByteArray.size_append, mkS_size, mkS_size, mkS_size, hil]; simp; omega)) rfl (GL.v (.move rfl) rfl (?_))
      -- call
      refine GL.ent (Ent.front 3 _ _ rfl) ?_
      refine GL.call (As := [_]) rfl (fun w hst => Exp_rd 4294967296 (by omega) i hd1 hd2 (s ++ mkS [219, 5] ++ mkS (nest i) ++ mkS [220, 5]) w (by rw [ByteArray.size_append, ByteArray.size_append, ByteArray.size_append, mkS_size, mkS_size, mkS_size, hil]; simp; omega)) rfl (fun ⟨c3, e3⟩ hc3 => ?_)
      obtain ⟨l3, o3⟩ := hc3
      simp only at l3 o3 ⊢
      have r3 : bs (s ++ mkS [219, 5] ++ mkS (nest i) ++ mkS [220, 5]) = bs s ++ 219 :: 5 :: (nest i ++ [220, 5]) := by
        rw [bs_append, bs_append, bs_append, bs_mkS, bs_mkS, bs_mkS]; simp
      rw [r3, q2]
      refine GL.fact 1 (φ := _) rfl (fun ok w h => ErF.form h) (fun hf3 => ?_)
      obtain ⟨t3, u3, rfl⟩ : ∃ t u, e3 = .iface t u := by
        rcases hf3 with ⟨h, _⟩ | ⟨_, h⟩
        · cases h
        · exact h
      refine GL.v (.move rfl) rfl (GL.v (.extract rfl rfl) rfl (GL.v (.extract rfl rfl) rfl (GL.w .alloc rfl (fun b11 _ => GL.w0 (.store 0 rfl rfl rfl rfl (by rw [l3]; rfl) rfl o3) (fun _ _ => GL.v (.assign rfl) rfl (GL.nil (GN.seq (GC.seq (GC.region (GL.v (.move rfl) rfl (?_)))))))))))
      -- call
      refine GL.call (As := []) rfl (fun w hst => Tag_tri 90 3 w (by omega) (by omega)) rfl (fun _ _ => ?_)
      rw [t90b]
      refine GL.v (.addS rfl rfl (by rw [mkS_size]; simp; omega)) rfl (GL.v (.move rfl) rfl (?_))
      -- call
      refine GL.ent (Ent.front 3 _ _ rfl) ?_
      refine GL.call (As := [_]) rfl (fun w hst => Exp_rd 4294967296 (by omega) i hd1 hd2 (s ++ mkS [211, 5]) w (by rw [ByteArray.size_append, mkS_size]; simp; omega)) rfl (fun ⟨c4, e4⟩ hc4 => ?_)
      obtain ⟨l4, o4⟩ := hc4
      simp only at l4 o4 ⊢
      simp only [bs_append, bs_mkS, q4]
      refine GL.fact 1 (φ := _) rfl (fun ok w h => ErF.form h) (fun hf4 => ?_)
      obtain ⟨t4, u4, rfl⟩ : ∃ t u, e4 = .iface t u := by
        rcases hf4 with ⟨h, _⟩ | ⟨_, h⟩
        · cases h
        · exact h
      refine GL.v (.move rfl) rfl (GL.v (.extract rfl rfl) rfl (GL.v (.extract rfl rfl) rfl (GL.w .alloc rfl (fun b13 _ => GL.w0 (.store 0 rfl rfl rfl rfl (by rw [l4]; rfl) rfl o4) (fun _ _ => GL.v (.assign rfl) rfl (GL.nil (GN.seq (GC.seq (GC.region (GL.v (.move rfl) rfl (?_)))))))))))
      -- call
      refine GL.call (As := []) rfl (fun w hst => Tag_tri 90 3 w (by omega) (by omega)) rfl (fun _ _ => ?_)
      rw [t90b]
      refine GL.v (.addS rfl rfl (by rw [mkS_size]; simp; omega)) rfl (?_)
      -- call
      refine GL.call (As := []) rfl (fun w hst => Tag_tri 92 4 w (by omega) (by omega)) rfl (fun _ _ => ?_)
      rw [t92e]
      refine GL.v (.addS rfl rfl (by rw [ByteArray.size_append, mkS_size, mkS_size]; simp; omega)) rfl (GL.v (.move rfl) rfl (?_))
      -- call
      refine GL.ent (Ent.front 3 _ _ rfl) ?_
      refine GL.call (As := [_]) rfl (fun w hst => Exp_rd 4294967296 (by omega) i hd1 hd2 (s ++ mkS [211, 5] ++ mkS [228, 5]) w (by rw [ByteArray.size_append, ByteArray.size_append, mkS_size, mkS_size]; simp; omega)) rfl (fun ⟨c5, e5⟩ hc5 => ?_)
      obtain ⟨l5, o5⟩ := hc5
      simp only at l5 o5 ⊢
      have r5 : bs (s ++ mkS [211, 5] ++ mkS [228, 5]) = bs s ++ [211, 5, 228, 5] := by
        rw [bs_append, bs_append, bs_mkS, bs_mkS]; simp
      rw [r5, q5]
      refine GL.fact 1 (φ := _) rfl (fun ok w h => ErF.form h) (fun hf5 => ?_)
      obtain ⟨t5, u5, rfl⟩ : ∃ t u, e5 = .iface t u := by
        rcases hf5 with ⟨h, _⟩ | ⟨_, h⟩
        · cases h
        · exact h
      refine GL.v (.move rfl) rfl (GL.v (.extract rfl rfl) rfl (GL.v (.extract rfl rfl) rfl (GL.w .alloc rfl (fun b15 _ => GL.w0 (.store 0 rfl rfl rfl rfl (by rw [l5]; rfl) rfl o5) (fun _ _ => GL.v (.assign rfl) rfl (GL.nil (GN.seq (GC.seq (GC.region (?_))))))))))
      -- call
      refine GL.call (As := []) rfl (fun w hst => first14_tri w) rfl (fun _ _ => ?_)
      refine GL.v (.move rfl) rfl (GL.vg rfl rfl (.move rfl) rfl (GL.vg rfl rfl (.isT (.eqlNil rfl (.inl rfl)) rfl) rfl (GL.v (.pickT rfl rfl) rfl (GL.v (.move rfl) rfl (GL.vg rfl rfl (.fieldAddr rfl) rfl (GL.vg rfl rfl (.ld 10 rfl rfl rfl) rfl (GL.vg rfl rfl (.fieldAddr rfl) rfl (GL.vg rfl rfl (.ld 13 rfl rfl rfl) rfl (GL.vg rfl rfl (.move rfl) rfl (GL.vg rfl rfl (.addS rfl rfl (by rw [mkS_size, mkS_size, hil]; omega)) rfl (GL.vg rfl rfl (.isT (.eqlS rfl rfl) (decide_eq_true (by rw [mkS_app]))) rfl (GL.v (.pickT rfl rfl) rfl (GL.v (.move rfl) rfl (GL.vg rfl rfl (.move rfl) rfl (GL.gd rfl rfl (?_))))))))))))))))
      -- call
      refine GL.ent (Ent.front 9 _ _ rfl) ?_
      refine GL.open (Bs := ErG1 (.iface t3 u3)) (p := ErG2 _ (some 6)) ?_
      rintro ⟨p, ge⟩ ⟨_, _, _, hcod⟩
      refine GL.call (As := [_]) rfl (fun w hst => Code_tri (.iface t3 u3) (.at_ p ge) w) rfl (fun _ _ => ?_)
      refine GL.vg rfl rfl (.isT (.eql rfl rfl) (decide_eq_true (hcod 6 rfl))) rfl (GL.v (.pickT rfl rfl) rfl (GL.v (.move rfl) rfl (GL.vg rfl rfl (.move rfl) rfl (GL.vg rfl rfl (.isT (.neqNil rfl (.inr ⟨_, _, rfl⟩)) rfl) rfl (GL.v (.pickT rfl rfl) rfl (GL.v (.move rfl) rfl (GL.vg rfl rfl (.move rfl) rfl (GL.vg rfl rfl (.isT (.neqNil rfl (.inr ⟨_, _, rfl⟩)) rfl) rfl (GL.v (.pickT rfl rfl) rfl (GL.v (.assign rfl) rfl (GL.nil (GN.seq (GC.ret (?_))))))))))))))
      -- ret
      exact GR.one rfl rfl rfl () rfl (Ent.nil _) trivial
  · skip
    refine GL.v (.move rfl) rfl (GL.v (.isT (.neqNil rfl (.inr ⟨_, _, rfl⟩)) rfl) rfl (GL.nil (GN.seq (GC.cond rfl (fun _ => ?_) (fun h => by first | (have := of_decide_eq_false h; contradiction) | (have := of_decide_eq_true h; contradiction) | (cases h; done))))))
    refine GC.seq (GC.region (?_))
    -- call
    refine GL.call (As := []) rfl (fun w hst => first14_tri w) rfl (fun _ _ => ?_)
    refine GL.v (.assign rfl) rfl (GL.nil (GN.seq (GC.ret (?_))))
    -- ret
    exact GR.one rfl rfl rfl () rfl (Ent.nil _) trivial
end Go.Proofs.Gw
