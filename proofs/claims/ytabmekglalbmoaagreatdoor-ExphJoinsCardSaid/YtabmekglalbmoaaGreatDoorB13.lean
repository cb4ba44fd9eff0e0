/- Texts that a claim of this seat leans on: J1. No statement is claimed in this text. -/
import Derived.Test.YtabmekglalbmoaaGreatDoorB12
/- Of two points, one behind the other: the law's function. -/
set_option linter.unusedVariables false
set_option linter.unusedSimpArgs false
namespace Go.Proofs.Gw
open Go Go.RowKit Go.IntWalk Go.Proofs.Gm

theorem joins_tri (s t : ByteArray) (d : Int) (hd1 : -9223372036854775808 ≤ d) (hd2 : d ≤ 9223372036854775807) (w : World) : Tri Tryz.prog 3 [.string s, .string t, .int .i64 d] [] (fun _ : Unit => .bool true) (fun _ => []) (fun _ => True) w := by
  refine tri_of_G 133 Tryz.func3 rfl Tryz.ntmps3 rfl (fun D => ?_)
  refine GC.seq (GC.region (GL.v (.assign rfl) rfl (GL.nil (GN.seq (GC.seq (GC.seq (GC.region (?_))))))))
  -- call
  refine GL.call (As := []) rfl (fun w hst => first14_tri w) rfl (fun _ _ => ?_)
  refine GL.v (.not rfl) rfl (GL.nil (GN.seq (?_)))
  -- if
  refine GC.cond rfl (fun h => Bool.noConfusion (h.symm.trans (rfl) : true = false)) (fun _ => ?_)
  refine GC.skip (GN.seq (GC.seq (GC.seq (GC.region (GL.v (.move rfl) rfl (GL.v (.lenS rfl) rfl (GL.v (.gtr rfl rfl) rfl (GL.v (.move rfl) rfl (?_)))))))))
  -- part
  refine GL.partD 18 rfl (fun g1 => ?_) (fun g1 => ?_)
  · refine GL.sg rfl rfl rfl rfl (GL.sg rfl rfl rfl rfl (GL.sg rfl rfl rfl rfl (GL.v (.pickT rfl rfl) rfl (GL.nil (GN.seq (GC.cond rfl (fun _ => ?_) (fun h => by first | (have := of_decide_eq_false h; contradiction) | (have := of_decide_eq_true h; contradiction) | (cases h; done))))))))
    refine GC.seq (GC.region (?_))
    -- call
    refine GL.call (As := []) rfl (fun w hst => first14_tri w) rfl (fun _ _ => ?_)
    refine GL.v (.assign rfl) rfl (GL.nil (GN.seq (GC.ret (?_))))
    -- ret
    exact GR.one rfl rfl rfl () rfl (Ent.nil _) trivial
  refine GL.vg rfl rfl (.move rfl) rfl (GL.vg rfl rfl (.lenS rfl) rfl (GL.vg rfl rfl (.gtr rfl rfl) rfl (GL.v (.pickF rfl rfl) rfl (GL.nil (GN.seq (?_))))))
  -- if
  refine GC.condD rfl (fun g2 => ?_) (fun g2 => ?_)
  · refine GC.seq (GC.region (?_))
    -- call
    refine GL.call (As := []) rfl (fun w hst => first14_tri w) rfl (fun _ _ => ?_)
    refine GL.v (.assign rfl) rfl (GL.nil (GN.seq (GC.ret (?_))))
    -- ret
    exact GR.one rfl rfl rfl () rfl (Ent.nil _) trivial
  refine GC.skip (GN.seq (GC.seq (GC.region (GL.v (.move rfl) rfl (GL.v (.move rfl) rfl (?_))))))
  -- call
  refine GL.ent (Ent.intro (A := Emp) (fun _ => trivial) _) ?_
  refine GL.call (As := [_]) rfl (fun w hst => Exp_rd 4294967296 (by omega) d hd1 hd2 s w (by omega)) rfl (fun ⟨c1, e1⟩ hc1 => ?_)
  obtain ⟨l1, o1⟩ := hc1
  simp only at l1 o1 ⊢
  refine GL.fact 1 (φ := _) rfl (fun ok w h => ErF.form h) (fun hf1 => ?_)
  refine GL.v (.move rfl) rfl (GL.v (.extract rfl rfl) rfl (GL.v (.extract rfl rfl) rfl (GL.w .alloc rfl (fun b7 _ => GL.w0 (.store 0 rfl rfl rfl rfl (by rw [l1]; rfl) rfl o1) (fun _ _ => GL.v (.assign rfl) rfl (GL.nil (GN.seq (GC.seq (GC.region (GL.v (.move rfl) rfl (GL.v (.move rfl) rfl (?_))))))))))))
  -- call
  refine GL.ent (Ent.front 3 _ _ rfl) ?_
  refine GL.call (As := [_]) rfl (fun w hst => Exp_rd 4294967296 (by omega) d hd1 hd2 t w (by omega)) rfl (fun ⟨c2, e2⟩ hc2 => ?_)
  obtain ⟨l2, o2⟩ := hc2
  simp only at l2 o2 ⊢
  refine GL.fact 1 (φ := _) rfl (fun ok w h => ErF.form h) (fun hf2 => ?_)
  refine GL.v (.move rfl) rfl (GL.v (.extract rfl rfl) rfl (GL.v (.extract rfl rfl) rfl (GL.w .alloc rfl (fun b9 _ => GL.w0 (.store 0 rfl rfl rfl rfl (by rw [l2]; rfl) rfl o2) (fun _ _ => GL.v (.assign rfl) rfl (GL.nil (GN.seq (GC.seq (GC.region (GL.v (.move rfl) rfl (GL.v (.move rfl) rfl (GL.v (.addS rfl rfl (by omega)) rfl (GL.v (.move rfl) rfl (?_))))))))))))))
  -- call
  refine GL.ent (Ent.front 3 _ _ rfl) ?_
  refine GL.call (As := [_]) rfl (fun w hst => Exp_rd 4294967296 (by omega) d hd1 hd2 (s ++ t) w (by rw [ByteArray.size_append]; omega)) rfl (fun ⟨c3, e3⟩ hc3 => ?_)
  obtain ⟨l3, o3⟩ := hc3
  simp only at l3 o3 ⊢
  refine GL.fact 1 (φ := _) rfl (fun ok w h => ErF.form h) (fun hf3 => ?_)
  refine GL.v (.move rfl) rfl (GL.v (.extract rfl rfl) rfl (GL.v (.extract rfl rfl) rfl (GL.w .alloc rfl (fun b11 _ => GL.w0 (.store 0 rfl rfl rfl rfl (by rw [l3]; rfl) rfl o3) (fun _ _ => GL.v (.assign rfl) rfl (GL.nil (GN.seq (GC.seq (GC.seq (GC.region (?_)))))))))))
  -- upto
  rcases hf1 with ⟨h1, rfl⟩ | ⟨_, t', u', rfl⟩
  · rcases hf2 with ⟨h2, rfl⟩ | ⟨_, t', u', rfl⟩
    · obtain ⟨x, hx⟩ := errE_ok h1
      obtain ⟨y, hy⟩ := errE_ok h2
      obtain ⟨z, hz, z1, z2, z3, z4, z5, z6⟩ := exp_app hx hy
      rw [← bs_append] at hz
      rw [hz] at hf3
      have h3 : e3 = .nilIface := by
        rcases hf3 with h | ⟨⟨oc, h⟩, _⟩
        · exact h.2
        · cases h
      subst h3
      have sx := exp_small hx
      have sy := exp_small hy
      rw [bs_length] at sx sy
      refine GL.v (.move rfl) rfl (GL.v (.isF (.neqNil rfl (.inl rfl)) rfl) rfl (GL.v (.move rfl) rfl (GL.vg rfl rfl (.move rfl) rfl (GL.vg rfl rfl (.isF (.neqNil rfl (.inl rfl)) rfl) rfl (GL.v (.pickF rfl rfl) rfl (GL.nil (GN.seq (GC.cond rfl (fun h => by first | (have := of_decide_eq_false h; contradiction) | (have := of_decide_eq_true h; contradiction) | (cases h; done)) (fun _ => ?_)))))))))
      refine GC.skip (GN.seq (GC.seq (GC.seq (GC.region (GL.v (.move rfl) rfl (GL.v (.isF (.neqNil rfl (.inl rfl)) rfl) rfl (GL.nil (GN.seq (GC.cond rfl (fun h => by first | (have := of_decide_eq_false h; contradiction) | (have := of_decide_eq_true h; contradiction) | (cases h; done)) (fun _ => ?_))))))))))
      refine GC.skip (GN.seq (GC.seq (GC.region (?_))))
      -- call
      refine GL.call (As := []) rfl (fun w hst => first14_tri w) rfl (fun _ _ => ?_)
      simp only [hx, hy, hz]
      refine GL.fact 1 (φ := _) rfl (fun ok w h => expF_form h) (fun hf => ?_)
      obtain ⟨A1, k1, A2, k2, A3, k3, A4, k4, rfl⟩ := hf
      refine GL.fact 5 (φ := _) rfl (fun ok w h => expF_form h) (fun hf => ?_)
      obtain ⟨B1, m1, B2, m2, B3, m3, B4, m4, rfl⟩ := hf
      refine GL.fact 8 (φ := _) rfl (fun ok w h => expF_form h) (fun hf => ?_)
      obtain ⟨D1, n1, D2, n2, D3, n3, D4, n4, rfl⟩ := hf
      refine GL.v (.move rfl) rfl (GL.vg rfl rfl (.fieldAddr rfl) rfl (GL.vg rfl rfl (.ld 0 rfl rfl rfl) rfl (GL.vg rfl rfl (.fieldAddr rfl) rfl (GL.vg rfl rfl (.ld 7 rfl rfl rfl) rfl (GL.vg rfl rfl (.fieldAddr rfl) rfl (GL.vg rfl rfl (.ld 4 rfl rfl rfl) rfl (GL.vg rfl rfl (.addS rfl rfl (by rw [mkS_size, mkS_size]; omega)) rfl (GL.vg rfl rfl (.isT (.eqlS rfl rfl) (decide_eq_true (by rw [mkS_app, z1]))) rfl (GL.v (.pickT rfl rfl) rfl (GL.v (.move rfl) rfl (GL.vg rfl rfl (.fieldAddr rfl) rfl (GL.vg rfl rfl (.ld 0 rfl rfl rfl) rfl (GL.vg rfl rfl (.lenSl rfl) rfl (GL.vg rfl rfl (.fieldAddr rfl) rfl (GL.vg rfl rfl (.ld 7 rfl rfl rfl) rfl (GL.vg rfl rfl (.lenSl rfl) rfl (GL.vg rfl rfl (.fieldAddr rfl) rfl (GL.vg rfl rfl (.ld 4 rfl rfl rfl) rfl (GL.vg rfl rfl (.lenSl rfl) rfl (GL.vg rfl rfl (.add rfl rfl (i64_in _ (by omega))) rfl (GL.vg rfl rfl (.isT (.eql rfl rfl) (decide_eq_true (by rw [z2]; omega))) rfl (GL.v (.pickT rfl rfl) rfl (GL.v (.move rfl) rfl (GL.vg rfl rfl (.fieldAddr rfl) rfl (GL.vg rfl rfl (.ld 0 rfl rfl rfl) rfl (GL.vg rfl rfl (.fieldAddr rfl) rfl (GL.vg rfl rfl (.ld 7 rfl rfl rfl) rfl (GL.vg rfl rfl (.move rfl) rfl (?_)))))))))))))))))))))))))))))
      -- part
      refine GL.part 82 rfl (fun h4 => ?_) (fun h4 => ?_)
      · skip
        refine GL.sg rfl rfl rfl rfl (GL.sg rfl rfl rfl rfl (GL.vg rfl rfl (.pickT rfl rfl) rfl (GL.vg rfl rfl (.isT (.eqlB rfl rfl) (by rw [z3, h4]; rfl)) rfl (GL.v (.pickT rfl rfl) rfl (GL.v (.move rfl) rfl (GL.vg rfl rfl (.fieldAddr rfl) rfl (GL.vg rfl rfl (.fieldAddr rfl) rfl (GL.vg rfl rfl (.ld 0 rfl rfl rfl) rfl (GL.vg rfl rfl (.lenSl rfl) rfl (GL.vg rfl rfl (.fieldAddr rfl) rfl (GL.vg rfl rfl (.fieldAddr rfl) rfl (GL.vg rfl rfl (.ld 7 rfl rfl rfl) rfl (GL.vg rfl rfl (.lenSl rfl) rfl (GL.vg rfl rfl (.fieldAddr rfl) rfl (GL.vg rfl rfl (.fieldAddr rfl) rfl (GL.vg rfl rfl (.ld 4 rfl rfl rfl) rfl (GL.vg rfl rfl (.lenSl rfl) rfl (GL.vg rfl rfl (.add rfl rfl (i64_in _ (by omega))) rfl (GL.vg rfl rfl (.isT (.eql rfl rfl) (decide_eq_true (by rw [z4]; omega))) rfl (GL.v (.pickT rfl rfl) rfl (GL.v (.move rfl) rfl (GL.vg rfl rfl (.fieldAddr rfl) rfl (GL.vg rfl rfl (.fieldAddr rfl) rfl (GL.vg rfl rfl (.ld 0 rfl rfl rfl) rfl (GL.vg rfl rfl (.fieldAddr rfl) rfl (GL.vg rfl rfl (.fieldAddr rfl) rfl (GL.vg rfl rfl (.ld 7 rfl rfl rfl) rfl (GL.vg rfl rfl (.fieldAddr rfl) rfl (GL.vg rfl rfl (.fieldAddr rfl) rfl (GL.vg rfl rfl (.ld 4 rfl rfl rfl) rfl (GL.vg rfl rfl (.addS rfl rfl (by rw [mkS_size, mkS_size]; omega)) rfl (GL.vg rfl rfl (.isT (.eqlS rfl rfl) (decide_eq_true (by rw [mkS_app, z5]))) rfl (GL.v (.pickT rfl rfl) rfl (GL.v (.move rfl) rfl (GL.vg rfl rfl (.fieldAddr rfl) rfl (GL.vg rfl rfl (.fieldAddr rfl) rfl (GL.vg rfl rfl (.ld 0 rfl rfl rfl) rfl (GL.vg rfl rfl (.lenSl rfl) rfl (GL.vg rfl rfl (.fieldAddr rfl) rfl (?_))))))))))))))))))))))))))))))))))))))))
        refine GL.vg rfl rfl (.fieldAddr rfl) rfl (GL.vg rfl rfl (.ld 7 rfl rfl rfl) rfl (GL.vg rfl rfl (.lenSl rfl) rfl (GL.vg rfl rfl (.fieldAddr rfl) rfl (GL.vg rfl rfl (.fieldAddr rfl) rfl (GL.vg rfl rfl (.ld 4 rfl rfl rfl) rfl (GL.vg rfl rfl (.lenSl rfl) rfl (GL.vg rfl rfl (.add rfl rfl (i64_in _ (by omega))) rfl (GL.vg rfl rfl (.isT (.eql rfl rfl) (decide_eq_true (by rw [z6]; omega))) rfl (GL.v (.pickT rfl rfl) rfl (GL.v (.assign rfl) rfl (GL.nil (GN.seq (GC.ret (?_))))))))))))))
        -- ret
        exact GR.one rfl rfl rfl () rfl (Ent.nil _) trivial
      · skip
        refine GL.vg rfl rfl (.fieldAddr rfl) rfl (GL.vg rfl rfl (.ld 4 rfl rfl rfl) rfl (GL.vg rfl rfl (.pickF rfl rfl) rfl (GL.vg rfl rfl (.isT (.eqlB rfl rfl) (by rw [z3, h4]; cases y.hasPos <;> rfl)) rfl (GL.v (.pickT rfl rfl) rfl (GL.v (.move rfl) rfl (GL.vg rfl rfl (.fieldAddr rfl) rfl (GL.vg rfl rfl (.fieldAddr rfl) rfl (GL.vg rfl rfl (.ld 0 rfl rfl rfl) rfl (GL.vg rfl rfl (.lenSl rfl) rfl (GL.vg rfl rfl (.fieldAddr rfl) rfl (GL.vg rfl rfl (.fieldAddr rfl) rfl (GL.vg rfl rfl (.ld 7 rfl rfl rfl) rfl (GL.vg rfl rfl (.lenSl rfl) rfl (GL.vg rfl rfl (.fieldAddr rfl) rfl (GL.vg rfl rfl (.fieldAddr rfl) rfl (GL.vg rfl rfl (.ld 4 rfl rfl rfl) rfl (GL.vg rfl rfl (.lenSl rfl) rfl (GL.vg rfl rfl (.add rfl rfl (i64_in _ (by omega))) rfl (GL.vg rfl rfl (.isT (.eql rfl rfl) (decide_eq_true (by rw [z4]; omega))) rfl (GL.v (.pickT rfl rfl) rfl (GL.v (.move rfl) rfl (GL.vg rfl rfl (.fieldAddr rfl) rfl (GL.vg rfl rfl (.fieldAddr rfl) rfl (GL.vg rfl rfl (.ld 0 rfl rfl rfl) rfl (GL.vg rfl rfl (.fieldAddr rfl) rfl (GL.vg rfl rfl (.fieldAddr rfl) rfl (GL.vg rfl rfl (.ld 7 rfl rfl rfl) rfl (GL.vg rfl rfl (.fieldAddr rfl) rfl (GL.vg rfl rfl (.fieldAddr rfl) rfl (GL.vg rfl rfl (.ld 4 rfl rfl rfl) rfl (GL.vg rfl rfl (.addS rfl rfl (by rw [mkS_size, mkS_size]; omega)) rfl (GL.vg rfl rfl (.isT (.eqlS rfl rfl) (decide_eq_true (by rw [mkS_app, z5]))) rfl (GL.v (.pickT rfl rfl) rfl (GL.v (.move rfl) rfl (GL.vg rfl rfl (.fieldAddr rfl) rfl (GL.vg rfl rfl (.fieldAddr rfl) rfl (GL.vg rfl rfl (.ld 0 rfl rfl rfl) rfl (GL.vg rfl rfl (.lenSl rfl) rfl (GL.vg rfl rfl (.fieldAddr rfl) rfl (?_))))))))))))))))))))))))))))))))))))))))
        refine GL.vg rfl rfl (.fieldAddr rfl) rfl (GL.vg rfl rfl (.ld 7 rfl rfl rfl) rfl (GL.vg rfl rfl (.lenSl rfl) rfl (GL.vg rfl rfl (.fieldAddr rfl) rfl (GL.vg rfl rfl (.fieldAddr rfl) rfl (GL.vg rfl rfl (.ld 4 rfl rfl rfl) rfl (GL.vg rfl rfl (.lenSl rfl) rfl (GL.vg rfl rfl (.add rfl rfl (i64_in _ (by omega))) rfl (GL.vg rfl rfl (.isT (.eql rfl rfl) (decide_eq_true (by rw [z6]; omega))) rfl (GL.v (.pickT rfl rfl) rfl (GL.v (.assign rfl) rfl (GL.nil (GN.seq (GC.ret (?_))))))))))))))
        -- ret
        exact GR.one rfl rfl rfl () rfl (Ent.nil _) trivial
    · skip
      refine GL.v (.move rfl) rfl (GL.v (.isF (.neqNil rfl (.inl rfl)) rfl) rfl (GL.v (.move rfl) rfl (GL.vg rfl rfl (.move rfl) rfl (GL.vg rfl rfl (.isT (.neqNil rfl (.inr ⟨_, _, rfl⟩)) rfl) rfl (GL.v (.pickF rfl rfl) rfl (GL.nil (GN.seq (GC.cond rfl (fun _ => ?_) (fun h => by first | (have := of_decide_eq_false h; contradiction) | (have := of_decide_eq_true h; contradiction) | (cases h; done))))))))))
      refine GC.seq (GC.region (?_))
      -- call
      refine GL.call (As := []) rfl (fun w hst => first14_tri w) rfl (fun _ _ => ?_)
      refine GL.v (.assign rfl) rfl (GL.nil (GN.seq (GC.ret (?_))))
      -- ret
      exact GR.one rfl rfl rfl () rfl (Ent.nil _) trivial
  · skip
    refine GL.v (.move rfl) rfl (GL.v (.isT (.neqNil rfl (.inr ⟨_, _, rfl⟩)) rfl) rfl (GL.v (.move rfl) rfl (GL.sg rfl rfl rfl rfl (GL.sg rfl rfl rfl rfl (GL.v (.pickT rfl rfl) rfl (GL.nil (GN.seq (GC.cond rfl (fun _ => ?_) (fun h => by first | (have := of_decide_eq_false h; contradiction) | (have := of_decide_eq_true h; contradiction) | (cases h; done))))))))))
    refine GC.seq (GC.region (?_))
    -- call
    refine GL.call (As := []) rfl (fun w hst => first14_tri w) rfl (fun _ _ => ?_)
    refine GL.v (.assign rfl) rfl (GL.nil (GN.seq (GC.ret (?_))))
    -- ret
    exact GR.one rfl rfl rfl () rfl (Ent.nil _) trivial
end Go.Proofs.Gw
