/- Texts that a claim of this seat leans on: R1, U1, R2, R3, R4, R5, V1, V2. No statement is claimed in this text. -/
import Derived.Test.YtabmekglalbmoaaGreatDoorB5
import Derived.Test.YtabmekglalbmoaaGreatDoorB4
import Derived.RowKitTokens
import Derived.Test.YtabmekglalbmoaaGreatDoorB3
/- Package msg's reader: its state; what it notes. -/
set_option linter.unusedVariables false
set_option linter.unusedSimpArgs false
namespace Go.Proofs.Gw
open Go Go.RowKit Go.IntWalk Go.Proofs.Gm

/-- An error with a place within n bytes, of a reader's codes; of this one. -/
abbrev ErG1 (v : Value) (e : Int × GE) : List HP := [Er v (.at_ e.1 e.2)]
abbrev ErG2 (n : Nat) (oc : Option Int) (e : Int × GE) : Prop := 0 ≤ e.1 ∧ e.1 ≤ n ∧ good e.2.cod ∧ ∀ c, oc = some c → e.2.cod = c
def ErG (v : Value) (n : Nat) (oc : Option Int) : HP := ExH (ErG1 v) (ErG2 n oc)
/-- A value of type error: nil, or such an error. -/
def ErF (v : Value) (n : Nat) : Option (Option Int) → HP
  | none => ⟨fun _ _ => v = .nilIface, fun _ _ _ _ h => h⟩
  | some oc => ErG v n oc
theorem ErF.form {v : Value} {n : Nat} {er : Option (Option Int)} {ok : Nat → Prop} {w : World} (h : (ErF v n er).holds ok w) : (er = none ∧ v = .nilIface) ∨ (∃ oc, er = some oc) ∧ ∃ t u, v = .iface t u := by
  cases er with
  | none => exact .inl ⟨rfl, h⟩
  | some oc =>
    obtain ⟨_, e, _, h2⟩ := h
    obtain ⟨o, h3, h4⟩ := Sat.at 0 rfl h2
    exact .inr ⟨⟨oc, rfl⟩, Er.iface (e := .at_ e.1 e.2) (w := w) (ok := o) h4⟩

structure RM where
  unk : ByteArray
  d : Int
  n : Nat
  v : Value
  rs : List Rec
abbrev RdS1 (g : Nat) (R : RM) (er : Option (Option Int)) (x : Value) : List HP := [Blk g 93 5 [(0, x), (1, .string R.unk), (2, .int .i64 R.d), (3, .int .i64 R.n), (4, R.v)], ErF x R.n er, OwnR R.v R.rs]
abbrev RdS2 (er : Option (Option Int)) (x : Value) : Prop := (er = none ∧ x = .nilIface) ∨ (∃ oc, er = some oc) ∧ ∃ t u, x = .iface t u
def RdS (g : Nat) (R : RM) (er : Option (Option Int)) : HP := ExH (RdS1 g R er) (RdS2 er)

/-- An error noted. -/
def note (er : Option (Option Int)) (f : Option (Option Int)) : Option (Option Int) := match er, f with
  | some oc, _ => some oc
  | none, none => none
  | none, some _ => some none

theorem fails_tri (g : Nat) (R : RM) (er : Option (Option Int)) (num : Int) (v : Value) (m : Nat) (f : Option (Option Int)) (w : World) (hn : R.n ≤ 1099511627776) :
    Tri Tryz.prog 119 [ptr g, .int .i64 num, v] [RdS g R er, ErF v m f] (fun _ : Unit => .tuple #[]) (fun _ => [RdS g R (note er f)]) (fun _ => True) w := by
  refine Tri.open ?_
  rintro x hx
  rcases hx with ⟨rfl, rfl⟩ | ⟨⟨oc, rfl⟩, t, u, rfl⟩
  · refine tri_of_G 36 Tryz.func119 rfl Tryz.ntmps119 rfl (fun D => ?_)
    refine GC.fact 3 rfl (fun ok w h => ErF.form h) (fun hv => ?_)
    rcases hv with ⟨rfl, rfl⟩ | ⟨⟨oc, rfl⟩, t, u, rfl⟩
    · refine GC.seq (GC.region (GL.v (.move rfl) rfl (GL.v (.nilCheck rfl) rfl (GL.v (.fieldAddr rfl) rfl (GL.v (.ld 0 rfl rfl rfl) rfl (GL.v (.eqlNil rfl (by first | exact .inl rfl | exact .inr ⟨_, _, rfl⟩ | assumption)) rfl (GL.v (.move rfl) rfl (?_))))))))
      refine GL.vg rfl rfl (.move rfl) rfl (GL.vg rfl rfl (.neqNil rfl (by first | exact .inl rfl | exact .inr ⟨_, _, rfl⟩ | assumption)) rfl (GL.v (.pickT rfl rfl) rfl (GL.nil (GN.seq (?_)))))
      refine GC.cond rfl (fun h => Bool.noConfusion (h.symm.trans (rfl) : true = false)) (fun _ => ?_)
      refine GC.skip (?_)
      exact GN.nil (GR.none rfl rfl () rfl (Ent.trans (Ent.close (Bs := RdS1 g R none) (p := RdS2 none) .nilIface (.inl ⟨rfl, rfl⟩) _) (Ent.cons _ (Ent.nil _))) trivial)
    · refine GC.ent (Ent.front 3 _ _ rfl) ?_
      refine GC.open ?_
      rintro ⟨q, e⟩ ⟨h0, h1, h2, h3⟩
      refine GC.seq (GC.region (GL.v (.move rfl) rfl (GL.v (.nilCheck rfl) rfl (GL.v (.fieldAddr rfl) rfl (GL.v (.ld 1 rfl rfl rfl) rfl (GL.v (.eqlNil rfl (by first | exact .inl rfl | exact .inr ⟨_, _, rfl⟩ | assumption)) rfl (GL.v (.move rfl) rfl (?_))))))))
      refine GL.vg rfl rfl (.move rfl) rfl (GL.vg rfl rfl (.neqNil rfl (by first | exact .inl rfl | exact .inr ⟨_, _, rfl⟩ | assumption)) rfl (GL.v (.pickT rfl rfl) rfl (GL.nil (GN.seq (?_)))))
      refine GC.cond rfl (fun _ => ?_) (fun h => Bool.noConfusion (h.symm.trans (rfl) : false = true))
      refine GC.seq (GC.region (GL.v (.move rfl) rfl (?_)))
      refine GL.call (As := [_]) rfl (fun w hst => Place_at _ q e w) rfl (fun _ _ => ?_)
      refine GL.v (.move rfl) rfl (GL.v (.extract rfl rfl) rfl (GL.v (.extract rfl rfl) rfl (GL.v (.assign rfl) rfl (GL.v (.assign rfl) rfl (GL.nil (GN.seq (?_)))))))
      have hb : (min (max q 0) (R.n : Int)) ≤ R.n := by omega
      refine GC.draw ([Blk g 93 5 [(1, .string R.unk), (2, .int .i64 R.d), (3, .int .i64 R.n), (4, R.v)]]) (m := 15) rfl (by repeat (first | exact Ent.nil _ | (with_reducible exact Ent.refl _) | refine Ent.blk (by repeat (first | exact Sub.nil _ | refine Sub.cons rfl ?_)) ?_ | refine Ent.cons _ ?_ | refine Ent.trans (Ent.tail _ _) ?_)) ?_
      refine GA.take 0 rfl (by kernel_rfl) (by kernel_rfl) (by kernel_rfl) (.move rfl) rfl (GA.take 1 rfl (by kernel_rfl) (by kernel_rfl) (by kernel_rfl) (.move rfl) rfl (GA.take 2 rfl (by kernel_rfl) (by kernel_rfl) (by kernel_rfl) (.max2 rfl rfl) rfl (GA.take 3 rfl (by kernel_rfl) (by kernel_rfl) (by kernel_rfl) (.move rfl) rfl (GA.take 4 rfl (by kernel_rfl) (by kernel_rfl) (by kernel_rfl) (.nilCheck rfl) rfl (GA.take 5 rfl (by kernel_rfl) (by kernel_rfl) (by kernel_rfl) (.fieldAddr rfl) rfl (GA.take 6 rfl (by kernel_rfl) (by kernel_rfl) (by kernel_rfl) (.ld 0 rfl rfl rfl) rfl (GA.take 7 rfl (by kernel_rfl) (by kernel_rfl) (by kernel_rfl) (.min2 rfl rfl) rfl (GA.take 8 rfl (by kernel_rfl) (by kernel_rfl) (by kernel_rfl) (.move rfl) rfl (GA.take 9 rfl (by kernel_rfl) (by kernel_rfl) (by kernel_rfl) (.move rfl) rfl (?_))))))))))
      refine GA.one 10 (by kernel_rfl) ?_
      refine GAi.call (As := [_]) rfl rfl (fun w hst => In_tri num _ _ w) rfl (fun v2 hv2 => (by repeat (first | exact Ent.nil _ | (with_reducible exact Ent.refl _) | refine Ent.blk (by repeat (first | exact Sub.nil _ | refine Sub.cons rfl ?_)) ?_ | refine Ent.cons _ ?_ | refine Ent.trans (Ent.tail _ _) ?_))) (fun v2 hv2 => ?_)
      obtain ⟨t2, u2, rfl⟩ := hv2
      refine GA.one 11 (by kernel_rfl) ?_
      refine GAi.call (As := [_]) rfl rfl (fun w hst => At_tri _ _ _ w) rfl (fun v3 hv3 => (by repeat (first | exact Ent.nil _ | (with_reducible exact Ent.refl _) | refine Ent.blk (by repeat (first | exact Sub.nil _ | refine Sub.cons rfl ?_)) ?_ | refine Ent.cons _ ?_ | refine Ent.trans (Ent.tail _ _) ?_))) (fun v3 hv3 => ?_)
      obtain ⟨t3, u3, rfl⟩ := hv3
      refine GA.take 12 rfl (by kernel_rfl) (by kernel_rfl) (by kernel_rfl) (.nilCheck rfl) rfl (GA.take 13 rfl (by kernel_rfl) (by kernel_rfl) (by kernel_rfl) (.fieldAddr rfl) rfl (?_))
      refine GA.one 14 (by kernel_rfl) (GAi.w0 rfl (.store 1 rfl rfl rfl rfl rfl rfl rfl) (fun _ _ => (by repeat (first | exact Ent.nil _ | (with_reducible exact Ent.refl _) | refine Ent.blk (by repeat (first | exact Sub.nil _ | refine Sub.cons rfl ?_)) ?_ | refine Ent.cons _ ?_ | refine Ent.trans (Ent.tail _ _) ?_))) (fun _ _ => ?_))
      refine GA.done (by kernel_rfl) (?_)
      refine GN.nil (GR.none rfl rfl () rfl (Ent.trans ((Ent.close (Bs := ErG1 (.iface t3 u3)) (p := ErG2 R.n none) (min (max q 0) (R.n : Int), .in_ num (.at_ q e)) ⟨by simp only; omega, by simp only; omega, h2, fun _ h => by cases h⟩ _)) ?_) trivial)
      refine Ent.trans (Ent.swap _ _ _) (Ent.trans (Ent.blk (u' := [(0, .iface t3 u3), (1, .string R.unk), (2, .int .i64 R.d), (3, .int .i64 R.n), (4, R.v)]) (by repeat (first | exact Sub.nil _ | refine Sub.cons rfl ?_)) (Ent.cons _ (Ent.tail _ _))) ?_)
      exact Ent.close (Bs := RdS1 g R (some none)) (p := RdS2 (some none)) (.iface t3 u3) (.inr ⟨⟨_, rfl⟩, _, _, rfl⟩) []
  · refine tri_of_G 36 Tryz.func119 rfl Tryz.ntmps119 rfl (fun D => ?_)
    refine GC.seq (GC.region (GL.v (.move rfl) rfl (GL.v (.nilCheck rfl) rfl (GL.v (.fieldAddr rfl) rfl (GL.v (.ld 0 rfl rfl rfl) rfl (GL.v (.eqlNil rfl (by first | exact .inl rfl | exact .inr ⟨_, _, rfl⟩ | assumption)) rfl (GL.v (.move rfl) rfl (?_))))))))
    refine GL.sg rfl rfl rfl rfl (GL.sg rfl rfl rfl rfl (GL.v (.pickF rfl rfl) rfl (GL.nil (GN.seq (GC.cond rfl (fun h => by first | (have := of_decide_eq_false h; contradiction) | (have := of_decide_eq_true h; contradiction) | (cases h; done)) (fun _ => ?_))))))
    refine GC.skip (?_)
    exact GN.nil (GR.none rfl rfl () rfl (Ent.trans (Ent.close (Bs := RdS1 g R (some oc)) (p := RdS2 (some oc)) (.iface t u) (.inr ⟨⟨_, rfl⟩, _, _, rfl⟩) _) (Ent.cons _ (Ent.nil _))) trivial)

end Go.Proofs.Gw
/- Contracts of package utf. -/
set_option linter.unusedVariables false
set_option linter.unusedSimpArgs false
namespace Go.Proofs.Gw
open Go Go.RowKit Go.IntWalk Go.Proofs.Gm

theorem follows_tri (c : Nat) (w : World) : Tri Tryz.prog 249 [.int .u8 (c : Int)] [] (fun _ : Unit => .bool (follM c)) (fun _ => []) (fun _ => True) w := by
  refine tri_of_G 9 Tryz.func249 rfl Tryz.ntmps249 rfl (fun D => ?_)
  refine GC.seq (GC.region (GL.v (.assign rfl) rfl (GL.nil (GN.seq (GC.seq (GC.region (GL.v (.move rfl) rfl (GL.v (.geq rfl rfl) rfl (GL.v (.move rfl) rfl (?_))))))))))
  refine GL.partD 5 rfl (fun h => ?_) (fun h => ?_)
  · refine GL.vg rfl rfl (.move rfl) rfl (GL.vg rfl rfl (.leq rfl rfl) rfl (GL.v (.pickT rfl rfl) rfl (GL.v (.assign rfl) rfl (GL.nil (GN.seq (GC.ret (?_)))))))
    refine GR.one rfl rfl rfl () ?_ (Ent.refl _) trivial
    congr 1; unfold follM; rw [decide_eq_decide]; omega
  · refine GL.sg rfl rfl rfl rfl (GL.sg rfl rfl rfl rfl (GL.v (.pickF rfl rfl) rfl (GL.v (.assign rfl) rfl (GL.nil (GN.seq (GC.ret (?_)))))))
    refine GR.one rfl rfl rfl () ?_ (Ent.refl _) trivial
    congr 1; unfold follM; symm; rw [decide_eq_false_iff_not]; omega
theorem size_tri (c : Nat) (w : World) : Tri Tryz.prog 247 [.int .u8 (c : Int)] [] (fun _ : Unit => .int .i64 (sizeM c : Int)) (fun _ => []) (fun _ => True) w := by
  refine tri_of_G 33 Tryz.func247 rfl Tryz.ntmps247 rfl (fun D => ?_)
  refine GC.seq (GC.region (GL.v (.assign rfl) rfl (GL.nil (GN.seq (GC.seq (GC.region (GL.v (.assign rfl) rfl (GL.nil (GN.seq (GC.seq (GC.block (GC.seq (GC.block (GC.seq (GC.block (GC.seq (GC.block (GC.seq (GC.block (GC.seq (GC.block (GC.seq (GC.seq (GC.seq (GC.region (GL.v (.move rfl) rfl (GL.v (.gtr rfl rfl) rfl (GL.v (.move rfl) rfl (?_)))))))))))))))))))))))))))))
  refine GL.partD 7 rfl (fun h => ?_) (fun h => ?_)
  · refine GL.sg rfl rfl rfl rfl (GL.sg rfl rfl rfl rfl (GL.sg rfl rfl rfl rfl (GL.sgu rfl rfl rfl (GL.sgu rfl rfl rfl (GL.sg rfl rfl rfl rfl (GL.v (.pickT rfl rfl) rfl (GL.v (.assign rfl) rfl (GL.nil (GN.seq (GC.cond rfl (fun _ => ?_) (fun h => by first | (have := of_decide_eq_false h; contradiction) | (have := of_decide_eq_true h; contradiction) | (cases h; done))))))))))))
    refine GC.exit (GX.seq (GX.seq (GX.blk (GN.seq (GC.seq (GC.seq (GC.region (GL.v (.assign rfl) rfl (GL.nil (GN.seq (GC.ret (?_))))))))))))
    refine GR.one rfl rfl rfl () ?_ (Ent.refl _) trivial
    unfold sizeM; rw [if_pos (by omega)]; rfl
  · refine GL.vg rfl rfl (.move rfl) rfl (GL.vg rfl rfl (.geq rfl rfl) rfl (GL.vg rfl rfl (.move rfl) rfl (?_)))
    refine GL.partD 10 rfl (fun h2 => ?_) (fun h2 => ?_)
    · refine GL.vg rfl rfl (.move rfl) rfl (GL.vg rfl rfl (.lss rfl rfl) rfl (GL.vg rfl rfl (.pickT rfl rfl) rfl (GL.v (.pickF rfl rfl) rfl (GL.v (.assign rfl) rfl (GL.nil (GN.seq (?_)))))))
      refine GC.condD rfl (fun h3 => ?_) (fun h3 => ?_)
      · refine GC.exit (GX.seq (GX.seq (GX.blk (GN.seq (GC.seq (GC.seq (GC.region (GL.v (.assign rfl) rfl (GL.nil (GN.seq (GC.ret (?_))))))))))))
        refine GR.one rfl rfl rfl () ?_ (Ent.refl _) trivial
        unfold sizeM; rw [if_pos (by omega)]; rfl
      · refine GC.skip (GN.seq (GC.seq (GC.seq (GC.region (GL.v (.move rfl) rfl (GL.v (.geq rfl rfl) rfl (GL.v (.assign rfl) rfl (GL.nil (GN.seq (?_))))))))))
        refine GC.condD rfl (fun h4 => ?_) (fun h4 => ?_)
        · refine GC.exit (GX.seq (GX.seq (GX.other rfl (GX.seq (GX.blk (GN.seq (GC.region (GL.v (.move rfl) rfl (GL.v (.add rfl rfl (i64_in _ (by omega))) rfl (GL.v (.assign rfl) rfl (GL.nil (GN.blk (GN.seq (GC.region (GL.v (.move rfl) rfl (GL.v (.add rfl rfl (i64_in _ (by omega))) rfl (GL.v (.assign rfl) rfl (GL.nil (GN.blk (GN.seq (GC.region (GL.v (.move rfl) rfl (GL.v (.add rfl rfl (i64_in _ (by omega))) rfl (GL.v (.assign rfl) rfl (GL.nil (GN.blk (GN.seq (GC.seq (GC.region (GL.v (.move rfl) rfl (GL.v (.add rfl rfl (i64_in _ (by omega))) rfl (GL.v (.assign rfl) rfl (GL.nil (GN.seq (GC.exit (GX.blk (GN.seq (GC.seq (GC.region (?_))))))))))))))))))))))))))))))))))))))))
          refine GL.v (.move rfl) rfl (GL.v (.assign rfl) rfl (GL.nil (GN.seq (GC.ret (?_)))))
          refine GR.one rfl rfl rfl () ?_ (Ent.refl _) trivial
          unfold sizeM; rw [if_neg (by omega), if_pos (by omega)]; rfl
        · refine GC.skip (GN.seq (GC.seq (GC.seq (GC.region (GL.v (.move rfl) rfl (GL.v (.geq rfl rfl) rfl (GL.v (.assign rfl) rfl (GL.nil (GN.seq (?_))))))))))
          refine GC.condD rfl (fun h5 => ?_) (fun h5 => ?_)
          · refine GC.exit (GX.seq (GX.seq (GX.other rfl (GX.seq (GX.other rfl (GX.seq (GX.blk (GN.seq (GC.region (GL.v (.move rfl) rfl (GL.v (.add rfl rfl (i64_in _ (by omega))) rfl (GL.v (.assign rfl) rfl (GL.nil (GN.blk (GN.seq (GC.region (GL.v (.move rfl) rfl (GL.v (.add rfl rfl (i64_in _ (by omega))) rfl (GL.v (.assign rfl) rfl (GL.nil (GN.blk (GN.seq (GC.seq (GC.region (GL.v (.move rfl) rfl (GL.v (.add rfl rfl (i64_in _ (by omega))) rfl (GL.v (.assign rfl) rfl (GL.nil (GN.seq (GC.exit (GX.blk (GN.seq (GC.seq (GC.region (GL.v (.move rfl) rfl (GL.v (.assign rfl) rfl (GL.nil (GN.seq (GC.ret (?_))))))))))))))))))))))))))))))))))))))))
            refine GR.one rfl rfl rfl () ?_ (Ent.refl _) trivial
            unfold sizeM; rw [if_neg (by omega), if_neg (by omega), if_pos (by omega)]; rfl
          · refine GC.skip (GN.seq (GC.seq (GC.region (GL.v (.move rfl) rfl (GL.v (.geq rfl rfl) rfl (GL.v (.assign rfl) rfl (GL.nil (GN.seq (?_)))))))))
            refine GC.condD rfl (fun h6 => ?_) (fun h6 => ?_)
            · refine GC.exit (GX.seq (GX.other rfl (GX.seq (GX.other rfl (GX.seq (GX.other rfl (GX.seq (GX.blk (GN.seq (GC.region (GL.v (.move rfl) rfl (GL.v (.add rfl rfl (i64_in _ (by omega))) rfl (GL.v (.assign rfl) rfl (GL.nil (GN.blk (GN.seq (GC.seq (GC.region (GL.v (.move rfl) rfl (GL.v (.add rfl rfl (i64_in _ (by omega))) rfl (GL.v (.assign rfl) rfl (GL.nil (GN.seq (GC.exit (GX.blk (GN.seq (GC.seq (GC.region (GL.v (.move rfl) rfl (GL.v (.assign rfl) rfl (GL.nil (GN.seq (GC.ret (?_))))))))))))))))))))))))))))))))))
              refine GR.one rfl rfl rfl () ?_ (Ent.refl _) trivial
              unfold sizeM; rw [if_neg (by omega), if_neg (by omega), if_neg (by omega), if_pos (by omega)]; rfl
            · exfalso; omega
    · refine GL.sg rfl rfl rfl rfl (GL.sg rfl rfl rfl rfl (GL.vg rfl rfl (.pickF rfl rfl) rfl (GL.v (.pickF rfl rfl) rfl (GL.v (.assign rfl) rfl (GL.nil (GN.seq (GC.cond rfl (fun h => by first | (have := of_decide_eq_false h; contradiction) | (have := of_decide_eq_true h; contradiction) | (cases h; done)) (fun _ => ?_))))))))
      refine GC.skip (GN.seq (GC.seq (GC.seq (GC.region (GL.v (.move rfl) rfl (GL.v (.geq rfl rfl) rfl (GL.v (.assign rfl) rfl (GL.nil (GN.seq (?_))))))))))
      refine GC.condD rfl (fun h4 => ?_) (fun h4 => ?_)
      · exfalso; omega
      · refine GC.skip (GN.seq (GC.seq (GC.seq (GC.region (GL.v (.move rfl) rfl (GL.v (.geq rfl rfl) rfl (GL.v (.assign rfl) rfl (GL.nil (GN.seq (?_))))))))))
        refine GC.condD rfl (fun h5 => ?_) (fun h5 => ?_)
        · exfalso; omega
        · refine GC.skip (GN.seq (GC.seq (GC.region (GL.v (.move rfl) rfl (GL.v (.geq rfl rfl) rfl (GL.v (.assign rfl) rfl (GL.nil (GN.seq (?_)))))))))
          refine GC.condD rfl (fun h6 => ?_) (fun h6 => ?_)
          · exfalso; omega
          · refine GC.skip (GN.seq (GC.exit (GX.other rfl (GX.seq (GX.other rfl (GX.seq (GX.other rfl (GX.seq (GX.other rfl (GX.seq (GX.blk (GN.seq (GC.seq (GC.region (GL.v (.move rfl) rfl (GL.v (.add rfl rfl (i64_in _ (by omega))) rfl (GL.v (.assign rfl) rfl (GL.nil (GN.seq (GC.exit (GX.blk (GN.seq (GC.seq (GC.region (GL.v (.move rfl) rfl (GL.v (.assign rfl) rfl (GL.nil (GN.seq (GC.ret (?_))))))))))))))))))))))))))))))
            refine GR.one rfl rfl rfl () ?_ (Ent.refl _) trivial
            unfold sizeM; rw [if_neg (by omega), if_neg (by omega), if_neg (by omega), if_neg (by omega)]; rfl

theorem second_tri (a c : Nat) (w : World) : Tri Tryz.prog 248 [.int .u8 (a : Int), .int .u8 (c : Int)] [] (fun _ : Unit => .bool (secM a c)) (fun _ => []) (fun _ => True) w := by
  refine tri_of_G 40 Tryz.func248 rfl Tryz.ntmps248 rfl (fun D => ?_)
  refine GC.seq (GC.region (GL.v (.assign rfl) rfl (GL.nil (GN.seq (GC.seq (GC.seq (GC.region (GL.v (.move rfl) rfl (GL.nil (GN.seq (GC.block (GC.seq (GC.region (GL.v (.eql rfl rfl) rfl (GL.v (.assign rfl) rfl (GL.nil (GN.seq (?_))))))))))))))))))
  refine GC.condD rfl (fun h1 => ?_) (fun h1 => ?_)
  · refine GC.seq (GC.region (GL.v (.move rfl) rfl (GL.v (.geq rfl rfl) rfl (GL.v (.move rfl) rfl (?_)))))
    refine GL.partD 10 rfl (fun h => ?_) (fun h => ?_)
    · refine GL.vg rfl rfl (.move rfl) rfl (GL.gd rfl rfl (?_))
      refine GL.call (As := []) rfl (fun w hst => follows_tri c w) rfl (fun _ _ => ?_)
      refine GL.v (.pickT rfl rfl) rfl (GL.v (.assign rfl) rfl (GL.nil (GN.seq (GC.ret (?_)))))
      refine GR.one rfl rfl rfl () ?_ (Ent.refl _) trivial
      congr 1; unfold secM; rw [if_pos (by omega)]; rw [decide_eq_true (by omega)]; rfl
    · refine GL.sg rfl rfl rfl rfl (GL.sg rfl rfl rfl rfl (GL.v (.pickF rfl rfl) rfl (GL.v (.assign rfl) rfl (GL.nil (GN.seq (GC.ret (?_)))))))
      refine GR.one rfl rfl rfl () ?_ (Ent.refl _) trivial
      congr 1; unfold secM; rw [if_pos (by omega)]; rw [decide_eq_false (by omega)]; rfl
  · refine GC.seq (GC.region (GL.v (.eql rfl rfl) rfl (GL.v (.assign rfl) rfl (GL.nil (GN.seq (?_))))))
    refine GC.condD rfl (fun h2 => ?_) (fun h2 => ?_)
    · refine GC.seq (GC.region (GL.v (.move rfl) rfl (GL.v (.leq rfl rfl) rfl (GL.v (.move rfl) rfl (?_)))))
      refine GL.partD 18 rfl (fun h => ?_) (fun h => ?_)
      · refine GL.vg rfl rfl (.move rfl) rfl (GL.gd rfl rfl (?_))
        refine GL.call (As := []) rfl (fun w hst => follows_tri c w) rfl (fun _ _ => ?_)
        refine GL.v (.pickT rfl rfl) rfl (GL.v (.assign rfl) rfl (GL.nil (GN.seq (GC.ret (?_)))))
        refine GR.one rfl rfl rfl () ?_ (Ent.refl _) trivial
        congr 1; unfold secM; rw [if_neg (by omega)]; rw [if_pos (by omega)]; rw [decide_eq_true (by omega)]; rfl
      · refine GL.sg rfl rfl rfl rfl (GL.sg rfl rfl rfl rfl (GL.v (.pickF rfl rfl) rfl (GL.v (.assign rfl) rfl (GL.nil (GN.seq (GC.ret (?_)))))))
        refine GR.one rfl rfl rfl () ?_ (Ent.refl _) trivial
        congr 1; unfold secM; rw [if_neg (by omega)]; rw [if_pos (by omega)]; rw [decide_eq_false (by omega)]; rfl
    · refine GC.seq (GC.region (GL.v (.eql rfl rfl) rfl (GL.v (.assign rfl) rfl (GL.nil (GN.seq (?_))))))
      refine GC.condD rfl (fun h3 => ?_) (fun h3 => ?_)
      · refine GC.seq (GC.region (GL.v (.move rfl) rfl (GL.v (.geq rfl rfl) rfl (GL.v (.move rfl) rfl (?_)))))
        refine GL.partD 26 rfl (fun h => ?_) (fun h => ?_)
        · refine GL.vg rfl rfl (.move rfl) rfl (GL.gd rfl rfl (?_))
          refine GL.call (As := []) rfl (fun w hst => follows_tri c w) rfl (fun _ _ => ?_)
          refine GL.v (.pickT rfl rfl) rfl (GL.v (.assign rfl) rfl (GL.nil (GN.seq (GC.ret (?_)))))
          refine GR.one rfl rfl rfl () ?_ (Ent.refl _) trivial
          congr 1; unfold secM; rw [if_neg (by omega)]; rw [if_neg (by omega)]; rw [if_pos (by omega)]; rw [decide_eq_true (by omega)]; rfl
        · refine GL.sg rfl rfl rfl rfl (GL.sg rfl rfl rfl rfl (GL.v (.pickF rfl rfl) rfl (GL.v (.assign rfl) rfl (GL.nil (GN.seq (GC.ret (?_)))))))
          refine GR.one rfl rfl rfl () ?_ (Ent.refl _) trivial
          congr 1; unfold secM; rw [if_neg (by omega)]; rw [if_neg (by omega)]; rw [if_pos (by omega)]; rw [decide_eq_false (by omega)]; rfl
      · refine GC.seq (GC.region (GL.v (.eql rfl rfl) rfl (GL.v (.assign rfl) rfl (GL.nil (GN.seq (?_))))))
        refine GC.condD rfl (fun h4 => ?_) (fun h4 => ?_)
        · refine GC.seq (GC.region (GL.v (.move rfl) rfl (GL.v (.leq rfl rfl) rfl (GL.v (.move rfl) rfl (?_)))))
          refine GL.partD 34 rfl (fun h => ?_) (fun h => ?_)
          · refine GL.vg rfl rfl (.move rfl) rfl (GL.gd rfl rfl (?_))
            refine GL.call (As := []) rfl (fun w hst => follows_tri c w) rfl (fun _ _ => ?_)
            refine GL.v (.pickT rfl rfl) rfl (GL.v (.assign rfl) rfl (GL.nil (GN.seq (GC.ret (?_)))))
            refine GR.one rfl rfl rfl () ?_ (Ent.refl _) trivial
            congr 1; unfold secM; rw [if_neg (by omega)]; rw [if_neg (by omega)]; rw [if_neg (by omega)]; rw [if_pos (by omega)]; rw [decide_eq_true (by omega)]; rfl
          · refine GL.sg rfl rfl rfl rfl (GL.sg rfl rfl rfl rfl (GL.v (.pickF rfl rfl) rfl (GL.v (.assign rfl) rfl (GL.nil (GN.seq (GC.ret (?_)))))))
            refine GR.one rfl rfl rfl () ?_ (Ent.refl _) trivial
            congr 1; unfold secM; rw [if_neg (by omega)]; rw [if_neg (by omega)]; rw [if_neg (by omega)]; rw [if_pos (by omega)]; rw [decide_eq_false (by omega)]; rfl
        · refine GC.skip (GN.blk (GN.seq (GC.seq (GC.region (GL.v (.move rfl) rfl (?_))))))
          refine GL.call (As := []) rfl (fun w hst => follows_tri c w) rfl (fun _ _ => ?_)
          refine GL.v (.assign rfl) rfl (GL.nil (GN.seq (GC.ret (?_))))
          refine GR.one rfl rfl rfl () ?_ (Ent.refl _) trivial
          congr 1; unfold secM; rw [if_neg (by omega)]; rw [if_neg (by omega)]; rw [if_neg (by omega)]; rw [if_neg (by omega)]

theorem sign_tri (s : ByteArray) (w : World) (h0 : 0 < s.size) (hs : s.size ≤ mx) : Tri Tryz.prog 245 [.string s] [] (fun _ : Unit => .int .i64 (signM (bs s) : Int)) (fun _ => []) (fun _ => True) w := by
  unfold mx at hs
  obtain ⟨a, hd, hb⟩ := drop_cons_of_lt s 0 h0
  rw [List.drop_zero] at hd
  have hl : ((bs s).drop (0 + 1)).length = s.size - 1 := by rw [List.length_drop, bs_length]
  have hb' : bt s 0 = (a.toNat : Int) := hb
  have h4 := sizeM_le a.toNat
  rw [hd]
  generalize hL : (bs s).drop (0 + 1) = l at hl ⊢
  simp only [signM]
  refine tri_of_G 35 Tryz.func245 rfl Tryz.ntmps245 rfl (fun D => ?_)
  refine GC.seq (GC.region (GL.v (.assign rfl) rfl (GL.nil (GN.seq (GC.seq (GC.region (GL.v (.move rfl) rfl (GL.v (.indexS rfl rfl (by omega) (by omega)) rfl (?_)))))))))
  refine GL.set 6 (.int .u8 (a.toNat : Int)) rfl (by rw [hb']) ?_
  refine GL.call (As := []) rfl (fun w hst => size_tri a.toNat w) rfl (fun _ _ => ?_)
  refine GL.v (.assign rfl) rfl (GL.nil (GN.seq (GC.seq (GC.seq (?_)))))
  refine GC.draw _ (m := 16) rfl (Ent.refl _) ?_
  refine GA.take 0 rfl (by kernel_rfl) (by kernel_rfl) (by kernel_rfl) (.move rfl) rfl (GA.take 1 rfl (by kernel_rfl) (by kernel_rfl) (by kernel_rfl) (.move rfl) rfl (GA.take 2 rfl (by kernel_rfl) (by kernel_rfl) (by kernel_rfl) (.lenS rfl) rfl (GA.take 3 rfl (by kernel_rfl) (by kernel_rfl) (by kernel_rfl) (.gtr rfl rfl) rfl (GA.take 4 rfl (by kernel_rfl) (by kernel_rfl) (by kernel_rfl) (.move rfl) rfl (?_)))))
  refine GA.partD 12 rfl (fun hgt => ?_) (fun hgt => ?_)
  · refine GA.takes 5 rfl (by kernel_rfl) (by kernel_rfl) (by kernel_rfl) rfl rfl rfl rfl (GA.takes 6 rfl (by kernel_rfl) (by kernel_rfl) (by kernel_rfl) rfl rfl rfl rfl (GA.takes 7 rfl (by kernel_rfl) (by kernel_rfl) (by kernel_rfl) rfl rfl rfl rfl (GA.takesu 8 rfl (by kernel_rfl) (by kernel_rfl) (by kernel_rfl) rfl rfl rfl (GA.takesu 9 rfl (by kernel_rfl) (by kernel_rfl) (by kernel_rfl) rfl rfl rfl (GA.takesu 10 rfl (by kernel_rfl) (by kernel_rfl) (by kernel_rfl) rfl rfl rfl (GA.takesu 11 rfl (by kernel_rfl) (by kernel_rfl) (by kernel_rfl) rfl rfl rfl (GA.takesu 12 rfl (by kernel_rfl) (by kernel_rfl) (by kernel_rfl) rfl rfl rfl (GA.takesu 13 rfl (by kernel_rfl) (by kernel_rfl) (by kernel_rfl) rfl rfl rfl (GA.takes 14 rfl (by kernel_rfl) (by kernel_rfl) (by kernel_rfl) rfl rfl rfl rfl (GA.take 15 rfl (by kernel_rfl) (by kernel_rfl) (by kernel_rfl) (.pickT rfl rfl) rfl (GA.done (by kernel_rfl) (?_))))))))))))
    refine GN.seq (GC.cond rfl (fun _ => ?_) (fun h => by first | (have := of_decide_eq_false h; contradiction) | (have := of_decide_eq_true h; contradiction) | (cases h; done)))
    refine GC.seq (GC.region (GL.v (.assign rfl) rfl (GL.nil (GN.seq (GC.ret (?_))))))
    rw [if_pos (by omega)]
    exact GR.one rfl rfl rfl () rfl (Ent.refl _) trivial
  · rw [if_neg (by omega)]
    refine GA.takeg 5 rfl (by kernel_rfl) (by kernel_rfl) (by kernel_rfl) rfl rfl (.move rfl) rfl (GA.takeg 6 rfl (by kernel_rfl) (by kernel_rfl) (by kernel_rfl) rfl rfl (.gtr rfl rfl) rfl (GA.takeg 7 rfl (by kernel_rfl) (by kernel_rfl) (by kernel_rfl) rfl rfl (.move rfl) rfl (?_)))
    refine GA.partD 15 rfl (fun hn1 => ?_) (fun hn1 => ?_)
    · have h1 : 1 < s.size := by omega
      obtain ⟨c, hdc, hbc⟩ := drop_cons_of_lt s 1 h1
      have hc : ((l[0]?).map (·.toNat) |>.getD 0) = c.toNat := by rw [← hL, hdc]; rfl
      rw [hc]
      have hbc' : bt s 1 = (c.toNat : Int) := hbc
      have hsec : ∀ w, Tri Tryz.prog 248 [.int .u8 (bt s 0), .int .u8 (bt s 1)] [] (fun _ : Unit => .bool (secM a.toNat c.toNat)) (fun _ => []) (fun _ => True) w := fun w => by rw [hb', hbc']; exact second_tri _ _ w
      refine GA.takeg 8 rfl (by kernel_rfl) (by kernel_rfl) (by kernel_rfl) rfl rfl (.move rfl) rfl (GA.takeg 9 rfl (by kernel_rfl) (by kernel_rfl) (by kernel_rfl) rfl rfl (.indexS rfl rfl (by omega) (by omega)) rfl (GA.takeg 10 rfl (by kernel_rfl) (by kernel_rfl) (by kernel_rfl) rfl rfl (.move rfl) rfl (GA.takeg 11 rfl (by kernel_rfl) (by kernel_rfl) (by kernel_rfl) rfl rfl (.indexS rfl rfl (by omega) (by omega)) rfl (?_))))
      refine GA.one 12 (by kernel_rfl) ?_
      refine GAi.callg (As := []) rfl rfl rfl rfl (fun w hst => hsec w) rfl (fun _ _ => Ent.refl _) (fun _ _ => ?_)
      refine GA.takeg 13 rfl (by kernel_rfl) (by kernel_rfl) (by kernel_rfl) rfl rfl (.not rfl) rfl (GA.takeg 14 rfl (by kernel_rfl) (by kernel_rfl) (by kernel_rfl) rfl rfl (.pickT rfl rfl) rfl (GA.take 15 rfl (by kernel_rfl) (by kernel_rfl) (by kernel_rfl) (.pickF rfl rfl) rfl (GA.done (by kernel_rfl) (?_))))
      refine GN.seq (?_)
      refine GC.cond rfl (fun hsc => ?_) (fun hsc => ?_)
      · refine GC.seq (GC.region (GL.v (.assign rfl) rfl (GL.nil (GN.seq (GC.ret (?_))))))
        rw [if_pos ⟨by omega, by simpa using hsc⟩]
        exact GR.one rfl rfl rfl () rfl (Ent.refl _) trivial
      · rw [if_neg (by simp at hsc; simp [hsc])]
        refine GC.skip (GN.seq (GC.seq (GC.seq (GC.region (GL.v (.assign rfl) rfl (GL.nil (GN.seq (GC.block (?_)))))))))

        have hget : ∀ j, (l.drop 1)[j]? = (bs s)[j + 2]? := fun j => by rw [← hL, List.drop_drop, List.getElem?_drop]; congr 1; omega
        refine GC.loop (γ := Nat) (fun i => 2 ≤ i ∧ (i ≤ sizeM a.toNat ∨ i = 2) ∧ ((l.drop 1).take (i - 2)).all (fun c => follM c.toNat) = true) (fun i => [(0, .string s), (3, .int .i64 (sizeM a.toNat : Int)), (4, .int .i64 (i : Int))]) (fun _ => []) (fun i => sizeM a.toNat - i) 2 ⟨Nat.le_refl _, .inr rfl, rfl⟩ (Sub.cons rfl (Sub.cons rfl (Sub.cons rfl (Sub.nil _)))) (Ent.nil _) ?_
        rintro i ⟨g1, g2, g3⟩
        refine GC.seq (GC.seq (GC.region (GL.v (.move rfl) rfl (GL.v (.move rfl) rfl (GL.v (.lss rfl rfl) rfl (GL.nil (GN.seq (?_))))))))
        refine GC.condD rfl (fun hlt => ?_) (fun hlt => ?_)
        · have hi : i < s.size := by omega
          obtain ⟨c, hdc, hbc⟩ := drop_cons_of_lt s i hi
          have hc : (l.drop 1)[i - 2]? = some c := by
            rw [hget, show i - 2 + 2 = i by omega]
            have := congrArg (fun x => x[0]?) hdc
            simpa using this
          have hfol : ∀ w, Tri Tryz.prog 249 [.int .u8 (bt s (i : Int))] [] (fun _ : Unit => .bool (follM c.toNat)) (fun _ => []) (fun _ => True) w := fun w => by rw [hbc]; exact follows_tri _ w
          have hstep : (l.drop 1).take (i + 1 - 2) = (l.drop 1).take (i - 2) ++ [c] := by rw [show i + 1 - 2 = i - 2 + 1 by omega, List.take_add_one, hc]; rfl
          refine GC.skip (GN.seq (GC.seq (GC.block (GC.seq (GC.region (GL.v (.move rfl) rfl (GL.v (.move rfl) rfl (GL.v (.indexS rfl rfl (by omega) (by omega)) rfl (?_)))))))))
          refine GL.call (As := []) rfl (fun w hst => hfol w) rfl (fun _ _ => ?_)
          refine GL.v (.not rfl) rfl (GL.nil (GN.seq (?_)))
          refine GC.cond rfl (fun hf => ?_) (fun hf => ?_)
          · refine GC.seq (GC.region (GL.v (.assign rfl) rfl (GL.nil (GN.seq (GC.ret (?_))))))
            refine GR.one rfl rfl rfl () ?_ (Ent.refl _) trivial
            have hall : ((l.drop 1).take (sizeM a.toNat - 2)).all (fun c => follM c.toNat) = false := by
              rw [List.all_eq_false]
              refine ⟨c, List.mem_of_getElem? (i := i - 2) (by rw [List.getElem?_take_of_lt (by omega)]; exact hc), ?_⟩
              have : follM c.toNat = false := by simpa using hf
              rw [this]; simp
            rw [if_neg (by rw [hall]; simp)]; rfl
          · refine GC.skip (GN.blk (GN.seq (GC.region (GL.v (.move rfl) rfl (GL.v (.add rfl rfl (i64_in _ (by omega))) rfl (GL.v (.assign rfl) rfl (GL.nil (?_))))))))
            refine GN.loop (i + 1) ⟨by omega, .inl (by omega), ?_⟩ (by omega) (Sub.cons rfl (Sub.cons rfl (Sub.cons rfl (Sub.nil _)))) (Ent.nil _)
            rw [hstep, List.all_append, g3]
            have : follM c.toNat = true := by simpa using hf
            simp [this]
        · have hall : ((l.drop 1).take (sizeM a.toNat - 2)).all (fun c => follM c.toNat) = true := by
            rcases g2 with g2 | g2
            · have : i = sizeM a.toNat := by omega
              rw [← this]; exact g3
            · rw [show sizeM a.toNat - 2 = 0 by omega]; rfl
          rw [if_pos hall]
          refine GC.exit (GX.seq (GX.loop (GX.blk (GN.seq (GC.seq (GC.region (GL.v (.move rfl) rfl (GL.v (.assign rfl) rfl (GL.nil (GN.seq (GC.ret (?_))))))))))))
          exact GR.one rfl rfl rfl () rfl (Ent.refl _) trivial
    · refine GA.takes 8 rfl (by kernel_rfl) (by kernel_rfl) (by kernel_rfl) rfl rfl rfl rfl (GA.takes 9 rfl (by kernel_rfl) (by kernel_rfl) (by kernel_rfl) rfl rfl rfl rfl (GA.takes 10 rfl (by kernel_rfl) (by kernel_rfl) (by kernel_rfl) rfl rfl rfl rfl (GA.takes 11 rfl (by kernel_rfl) (by kernel_rfl) (by kernel_rfl) rfl rfl rfl rfl (GA.takes 12 rfl (by kernel_rfl) (by kernel_rfl) (by kernel_rfl) rfl rfl rfl rfl (GA.takes 13 rfl (by kernel_rfl) (by kernel_rfl) (by kernel_rfl) rfl rfl rfl rfl (GA.takeg 14 rfl (by kernel_rfl) (by kernel_rfl) (by kernel_rfl) rfl rfl (.pickF rfl rfl) rfl (GA.take 15 rfl (by kernel_rfl) (by kernel_rfl) (by kernel_rfl) (.pickF rfl rfl) rfl (GA.done (by kernel_rfl) (?_)))))))))
      rw [if_neg (by omega)]
      refine GN.seq (GC.cond rfl (fun h => by first | (have := of_decide_eq_false h; contradiction) | (have := of_decide_eq_true h; contradiction) | (cases h; done)) (fun _ => ?_))
      refine GC.skip (GN.seq (GC.seq (GC.seq (GC.region (GL.v (.assign rfl) rfl (GL.nil (GN.seq (GC.block (?_)))))))))

      have hget : ∀ j, (l.drop 1)[j]? = (bs s)[j + 2]? := fun j => by rw [← hL, List.drop_drop, List.getElem?_drop]; congr 1; omega
      refine GC.loop (γ := Nat) (fun i => 2 ≤ i ∧ (i ≤ sizeM a.toNat ∨ i = 2) ∧ ((l.drop 1).take (i - 2)).all (fun c => follM c.toNat) = true) (fun i => [(0, .string s), (3, .int .i64 (sizeM a.toNat : Int)), (4, .int .i64 (i : Int))]) (fun _ => []) (fun i => sizeM a.toNat - i) 2 ⟨Nat.le_refl _, .inr rfl, rfl⟩ (Sub.cons rfl (Sub.cons rfl (Sub.cons rfl (Sub.nil _)))) (Ent.nil _) ?_
      rintro i ⟨g1, g2, g3⟩
      refine GC.seq (GC.seq (GC.region (GL.v (.move rfl) rfl (GL.v (.move rfl) rfl (GL.v (.lss rfl rfl) rfl (GL.nil (GN.seq (?_))))))))
      refine GC.condD rfl (fun hlt => ?_) (fun hlt => ?_)
      · have hi : i < s.size := by omega
        obtain ⟨c, hdc, hbc⟩ := drop_cons_of_lt s i hi
        have hc : (l.drop 1)[i - 2]? = some c := by
          rw [hget, show i - 2 + 2 = i by omega]
          have := congrArg (fun x => x[0]?) hdc
          simpa using this
        have hfol : ∀ w, Tri Tryz.prog 249 [.int .u8 (bt s (i : Int))] [] (fun _ : Unit => .bool (follM c.toNat)) (fun _ => []) (fun _ => True) w := fun w => by rw [hbc]; exact follows_tri _ w
        have hstep : (l.drop 1).take (i + 1 - 2) = (l.drop 1).take (i - 2) ++ [c] := by rw [show i + 1 - 2 = i - 2 + 1 by omega, List.take_add_one, hc]; rfl
        refine GC.skip (GN.seq (GC.seq (GC.block (GC.seq (GC.region (GL.v (.move rfl) rfl (GL.v (.move rfl) rfl (GL.v (.indexS rfl rfl (by omega) (by omega)) rfl (?_)))))))))
        refine GL.call (As := []) rfl (fun w hst => hfol w) rfl (fun _ _ => ?_)
        refine GL.v (.not rfl) rfl (GL.nil (GN.seq (?_)))
        refine GC.cond rfl (fun hf => ?_) (fun hf => ?_)
        · refine GC.seq (GC.region (GL.v (.assign rfl) rfl (GL.nil (GN.seq (GC.ret (?_))))))
          refine GR.one rfl rfl rfl () ?_ (Ent.refl _) trivial
          have hall : ((l.drop 1).take (sizeM a.toNat - 2)).all (fun c => follM c.toNat) = false := by
            rw [List.all_eq_false]
            refine ⟨c, List.mem_of_getElem? (i := i - 2) (by rw [List.getElem?_take_of_lt (by omega)]; exact hc), ?_⟩
            have : follM c.toNat = false := by simpa using hf
            rw [this]; simp
          rw [if_neg (by rw [hall]; simp)]; rfl
        · refine GC.skip (GN.blk (GN.seq (GC.region (GL.v (.move rfl) rfl (GL.v (.add rfl rfl (i64_in _ (by omega))) rfl (GL.v (.assign rfl) rfl (GL.nil (?_))))))))
          refine GN.loop (i + 1) ⟨by omega, .inl (by omega), ?_⟩ (by omega) (Sub.cons rfl (Sub.cons rfl (Sub.cons rfl (Sub.nil _)))) (Ent.nil _)
          rw [hstep, List.all_append, g3]
          have : follM c.toNat = true := by simpa using hf
          simp [this]
      · have hall : ((l.drop 1).take (sizeM a.toNat - 2)).all (fun c => follM c.toNat) = true := by
          rcases g2 with g2 | g2
          · have : i = sizeM a.toNat := by omega
            rw [← this]; exact g3
          · rw [show sizeM a.toNat - 2 = 0 by omega]; rfl
        rw [if_pos hall]
        refine GC.exit (GX.seq (GX.loop (GX.blk (GN.seq (GC.seq (GC.region (GL.v (.move rfl) rfl (GL.v (.assign rfl) rfl (GL.nil (GN.seq (GC.ret (?_))))))))))))
        exact GR.one rfl rfl rfl () rfl (Ent.refl _) trivial

theorem textM_step (l : Bs) (h : l ≠ []) (h2 : signM l ≠ 0) : textM l = textM (l.drop (signM l)) := by
  rw [textM, dif_neg h, dif_neg h2]
theorem textM_bad (l : Bs) (h : l ≠ []) (h2 : signM l = 0) : textM l = false := by
  rw [textM, dif_neg h, dif_pos h2]
theorem textM_nil : textM [] = true := by rw [textM]; rfl

theorem whole_tri (s : ByteArray) (w : World) (hs : s.size ≤ mx) : Tri Tryz.prog 240 [.string s, .int .i64 (s.size : Int)] [] (fun k : Nat => .int .i64 (k : Int)) (fun _ => []) (fun k => k ≤ s.size ∧ textM (bs s) = decide (k = s.size)) w := by
  have hs' := hs
  unfold mx at hs'
  refine tri_of_G 28 Tryz.func240 rfl Tryz.ntmps240 rfl (fun D => ?_)
  refine GC.seq (GC.region (GL.v (.assign rfl) rfl (GL.nil (GN.seq (GC.seq (GC.region (GL.v (.assign rfl) rfl (GL.nil (GN.seq (GC.seq (GC.block (?_))))))))))))
  refine GC.loop (γ := Nat) (fun k => k ≤ s.size ∧ textM (bs s) = textM ((bs s).drop k)) (fun k => [(0, .string s), (1, .int .i64 (s.size : Int)), (5, .int .i64 (k : Int))]) (fun _ => []) (fun k => s.size - k) 0 ⟨Nat.zero_le _, by simp⟩ (Sub.cons rfl (Sub.cons rfl (Sub.cons rfl (Sub.nil _)))) (Ent.nil _) ?_
  rintro k ⟨h1, h2⟩
  refine GC.seq (GC.seq (GC.region (GL.v (.move rfl) rfl (GL.v (.move rfl) rfl (GL.v (.lenS rfl) rfl (GL.v (.lss rfl rfl) rfl (GL.nil (GN.seq (?_)))))))))
  refine GC.condD rfl (fun hlt => ?_) (fun hlt => ?_)
  · have hx : bs (s.extract (k : Int).toNat s.size) = (bs s).drop k := by
      rw [bs_extract, List.take_of_length_le (by rw [bs_length]; omega)]; rfl
    have hsz : (s.extract (k : Int).toNat s.size).size = s.size - k := by rw [ByteArray.size_extract]; omega
    have hne : (bs s).drop k ≠ [] := fun e => by have := congrArg List.length e; simp [bs_length] at this; omega
    have hle := signM_le ((bs s).drop k)
    rw [List.length_drop, bs_length] at hle
    refine GC.skip (GN.seq (GC.block (GC.seq (GC.region (GL.v (.move rfl) rfl (GL.v (.move rfl) rfl (GL.v (.sliceSL rfl rfl (by omega) (by omega)) rfl (?_))))))))
    refine GL.call (As := []) rfl (fun w hst => sign_tri (s.extract (k : Int).toNat s.size) w (by omega) (by unfold mx; omega)) rfl (fun _ _ => ?_)
    refine GL.set 14 (.int .i64 (signM ((bs s).drop k) : Int)) rfl (by rw [hx]) ?_
    refine GL.v (.assign rfl) rfl (GL.nil (GN.seq (GC.seq (GC.seq (GC.region (GL.v (.move rfl) rfl (GL.v (.eql rfl rfl) rfl (GL.v (.move rfl) rfl (?_)))))))))
    refine GL.partD 17 rfl (fun hz => ?_) (fun hz => ?_)
    · refine GL.sg rfl rfl rfl rfl (GL.sg rfl rfl rfl rfl (GL.sg rfl rfl rfl rfl (GL.sg rfl rfl rfl rfl (GL.sg rfl rfl rfl rfl (GL.v (.pickT rfl rfl) rfl (GL.nil (GN.seq (GC.cond rfl (fun _ => ?_) (fun h => by first | (have := of_decide_eq_false h; contradiction) | (have := of_decide_eq_true h; contradiction) | (cases h; done))))))))))
      refine GC.exit (GX.seq (GX.other rfl (GX.loop (GX.blk (GN.seq (GC.seq (GC.region (GL.v (.move rfl) rfl (GL.v (.assign rfl) rfl (GL.nil (GN.seq (GC.ret (?_)))))))))))))
      refine GR.one rfl rfl rfl k rfl (Ent.refl _) ⟨h1, ?_⟩
      rw [h2, textM_bad _ hne (by omega)]; symm; rw [decide_eq_false_iff_not]; omega
    · refine GL.vg rfl rfl (.move rfl) rfl (GL.vg rfl rfl (.move rfl) rfl (GL.vg rfl rfl (.move rfl) rfl (GL.vg rfl rfl (.sub rfl rfl (i64_in _ (by omega))) rfl (GL.vg rfl rfl (.gtr rfl rfl) rfl (GL.v (.pickF rfl rfl) rfl (GL.nil (GN.seq (?_))))))))
      refine GC.condD rfl (fun hgt => ?_) (fun hgt => ?_)
      · exfalso; omega
      · refine GC.skip (GN.seq (GC.region (GL.v (.move rfl) rfl (GL.v (.move rfl) rfl (GL.v (.add rfl rfl (i64_in _ (by omega))) rfl (GL.v (.assign rfl) rfl (GL.nil (GN.blk (?_)))))))))
        refine GN.loop (k + signM ((bs s).drop k)) ⟨by omega, ?_⟩ (by omega) (Sub.cons rfl (Sub.cons rfl (Sub.cons rfl (Sub.nil _)))) (Ent.nil _)
        rw [h2, textM_step _ hne (by omega), List.drop_drop]
  · have hk : k = s.size := by omega
    subst hk
    refine GC.exit (GX.seq (GX.loop (GX.blk (GN.seq (GC.seq (GC.region (GL.v (.move rfl) rfl (GL.v (.assign rfl) rfl (GL.nil (GN.seq (GC.ret (?_))))))))))))
    refine GR.one rfl rfl rfl s.size rfl (Ent.refl _) ⟨Nat.le_refl _, ?_⟩
    rw [h2, List.drop_eq_nil_of_le (by rw [bs_length]; exact Nat.le_refl _), textM_nil]; simp

theorem Bad_tri (s : ByteArray) (w : World) (hs : s.size ≤ mx) : Tri Tryz.prog 229 [.string s] [] (fun k : Int => .int .i64 k) (fun _ => []) (fun k => k ≤ s.size ∧ -1 ≤ k ∧ textM (bs s) = decide (k < 0)) w := by
  refine tri_of_G 13 Tryz.func229 rfl Tryz.ntmps229 rfl (fun D => ?_)
  refine GC.seq (GC.region (GL.v (.assign rfl) rfl (GL.nil (GN.seq (GC.seq (GC.region (GL.v (.move rfl) rfl (GL.v (.move rfl) rfl (GL.v (.lenS rfl) rfl (?_))))))))))
  refine GL.call (As := []) rfl (fun w hst => whole_tri s w hs) rfl (fun k hk => ?_)
  obtain ⟨h1, h2⟩ := hk
  refine GL.v (.assign rfl) rfl (GL.nil (GN.seq (GC.seq (GC.seq (GC.region (GL.v (.move rfl) rfl (GL.v (.move rfl) rfl (GL.v (.lenS rfl) rfl (GL.v (.eql rfl rfl) rfl (GL.nil (GN.seq (?_))))))))))))
  refine GC.condD rfl (fun he => ?_) (fun he => ?_)
  · refine GC.seq (GC.region (GL.v (.assign rfl) rfl (GL.nil (GN.seq (GC.ret (?_))))))
    refine GR.one rfl rfl rfl (-1) rfl (Ent.refl _) ⟨by omega, by omega, ?_⟩
    rw [h2, decide_eq_true (by omega)]; rfl
  · refine GC.skip (GN.seq (GC.seq (GC.region (GL.v (.move rfl) rfl (GL.v (.assign rfl) rfl (GL.nil (GN.seq (GC.ret (?_)))))))))
    refine GR.one rfl rfl rfl (k : Int) rfl (Ent.refl _) ⟨by omega, by omega, ?_⟩
    rw [h2, decide_eq_decide]; omega
theorem Valid_tri (s : ByteArray) (w : World) (hs : s.size ≤ mx) : Tri Tryz.prog 202 [.string s] [] (fun _ : Unit => .bool (textM (bs s))) (fun _ => []) (fun _ => True) w := by
  refine tri_of_G 6 Tryz.func202 rfl Tryz.ntmps202 rfl (fun D => ?_)
  refine GC.seq (GC.region (GL.v (.assign rfl) rfl (GL.nil (GN.seq (GC.seq (GC.region (GL.v (.move rfl) rfl (?_))))))))
  refine GL.call (As := []) rfl (fun w hst => Bad_tri s w hs) rfl (fun k hk => ?_)
  obtain ⟨h1, h2, h3⟩ := hk
  rw [h3]
  refine GL.v (.lss rfl rfl) rfl (GL.v (.assign rfl) rfl (GL.nil (GN.seq (GC.ret (?_)))))
  exact GR.one rfl rfl rfl () rfl (Ent.refl _) trivial
/-- What is wrong with a text. -/
def textE (l : Bs) : Option (Option Int) := if textM l then none else some none
theorem Check_tri (s : ByteArray) (w : World) (hs : s.size ≤ mx) : Tri Tryz.prog 215 [.string s] [] (fun v : Value => v) (fun v => [ErF v s.size (textE (bs s))]) (fun _ => True) w := by
  refine tri_of_G 11 Tryz.func215 rfl Tryz.ntmps215 rfl (fun D => ?_)
  refine GC.seq (GC.region (GL.v (.assign rfl) rfl (GL.nil (GN.seq (GC.seq (GC.seq (GC.region (GL.v (.move rfl) rfl (?_)))))))))
  refine GL.call (As := []) rfl (fun w hst => Bad_tri s w hs) rfl (fun k hk => ?_)
  obtain ⟨h1, h2, h3⟩ := hk
  refine GL.v (.assign rfl) rfl (GL.nil (GN.seq (GC.seq (GC.region (GL.v (.move rfl) rfl (GL.v (.geq rfl rfl) rfl (GL.nil (GN.seq (?_)))))))))
  refine GC.condD rfl (fun hge => ?_) (fun hge => ?_)
  · have e : textE (bs s) = some none := by unfold textE; rw [h3, decide_eq_false (by omega)]; rfl
    rw [e]
    refine GC.seq (GC.region (GL.v (.move rfl) rfl (GL.v (.makeInterface rfl) rfl (?_))))
    refine GL.ent (Ent.intro (Er.code 5) _) ?_
    refine GL.call (As := [_]) rfl (fun w hst => At_tri k _ _ w) rfl (fun v hv => ?_)
    refine GL.v (.assign rfl) rfl (GL.nil (GN.seq (GC.ret (?_))))
    exact GR.one rfl rfl rfl v rfl (Ent.close (Bs := ErG1 v) (p := ErG2 s.size none) (k, .code 5) ⟨by simp only; omega, h1, by show good 5; decide, fun _ h => by cases h⟩ []) trivial
  · have e : textE (bs s) = none := by unfold textE; rw [h3, decide_eq_true (by omega)]; rfl
    rw [e]
    refine GC.skip (GN.seq (GC.seq (GC.region (GL.v (.assign rfl) rfl (GL.nil (GN.seq (GC.ret (?_))))))))
    exact GR.one rfl rfl rfl .nilIface rfl (Ent.intro (A := ErF .nilIface s.size none) (fun _ => rfl) []) trivial

end Go.Proofs.Gw
/- Package msg's reader: taking a message apart. -/
set_option linter.unusedVariables false
set_option linter.unusedSimpArgs false
namespace Go.Proofs.Gw
open Go Go.RowKit Go.IntWalk Go.Proofs.Gm

theorem flat_get {α : Type} {f : α → List Value} {k : Nat} (hk : ∀ a, (f a).length = k) : ∀ (l : List α) (i : Nat) (a : α) (j : Nat) (v : Value), l[i]? = some a → (f a)[j]? = some v → (l.flatMap f)[i * k + j]? = some v
  | [], i, a, j, v, h, _ => by simp at h
  | b :: l, 0, a, j, v, h, hj => by
    simp at h; subst h
    have hl : j < (f b).length := (List.getElem?_eq_some_iff.1 hj).1
    rw [List.flatMap_cons, Nat.zero_mul, Nat.zero_add, List.getElem?_append_left hl]; exact hj
  | b :: l, i + 1, a, j, v, h, hj => by
    have := flat_get hk l i a j v (by simpa using h) hj
    rw [List.flatMap_cons, List.getElem?_append_right (by rw [hk, Nat.succ_mul]; omega), hk]
    rw [show (i + 1) * k + j - k = i * k + j by rw [Nat.succ_mul]; omega]; exact this
theorem recC_len (r : Rec) : (recC r).length = 5 := rfl

section
variable {C : Ctx} {ρ : List (Nat × Value)} {Hs : List HP} {ty t e : TypeId} {x : Operand} {g off n c size : Nat} {xs : List Value}
/-- A struct out of a list of the call's own. -/
theorem OpV.ldOwnN (i : Nat) {k : Nat} (vs : List Value) [hz : TSz C.P t true k] (hi : Hs[i]? = some (Own e size (.slice (some ⟨g, 0, none⟩) n c) n xs)) (hx : ev ρ x = some (.pointer (some ⟨g, off, none⟩))) (hk : Nat.beq vs.length k = true) (hv : ∀ j v, vs[j]? = some v → xs[off + j]? = some v) : OpV C ρ (St C Hs) (.load t x) ty (.agg vs.toArray) :=
  OpV.loadN hx hk fun w hs j v hj => by
    obtain ⟨ok, _, h1⟩ := Sat.at i hi hs.sat
    exact Own.cell h1 (hv j v hj)
theorem OpV.ldOwn (i : Nat) {v : Value} [hz : TSz C.P t false 1] (hi : Hs[i]? = some (Own e size (.slice (some ⟨g, 0, none⟩) n c) n xs)) (hx : ev ρ x = some (.pointer (some ⟨g, off, none⟩))) (hv : xs[off]? = some v) : OpV C ρ (St C Hs) (.load t x) ty v :=
  OpV.load1 hx fun w hs => by
    obtain ⟨ok, _, h1⟩ := Sat.at i hi hs.sat
    exact Own.cell h1 hv
end

theorem fails_code (g : Nat) (R : RM) (num c : Int) (w : World) (hn : R.n ≤ 1099511627776) (hc : good c) :
    Tri Tryz.prog 119 [ptr g, .int .i64 num, codeV c] [RdS g R none] (fun _ : Unit => .tuple #[]) (fun _ => [RdS g R (some (some c))]) (fun _ => True) w := by
  refine Tri.open ?_
  rintro x hx
  rcases hx with ⟨_, rfl⟩ | ⟨⟨oc, h⟩, _⟩
  · refine tri_of_G 36 Tryz.func119 rfl Tryz.ntmps119 rfl (fun D => ?_)
    refine GC.seq (GC.region (GL.v (.move rfl) rfl (GL.v (.nilCheck rfl) rfl (GL.v (.fieldAddr rfl) rfl (GL.v (.ld 0 rfl rfl rfl) rfl (GL.v (.eqlNil rfl (by first | exact .inl rfl | exact .inr ⟨_, _, rfl⟩ | assumption)) rfl (GL.v (.move rfl) rfl (?_))))))))
    refine GL.vg rfl rfl (.move rfl) rfl (GL.vg rfl rfl (.neqNil rfl (by first | exact .inl rfl | exact .inr ⟨_, _, rfl⟩ | assumption)) rfl (GL.v (.pickT rfl rfl) rfl (GL.nil (GN.seq (?_)))))
    refine GC.cond rfl (fun _ => ?_) (fun h => Bool.noConfusion (h.symm.trans (rfl) : false = true))
    refine GC.seq (GC.region (GL.v (.move rfl) rfl (?_)))
    refine GL.call (As := []) rfl (fun w hst => Place_code c w) rfl (fun _ _ => ?_)
    refine GL.v (.move rfl) rfl (GL.v (.extract rfl rfl) rfl (GL.v (.extract rfl rfl) rfl (GL.v (.assign rfl) rfl (GL.v (.assign rfl) rfl (GL.nil (GN.seq (?_)))))))
    refine GC.ent (Ent.intro (Er.code c) _) ?_
    refine GC.draw ([Blk g 93 5 [(1, .string R.unk), (2, .int .i64 R.d), (3, .int .i64 R.n), (4, R.v)]]) (m := 15) rfl (by repeat (first | exact Ent.nil _ | (with_reducible exact Ent.refl _) | refine Ent.blk (by repeat (first | exact Sub.nil _ | refine Sub.cons rfl ?_)) ?_ | refine Ent.cons _ ?_ | refine Ent.trans (Ent.tail _ _) ?_)) ?_
    refine GA.take 0 rfl (by kernel_rfl) (by kernel_rfl) (by kernel_rfl) (.move rfl) rfl (GA.take 1 rfl (by kernel_rfl) (by kernel_rfl) (by kernel_rfl) (.move rfl) rfl (GA.take 2 rfl (by kernel_rfl) (by kernel_rfl) (by kernel_rfl) (.max2 rfl rfl) rfl (GA.take 3 rfl (by kernel_rfl) (by kernel_rfl) (by kernel_rfl) (.move rfl) rfl (GA.take 4 rfl (by kernel_rfl) (by kernel_rfl) (by kernel_rfl) (.nilCheck rfl) rfl (GA.take 5 rfl (by kernel_rfl) (by kernel_rfl) (by kernel_rfl) (.fieldAddr rfl) rfl (GA.take 6 rfl (by kernel_rfl) (by kernel_rfl) (by kernel_rfl) (.ld 0 rfl rfl rfl) rfl (GA.take 7 rfl (by kernel_rfl) (by kernel_rfl) (by kernel_rfl) (.min2 rfl rfl) rfl (GA.take 8 rfl (by kernel_rfl) (by kernel_rfl) (by kernel_rfl) (.move rfl) rfl (GA.take 9 rfl (by kernel_rfl) (by kernel_rfl) (by kernel_rfl) (.move rfl) rfl (?_))))))))))
    refine GA.one 10 (by kernel_rfl) ?_
    refine GAi.call (As := [_]) rfl rfl (fun w hst => In_tri num _ _ w) rfl (fun v2 hv2 => (by repeat (first | exact Ent.nil _ | (with_reducible exact Ent.refl _) | refine Ent.blk (by repeat (first | exact Sub.nil _ | refine Sub.cons rfl ?_)) ?_ | refine Ent.cons _ ?_ | refine Ent.trans (Ent.tail _ _) ?_))) (fun v2 hv2 => ?_)
    obtain ⟨t2, u2, rfl⟩ := hv2
    refine GA.one 11 (by kernel_rfl) ?_
    refine GAi.call (As := [_]) rfl rfl (fun w hst => At_tri _ _ _ w) rfl (fun v3 hv3 => (by repeat (first | exact Ent.nil _ | (with_reducible exact Ent.refl _) | refine Ent.blk (by repeat (first | exact Sub.nil _ | refine Sub.cons rfl ?_)) ?_ | refine Ent.cons _ ?_ | refine Ent.trans (Ent.tail _ _) ?_))) (fun v3 hv3 => ?_)
    obtain ⟨t3, u3, rfl⟩ := hv3
    refine GA.take 12 rfl (by kernel_rfl) (by kernel_rfl) (by kernel_rfl) (.nilCheck rfl) rfl (GA.take 13 rfl (by kernel_rfl) (by kernel_rfl) (by kernel_rfl) (.fieldAddr rfl) rfl (?_))
    refine GA.one 14 (by kernel_rfl) (GAi.w0 rfl (.store 1 rfl rfl rfl rfl rfl rfl rfl) (fun _ _ => (by repeat (first | exact Ent.nil _ | (with_reducible exact Ent.refl _) | refine Ent.blk (by repeat (first | exact Sub.nil _ | refine Sub.cons rfl ?_)) ?_ | refine Ent.cons _ ?_ | refine Ent.trans (Ent.tail _ _) ?_))) (fun _ _ => ?_))
    refine GA.done (by kernel_rfl) (?_)
    refine GN.nil (GR.none rfl rfl () rfl (Ent.trans ((Ent.close (Bs := ErG1 (.iface t3 u3)) (p := ErG2 R.n (some c)) (min (max 0 0) (R.n : Int), .in_ num (.code c)) ⟨by simp only; omega, by simp only; omega, hc, fun _ h => by cases h; rfl⟩ _)) ?_) trivial)
    refine Ent.trans (Ent.swap _ _ _) (Ent.trans (Ent.blk (u' := [(0, .iface t3 u3), (1, .string R.unk), (2, .int .i64 R.d), (3, .int .i64 R.n), (4, R.v)]) (by repeat (first | exact Sub.nil _ | refine Sub.cons rfl ?_)) (Ent.cons _ (Ent.tail _ _))) ?_)
    exact Ent.close (Bs := RdS1 g R (some (some c))) (p := RdS2 (some (some c))) (.iface t3 u3) (.inr ⟨⟨_, rfl⟩, _, _, rfl⟩) []
  · cases h

/-- A table: a function of the program that takes a number and a type. -/
def Tbl (f : Nat) (tm : Nat → Nat → Bool) : Prop := ∀ (num kind : Nat) (w : World), num ≤ 536870911 → kind < 8 → Tri Tryz.prog f [.int .i64 (num : Int), .int .i64 (kind : Int)] [] (fun _ : Unit => .bool (tm num kind)) (fun _ => []) (fun _ => True) w

theorem allM_mem : ∀ (m : Nat) (d : Int) (l : Bs) (rs : List Rec), l.length ≤ m → allM d l = .ok rs → rs.length ≤ l.length ∧ ∀ r, r ∈ rs → 1 ≤ r.num ∧ r.num ≤ 536870911 ∧ r.kind < 8 ∧ r.n < 2 ^ 64 ∧ r.s.length ≤ l.length ∧ r.raw.length ≤ l.length := by
  intro m
  induction m with
  | zero =>
    intro d l rs hl h
    rcases allM_ok h with ⟨_, rfl⟩ | ⟨r, k, rs', hr, hq, rfl, hne⟩
    · exact ⟨by simp, fun r hr => by cases hr⟩
    · exact absurd (List.eq_nil_of_length_eq_zero (by omega)) hne
  | succ m ih =>
    intro d l rs hl h
    rcases allM_ok h with ⟨_, rfl⟩ | ⟨r, k, rs', hr, hq, rfl, hne⟩
    · exact ⟨by simp, fun r hr => by cases hr⟩
    · have hk := recM_ok hr
      have hd : (l.drop k).length = l.length - k := List.length_drop
      have h2 := ih d (l.drop k) rs' (by omega) hq
      refine ⟨by simp only [List.length_cons]; omega, fun r' hr' => ?_⟩
      rcases List.mem_cons.1 hr' with rfl | hr'
      · refine ⟨hk.2.2.1, hk.2.2.2.1, hk.2.2.2.2.1, hk.2.2.2.2.2.1, hk.2.2.2.2.2.2.1, ?_⟩
        rw [hk.2.2.2.2.2.2.2, List.length_take]; omega
      · have h3 := h2.2 r' hr'
        omega
/-- The records' own bytes are the message's. -/
theorem allM_raw : ∀ (m : Nat) (d : Int) (l : Bs) (rs : List Rec), l.length ≤ m → allM d l = .ok rs → rs.flatMap (·.raw) = l := by
  intro m
  induction m with
  | zero =>
    intro d l rs hl h
    rcases allM_ok h with ⟨e, rfl⟩ | ⟨r, k, rs', hr, hq, rfl, hne⟩
    · rw [e]; rfl
    · exact absurd (List.eq_nil_of_length_eq_zero (by omega)) hne
  | succ m ih =>
    intro d l rs hl h
    rcases allM_ok h with ⟨e, rfl⟩ | ⟨r, k, rs', hr, hq, rfl, hne⟩
    · rw [e]; rfl
    · have hk := recM_ok hr
      have hd : (l.drop k).length = l.length - k := List.length_drop
      rw [List.flatMap_cons, ih d _ _ (by omega) hq, hk.2.2.2.2.2.2.2, List.take_append_drop]
theorem rest_len (t : Nat → Nat → Bool) : ∀ (rs : List Rec), (restR t rs).length ≤ (rs.flatMap (·.raw)).length
  | [] => by simp [restR]
  | r :: rs => by
    have := rest_len t rs
    unfold restR at this ⊢
    rw [List.flatMap_cons, List.length_append, List.filter_cons]
    split
    · rw [List.flatMap_cons, List.length_append]; omega
    · omega

end Go.Proofs.Gw
/- Package msg's reader: Read. -/
set_option linter.unusedVariables false
set_option linter.unusedSimpArgs false
namespace Go.Proofs.Gw
open Go Go.RowKit Go.IntWalk Go.Proofs.Gm

theorem Rd.new (g : Nat) (unk : ByteArray) (d : Int) (n : Nat) (v : Value) (rs : List Rec) (Hs : List HP) : Ent (Blk g 93 5 [(0, .nilIface), (1, .string unk), (2, .int .i64 d), (3, .int .i64 n), (4, v)] :: OwnR v rs :: Hs) (RdS g ⟨unk, d, n, v, rs⟩ none :: Hs) :=
  ((Ent.intro (A := ErF .nilIface n none) (fun w => rfl) _).trans (Ent.swap _ _ _)).trans (Ent.close (Bs := RdS1 g ⟨unk, d, n, v, rs⟩ none) (p := RdS2 none) .nilIface (.inl ⟨rfl, rfl⟩) Hs)
theorem Rd.new0 (g : Nat) (unk : ByteArray) (d : Int) (n : Nat) (Hs : List HP) : Ent (Blk g 93 5 [(0, .nilIface), (1, .string unk), (2, .int .i64 d), (3, .int .i64 n), (4, .slice none 0 0)] :: Hs) (RdS g ⟨unk, d, n, .slice none 0 0, []⟩ none :: Hs) :=
  ((Ent.intro (A := OwnR (.slice none 0 0) []) (fun w => Own.nil _ _ w) _).trans (Ent.swap _ _ _)).trans (Rd.new g unk d n _ _ Hs)
theorem Rd.newE (g : Nat) (unk : ByteArray) (d : Int) (n : Nat) (v : Value) (rs : List Rec) (t : Nat) (u : Value) (oc : Option Int) (Hs : List HP) : Ent (Blk g 93 5 [(0, .iface t u), (1, .string unk), (2, .int .i64 d), (3, .int .i64 n), (4, v)] :: ErG (.iface t u) n oc :: OwnR v rs :: Hs) (RdS g ⟨unk, d, n, v, rs⟩ (some oc) :: Hs) :=
  Ent.close (Bs := RdS1 g ⟨unk, d, n, v, rs⟩ (some oc)) (p := RdS2 (some oc)) (.iface t u) (.inr ⟨⟨_, rfl⟩, _, _, rfl⟩) Hs
theorem good_vget {l : Bs} {c : Int} (h : vget l = .error c) : good c := by
  have := vr_err l 0 0 c h
  unfold good; omega
theorem good_tag {l : Bs} {c : Int} (h : tagM l = .error c) : good c := by
  unfold tagM at h
  split at h
  · rename_i hv; cases h; exact good_vget hv
  · split at h
    · cases h; decide
    · cases h
theorem good_rest : ∀ (m : Nat) (l : Bs), l.length ≤ m → (∀ (d : Int) (num kind : Nat) (c : Int), restM d num kind l = .error c → good c) ∧ (∀ (d : Int) (num : Nat) (c : Int), grpM d num l = .error c → good c) := by
  intro m
  induction m with
  | zero =>
    intro l hl
    have : l = [] := List.eq_nil_of_length_eq_zero (by omega)
    subst this
    have hg : ∀ (d : Int) (num : Nat) (c : Int), grpM d num [] = .error c → good c := by
      intro d num c h
      rw [grpM] at h
      simp [tagM, vget, vr] at h
      rw [← h]; decide
    refine ⟨?_, hg⟩
    intro d num kind c h
    rw [restM] at h
    repeat' split at h
    all_goals first
      | (cases h; done)
      | (rename_i hv; cases h; exact good_vget hv)
      | (rename_i hv; cases h; exact hg _ _ _ hv)
      | (cases h; decide)
  | succ m ih =>
    intro l hl
    have hg : ∀ (d : Int) (num : Nat) (c : Int), grpM d num l = .error c → good c := by
      intro d num c h
      rw [grpM] at h
      split at h
      · rename_i ht; cases h; exact good_tag ht
      · rename_i n kind j ht
        have h1 := tagM_ok ht
        split at h
        · split at h
          · cases h
          · cases h; decide
        · split at h
          · rename_i hr; cases h; exact (ih (l.drop j) (by simp; omega)).1 _ _ _ _ hr
          · rename_i x y i hr
            split at h
            · rename_i hq; cases h; exact (ih (l.drop (j + i)) (by simp; omega)).2 _ _ _ hq
            · cases h
    refine ⟨?_, hg⟩
    intro d num kind c h
    rw [restM] at h
    repeat' split at h
    all_goals first
      | (cases h; done)
      | (rename_i hv; cases h; exact good_vget hv)
      | (rename_i hv; cases h; exact hg _ _ _ hv)
      | (cases h; decide)
theorem good_rec {d : Int} {l : Bs} {c : Int} (h : recM d l = .error c) : good c := by
  unfold recM at h
  split at h
  · rename_i ht; cases h; exact good_tag ht
  · split at h
    · rename_i hr; cases h; exact (good_rest _ _ (Nat.le_refl _)).1 _ _ _ _ hr
    · cases h
theorem good_allM : ∀ (m : Nat) (d : Int) (l : Bs) (c : Int), l.length ≤ m → allM d l = .error c → good c := by
  intro m
  induction m with
  | zero =>
    intro d l c hl h
    obtain ⟨hne, _⟩ := allM_err h
    exact absurd (List.eq_nil_of_length_eq_zero (by omega)) hne
  | succ m ih =>
    intro d l c hl h
    obtain ⟨hne, h' | ⟨r, k, hr, hp⟩⟩ := allM_err h
    · exact good_rec h'
    · have hk := recM_ok hr
      exact ih d (l.drop k) c (by simp; omega) hp

theorem Read_tri (s : ByteArray) (d : Int) (f : Nat) (tm : Nat → Nat → Bool) (ht : Tbl f tm) [FnIs Tryz.prog f] (w : World) (hs : s.size ≤ mx) (hd1 : -9223372036854775808 ≤ d) (hd2 : d ≤ 9223372036854775807) :
    Tri Tryz.prog 44 [.string s, .int .i64 d, .func (.func f) #[] #[]] [] (fun x : Nat × Value => ptr x.1) (fun x => [RdS x.1 ⟨mkS (readU tm d (bs s)), d, s.size, x.2, readT tm d (bs s)⟩ (readE d (bs s))]) (fun _ => True) w := by
  have hs' := hs
  unfold mx at hs'
  refine tri_of_G 68 Tryz.func44 rfl Tryz.ntmps44 rfl (fun D => ?_)
  refine GC.seq (GC.region (GL.v (.assign rfl) rfl (GL.nil (GN.seq (GC.seq (GC.region (GL.v (.move rfl) rfl (GL.v (.move rfl) rfl (GL.v (.lenS rfl) rfl (GL.v (.build (cs := [_, _, _, _, _]) rfl rfl) rfl (GL.w (.box rfl rfl) rfl (fun b17 _ => GL.v (.assign rfl) rfl (GL.nil (GN.seq (GC.seq (GC.seq (GC.region (GL.v (.move rfl) rfl (GL.v (.lss rfl rfl) rfl (GL.nil (GN.seq (?_))))))))))))))))))))))
  refine GC.condD rfl (fun hd => ?_) (fun hd => ?_)
  · have e1 : readU tm d (bs s) = [] := if_pos hd
    have e2 : readT tm d (bs s) = [] := if_pos hd
    have e3 : readE d (bs s) = some (some 6) := if_pos hd
    rw [e1, e2, e3]
    refine GC.seq (GC.region (GL.v (.move rfl) rfl (GL.v (.makeInterface rfl) rfl (?_))))
    refine GL.ent (Ent.trans (Ent.blk (u' := [(0, .nilIface), (1, .string emptyS), (2, .int .i64 d), (3, .int .i64 s.size), (4, .slice none 0 0)]) (by repeat (first | exact Sub.nil _ | refine Sub.cons rfl ?_)) (Ent.refl _)) (Rd.new0 b17 emptyS d s.size [])) ?_
    refine GL.call (As := [_]) rfl (fun w hst => fails_code b17 _ 0 6 w hs' (by decide)) rfl (fun _ _ => ?_)
    refine GL.nil (GN.seq (GC.seq (GC.region (GL.v (.move rfl) rfl (GL.v (.assign rfl) rfl (GL.nil (GN.seq (GC.ret (?_)))))))))
    exact GR.one rfl rfl rfl (b17, .slice none 0 0) rfl (Ent.refl _) trivial
  · cases hv : allM d (bs s) with
    | error c =>
      have e1 : readU tm d (bs s) = [] := by unfold readU; rw [if_neg hd, hv]
      have e2 : readT tm d (bs s) = [] := by unfold readT; rw [if_neg hd, hv]
      have e3 : readE d (bs s) = some (some c) := by unfold readE; rw [if_neg hd, hv]
      rw [e1, e2, e3]
      refine GC.skip (GN.seq (GC.seq (GC.region (GL.v (.move rfl) rfl (GL.v (.move rfl) rfl (?_))))))
      refine GL.call (As := []) rfl (fun w hst => All_err s d c w hs hd1 hd2 hv) rfl (fun x hx => ?_)
      obtain ⟨hq, t, u, hxx⟩ := hx
      obtain ⟨xv, q⟩ := x
      simp only at hxx hq
      subst hxx
      refine GL.v (.move rfl) rfl (GL.v (.extract rfl rfl) rfl (GL.v (.extract rfl rfl) rfl (GL.v (.assign rfl) rfl (GL.v (.assign rfl) rfl (GL.nil (GN.seq (GC.seq (GC.seq (GC.region (GL.v (.move rfl) rfl (GL.v (.move rfl) rfl (GL.v (.nilCheck rfl) rfl (GL.v (.fieldAddr rfl) rfl (GL.w0 (.store 1 rfl rfl rfl rfl rfl rfl rfl) (fun _ _ => GL.nil (GN.seq (GC.seq (GC.region (GL.v (.move rfl) rfl (GL.v (.neqNil rfl (by first | exact .inl rfl | exact .inr ⟨_, _, rfl⟩ | assumption)) rfl (GL.nil (GN.seq (?_)))))))))))))))))))))))
      refine GC.cond rfl (fun _ => ?_) (fun h => Bool.noConfusion (h.symm.trans (rfl) : false = true))
      refine GC.seq (GC.region (GL.v (.move rfl) rfl (GL.v (.assign rfl) rfl (GL.nil (GN.seq (GC.ret (?_)))))))
      refine GR.one rfl rfl rfl (b17, .slice none 0 0) rfl ?_ trivial
      refine Ent.trans (Ent.close (Bs := ErG1 (.iface t u)) (p := ErG2 s.size (some c)) ((q : Int), .code c) ⟨by simp only; omega, by simp only; omega, good_allM _ d _ c (Nat.le_refl _) hv, fun _ h => by cases h; rfl⟩ _) ?_
      refine Ent.trans (Ent.swap _ _ _) (Ent.trans (Ent.blk (u' := [(0, .iface t u), (1, .string emptyS), (2, .int .i64 d), (3, .int .i64 s.size), (4, .slice none 0 0)]) (by repeat (first | exact Sub.nil _ | refine Sub.cons rfl ?_)) (Ent.cons _ (Ent.intro (A := OwnR (.slice none 0 0) []) (fun w => Own.nil _ _ w) _))) ?_)
      exact Rd.newE b17 emptyS d s.size (.slice none 0 0) [] t u (some c) []
    | ok rs =>
      refine GC.skip (GN.seq (GC.seq (GC.region (GL.v (.move rfl) rfl (GL.v (.move rfl) rfl (?_))))))
      refine GL.call (As := []) rfl (fun w hst => All_ok s d rs w hs hd1 hd2 hv) rfl (fun v hx => ?_)
      obtain ⟨A, c, rfl⟩ := hx
      refine GL.v (.move rfl) rfl (GL.v (.extract rfl rfl) rfl (GL.v (.extract rfl rfl) rfl (GL.v (.assign rfl) rfl (GL.v (.assign rfl) rfl (GL.nil (GN.seq (GC.seq (GC.seq (GC.region (GL.v (.move rfl) rfl (GL.v (.move rfl) rfl (GL.v (.nilCheck rfl) rfl (GL.v (.fieldAddr rfl) rfl (GL.w0 (.store 1 rfl rfl rfl rfl rfl rfl rfl) (fun _ _ => GL.nil (GN.seq (GC.seq (GC.region (GL.v (.move rfl) rfl (GL.v (.neqNil rfl (by first | exact .inl rfl | exact .inr ⟨_, _, rfl⟩ | assumption)) rfl (GL.nil (GN.seq (?_)))))))))))))))))))))))
      refine GC.cond rfl (fun h => Bool.noConfusion (h.symm.trans (rfl) : true = false)) (fun _ => ?_)
      refine GC.skip (GN.seq (GC.seq (GC.region (GL.w .alloc rfl (fun b10 _ => GL.nil (GN.seq (GC.seq (GC.seq (GC.region (GL.v (.move rfl) rfl (GL.v (.lenSl rfl) rfl (GL.v (.move rfl) rfl (GL.nil (GN.seq (GC.block (?_))))))))))))))))
      refine GC.fact 1 (φ := 0 < rs.length → ∃ g0, A = some ⟨g0, 0, none⟩) rfl (fun ok w h => by obtain ⟨A', c', h1, _, h2⟩ := Own.form h; injection h1 with h1; subst h1; exact h2) (fun hA => ?_)
      have hmem := allM_mem _ d _ rs (Nat.le_refl _) hv
      have hlen : rs.length ≤ s.size := by rw [← bs_length]; exact hmem.1
      refine GC.loop (γ := Nat × Option Addr × Nat) (fun g => g.1 ≤ rs.length) (fun g => [(2, .func (.func f) #[] #[]), (7, ptr b17), (10, ptr b10), (37, .slice A rs.length c), (38, .int .i64 rs.length), (39, .int .i64 g.1)])
        (fun g => [Blk b17 93 5 [(0, .nilIface), (1, .string emptyS), (2, .int .i64 d), (3, .int .i64 s.size), (4, .slice g.2.1 (takenM tm (rs.take g.1)).length g.2.2)], OwnR (.slice g.2.1 (takenM tm (rs.take g.1)).length g.2.2) (takenM tm (rs.take g.1)), Bld 135 b10 (restR tm (rs.take g.1)), OwnR (.slice A rs.length c) rs])
        (fun g => rs.length - g.1) (0, none, 0) (Nat.zero_le _) (Sub.cons rfl (Sub.cons rfl (Sub.cons rfl (Sub.cons rfl (Sub.cons rfl (Sub.cons rfl (Sub.nil _))))))) ?_ ?_
      · exact Ent.trans (Ent.front 2 _ _ rfl) (Ent.blk (by repeat (first | exact Sub.nil _ | refine Sub.cons rfl ?_)) (Ent.trans (Ent.blk (u' := [(0, .pointer none), (1, .slice none 0 0)]) (by repeat (first | exact Sub.nil _ | refine Sub.cons rfl ?_)) (Ent.refl _)) (Ent.trans (Bld.zero 135 b10 _) (Ent.intro (A := OwnR (.slice none 0 0) []) (fun w => Own.nil _ _ w) _))))
      rintro ⟨i, A', c'⟩ hi
      simp only at hi ⊢
      refine GC.seq (GC.region (GL.v (.lss rfl rfl) rfl (GL.nil (GN.seq (GC.seq (?_))))))
      refine GC.condD rfl (fun hlt => ?_) (fun hlt => ?_)
      · have hl : i < rs.length := by omega
        obtain ⟨r, hr⟩ : ∃ r, rs[i]? = some r := ⟨_, List.getElem?_eq_getElem hl⟩
        have htk : rs.take (i + 1) = rs.take i ++ [r] := by rw [List.take_add_one, hr]; rfl
        obtain ⟨g0, rfl⟩ := hA (by omega)
        have hm := hmem.2 r (List.mem_of_getElem? hr)
        refine GC.skip (GN.seq (GC.seq (GC.block (GC.seq (GC.region (GL.v (.indexAddr rfl rfl (by omega) (by omega)) rfl (?_)))))))
        refine GL.v (.ldOwnN 3 (recC r) rfl rfl rfl (fun j v hj => by have := flat_get recC_len rs i r j v hr hj; simpa using this)) rfl ?_
        refine GL.w .alloc rfl (fun b12 _ => GL.w0 (.store 0 rfl rfl rfl rfl rfl rfl rfl) (fun _ _ => GL.nil (GN.seq (GC.seq (GC.region (GL.v (.move rfl) rfl (GL.v (.fieldAddr rfl) rfl (GL.v (.ld 0 rfl rfl rfl) rfl (GL.v (.fieldAddr rfl) rfl (GL.v (.ld 0 rfl rfl rfl) rfl (?_)))))))))))
        refine GL.callV rfl (As := []) rfl (fun w hst => ht r.num r.kind w hm.2.1 hm.2.2.1) rfl (fun _ _ => ?_)
        refine GL.nil (GN.seq (?_))
        refine GC.cond rfl (fun hb => ?_) (fun hb => ?_)
        · have e1 : takenM tm (rs.take (i + 1)) = takenM tm (rs.take i) ++ [r] := by rw [htk, takenM_snoc, if_pos hb]
          have e2 : restR tm (rs.take (i + 1)) = restR tm (rs.take i) := by rw [htk, restR_snoc, if_pos hb]
          have e3 : (takenM tm (rs.take i)).length + 1 = (takenM tm (rs.take (i + 1))).length := by rw [e1]; simp
          have e4 : recs (takenM tm (rs.take i)) ++ recC r = recs (takenM tm (rs.take (i + 1))) := by rw [e1]; simp [recs]
          have hn : (takenM tm (rs.take i)).length ≤ i := Nat.le_trans (List.length_filter_le _ _) (by rw [List.length_take]; omega)
          refine GC.draw ([Blk b12 169 5 [(0, .int .i64 (r.num : Int)), (1, .int .i64 (r.kind : Int)), (2, .int .u64 (r.n : Int)), (3, .string (mkS r.s)), (4, .string (mkS r.raw))]]) (m := 11) rfl (by repeat (first | exact Ent.nil _ | (with_reducible exact Ent.refl _) | refine Ent.blk (by repeat (first | exact Sub.nil _ | refine Sub.cons rfl ?_)) ?_ | refine Ent.cons _ ?_ | refine Ent.trans (Ent.tail _ _) ?_)) ?_
          refine GA.take 0 rfl (by kernel_rfl) (by kernel_rfl) (by kernel_rfl) (.move rfl) rfl (GA.take 1 rfl (by kernel_rfl) (by kernel_rfl) (by kernel_rfl) (.move rfl) rfl (GA.take 2 rfl (by kernel_rfl) (by kernel_rfl) (by kernel_rfl) (.nilCheck rfl) rfl (GA.take 3 rfl (by kernel_rfl) (by kernel_rfl) (by kernel_rfl) (.fieldAddr rfl) rfl (GA.take 5 rfl (by kernel_rfl) (by kernel_rfl) (by kernel_rfl) (.ldN 0 [_, _, _, _, _] rfl rfl rfl ⟨rfl, rfl, rfl, rfl, rfl, trivial⟩) rfl (?_)))))
          refine GA.two 4 6 (by kernel_rfl) ?_ ?_
          · skip
            refine GAi.v rfl (.ld 1 rfl rfl rfl) rfl (by repeat (first | exact Ent.nil _ | (with_reducible exact Ent.refl _) | refine Ent.blk (by repeat (first | exact Sub.nil _ | refine Sub.cons rfl ?_)) ?_ | refine Ent.cons _ ?_ | refine Ent.trans (Ent.tail _ _) ?_)) ?_
            refine GA.one 6 (by kernel_rfl) ?_
            refine GAi.w rfl (.bone (recC r) rfl rfl rfl rfl rfl rfl) rfl (fun bP _ => (by repeat (first | exact Ent.nil _ | (with_reducible exact Ent.refl _) | refine Ent.blk (by repeat (first | exact Sub.nil _ | refine Sub.cons rfl ?_)) ?_ | refine Ent.cons _ ?_ | refine Ent.trans (Ent.tail _ _) ?_))) (fun bP _ => ?_)
            refine GA.one 7 (by kernel_rfl) ?_
            refine GAi.w rfl (.append 3 0 (recC r) rfl rfl rfl rfl rfl ⟨rfl, rfl, rfl, rfl, rfl, trivial⟩ rfl rfl rfl rfl rfl (by omega)) rfl (fun q _ => (by repeat (first | exact Ent.nil _ | (with_reducible exact Ent.refl _) | refine Ent.blk (by repeat (first | exact Sub.nil _ | refine Sub.cons rfl ?_)) ?_ | refine Ent.cons _ ?_ | refine Ent.trans (Ent.tail _ _) ?_))) (fun q _ => ?_)
            refine GA.take 8 rfl (by kernel_rfl) (by kernel_rfl) (by kernel_rfl) (.nilCheck rfl) rfl (GA.take 9 rfl (by kernel_rfl) (by kernel_rfl) (by kernel_rfl) (.fieldAddr rfl) rfl (?_))
            refine GA.one 10 (by kernel_rfl) (GAi.w0 rfl (.store 2 rfl rfl rfl rfl rfl rfl rfl) (fun _ _ => (by repeat (first | exact Ent.nil _ | (with_reducible exact Ent.refl _) | refine Ent.blk (by repeat (first | exact Sub.nil _ | refine Sub.cons rfl ?_)) ?_ | refine Ent.cons _ ?_ | refine Ent.trans (Ent.tail _ _) ?_))) (fun _ _ => ?_))
            refine GA.done (by kernel_rfl) (?_)
            refine GN.blk (GN.seq (GC.region (GL.v (.add rfl rfl (i64_in _ (by omega))) rfl (GL.v (.move rfl) rfl (GL.nil (?_))))))
            rw [e3, e4, ← e2]
            exact GN.loop (i + 1, q.1, q.2) (by simp only; omega) (by simp only; omega) (Sub.cons rfl (Sub.cons rfl (Sub.cons rfl (Sub.cons rfl (Sub.cons rfl (Sub.cons rfl (Sub.nil _))))))) (Ent.trans (Ent.tail _ _) (Ent.trans (Ent.tail _ _) (Ent.blk (by repeat (first | exact Sub.nil _ | refine Sub.cons rfl ?_)) (Ent.refl _))))
          · skip
            refine GAi.w rfl (.bone (recC r) rfl rfl rfl rfl rfl rfl) rfl (fun bP _ => (by repeat (first | exact Ent.nil _ | (with_reducible exact Ent.refl _) | refine Ent.blk (by repeat (first | exact Sub.nil _ | refine Sub.cons rfl ?_)) ?_ | refine Ent.cons _ ?_ | refine Ent.trans (Ent.tail _ _) ?_))) (fun bP _ => ?_)
            refine GA.one 4 (by kernel_rfl) ?_
            refine GAi.v rfl (.ld 2 rfl rfl rfl) rfl (by repeat (first | exact Ent.nil _ | (with_reducible exact Ent.refl _) | refine Ent.blk (by repeat (first | exact Sub.nil _ | refine Sub.cons rfl ?_)) ?_ | refine Ent.cons _ ?_ | refine Ent.trans (Ent.tail _ _) ?_)) ?_
            refine GA.one 7 (by kernel_rfl) ?_
            refine GAi.w rfl (.append 3 0 (recC r) rfl rfl rfl rfl rfl ⟨rfl, rfl, rfl, rfl, rfl, trivial⟩ rfl rfl rfl rfl rfl (by omega)) rfl (fun q _ => (by repeat (first | exact Ent.nil _ | (with_reducible exact Ent.refl _) | refine Ent.blk (by repeat (first | exact Sub.nil _ | refine Sub.cons rfl ?_)) ?_ | refine Ent.cons _ ?_ | refine Ent.trans (Ent.tail _ _) ?_))) (fun q _ => ?_)
            refine GA.take 8 rfl (by kernel_rfl) (by kernel_rfl) (by kernel_rfl) (.nilCheck rfl) rfl (GA.take 9 rfl (by kernel_rfl) (by kernel_rfl) (by kernel_rfl) (.fieldAddr rfl) rfl (?_))
            refine GA.one 10 (by kernel_rfl) (GAi.w0 rfl (.store 2 rfl rfl rfl rfl rfl rfl rfl) (fun _ _ => (by repeat (first | exact Ent.nil _ | (with_reducible exact Ent.refl _) | refine Ent.blk (by repeat (first | exact Sub.nil _ | refine Sub.cons rfl ?_)) ?_ | refine Ent.cons _ ?_ | refine Ent.trans (Ent.tail _ _) ?_))) (fun _ _ => ?_))
            refine GA.done (by kernel_rfl) (?_)
            refine GN.blk (GN.seq (GC.region (GL.v (.add rfl rfl (i64_in _ (by omega))) rfl (GL.v (.move rfl) rfl (GL.nil (?_))))))
            rw [e3, e4, ← e2]
            exact GN.loop (i + 1, q.1, q.2) (by simp only; omega) (by simp only; omega) (Sub.cons rfl (Sub.cons rfl (Sub.cons rfl (Sub.cons rfl (Sub.cons rfl (Sub.cons rfl (Sub.nil _))))))) (Ent.trans (Ent.tail _ _) (Ent.trans (Ent.tail _ _) (Ent.blk (by repeat (first | exact Sub.nil _ | refine Sub.cons rfl ?_)) (Ent.refl _))))
        · have e1 : takenM tm (rs.take (i + 1)) = takenM tm (rs.take i) := by rw [htk, takenM_snoc, if_neg (by rw [hb]; simp)]
          have e2 : restR tm (rs.take (i + 1)) = restR tm (rs.take i) ++ r.raw := by rw [htk, restR_snoc, if_neg (by rw [hb]; simp)]
          have hul : (restR tm (rs.take i)).length + r.raw.length ≤ s.size := by
            have h1 := rest_len tm (rs.take (i + 1))
            have h2 := allM_raw _ d _ rs (Nat.le_refl _) hv
            have h3 : ((rs.take (i + 1)).flatMap (·.raw)).length ≤ (bs s).length := by
              rw [← h2]
              conv => rhs; rw [← List.take_append_drop (i + 1) rs, List.flatMap_append, List.length_append]
              omega
            rw [bs_length] at h3
            rw [e2, List.length_append] at h1
            omega
          refine GC.region (GL.v (.fieldAddr rfl) rfl (GL.v (.ld 0 rfl rfl rfl) rfl (?_)))
          refine GL.ent (Ent.front 3 _ _ rfl) ?_
          refine GL.call (As := [_]) rfl (fun w hst => WriteString_tri _ b10 liesB _ (mkS r.raw) w (by rw [mkS_size]; omega)) rfl (fun _ _ => ?_)
          refine GL.nil (GN.blk (GN.seq (GC.region (GL.v (.add rfl rfl (i64_in _ (by omega))) rfl (GL.v (.move rfl) rfl (GL.nil (?_)))))))
          rw [bs_mkS, ← e2]
          refine GN.loop (i + 1, A', c') (by simp only; omega) (by simp only; omega) (Sub.cons rfl (Sub.cons rfl (Sub.cons rfl (Sub.cons rfl (Sub.cons rfl (Sub.cons rfl (Sub.nil _))))))) ?_
          simp only [e1]
          exact Ent.trans (Ent.front 2 _ _ rfl) (Ent.cons _ (Ent.trans (Ent.front 2 _ _ rfl) (Ent.cons _ (Ent.cons _ (Ent.tail _ _)))))
      · have hie : i = rs.length := by omega
        subst hie
        have htl : rs.take rs.length = rs := List.take_length
        have e1 : readU tm d (bs s) = restR tm rs := by unfold readU; rw [if_neg hd, hv]
        have e2 : readT tm d (bs s) = takenM tm rs := by unfold readT; rw [if_neg hd, hv]
        have e3 : readE d (bs s) = none := by unfold readE; rw [if_neg hd, hv]
        rw [e1, e2, e3]
        simp only [htl]
        refine GC.exit (GX.seq (GX.loop (GX.blk (GN.seq (GC.seq (GC.region (GL.v (.move rfl) rfl (?_))))))))
        refine GL.ent (Ent.front 2 _ _ rfl) ?_
        refine GL.call (As := [_]) rfl (fun w hst => String_tri _ b10 _ w) rfl (fun _ _ => ?_)
        refine GL.v (.nilCheck rfl) rfl (GL.v (.fieldAddr rfl) rfl (GL.w0 (.store 0 rfl rfl rfl rfl rfl rfl rfl) (fun _ _ => GL.nil (GN.seq (GC.seq (GC.region (GL.v (.move rfl) rfl (GL.v (.assign rfl) rfl (GL.nil (GN.seq (GC.ret (?_))))))))))))
        refine GR.one rfl rfl rfl (b17, .slice A' (takenM tm rs).length c') rfl ?_ trivial
        refine Ent.trans (Ent.blk (u' := [(0, .nilIface), (1, .string (mkS (restR tm rs))), (2, .int .i64 d), (3, .int .i64 s.size), (4, .slice A' (takenM tm rs).length c')]) (by repeat (first | exact Sub.nil _ | refine Sub.cons rfl ?_)) (Ent.cons _ (Ent.tail _ _))) ?_
        exact Rd.new b17 (mkS (restR tm rs)) d s.size (.slice A' (takenM tm rs).length c') (takenM tm rs) []

end Go.Proofs.Gw
/- Package msg's reader: the last record of a number; numbers, bytes. -/
set_option linter.unusedVariables false
set_option linter.unusedSimpArgs false
namespace Go.Proofs.Gw
open Go Go.RowKit Go.IntWalk Go.Proofs.Gm

theorem lastM_at {rs : List Rec} {num k : Nat} {r : Rec} (hr : rs[k]? = some r) (he : r.num = num) (h0 : (rs.drop (k + 1)).filter (fun r => r.num = num) = []) : lastM rs num = r := by
  unfold lastM
  have hk : k < rs.length := (List.getElem?_eq_some_iff.1 hr).1
  have hd : rs.drop k = r :: rs.drop (k + 1) := by
    rw [List.drop_eq_getElem_cons hk, (List.getElem?_eq_some_iff.1 hr).2]
  have : rs.filter (fun r => r.num = num) = (rs.take k).filter (fun r => r.num = num) ++ [r] := by
    conv => lhs; rw [← List.take_append_drop k rs, List.filter_append, hd, List.filter_cons, if_pos (by simpa using he), h0]
  rw [this]; simp

theorem last_tri (g : Nat) (R : RM) (er : Option (Option Int)) (num : Nat) (w : World) (hn : R.rs.length ≤ mx) :
    Tri Tryz.prog 128 [ptr g, .int .i64 (num : Int)] [RdS g R er] (fun _ : Unit => .agg (recC (lastM R.rs num)).toArray) (fun _ => [RdS g R er]) (fun _ => True) w := by
  unfold mx at hn
  obtain ⟨unk, d, n, v, rs⟩ := R
  simp only at hn ⊢
  refine Tri.open ?_
  rintro x hx
  refine tri_of_G 34 Tryz.func128 rfl Tryz.ntmps128 rfl (fun D => ?_)
  refine GC.fact 2 (φ := ∃ A c, v = .slice A rs.length c ∧ (0 < rs.length → ∃ g0, A = some ⟨g0, 0, none⟩)) rfl (fun ok w h => by obtain ⟨A, c, h1, _, h2⟩ := Own.form h; exact ⟨A, c, h1, h2⟩) (fun hv => ?_)
  obtain ⟨A, c, rfl, hA⟩ := hv
  refine GC.seq (GC.region (GL.w .alloc rfl (fun b4 _ => GL.nil (GN.seq (GC.seq (GC.seq (GC.region (GL.v (.move rfl) rfl (GL.v (.nilCheck rfl) rfl (GL.v (.fieldAddr rfl) rfl (GL.v (.ld 1 rfl rfl rfl) rfl (GL.v (.lenSl rfl) rfl (GL.v (.sub rfl rfl (i64_in _ (by omega))) rfl (GL.v (.assign rfl) rfl (GL.nil (GN.seq (GC.block (?_))))))))))))))))))
  refine GC.loop (γ := Nat) (fun k => k ≤ rs.length ∧ (rs.drop k).filter (fun r => r.num = num) = []) (fun k => [(0, ptr g), (1, .int .i64 (num : Int)), (4, ptr b4), (5, .int .i64 ((k : Int) - 1))]) (fun _ => [Blk b4 169 5 (args0 0 rec0), Blk g 93 5 [(0, x), (1, .string unk), (2, .int .i64 d), (3, .int .i64 n), (4, .slice A rs.length c)], ErF x n er, OwnR (.slice A rs.length c) rs]) (fun k => k) rs.length ⟨Nat.le_refl _, by simp⟩ (Sub.cons rfl (Sub.cons rfl (Sub.cons rfl (Sub.cons rfl (Sub.nil _))))) (Ent.refl _) ?_
  rintro k ⟨h1, h2⟩
  refine GC.seq (GC.seq (GC.region (GL.v (.move rfl) rfl (GL.v (.geq rfl rfl) rfl (GL.nil (GN.seq (?_)))))))
  refine GC.condD rfl (fun hlt => ?_) (fun hlt => ?_)
  · rcases k with _ | k
    · exfalso; omega
    have hl : k < rs.length := by omega
    obtain ⟨r, hr⟩ : ∃ r, rs[k]? = some r := ⟨_, List.getElem?_eq_getElem hl⟩
    obtain ⟨g0, rfl⟩ := hA (by omega)
    have ek : ((k + 1 : Nat) : Int) - 1 = (k : Int) := by omega
    rw [ek] at hlt ⊢
    refine GC.skip (GN.seq (GC.seq (GC.block (GC.seq (GC.region (GL.v (.move rfl) rfl (GL.v (.nilCheck rfl) rfl (GL.v (.fieldAddr rfl) rfl (GL.v (.ld 1 rfl rfl rfl) rfl (GL.v (.move rfl) rfl (GL.v (.indexAddr rfl rfl (by omega) (by omega)) rfl (GL.v (.fieldAddr rfl) rfl (?_)))))))))))))
    refine GL.v (.ldOwn 3 (v := .int .i64 (r.num : Int)) rfl rfl (by have := flat_get recC_len rs k r 0 (.int .i64 (r.num : Int)) hr rfl; simpa using this)) rfl ?_
    refine GL.v (.move rfl) rfl (GL.v (.eql rfl rfl) rfl (GL.nil (GN.seq (?_))))
    refine GC.condD rfl (fun he => ?_) (fun he => ?_)
    · have he' : r.num = num := by omega
      refine GC.seq (GC.region (GL.v (.move rfl) rfl (GL.v (.nilCheck rfl) rfl (GL.v (.fieldAddr rfl) rfl (GL.v (.ld 1 rfl rfl rfl) rfl (GL.v (.move rfl) rfl (GL.v (.indexAddr rfl rfl (by omega) (by omega)) rfl (?_))))))))
      refine GL.v (.ldOwnN 3 (recC r) rfl rfl rfl (fun j v hj => by have := flat_get recC_len rs k r j v hr hj; simpa using this)) rfl ?_
      refine GL.w0 (.store 0 rfl rfl rfl rfl rfl rfl rfl) (fun _ _ => GL.nil (GN.seq (GC.ret (?_))))
      rw [lastM_at hr he' h2]
      exact GR.cell1 0 (recC r) rfl rfl rfl rfl rfl ⟨rfl, rfl, rfl, rfl, rfl, trivial⟩ () rfl (Ent.trans (Ent.tail _ _) (Ent.close (Bs := RdS1 g ⟨unk, d, n, .slice _ rs.length c, rs⟩ er) (p := RdS2 er) x hx [])) trivial
    · have he' : r.num ≠ num := by omega
      refine GC.skip (GN.blk (GN.seq (GC.region (GL.v (.move rfl) rfl (GL.v (.sub rfl rfl (i64_in _ (by omega))) rfl (GL.v (.assign rfl) rfl (GL.nil (?_))))))))
      refine GN.loop k ⟨by omega, ?_⟩ (by omega) (Sub.cons rfl (Sub.cons rfl (Sub.cons rfl (Sub.cons rfl (Sub.nil _))))) (Ent.refl _)
      rw [List.drop_eq_getElem_cons hl, List.filter_cons, if_neg (by have := (List.getElem?_eq_some_iff.1 hr).2; rw [this]; simpa using he')]
      exact h2
  · have hk : k = 0 := by omega
    subst hk
    refine GC.exit (GX.seq (GX.loop (GX.blk (GN.seq (GC.seq (GC.region (GL.v (.build (cs := [_, _, _, _, _]) rfl rfl) rfl (GL.w0 (.store 0 rfl rfl rfl rfl rfl rfl rfl) (fun _ _ => GL.nil (GN.seq (GC.ret (?_))))))))))))
    have e : lastM rs num = rec00 := by unfold lastM; rw [List.drop_zero] at h2; rw [h2]; rfl
    rw [e]
    exact GR.cell1 0 rec0 rfl rfl rfl rfl rfl ⟨rfl, rfl, rfl, rfl, rfl, trivial⟩ () rfl (Ent.trans (Ent.tail _ _) (Ent.close (Bs := RdS1 g ⟨unk, d, n, .slice A rs.length c, rs⟩ er) (p := RdS2 er) x hx [])) trivial

theorem fld_n (r : Rec) (w : World) : (Instr.field 169 (.agg (recC r).toArray) 2).run Tryz.prog w = .ok (.int .u64 (r.n : Int)) w := by kernel_rfl
theorem fld_s (r : Rec) (w : World) : (Instr.field 169 (.agg (recC r).toArray) 3).run Tryz.prog w = .ok (.string (mkS r.s)) w := by kernel_rfl
theorem Fixed_tri (g : Nat) (R : RM) (er : Option (Option Int)) (num : Nat) (w : World) (hn : R.rs.length ≤ mx) :
    Tri Tryz.prog 48 [ptr g, .int .i64 (num : Int)] [RdS g R er] (fun _ : Unit => .int .u64 ((lastM R.rs num).n : Int)) (fun _ => [RdS g R er]) (fun _ => True) w := by
  refine tri_of_G 9 Tryz.func48 rfl Tryz.ntmps48 rfl (fun D => ?_)
  refine GC.seq (GC.region (GL.v (.assign rfl) rfl (GL.nil (GN.seq (GC.seq (GC.region (GL.v (.move rfl) rfl (GL.v (.move rfl) rfl (?_)))))))))
  refine GL.call (As := [_]) rfl (fun w hst => last_tri g R er num w hn) rfl (fun _ _ => ?_)
  refine GL.v (.field (sz := 1) (g := false) (o := 2) rfl (fun w => fld_n _ w)) rfl ?_
  refine GL.v (.assign rfl) rfl (GL.nil (GN.seq (GC.ret (?_))))
  exact GR.one rfl rfl rfl () rfl (Ent.refl _) trivial

theorem Bytes_tri (g : Nat) (R : RM) (er : Option (Option Int)) (num : Nat) (w : World) (hn : R.rs.length ≤ mx) :
    Tri Tryz.prog 131 [ptr g, .int .i64 (num : Int)] [RdS g R er] (fun _ : Unit => .string (mkS (lastM R.rs num).s)) (fun _ => [RdS g R er]) (fun _ => True) w := by
  refine tri_of_G 9 Tryz.func131 rfl Tryz.ntmps131 rfl (fun D => ?_)
  refine GC.seq (GC.region (GL.v (.assign rfl) rfl (GL.nil (GN.seq (GC.seq (GC.region (GL.v (.move rfl) rfl (GL.v (.move rfl) rfl (?_)))))))))
  refine GL.call (As := [_]) rfl (fun w hst => last_tri g R er num w hn) rfl (fun _ _ => ?_)
  refine GL.v (.field (sz := 1) (g := false) (o := 3) rfl (fun w => fld_s _ w)) rfl ?_
  refine GL.v (.assign rfl) rfl (GL.nil (GN.seq (GC.ret (?_))))
  exact GR.one rfl rfl rfl () rfl (Ent.refl _) trivial

/-- A number that may lack. -/
abbrev optC (b : Bool) (n : Nat) : List Value := [.bool b, .int .u64 (n : Int)]
theorem Opt_tri (g : Nat) (R : RM) (er : Option (Option Int)) (num : Nat) (w : World) (hn : R.rs.length ≤ mx) :
    Tri Tryz.prog 49 [ptr g, .int .i64 (num : Int)] [RdS g R er] (fun _ : Unit => .agg (optC (decide ((lastM R.rs num).num = num)) (lastM R.rs num).n).toArray) (fun _ => [RdS g R er]) (fun _ => True) w := by
  refine tri_of_G 16 Tryz.func49 rfl Tryz.ntmps49 rfl (fun D => ?_)
  refine GC.seq (GC.region (GL.w .alloc rfl (fun b4 _ => GL.nil (GN.seq (GC.seq (GC.region (GL.v (.move rfl) rfl (GL.v (.move rfl) rfl (?_)))))))))
  refine GL.ent (Ent.front 1 _ _ rfl) ?_
  refine GL.call (As := [_]) rfl (fun w hst => last_tri g R er num w hn) rfl (fun _ _ => ?_)
  refine GL.w .alloc rfl (fun b5 _ => GL.w0 (.store 0 rfl rfl rfl rfl rfl rfl rfl) (fun _ _ => GL.nil (GN.seq (GC.seq (GC.region (GL.v (.fieldAddr rfl) rfl (GL.v (.ld 0 rfl rfl rfl) rfl (GL.v (.move rfl) rfl (GL.v (.eql rfl rfl) rfl (GL.v (.fieldAddr rfl) rfl (GL.v (.ld 0 rfl rfl rfl) rfl (GL.v (.build (cs := [_, _]) rfl rfl) rfl (GL.w0 (.store 2 rfl rfl rfl rfl rfl rfl rfl) (fun _ _ => GL.nil (GN.seq (GC.ret (?_)))))))))))))))))
  have e : decide (((lastM R.rs num).num : Int) = (num : Int)) = decide ((lastM R.rs num).num = num) := by rw [decide_eq_decide]; omega
  rw [← e]
  exact GR.cell1 2 (C := ⟨_, _, _, _, _, _⟩) [.bool (decide (((lastM R.rs num).num : Int) = (num : Int))), .int .u64 ((lastM R.rs num).n : Int)] rfl rfl rfl rfl rfl ⟨rfl, rfl, trivial⟩ () rfl (Ent.trans (Ent.front 1 _ _ rfl) (Ent.cons _ (Ent.nil _))) trivial

end Go.Proofs.Gw
/- Package msg's reader: texts. -/
set_option linter.unusedVariables false
set_option linter.unusedSimpArgs false
namespace Go.Proofs.Gw
open Go Go.RowKit Go.IntWalk Go.Proofs.Gm

def checkE (num : Nat) (er : Option (Option Int)) (rs : List Rec) : Option (Option Int) := rs.foldl (fun er r => if r.num = num then note er (textE r.s) else er) er
theorem checkE_snoc (num : Nat) (er : Option (Option Int)) (rs : List Rec) (r : Rec) : checkE num er (rs ++ [r]) = if r.num = num then note (checkE num er rs) (textE r.s) else checkE num er rs := by
  unfold checkE; rw [List.foldl_append]; rfl
/-- The list of a reader. -/
def RM.at (R : RM) (A : Option Addr) (c : Nat) : Prop := R.v = .slice A R.rs.length c ∧ (0 < R.rs.length → ∃ g0, A = some ⟨g0, 0, none⟩)
theorem RdS.form {D : Nat → Prop} {w : World} {g : Nat} {R : RM} {er : Option (Option Int)} {Hs : List HP} (h : Sat D w (RdS g R er :: Hs)) : ∃ A c, R.at A c := by
  obtain ⟨ok, h1, ⟨_, x, _, h2⟩, h3⟩ := h
  obtain ⟨_, _, h4⟩ := Sat.at 2 rfl h2
  obtain ⟨A, c, h5, _, h6⟩ := Own.form h4
  exact ⟨A, c, h5, h6⟩
theorem Tri.rform {f : Nat} {vs : List Value} {As : List HP} {g : Nat} {R : RM} {er : Option (Option Int)} {Y : Type} {val : Y → Value} {Cs : Y → List HP} {q : Y → Prop} {w : World} (k : ∀ A c, R.at A c → Tri Tryz.prog f vs (RdS g R er :: As) val Cs q w) : Tri Tryz.prog f vs (RdS g R er :: As) val Cs q w := fun D hD hA => by
  obtain ⟨A, c, h⟩ := RdS.form hA
  exact k A c h D hD hA

theorem RCheck_tri (g : Nat) (R : RM) (er : Option (Option Int)) (num : Nat) (w : World) (hn : R.rs.length ≤ mx) (hN : R.n ≤ mx) (hS : ∀ r, r ∈ R.rs → r.s.length ≤ mx) :
    Tri Tryz.prog 181 [ptr g, .int .i64 (num : Int)] [RdS g R er] (fun _ : Unit => .tuple #[]) (fun _ => [RdS g R (checkE num er R.rs)]) (fun _ => True) w := by
  unfold mx at hn hN
  refine Tri.rform fun A c hA => ?_
  obtain ⟨unk, d, n, v, rs⟩ := R
  simp only [RM.at] at hn hA hS hN ⊢
  obtain ⟨rfl, hA⟩ := hA
  refine tri_of_G 26 Tryz.func181 rfl Tryz.ntmps181 rfl (fun D => ?_)
  refine GC.open ?_
  rintro x hx
  refine GC.seq (GC.region (GL.v (.move rfl) rfl (GL.v (.nilCheck rfl) rfl (GL.v (.fieldAddr rfl) rfl (GL.v (.ld 0 rfl rfl rfl) rfl (GL.v (.lenSl rfl) rfl (GL.v (.move rfl) rfl (GL.nil (GN.seq (GC.block (?_)))))))))))
  refine GC.loop (γ := Nat) (fun i => i ≤ rs.length) (fun i => [(0, ptr g), (1, .int .i64 (num : Int)), (9, .slice A rs.length c), (10, .int .i64 rs.length), (11, .int .i64 (i : Int))]) (fun i => [RdS g ⟨unk, d, n, .slice A rs.length c, rs⟩ (checkE num er (rs.take i))]) (fun i => rs.length - i) 0 (Nat.zero_le _) (Sub.cons rfl (Sub.cons rfl (Sub.cons rfl (Sub.cons rfl (Sub.cons rfl (Sub.nil _)))))) (Ent.close (Bs := RdS1 g ⟨unk, d, n, .slice A rs.length c, rs⟩ er) (p := RdS2 er) x hx []) ?_
  intro i hi
  refine GC.seq (GC.region (GL.v (.lss rfl rfl) rfl (GL.nil (GN.seq (GC.seq (?_))))))
  refine GC.condD rfl (fun hlt => ?_) (fun hlt => ?_)
  · have hl : i < rs.length := by omega
    obtain ⟨r, hr⟩ : ∃ r, rs[i]? = some r := ⟨_, List.getElem?_eq_getElem hl⟩
    have htk : rs.take (i + 1) = rs.take i ++ [r] := by rw [List.take_add_one, hr]; rfl
    obtain ⟨g0, rfl⟩ := hA (by omega)
    refine GC.open ?_
    rintro y hy
    refine GC.skip (GN.seq (GC.seq (GC.block (GC.seq (GC.region (GL.v (.indexAddr rfl rfl (by omega) (by omega)) rfl (?_)))))))
    refine GL.v (.ldOwnN 2 (recC r) rfl rfl rfl (fun j v hj => by have := flat_get recC_len rs i r j v hr hj; simpa using this)) rfl ?_
    refine GL.w .alloc rfl (fun b5 _ => GL.w0 (.store 0 rfl rfl rfl rfl rfl rfl rfl) (fun _ _ => GL.nil (GN.seq (GC.seq (GC.region (GL.v (.fieldAddr rfl) rfl (GL.v (.ld 0 rfl rfl rfl) rfl (GL.v (.move rfl) rfl (GL.v (.eql rfl rfl) rfl (GL.nil (GN.seq (?_))))))))))))
    refine GC.ent (Ent.front 3 _ _ rfl) ?_
    refine GC.ent (Ent.front 3 _ _ rfl) ?_
    refine GC.ent (Ent.front 3 _ _ rfl) ?_
    refine GC.ent (Ent.close (Bs := RdS1 g ⟨unk, d, n, .slice (some ⟨g0, 0, none⟩) rs.length c, rs⟩ (checkE num er (rs.take i))) (p := RdS2 (checkE num er (rs.take i))) y hy _) ?_
    refine GC.condD rfl (fun he => ?_) (fun he => ?_)
    · refine GC.region (GL.v (.move rfl) rfl (GL.v (.move rfl) rfl (GL.v (.fieldAddr rfl) rfl (GL.v (.ld 1 rfl rfl rfl) rfl (?_)))))
      refine GL.call (As := []) rfl (fun w hst => Check_tri (mkS r.s) w (by rw [mkS_size]; exact hS r (List.mem_of_getElem? hr))) rfl (fun v _ => ?_)
      refine GL.ent (Ent.front 1 _ _ rfl) ?_
      refine GL.call (As := [_, _]) rfl (fun w hst => fails_tri g ⟨unk, d, n, _, rs⟩ _ (num : Int) v _ _ w hN) rfl (fun _ _ => ?_)
      refine GL.nil (GN.blk (GN.seq (GC.region (GL.v (.add rfl rfl (i64_in _ (by omega))) rfl (GL.v (.move rfl) rfl (GL.nil (?_)))))))
      refine GN.loop (i + 1) (by omega) (by omega) (Sub.cons rfl (Sub.cons rfl (Sub.cons rfl (Sub.cons rfl (Sub.cons rfl (Sub.nil _)))))) ?_
      rw [htk, checkE_snoc, if_pos (by omega)]
      exact Ent.cons _ (Ent.nil _)
    · refine GC.skip (GN.blk (GN.seq (GC.region (GL.v (.add rfl rfl (i64_in _ (by omega))) rfl (GL.v (.move rfl) rfl (GL.nil (?_)))))))
      refine GN.loop (i + 1) (by omega) (by omega) (Sub.cons rfl (Sub.cons rfl (Sub.cons rfl (Sub.cons rfl (Sub.cons rfl (Sub.nil _)))))) ?_
      rw [htk, checkE_snoc, if_neg (by omega)]
      exact Ent.cons _ (Ent.nil _)
  · have hie : i = rs.length := by omega
    subst hie
    rw [List.take_length]
    refine GC.exit (GX.seq (GX.loop (GX.blk (?_))))
    exact GN.nil (GR.none rfl rfl () rfl (Ent.refl _) trivial)

end Go.Proofs.Gw
/- Values in plain terms, and how they lie in memory: what is read and never turned. -/
set_option linter.unusedVariables false
set_option linter.unusedSimpArgs false
namespace Go.Proofs.Gm
mutual
inductive Val where
  | mk (kind : Int) (s : Bs) (b : Bool) (n : Nat) (l : List Val) (m : List Key) (inner unk : Bs)
inductive Key where
  | mk (key : Bs) (has : Bool) (v : Val) (unk : Bs)
end
def val0 : Val := .mk 0 [] false 0 [] [] [] []
def key0 : Key := .mk [] false val0 []
structure Exem where
  attrs : List Key
  time : Nat
  kind : Int
  n : Nat
  span : Bs
  trace : Bs
  unk : Bs
structure Buck where
  off : Int
  counts : List Nat
  unk : Bs
end Go.Proofs.Gm
namespace Go.Proofs.Gw
open Go Go.RowKit Go.IntWalk Go.Proofs.Gm

/-- An assertion that holds of more blocks too: what is read and never turned. -/
structure FP where
  holds : (Nat → Prop) → World → Prop
  loc : ∀ ok w w', (∀ k, ok k → w'.heap[k]? = w.heap[k]?) → holds ok w → holds ok w'
  mono : ∀ ok ok' w, (∀ k, ok k → ok' k) → holds ok w → holds ok' w
def FP.hp (f : FP) : HP := ⟨f.holds, f.loc⟩

/-- A slice's elements, cell by cell. -/
def rowS (ok : Nat → Prop) (w : World) (size : Nat) (v : Value) (n : Nat) (xs : List Value) : Prop :=
  xs.length = n * size ∧ ∃ A c, v = .slice A n c ∧ (0 < n → ∃ g off, A = some ⟨g, off, none⟩ ∧ ok g ∧ n ≤ 9223372036854775807 ∧ ∃ cs T fr, w.heap[g]? = some (.cells cs T fr) ∧ ∀ j u, xs[j]? = some u → cs[off + j]? = some u)
theorem rowS.loc {ok : Nat → Prop} {w w' : World} {size n : Nat} {v : Value} {xs : List Value} (h : ∀ k, ok k → w'.heap[k]? = w.heap[k]?) (r : rowS ok w size v n xs) : rowS ok w' size v n xs := by
  obtain ⟨h1, A, c, h2, h3⟩ := r
  refine ⟨h1, A, c, h2, fun hn => ?_⟩
  obtain ⟨g, off, h4, h5, hm, cs, T, fr, h6, h7⟩ := h3 hn
  exact ⟨g, off, h4, h5, hm, cs, T, fr, by rw [h g h5]; exact h6, h7⟩
theorem rowS.mono {ok ok' : Nat → Prop} {w : World} {size n : Nat} {v : Value} {xs : List Value} (h : ∀ k, ok k → ok' k) (r : rowS ok w size v n xs) : rowS ok' w size v n xs := by
  obtain ⟨h1, A, c, h2, h3⟩ := r
  refine ⟨h1, A, c, h2, fun hn => ?_⟩
  obtain ⟨g, off, h4, h5, r⟩ := h3 hn
  exact ⟨g, off, h4, h g h5, r⟩
theorem Own.rowS {e size n : Nat} {v : Value} {xs : List Value} {ok : Nat → Prop} {w : World} (h : (Own e size v n xs).holds ok w) : Gw.rowS ok w size v n xs := by
  obtain ⟨A, c, rfl, h1, h2⟩ := Own.form h
  refine ⟨h1, A, c, rfl, fun hn => ?_⟩
  obtain ⟨g, rfl⟩ := h2 hn
  rcases h.1.2 with ⟨h3, _⟩ | ⟨g', cap, cur, h3, _, h4, h5, hcm, h6, h7⟩
  · simp at h3
  · simp only [Value.slice.injEq, Option.some.injEq, Addr.mk.injEq, and_true, true_and] at h3
    obtain ⟨rfl, rfl⟩ := h3
    refine ⟨g, 0, rfl, h.2 g rfl, by unfold maxLen at hcm; omega, cur, _, _, h4, fun j u hj => ?_⟩
    rw [Nat.zero_add, ← Array.getElem?_toList]
    rw [← h7, List.getElem?_take] at hj
    split at hj
    · exact hj
    · cases hj

mutual
inductive VR (ok : Nat → Prop) (w : World) : Val → List Value → Prop
  | mk {kind : Int} {s : Bs} {b : Bool} {n : Nat} {l : List Val} {m : List Key} {inner unk : Bs} {vl vm : Value} {cl cm : List (List Value)} : rowS ok w 8 vl l.length cl.flatten → LV ok w l cl → rowS ok w 11 vm m.length cm.flatten → LK ok w m cm →
      VR ok w (.mk kind s b n l m inner unk) [.int .i64 kind, .string (mkS s), .bool b, .int .u64 (n : Int), vl, vm, .string (mkS inner), .string (mkS unk)]
inductive LV (ok : Nat → Prop) (w : World) : List Val → List (List Value) → Prop
  | nil : LV ok w [] []
  | cons {x : Val} {cs : List Value} {l : List Val} {css : List (List Value)} : VR ok w x cs → LV ok w l css → LV ok w (x :: l) (cs :: css)
inductive KR (ok : Nat → Prop) (w : World) : Key → List Value → Prop
  | mk {key : Bs} {has : Bool} {v : Val} {unk : Bs} {cs : List Value} : VR ok w v cs → KR ok w (.mk key has v unk) ([.string (mkS key), .bool has] ++ cs ++ [.string (mkS unk)])
inductive LK (ok : Nat → Prop) (w : World) : List Key → List (List Value) → Prop
  | nil : LK ok w [] []
  | cons {x : Key} {cs : List Value} {l : List Key} {css : List (List Value)} : KR ok w x cs → LK ok w l css → LK ok w (x :: l) (cs :: css)
end

section
variable {ok ok' : Nat → Prop} {w w' : World}
mutual
theorem VR.turn (hr : ∀ size v n xs, rowS ok w size v n xs → rowS ok' w' size v n xs) : ∀ {x : Val} {cs : List Value}, VR ok w x cs → VR ok' w' x cs
  | _, _, .mk h1 h2 h3 h4 => .mk (hr _ _ _ _ h1) (LV.turn hr h2) (hr _ _ _ _ h3) (LK.turn hr h4)
theorem LV.turn (hr : ∀ size v n xs, rowS ok w size v n xs → rowS ok' w' size v n xs) : ∀ {x : List Val} {cs : List (List Value)}, LV ok w x cs → LV ok' w' x cs
  | _, _, .nil => .nil
  | _, _, .cons h1 h2 => .cons (VR.turn hr h1) (LV.turn hr h2)
theorem KR.turn (hr : ∀ size v n xs, rowS ok w size v n xs → rowS ok' w' size v n xs) : ∀ {x : Key} {cs : List Value}, KR ok w x cs → KR ok' w' x cs
  | _, _, .mk h => .mk (VR.turn hr h)
theorem LK.turn (hr : ∀ size v n xs, rowS ok w size v n xs → rowS ok' w' size v n xs) : ∀ {x : List Key} {cs : List (List Value)}, LK ok w x cs → LK ok' w' x cs
  | _, _, .nil => .nil
  | _, _, .cons h1 h2 => .cons (KR.turn hr h1) (LK.turn hr h2)
end
end
def valF (x : Val) (cs : List Value) : FP := ⟨fun ok w => VR ok w x cs, fun _ _ _ h => VR.turn fun _ _ _ _ => rowS.loc h, fun _ _ _ h => VR.turn fun _ _ _ _ => rowS.mono h⟩
def keyF (x : Key) (cs : List Value) : FP := ⟨fun ok w => KR ok w x cs, fun _ _ _ h => KR.turn fun _ _ _ _ => rowS.loc h, fun _ _ _ h => KR.turn fun _ _ _ _ => rowS.mono h⟩
end Go.Proofs.Gw
/- Lists of what is read; the contract of a function that reads. -/
set_option linter.unusedVariables false
set_option linter.unusedSimpArgs false
namespace Go.Proofs.Gw
open Go Go.RowKit Go.IntWalk Go.Proofs.Gm

abbrev Res (α : Type) := Except (Option Int) α
def errE {α : Type} : Res α → Option (Option Int)
  | .ok _ => none
  | .error oc => some oc
/-- What is read, if it is. -/
def resF {α : Type} (rep : α → List Value → FP) : Res α → List Value → FP
  | .ok a, cs => rep a cs
  | .error _, _ => ⟨fun _ _ => True, fun _ _ _ _ h => h, fun _ _ _ _ h => h⟩
/-- A list of such. -/
def allF {α : Type} (rep : α → List Value → FP) : List α → List (List Value) → FP
  | [], [] => ⟨fun _ _ => True, fun _ _ _ _ h => h, fun _ _ _ _ h => h⟩
  | a :: l, cs :: css => ⟨fun ok w => (rep a cs).holds ok w ∧ (allF rep l css).holds ok w, fun ok w w' h h1 => ⟨(rep a cs).loc ok w w' h h1.1, (allF rep l css).loc ok w w' h h1.2⟩, fun ok ok' w h h1 => ⟨(rep a cs).mono ok ok' w h h1.1, (allF rep l css).mono ok ok' w h h1.2⟩⟩
  | _, _ => ⟨fun _ _ => False, fun _ _ _ _ h => h, fun _ _ _ _ h => h⟩
theorem allF_len {α : Type} {rep : α → List Value → FP} {ok : Nat → Prop} {w : World} : ∀ {l : List α} {css : List (List Value)}, (allF rep l css).holds ok w → css.length = l.length
  | [], [], _ => rfl
  | a :: l, cs :: css, h => by simp [allF_len h.2]
  | [], _ :: _, h => h.elim
  | _ :: _, [], h => h.elim
theorem allF_snoc {α : Type} {rep : α → List Value → FP} {ok : Nat → Prop} {w : World} {a : α} {cs : List Value} : ∀ {l : List α} {css : List (List Value)}, (allF rep l css).holds ok w → (rep a cs).holds ok w → (allF rep (l ++ [a]) (css ++ [cs])).holds ok w
  | [], [], _, h => ⟨h, trivial⟩
  | b :: l, d :: css, h, h2 => ⟨h.1, allF_snoc h.2 h2⟩
  | [], _ :: _, h, _ => h.elim
  | _ :: _, [], h, _ => h.elim
/-- A list ys a slice's value, what is read and never turned. -/
def listF {α : Type} (rep : α → List Value → FP) (k : Nat) (l : List α) (v : Value) : FP :=
  ⟨fun ok w => ∃ css, rowS ok w k v l.length css.flatten ∧ (allF rep l css).holds ok w,
   fun ok w w' h h0 => by obtain ⟨css, h1, h2⟩ := h0; exact ⟨css, rowS.loc h h1, (allF rep l css).loc ok w w' h h2⟩, fun ok ok' w h h0 => by obtain ⟨css, h1, h2⟩ := h0; exact ⟨css, rowS.mono h h1, (allF rep l css).mono ok ok' w h h2⟩⟩
/-- .. that is being made. -/
abbrev LstB1 {α : Type} (rep : α → List Value → FP) (e k : Nat) (l : List α) (v : Value) (css : List (List Value)) : List HP := [Own e k v l.length css.flatten, (allF rep l css).hp]
def LstB {α : Type} (rep : α → List Value → FP) (e k : Nat) (l : List α) (v : Value) : HP := ExH (LstB1 rep e k l v) (fun _ => ∃ A c, v = .slice A l.length c)
theorem LstB.nil {α : Type} (rep : α → List Value → FP) (e k : Nat) (Hs : List HP) : Ent Hs (LstB rep e k [] (.slice none 0 0) :: Hs) :=
  (Ent.intro (A := Own e k (.slice none 0 0) 0 []) (fun w => Own.nil _ _ w) Hs).trans (((Ent.intro (A := (allF rep [] []).hp) (fun w => trivial) _).trans (Ent.swap _ _ _)).trans (Ent.close (Bs := LstB1 rep e k [] (.slice none 0 0)) (p := fun _ => ∃ A c, Value.slice none 0 0 = .slice A ([] : List α).length c) [] ⟨_, _, rfl⟩ Hs))
/-- All that were read well, or none. -/
def allOk {α : Type} : List (Res α) → Option (List α)
  | [] => some []
  | .ok a :: l => (allOk l).map (a :: ·)
  | .error _ :: _ => none
theorem allOk_some {α : Type} : ∀ {l : List (Res α)} {ys : List α}, allOk l = some ys → l = ys.map .ok
  | [], ys, h => by cases h; rfl
  | .ok a :: l, ys, h => by
    simp only [allOk, Option.map_eq_some_iff] at h
    obtain ⟨ys', h1, rfl⟩ := h
    rw [allOk_some h1]; rfl
  | .error _ :: _, _, h => by cases h
theorem allF_res {α : Type} {rep : α → List Value → FP} {ok : Nat → Prop} {w : World} : ∀ {ys : List α} {css : List (List Value)}, (allF (resF rep) (ys.map .ok) css).holds ok w → (allF rep ys css).holds ok w
  | [], [], h => trivial
  | a :: ys, cs :: css, h => ⟨h.1, allF_res h.2⟩
  | [], _ :: _, h => h.elim
  | _ :: _, [], h => h.elim
/-- The list is done. -/
theorem LstB.done {α : Type} {rep : α → List Value → FP} {e k : Nat} {rl : List (Res α)} {ys : List α} {v : Value} (h : allOk rl = some ys) (Hs : List HP) : Ent (LstB (resF rep) e k rl v :: Hs) ((listF rep k ys v).hp :: Hs) := by
  have hl := allOk_some h
  subst hl
  refine Ent.head (h := LstB (resF rep) e k (ys.map .ok) v) (fun ok w h => ?_) (Ent.refl _)
  obtain ⟨_, css, _, o1, a1, b1, o2, a2, b2, _⟩ := h
  refine ⟨css, ?_, (allF rep ys css).mono o2 ok w (fun k hk => (a2 k hk).1.1) (allF_res b2)⟩
  have := rowS.mono (fun k hk => (a1 k hk).1) (Own.rowS b1)
  simpa using this

def rlM {α : Type} (m : Int → Bs → Res α) (d : Int) (num : Nat) (rs : List Rec) : List (Res α) := (ofNum rs num).map fun r => m d r.s
def noteL {α : Type} (er : Option (Option Int)) (rl : List (Res α)) : Option (Option Int) := rl.foldl (fun er x => note er (errE x)) er
theorem rlM_snoc {α : Type} (m : Int → Bs → Res α) (d : Int) (num : Nat) (rs : List Rec) (r : Rec) : rlM m d num (rs ++ [r]) = if r.num = num then rlM m d num rs ++ [m d r.s] else rlM m d num rs := by
  unfold rlM ofNum; rw [List.filter_append, List.map_append]; by_cases h : r.num = num <;> simp [h]
theorem rlM_len {α : Type} (m : Int → Bs → Res α) (d : Int) (num : Nat) (rs : List Rec) : (rlM m d num rs).length ≤ rs.length := by
  unfold rlM ofNum; rw [List.length_map]; exact List.length_filter_le _ _
theorem noteL_snoc {α : Type} (er : Option (Option Int)) (rl : List (Res α)) (x : Res α) : noteL er (rl ++ [x]) = note (noteL er rl) (errE x) := by
  unfold noteL; rw [List.foldl_append]; rfl
theorem LstB.snoc {α : Type} {rep : α → List Value → FP} {e k : Nat} {l : List α} {a : α} {v : Value} {css : List (List Value)} {cs : List Value} (hv : ∃ A c, v = .slice A (l ++ [a]).length c) (Hs : List HP) :
    Ent (Own e k v (l.length + 1) (css.flatten ++ cs) :: (rep a cs).hp :: (allF rep l css).hp :: Hs) (LstB rep e k (l ++ [a]) v :: Hs) := by
  refine Ent.trans (Ent.cons _ (Ent.merge (E := (allF rep (l ++ [a]) (css ++ [cs])).hp) (fun o1 o2 w h1 h2 => allF_snoc ((allF rep l css).mono o2 _ w (fun _ h => .inr h) h2) ((rep a cs).mono o1 _ w (fun _ h => .inl h) h1)) Hs)) ?_
  rw [show css.flatten ++ cs = (css ++ [cs]).flatten by simp, show l.length + 1 = (l ++ [a]).length by simp]
  exact Ent.close (Bs := LstB1 rep e k (l ++ [a]) v) (p := fun _ => ∃ A c, v = .slice A (l ++ [a]).length c) (css ++ [cs]) hv Hs

/-- The bytes of a number's records, one behind the other; a part, if it is there. -/
def joinM (num : Nat) (rs : List Rec) : Bs := (ofNum rs num).flatMap (·.s)
def partM {α : Type} (m : Int → Bs → Res α) (d : Int) (num : Nat) (rs : List Rec) : Option (Res α) := if ofNum rs num = [] then none else some (m d (joinM num rs))
def errP {α : Type} : Option (Res α) → Option (Option Int)
  | none => none
  | some x => errE x
def zeroF (zs cs : List Value) : FP := ⟨fun _ _ => cs = zs, fun _ _ _ _ h => h, fun _ _ _ _ h => h⟩
def partF {α : Type} (rep : α → List Value → FP) (zs : List Value) : Option (Res α) → List Value → FP
  | none, cs => zeroF zs cs
  | some x, cs => resF rep x cs
theorem joinM_snoc (num : Nat) (rs : List Rec) (r : Rec) : joinM num (rs ++ [r]) = if r.num = num then joinM num rs ++ r.s else joinM num rs := by
  unfold joinM ofNum; rw [List.filter_append, List.flatMap_append]; by_cases h : r.num = num <;> simp [h]
theorem ofNum_snoc (num : Nat) (rs : List Rec) (r : Rec) : ofNum (rs ++ [r]) num = if r.num = num then ofNum rs num ++ [r] else ofNum rs num := by
  unfold ofNum; rw [List.filter_append]; by_cases h : r.num = num <;> simp [h]
theorem joinM_take (num : Nat) (rs : List Rec) (i : Nat) : (joinM num (rs.take i)).length ≤ (joinM num rs).length := by
  conv => rhs; rw [← List.take_append_drop i rs]
  unfold joinM ofNum
  rw [List.filter_append, List.flatMap_append, List.length_append]; omega

/-- The contract of a function (value) that reads bytes at a depth: Fr is what it is lent. -/
def RdC {α : Type} (f : Nat) (first captured : List Value) (Fr : HP) (rep : α → List Value → FP) (k : Nat) (m : Int → Bs → Res α) (N : Nat) (d : Int) : Prop :=
  ∀ (s : ByteArray) (w : World), s.size ≤ N → Tri Tryz.prog f (first ++ [.string s, .int .i64 d] ++ captured) [Fr] (fun x : List Value × Value => .tuple #[.agg x.1.toArray, x.2]) (fun x => (resF rep (m d (bs s)) x.1).hp :: ErF x.2 s.size (errE (m d (bs s))) :: [Fr]) (fun x => x.1.length = k ∧ x.1.all one = true) w

theorem lkN_mono {u u' : List (Nat × Value)} : ∀ {vs : List Value} {o : Nat}, (∀ t v, lk u t = some v → o ≤ t → lk u' t = some v) → lkN u o vs → lkN u' o vs
  | [], _, _, _ => trivial
  | v :: vs, o, h, h2 => ⟨h o v h2.1 (Nat.le_refl _), lkN_mono (fun t v ht hl => h t v ht (by omega)) h2.2⟩
theorem lkN_stU : ∀ (vs : List Value) (o : Nat) (u : List (Nat × Value)), lkN (stU o vs u) o vs
  | [], _, _ => trivial
  | v :: vs, o, u => ⟨by simp only [stU, lk_cons, if_true], lkN_mono (fun t v' h hl => by simp only [stU, lk_cons]; rw [if_neg (by omega)]; exact h) (lkN_stU vs (o + 1) u)⟩
end Go.Proofs.Gw
