/- Texts that a claim of this seat leans on: R6, R7, R8, R9, RA, RB, RC. No statement is claimed in this text. -/
import Derived.Test.YtabmekglalbmoaaGreatDoorB6
/- Package msg's reader: parts. Printed by wip/tools/gen6.py. -/
set_option linter.unusedVariables false
set_option linter.unusedSimpArgs false
namespace Go.Proofs.Gw
open Go Go.RowKit Go.IntWalk Go.Proofs.Gm

theorem part_key {α : Type} {f : Nat} {first captured : List Value} {Fr : HP} {rep : α → List Value → FP} {m : Int → Bs → Res α} {N : Nat} [FnIs Tryz.prog f] (g : Nat) (R : RM) (er : Option (Option Int)) (num : Nat) (s : ByteArray) (hc : RdC f first captured Fr rep 11 m N (R.d - 1)) (hs : s.size ≤ N) (hN : R.n ≤ mx) (hd : 0 ≤ R.d) (hd2 : R.d ≤ 9223372036854775807) (w : World) :
    Tri Tryz.prog 123 [ptr g, .int .i64 (num : Int), .string s, .func (.func f) first.toArray captured.toArray] [RdS g R er, Fr] (fun cs : List Value => .agg cs.toArray) (fun cs => [RdS g R (note er (errE (m (R.d - 1) (bs s)))), (resF rep (m (R.d - 1) (bs s)) cs).hp, Fr]) (fun cs => cs.length = 11 ∧ cs.all one = true) w := by
  refine Tri.open ?_
  rintro x hx
  refine tri_of_G 27 Tryz.func123 rfl Tryz.ntmps123 rfl (fun D => ?_)
  refine GC.seq (GC.region (GL.w .alloc rfl (fun b8 _ => GL.nil (GN.seq (GC.seq (GC.region (GL.v (.move rfl) rfl (GL.v (.move rfl) rfl (GL.v (.move rfl) rfl (GL.v (.nilCheck rfl) rfl (GL.v (.fieldAddr rfl) rfl (GL.v (.ld 1 rfl rfl rfl) rfl (GL.v (.sub rfl rfl (i64_in _ (by omega))) rfl (?_))))))))))))))
  refine GL.ent (Ent.front 4 _ _ rfl) ?_
  refine GL.callV rfl (As := [_]) rfl (fun w hst => hc s w hs) rfl (fun ⟨cs, v⟩ hcs => ?_)
  obtain ⟨hl, h1⟩ := hcs
  simp only at hl h1 ⊢
  refine GL.v (.move rfl) rfl (GL.v (.extract rfl rfl) rfl (GL.v (.extract rfl rfl) rfl (GL.w .alloc rfl (fun b9 _ => GL.w0 (.store 0 rfl rfl rfl rfl (by rw [hl]; rfl) rfl h1) (fun _ _ => GL.v (.assign rfl) rfl (GL.nil (GN.seq (GC.seq (GC.region (GL.v (.move rfl) rfl (GL.v (.move rfl) rfl (GL.v (.move rfl) rfl (?_)))))))))))))
  refine GL.ent (Ent.front 2 _ _ rfl) ?_
  refine GL.ent (Ent.front 7 _ _ rfl) ?_
  refine GL.ent (Ent.front 7 _ _ rfl) ?_
  refine GL.ent (Ent.front 7 _ _ rfl) ?_
  refine GL.ent (Ent.close (Bs := RdS1 g R er) (p := RdS2 er) x hx _) ?_
  refine GL.call (As := [_, _]) rfl (fun w hst => fails_tri g R er (num : Int) v _ _ w (by unfold mx at hN; exact hN)) rfl (fun _ _ => ?_)
  refine GL.nil (GN.seq (GC.seq (GC.region (GL.v (.ldN 1 cs rfl rfl (by rw [hl]; rfl) (lkN_stU _ _ _)) rfl (GL.w0 (.store 4 rfl rfl rfl rfl (by rw [hl]; rfl) rfl h1) (fun _ _ => GL.nil (GN.seq (GC.ret (?_)))))))))
  refine GR.cell1 4 cs rfl rfl rfl rfl (by rw [hl]; rfl) (lkN_stU _ _ _) cs rfl (Ent.cons _ (Ent.trans (Ent.tail _ _) (Ent.cons _ (Ent.cons _ (Ent.nil _))))) ⟨hl, h1⟩

theorem part_exem {α : Type} {f : Nat} {first captured : List Value} {Fr : HP} {rep : α → List Value → FP} {m : Int → Bs → Res α} {N : Nat} [FnIs Tryz.prog f] (g : Nat) (R : RM) (er : Option (Option Int)) (num : Nat) (s : ByteArray) (hc : RdC f first captured Fr rep 7 m N (R.d - 1)) (hs : s.size ≤ N) (hN : R.n ≤ mx) (hd : 0 ≤ R.d) (hd2 : R.d ≤ 9223372036854775807) (w : World) :
    Tri Tryz.prog 129 [ptr g, .int .i64 (num : Int), .string s, .func (.func f) first.toArray captured.toArray] [RdS g R er, Fr] (fun cs : List Value => .agg cs.toArray) (fun cs => [RdS g R (note er (errE (m (R.d - 1) (bs s)))), (resF rep (m (R.d - 1) (bs s)) cs).hp, Fr]) (fun cs => cs.length = 7 ∧ cs.all one = true) w := by
  refine Tri.open ?_
  rintro x hx
  refine tri_of_G 27 Tryz.func129 rfl Tryz.ntmps129 rfl (fun D => ?_)
  refine GC.seq (GC.region (GL.w .alloc rfl (fun b8 _ => GL.nil (GN.seq (GC.seq (GC.region (GL.v (.move rfl) rfl (GL.v (.move rfl) rfl (GL.v (.move rfl) rfl (GL.v (.nilCheck rfl) rfl (GL.v (.fieldAddr rfl) rfl (GL.v (.ld 1 rfl rfl rfl) rfl (GL.v (.sub rfl rfl (i64_in _ (by omega))) rfl (?_))))))))))))))
  refine GL.ent (Ent.front 4 _ _ rfl) ?_
  refine GL.callV rfl (As := [_]) rfl (fun w hst => hc s w hs) rfl (fun ⟨cs, v⟩ hcs => ?_)
  obtain ⟨hl, h1⟩ := hcs
  simp only at hl h1 ⊢
  refine GL.v (.move rfl) rfl (GL.v (.extract rfl rfl) rfl (GL.v (.extract rfl rfl) rfl (GL.w .alloc rfl (fun b9 _ => GL.w0 (.store 0 rfl rfl rfl rfl (by rw [hl]; rfl) rfl h1) (fun _ _ => GL.v (.assign rfl) rfl (GL.nil (GN.seq (GC.seq (GC.region (GL.v (.move rfl) rfl (GL.v (.move rfl) rfl (GL.v (.move rfl) rfl (?_)))))))))))))
  refine GL.ent (Ent.front 2 _ _ rfl) ?_
  refine GL.ent (Ent.front 7 _ _ rfl) ?_
  refine GL.ent (Ent.front 7 _ _ rfl) ?_
  refine GL.ent (Ent.front 7 _ _ rfl) ?_
  refine GL.ent (Ent.close (Bs := RdS1 g R er) (p := RdS2 er) x hx _) ?_
  refine GL.call (As := [_, _]) rfl (fun w hst => fails_tri g R er (num : Int) v _ _ w (by unfold mx at hN; exact hN)) rfl (fun _ _ => ?_)
  refine GL.nil (GN.seq (GC.seq (GC.region (GL.v (.ldN 1 cs rfl rfl (by rw [hl]; rfl) (lkN_stU _ _ _)) rfl (GL.w0 (.store 4 rfl rfl rfl rfl (by rw [hl]; rfl) rfl h1) (fun _ _ => GL.nil (GN.seq (GC.ret (?_)))))))))
  refine GR.cell1 4 cs rfl rfl rfl rfl (by rw [hl]; rfl) (lkN_stU _ _ _) cs rfl (Ent.cons _ (Ent.trans (Ent.tail _ _) (Ent.cons _ (Ent.cons _ (Ent.nil _))))) ⟨hl, h1⟩

theorem part_buck {α : Type} {f : Nat} {first captured : List Value} {Fr : HP} {rep : α → List Value → FP} {m : Int → Bs → Res α} {N : Nat} [FnIs Tryz.prog f] (g : Nat) (R : RM) (er : Option (Option Int)) (num : Nat) (s : ByteArray) (hc : RdC f first captured Fr rep 3 m N (R.d - 1)) (hs : s.size ≤ N) (hN : R.n ≤ mx) (hd : 0 ≤ R.d) (hd2 : R.d ≤ 9223372036854775807) (w : World) :
    Tri Tryz.prog 133 [ptr g, .int .i64 (num : Int), .string s, .func (.func f) first.toArray captured.toArray] [RdS g R er, Fr] (fun cs : List Value => .agg cs.toArray) (fun cs => [RdS g R (note er (errE (m (R.d - 1) (bs s)))), (resF rep (m (R.d - 1) (bs s)) cs).hp, Fr]) (fun cs => cs.length = 3 ∧ cs.all one = true) w := by
  refine Tri.open ?_
  rintro x hx
  refine tri_of_G 27 Tryz.func133 rfl Tryz.ntmps133 rfl (fun D => ?_)
  refine GC.seq (GC.region (GL.w .alloc rfl (fun b8 _ => GL.nil (GN.seq (GC.seq (GC.region (GL.v (.move rfl) rfl (GL.v (.move rfl) rfl (GL.v (.move rfl) rfl (GL.v (.nilCheck rfl) rfl (GL.v (.fieldAddr rfl) rfl (GL.v (.ld 1 rfl rfl rfl) rfl (GL.v (.sub rfl rfl (i64_in _ (by omega))) rfl (?_))))))))))))))
  refine GL.ent (Ent.front 4 _ _ rfl) ?_
  refine GL.callV rfl (As := [_]) rfl (fun w hst => hc s w hs) rfl (fun ⟨cs, v⟩ hcs => ?_)
  obtain ⟨hl, h1⟩ := hcs
  simp only at hl h1 ⊢
  refine GL.v (.move rfl) rfl (GL.v (.extract rfl rfl) rfl (GL.v (.extract rfl rfl) rfl (GL.w .alloc rfl (fun b9 _ => GL.w0 (.store 0 rfl rfl rfl rfl (by rw [hl]; rfl) rfl h1) (fun _ _ => GL.v (.assign rfl) rfl (GL.nil (GN.seq (GC.seq (GC.region (GL.v (.move rfl) rfl (GL.v (.move rfl) rfl (GL.v (.move rfl) rfl (?_)))))))))))))
  refine GL.ent (Ent.front 2 _ _ rfl) ?_
  refine GL.ent (Ent.front 7 _ _ rfl) ?_
  refine GL.ent (Ent.front 7 _ _ rfl) ?_
  refine GL.ent (Ent.front 7 _ _ rfl) ?_
  refine GL.ent (Ent.close (Bs := RdS1 g R er) (p := RdS2 er) x hx _) ?_
  refine GL.call (As := [_, _]) rfl (fun w hst => fails_tri g R er (num : Int) v _ _ w (by unfold mx at hN; exact hN)) rfl (fun _ _ => ?_)
  refine GL.nil (GN.seq (GC.seq (GC.region (GL.v (.ldN 1 cs rfl rfl (by rw [hl]; rfl) (lkN_stU _ _ _)) rfl (GL.w0 (.store 4 rfl rfl rfl rfl (by rw [hl]; rfl) rfl h1) (fun _ _ => GL.nil (GN.seq (GC.ret (?_)))))))))
  refine GR.cell1 4 cs rfl rfl rfl rfl (by rw [hl]; rfl) (lkN_stU _ _ _) cs rfl (Ent.cons _ (Ent.trans (Ent.tail _ _) (Ent.cons _ (Ent.cons _ (Ent.nil _))))) ⟨hl, h1⟩

theorem part_val {α : Type} {f : Nat} {first captured : List Value} {Fr : HP} {rep : α → List Value → FP} {m : Int → Bs → Res α} {N : Nat} [FnIs Tryz.prog f] (g : Nat) (R : RM) (er : Option (Option Int)) (num : Nat) (s : ByteArray) (hc : RdC f first captured Fr rep 8 m N (R.d - 1)) (hs : s.size ≤ N) (hN : R.n ≤ mx) (hd : 0 ≤ R.d) (hd2 : R.d ≤ 9223372036854775807) (w : World) :
    Tri Tryz.prog 182 [ptr g, .int .i64 (num : Int), .string s, .func (.func f) first.toArray captured.toArray] [RdS g R er, Fr] (fun cs : List Value => .agg cs.toArray) (fun cs => [RdS g R (note er (errE (m (R.d - 1) (bs s)))), (resF rep (m (R.d - 1) (bs s)) cs).hp, Fr]) (fun cs => cs.length = 8 ∧ cs.all one = true) w := by
  refine Tri.open ?_
  rintro x hx
  refine tri_of_G 27 Tryz.func182 rfl Tryz.ntmps182 rfl (fun D => ?_)
  refine GC.seq (GC.region (GL.w .alloc rfl (fun b8 _ => GL.nil (GN.seq (GC.seq (GC.region (GL.v (.move rfl) rfl (GL.v (.move rfl) rfl (GL.v (.move rfl) rfl (GL.v (.nilCheck rfl) rfl (GL.v (.fieldAddr rfl) rfl (GL.v (.ld 1 rfl rfl rfl) rfl (GL.v (.sub rfl rfl (i64_in _ (by omega))) rfl (?_))))))))))))))
  refine GL.ent (Ent.front 4 _ _ rfl) ?_
  refine GL.callV rfl (As := [_]) rfl (fun w hst => hc s w hs) rfl (fun ⟨cs, v⟩ hcs => ?_)
  obtain ⟨hl, h1⟩ := hcs
  simp only at hl h1 ⊢
  refine GL.v (.move rfl) rfl (GL.v (.extract rfl rfl) rfl (GL.v (.extract rfl rfl) rfl (GL.w .alloc rfl (fun b9 _ => GL.w0 (.store 0 rfl rfl rfl rfl (by rw [hl]; rfl) rfl h1) (fun _ _ => GL.v (.assign rfl) rfl (GL.nil (GN.seq (GC.seq (GC.region (GL.v (.move rfl) rfl (GL.v (.move rfl) rfl (GL.v (.move rfl) rfl (?_)))))))))))))
  refine GL.ent (Ent.front 2 _ _ rfl) ?_
  refine GL.ent (Ent.front 7 _ _ rfl) ?_
  refine GL.ent (Ent.front 7 _ _ rfl) ?_
  refine GL.ent (Ent.front 7 _ _ rfl) ?_
  refine GL.ent (Ent.close (Bs := RdS1 g R er) (p := RdS2 er) x hx _) ?_
  refine GL.call (As := [_, _]) rfl (fun w hst => fails_tri g R er (num : Int) v _ _ w (by unfold mx at hN; exact hN)) rfl (fun _ _ => ?_)
  refine GL.nil (GN.seq (GC.seq (GC.region (GL.v (.ldN 1 cs rfl rfl (by rw [hl]; rfl) (lkN_stU _ _ _)) rfl (GL.w0 (.store 4 rfl rfl rfl rfl (by rw [hl]; rfl) rfl h1) (fun _ _ => GL.nil (GN.seq (GC.ret (?_)))))))))
  refine GR.cell1 4 cs rfl rfl rfl rfl (by rw [hl]; rfl) (lkN_stU _ _ _) cs rfl (Ent.cons _ (Ent.trans (Ent.tail _ _) (Ent.cons _ (Ent.cons _ (Ent.nil _))))) ⟨hl, h1⟩

theorem part_lval {α : Type} {f : Nat} {first captured : List Value} {Fr : HP} {rep : α → List Value → FP} {m : Int → Bs → Res α} {N : Nat} [FnIs Tryz.prog f] (g : Nat) (R : RM) (er : Option (Option Int)) (num : Nat) (s : ByteArray) (hc : RdC f first captured Fr rep 2 m N (R.d - 1)) (hs : s.size ≤ N) (hN : R.n ≤ mx) (hd : 0 ≤ R.d) (hd2 : R.d ≤ 9223372036854775807) (w : World) :
    Tri Tryz.prog 217 [ptr g, .int .i64 (num : Int), .string s, .func (.func f) first.toArray captured.toArray] [RdS g R er, Fr] (fun cs : List Value => .agg cs.toArray) (fun cs => [RdS g R (note er (errE (m (R.d - 1) (bs s)))), (resF rep (m (R.d - 1) (bs s)) cs).hp, Fr]) (fun cs => cs.length = 2 ∧ cs.all one = true) w := by
  refine Tri.open ?_
  rintro x hx
  refine tri_of_G 27 Tryz.func217 rfl Tryz.ntmps217 rfl (fun D => ?_)
  refine GC.seq (GC.region (GL.w .alloc rfl (fun b8 _ => GL.nil (GN.seq (GC.seq (GC.region (GL.v (.move rfl) rfl (GL.v (.move rfl) rfl (GL.v (.move rfl) rfl (GL.v (.nilCheck rfl) rfl (GL.v (.fieldAddr rfl) rfl (GL.v (.ld 1 rfl rfl rfl) rfl (GL.v (.sub rfl rfl (i64_in _ (by omega))) rfl (?_))))))))))))))
  refine GL.ent (Ent.front 4 _ _ rfl) ?_
  refine GL.callV rfl (As := [_]) rfl (fun w hst => hc s w hs) rfl (fun ⟨cs, v⟩ hcs => ?_)
  obtain ⟨hl, h1⟩ := hcs
  simp only at hl h1 ⊢
  refine GL.v (.move rfl) rfl (GL.v (.extract rfl rfl) rfl (GL.v (.extract rfl rfl) rfl (GL.w .alloc rfl (fun b9 _ => GL.w0 (.store 0 rfl rfl rfl rfl (by rw [hl]; rfl) rfl h1) (fun _ _ => GL.v (.assign rfl) rfl (GL.nil (GN.seq (GC.seq (GC.region (GL.v (.move rfl) rfl (GL.v (.move rfl) rfl (GL.v (.move rfl) rfl (?_)))))))))))))
  refine GL.ent (Ent.front 2 _ _ rfl) ?_
  refine GL.ent (Ent.front 7 _ _ rfl) ?_
  refine GL.ent (Ent.front 7 _ _ rfl) ?_
  refine GL.ent (Ent.front 7 _ _ rfl) ?_
  refine GL.ent (Ent.close (Bs := RdS1 g R er) (p := RdS2 er) x hx _) ?_
  refine GL.call (As := [_, _]) rfl (fun w hst => fails_tri g R er (num : Int) v _ _ w (by unfold mx at hN; exact hN)) rfl (fun _ _ => ?_)
  refine GL.nil (GN.seq (GC.seq (GC.region (GL.v (.ldN 1 cs rfl rfl (by rw [hl]; rfl) (lkN_stU _ _ _)) rfl (GL.w0 (.store 4 rfl rfl rfl rfl (by rw [hl]; rfl) rfl h1) (fun _ _ => GL.nil (GN.seq (GC.ret (?_)))))))))
  refine GR.cell1 4 cs rfl rfl rfl rfl (by rw [hl]; rfl) (lkN_stU _ _ _) cs rfl (Ent.cons _ (Ent.trans (Ent.tail _ _) (Ent.cons _ (Ent.cons _ (Ent.nil _))))) ⟨hl, h1⟩

theorem part_lkey {α : Type} {f : Nat} {first captured : List Value} {Fr : HP} {rep : α → List Value → FP} {m : Int → Bs → Res α} {N : Nat} [FnIs Tryz.prog f] (g : Nat) (R : RM) (er : Option (Option Int)) (num : Nat) (s : ByteArray) (hc : RdC f first captured Fr rep 2 m N (R.d - 1)) (hs : s.size ≤ N) (hN : R.n ≤ mx) (hd : 0 ≤ R.d) (hd2 : R.d ≤ 9223372036854775807) (w : World) :
    Tri Tryz.prog 222 [ptr g, .int .i64 (num : Int), .string s, .func (.func f) first.toArray captured.toArray] [RdS g R er, Fr] (fun cs : List Value => .agg cs.toArray) (fun cs => [RdS g R (note er (errE (m (R.d - 1) (bs s)))), (resF rep (m (R.d - 1) (bs s)) cs).hp, Fr]) (fun cs => cs.length = 2 ∧ cs.all one = true) w := by
  refine Tri.open ?_
  rintro x hx
  refine tri_of_G 27 Tryz.func222 rfl Tryz.ntmps222 rfl (fun D => ?_)
  refine GC.seq (GC.region (GL.w .alloc rfl (fun b8 _ => GL.nil (GN.seq (GC.seq (GC.region (GL.v (.move rfl) rfl (GL.v (.move rfl) rfl (GL.v (.move rfl) rfl (GL.v (.nilCheck rfl) rfl (GL.v (.fieldAddr rfl) rfl (GL.v (.ld 1 rfl rfl rfl) rfl (GL.v (.sub rfl rfl (i64_in _ (by omega))) rfl (?_))))))))))))))
  refine GL.ent (Ent.front 4 _ _ rfl) ?_
  refine GL.callV rfl (As := [_]) rfl (fun w hst => hc s w hs) rfl (fun ⟨cs, v⟩ hcs => ?_)
  obtain ⟨hl, h1⟩ := hcs
  simp only at hl h1 ⊢
  refine GL.v (.move rfl) rfl (GL.v (.extract rfl rfl) rfl (GL.v (.extract rfl rfl) rfl (GL.w .alloc rfl (fun b9 _ => GL.w0 (.store 0 rfl rfl rfl rfl (by rw [hl]; rfl) rfl h1) (fun _ _ => GL.v (.assign rfl) rfl (GL.nil (GN.seq (GC.seq (GC.region (GL.v (.move rfl) rfl (GL.v (.move rfl) rfl (GL.v (.move rfl) rfl (?_)))))))))))))
  refine GL.ent (Ent.front 2 _ _ rfl) ?_
  refine GL.ent (Ent.front 7 _ _ rfl) ?_
  refine GL.ent (Ent.front 7 _ _ rfl) ?_
  refine GL.ent (Ent.front 7 _ _ rfl) ?_
  refine GL.ent (Ent.close (Bs := RdS1 g R er) (p := RdS2 er) x hx _) ?_
  refine GL.call (As := [_, _]) rfl (fun w hst => fails_tri g R er (num : Int) v _ _ w (by unfold mx at hN; exact hN)) rfl (fun _ _ => ?_)
  refine GL.nil (GN.seq (GC.seq (GC.region (GL.v (.ldN 1 cs rfl rfl (by rw [hl]; rfl) (lkN_stU _ _ _)) rfl (GL.w0 (.store 4 rfl rfl rfl rfl (by rw [hl]; rfl) rfl h1) (fun _ _ => GL.nil (GN.seq (GC.ret (?_)))))))))
  refine GR.cell1 4 cs rfl rfl rfl rfl (by rw [hl]; rfl) (lkN_stU _ _ _) cs rfl (Ent.cons _ (Ent.trans (Ent.tail _ _) (Ent.cons _ (Ent.cons _ (Ent.nil _))))) ⟨hl, h1⟩

end Go.Proofs.Gw
/- Package msg's reader: lists. Printed by wip/tools/gen6.py. -/
set_option linter.unusedVariables false
set_option linter.unusedSimpArgs false
namespace Go.Proofs.Gw
open Go Go.RowKit Go.IntWalk Go.Proofs.Gm

theorem lkN_args0 : ∀ (cs : List Value) (o : Nat), lkN (args0 o cs) o cs
  | [], _ => trivial
  | v :: vs, o => ⟨by simp only [args0, lk_cons, if_true], lkN_mono (fun t v' h hl => by simp only [args0, lk_cons]; rw [if_neg (by omega)]; exact h) (lkN_args0 vs (o + 1))⟩

theorem List_key {α : Type} {f : Nat} {first captured : List Value} {Fr : HP} {rep : α → List Value → FP} {m : Int → Bs → Res α} {N : Nat} [FnIs Tryz.prog f] (g : Nat) (R : RM) (er : Option (Option Int)) (num : Nat) (hc : R.rs ≠ [] → RdC f first captured Fr rep 11 m N (R.d - 1)) (hN : R.n ≤ mx) (hS : ∀ r, r ∈ R.rs → r.s.length ≤ N) (hn : R.rs.length ≤ 4294967296) (hd : R.rs ≠ [] → 0 ≤ R.d) (hd2 : R.d ≤ 9223372036854775807) (w : World) :
    Tri Tryz.prog 46 [ptr g, .int .i64 (num : Int), .func (.func f) first.toArray captured.toArray] [RdS g R er, Fr] (fun v : Value => v) (fun v => [LstB (resF rep) 82 11 (rlM m (R.d - 1) num R.rs) v, RdS g R (noteL er (rlM m (R.d - 1) num R.rs)), Fr]) (fun v => ∃ A c, v = .slice A (rlM m (R.d - 1) num R.rs).length c) w := by
  refine Tri.rform fun A c hA => ?_
  obtain ⟨unk, d, n, v, rs⟩ := R
  simp only [RM.at] at hn hA hS hN hd hd2 hc ⊢
  obtain ⟨rfl, hA⟩ := hA
  refine tri_of_G 34 Tryz.func46 rfl Tryz.ntmps46 rfl (fun D => ?_)
  refine GC.open ?_
  rintro x hx
  refine GC.seq (GC.region (GL.v (.assign rfl) rfl (GL.nil (GN.seq (GC.seq (GC.region (GL.v (.assign rfl) rfl (GL.nil (GN.seq (GC.seq (GC.seq (GC.region (GL.v (.move rfl) rfl (GL.v (.nilCheck rfl) rfl (GL.v (.fieldAddr rfl) rfl (GL.v (.ld 0 rfl rfl rfl) rfl (GL.v (.lenSl rfl) rfl (GL.v (.move rfl) rfl (GL.nil (GN.seq (GC.block (?_))))))))))))))))))))))
  refine GC.loop (γ := Nat × Option Addr × Nat) (fun g => g.1 ≤ rs.length) (fun q => [(0, ptr g), (1, .int .i64 (num : Int)), (2, .func (.func f) first.toArray captured.toArray), (7, .slice q.2.1 (rlM m (d - 1) num (rs.take q.1)).length q.2.2), (13, .slice A rs.length c), (14, .int .i64 rs.length), (15, .int .i64 (q.1 : Int))])
    (fun q => [LstB (resF rep) 82 11 (rlM m (d - 1) num (rs.take q.1)) (.slice q.2.1 (rlM m (d - 1) num (rs.take q.1)).length q.2.2), RdS g ⟨unk, d, n, .slice A rs.length c, rs⟩ (noteL er (rlM m (d - 1) num (rs.take q.1))), Fr]) (fun q => rs.length - q.1) (0, none, 0) (Nat.zero_le _) (Sub.cons rfl (Sub.cons rfl (Sub.cons rfl (Sub.cons rfl (Sub.cons rfl (Sub.cons rfl (Sub.cons rfl (Sub.nil _)))))))) ?_ ?_
  · exact Ent.trans (Ent.close (Bs := RdS1 g ⟨unk, d, n, .slice A rs.length c, rs⟩ er) (p := RdS2 er) x hx [Fr]) (LstB.nil (resF rep) 82 11 _)
  rintro ⟨i, A', c'⟩ hi
  simp only at hi ⊢
  refine GC.seq (GC.region (GL.v (.lss rfl rfl) rfl (GL.nil (GN.seq (GC.seq (?_))))))
  refine GC.condD rfl (fun hlt => ?_) (fun hlt => ?_)
  · have hl : i < rs.length := by omega
    obtain ⟨r, hr⟩ : ∃ r, rs[i]? = some r := ⟨_, List.getElem?_eq_getElem hl⟩
    have htk : rs.take (i + 1) = rs.take i ++ [r] := by rw [List.take_add_one, hr]; rfl
    have hrl := rlM_len m (d - 1) num (rs.take i)
    rw [List.length_take] at hrl
    obtain ⟨g0, rfl⟩ := hA (by omega)
    refine GC.ent (Ent.front 1 _ _ rfl) ?_
    refine GC.open ?_
    rintro y hy
    refine GC.skip (GN.seq (GC.seq (GC.block (GC.seq (GC.region (GL.v (.indexAddr rfl rfl (by omega) (by omega)) rfl (?_)))))))
    refine GL.v (.ldOwnN 2 (recC r) rfl rfl rfl (fun j v hj => by have := flat_get recC_len rs i r j v hr hj; simpa using this)) rfl ?_
    refine GL.w .alloc rfl (fun b9 _ => GL.w0 (.store 0 rfl rfl rfl rfl rfl rfl rfl) (fun _ _ => GL.nil (GN.seq (GC.seq (GC.region (GL.v (.fieldAddr rfl) rfl (GL.v (.ld 0 rfl rfl rfl) rfl (GL.v (.move rfl) rfl (GL.v (.eql rfl rfl) rfl (GL.nil (GN.seq (?_))))))))))))
    refine GC.ent (Ent.front 3 _ _ rfl) ?_
    refine GC.ent (Ent.front 3 _ _ rfl) ?_
    refine GC.ent (Ent.front 3 _ _ rfl) ?_
    refine GC.ent (Ent.close (Bs := RdS1 g ⟨unk, d, n, .slice (some ⟨g0, 0, none⟩) rs.length c, rs⟩ (noteL er (rlM m (d - 1) num (rs.take i)))) (p := RdS2 _) y hy _) ?_
    refine GC.condD rfl (fun he => ?_) (fun he => ?_)
    · refine GC.region (GL.v (.move rfl) rfl (GL.v (.move rfl) rfl (GL.v (.move rfl) rfl (GL.v (.fieldAddr rfl) rfl (GL.v (.ld 1 rfl rfl rfl) rfl (GL.v (.move rfl) rfl (?_)))))))
      refine GL.ent (Ent.front 3 _ _ rfl) ?_
      refine GL.ent (Ent.front 1 _ _ rfl) ?_
      refine GL.call (As := [_, _]) rfl (fun w hst => part_key g ⟨unk, d, n, _, rs⟩ _ num (mkS r.s) (hc (by intro e; rw [e] at hl; simp at hl)) (by rw [mkS_size]; exact hS r (List.mem_of_getElem? hr)) hN (hd (by intro e; rw [e] at hl; simp at hl)) hd2 w) rfl (fun cs hcs => ?_)
      obtain ⟨hl1, hone⟩ := hcs
      refine GL.w (.bone cs rfl rfl rfl rfl rfl (by rw [hl1]; rfl)) rfl (fun bP _ => ?_)
      refine GL.ent (Ent.front 5 _ _ rfl) ?_
      refine GL.open ?_
      rintro css _
      refine GL.w (.append 0 2 cs rfl rfl rfl rfl rfl (lkN_args0 cs 0) (by rw [hl1]; rfl) hone rfl rfl rfl (by omega)) rfl (fun q _ => ?_)
      refine GL.v (.assign rfl) rfl (GL.nil (GN.blk (GN.seq (GC.region (GL.v (.add rfl rfl (i64_in _ (by omega))) rfl (GL.v (.move rfl) rfl (GL.nil (?_))))))))
      have e1 : rlM m (d - 1) num (rs.take (i + 1)) = rlM m (d - 1) num (rs.take i) ++ [m (d - 1) r.s] := by rw [htk, rlM_snoc, if_pos (by omega)]
      have e2 : (rlM m (d - 1) num (rs.take i)).length + 1 = (rlM m (d - 1) num (rs.take (i + 1))).length := by rw [e1]; simp
      refine GN.loop (i + 1, q.1, q.2) (by simp only; omega) (by simp only; omega) (Sub.cons rfl (Sub.cons rfl (Sub.cons rfl (Sub.cons (lk_of rfl (by rw [e2])) (Sub.cons rfl (Sub.cons rfl (Sub.cons rfl (Sub.nil _)))))))) ?_
      simp only [← e2]
      rw [e1, noteL_snoc]
      refine Ent.trans (Ent.cons _ (Ent.front 3 _ _ rfl)) (Ent.trans (LstB.snoc (rep := resF rep) (a := m (d - 1) r.s) ⟨q.1, q.2, by simp⟩ _) (Ent.cons _ (Ent.trans (Ent.tail _ _) (Ent.cons _ (Ent.cons _ (Ent.nil _))))))
    · refine GC.skip (GN.blk (GN.seq (GC.region (GL.v (.add rfl rfl (i64_in _ (by omega))) rfl (GL.v (.move rfl) rfl (GL.nil (?_)))))))
      refine GN.loop (i + 1, A', c') (by simp only; omega) (by simp only; omega) (Sub.cons rfl (Sub.cons rfl (Sub.cons rfl (Sub.cons (lk_of rfl ?_) (Sub.cons rfl (Sub.cons rfl (Sub.cons rfl (Sub.nil _)))))))) ?_
      · simp only [htk, rlM_snoc, if_neg (show ¬ r.num = num by omega)]
      · simp only [htk, rlM_snoc, if_neg (show ¬ r.num = num by omega)]
        exact Ent.trans (Ent.front 2 _ _ rfl) (Ent.cons _ (Ent.cons _ (Ent.trans (Ent.tail _ _) (Ent.refl _))))
  · have hie : i = rs.length := by omega
    subst hie
    simp only [List.take_length]
    refine GC.exit (GX.seq (GX.loop (GX.blk (GN.seq (GC.seq (GC.region (GL.v (.move rfl) rfl (GL.v (.assign rfl) rfl (GL.nil (GN.seq (GC.ret (?_))))))))))))
    exact GR.one rfl rfl rfl _ rfl (Ent.refl _) ⟨_, _, rfl⟩

theorem List_exem {α : Type} {f : Nat} {first captured : List Value} {Fr : HP} {rep : α → List Value → FP} {m : Int → Bs → Res α} {N : Nat} [FnIs Tryz.prog f] (g : Nat) (R : RM) (er : Option (Option Int)) (num : Nat) (hc : R.rs ≠ [] → RdC f first captured Fr rep 7 m N (R.d - 1)) (hN : R.n ≤ mx) (hS : ∀ r, r ∈ R.rs → r.s.length ≤ N) (hn : R.rs.length ≤ 4294967296) (hd : R.rs ≠ [] → 0 ≤ R.d) (hd2 : R.d ≤ 9223372036854775807) (w : World) :
    Tri Tryz.prog 51 [ptr g, .int .i64 (num : Int), .func (.func f) first.toArray captured.toArray] [RdS g R er, Fr] (fun v : Value => v) (fun v => [LstB (resF rep) 89 7 (rlM m (R.d - 1) num R.rs) v, RdS g R (noteL er (rlM m (R.d - 1) num R.rs)), Fr]) (fun v => ∃ A c, v = .slice A (rlM m (R.d - 1) num R.rs).length c) w := by
  refine Tri.rform fun A c hA => ?_
  obtain ⟨unk, d, n, v, rs⟩ := R
  simp only [RM.at] at hn hA hS hN hd hd2 hc ⊢
  obtain ⟨rfl, hA⟩ := hA
  refine tri_of_G 34 Tryz.func51 rfl Tryz.ntmps51 rfl (fun D => ?_)
  refine GC.open ?_
  rintro x hx
  refine GC.seq (GC.region (GL.v (.assign rfl) rfl (GL.nil (GN.seq (GC.seq (GC.region (GL.v (.assign rfl) rfl (GL.nil (GN.seq (GC.seq (GC.seq (GC.region (GL.v (.move rfl) rfl (GL.v (.nilCheck rfl) rfl (GL.v (.fieldAddr rfl) rfl (GL.v (.ld 0 rfl rfl rfl) rfl (GL.v (.lenSl rfl) rfl (GL.v (.move rfl) rfl (GL.nil (GN.seq (GC.block (?_))))))))))))))))))))))
  refine GC.loop (γ := Nat × Option Addr × Nat) (fun g => g.1 ≤ rs.length) (fun q => [(0, ptr g), (1, .int .i64 (num : Int)), (2, .func (.func f) first.toArray captured.toArray), (7, .slice q.2.1 (rlM m (d - 1) num (rs.take q.1)).length q.2.2), (13, .slice A rs.length c), (14, .int .i64 rs.length), (15, .int .i64 (q.1 : Int))])
    (fun q => [LstB (resF rep) 89 7 (rlM m (d - 1) num (rs.take q.1)) (.slice q.2.1 (rlM m (d - 1) num (rs.take q.1)).length q.2.2), RdS g ⟨unk, d, n, .slice A rs.length c, rs⟩ (noteL er (rlM m (d - 1) num (rs.take q.1))), Fr]) (fun q => rs.length - q.1) (0, none, 0) (Nat.zero_le _) (Sub.cons rfl (Sub.cons rfl (Sub.cons rfl (Sub.cons rfl (Sub.cons rfl (Sub.cons rfl (Sub.cons rfl (Sub.nil _)))))))) ?_ ?_
  · exact Ent.trans (Ent.close (Bs := RdS1 g ⟨unk, d, n, .slice A rs.length c, rs⟩ er) (p := RdS2 er) x hx [Fr]) (LstB.nil (resF rep) 89 7 _)
  rintro ⟨i, A', c'⟩ hi
  simp only at hi ⊢
  refine GC.seq (GC.region (GL.v (.lss rfl rfl) rfl (GL.nil (GN.seq (GC.seq (?_))))))
  refine GC.condD rfl (fun hlt => ?_) (fun hlt => ?_)
  · have hl : i < rs.length := by omega
    obtain ⟨r, hr⟩ : ∃ r, rs[i]? = some r := ⟨_, List.getElem?_eq_getElem hl⟩
    have htk : rs.take (i + 1) = rs.take i ++ [r] := by rw [List.take_add_one, hr]; rfl
    have hrl := rlM_len m (d - 1) num (rs.take i)
    rw [List.length_take] at hrl
    obtain ⟨g0, rfl⟩ := hA (by omega)
    refine GC.ent (Ent.front 1 _ _ rfl) ?_
    refine GC.open ?_
    rintro y hy
    refine GC.skip (GN.seq (GC.seq (GC.block (GC.seq (GC.region (GL.v (.indexAddr rfl rfl (by omega) (by omega)) rfl (?_)))))))
    refine GL.v (.ldOwnN 2 (recC r) rfl rfl rfl (fun j v hj => by have := flat_get recC_len rs i r j v hr hj; simpa using this)) rfl ?_
    refine GL.w .alloc rfl (fun b9 _ => GL.w0 (.store 0 rfl rfl rfl rfl rfl rfl rfl) (fun _ _ => GL.nil (GN.seq (GC.seq (GC.region (GL.v (.fieldAddr rfl) rfl (GL.v (.ld 0 rfl rfl rfl) rfl (GL.v (.move rfl) rfl (GL.v (.eql rfl rfl) rfl (GL.nil (GN.seq (?_))))))))))))
    refine GC.ent (Ent.front 3 _ _ rfl) ?_
    refine GC.ent (Ent.front 3 _ _ rfl) ?_
    refine GC.ent (Ent.front 3 _ _ rfl) ?_
    refine GC.ent (Ent.close (Bs := RdS1 g ⟨unk, d, n, .slice (some ⟨g0, 0, none⟩) rs.length c, rs⟩ (noteL er (rlM m (d - 1) num (rs.take i)))) (p := RdS2 _) y hy _) ?_
    refine GC.condD rfl (fun he => ?_) (fun he => ?_)
    · refine GC.region (GL.v (.move rfl) rfl (GL.v (.move rfl) rfl (GL.v (.move rfl) rfl (GL.v (.fieldAddr rfl) rfl (GL.v (.ld 1 rfl rfl rfl) rfl (GL.v (.move rfl) rfl (?_)))))))
      refine GL.ent (Ent.front 3 _ _ rfl) ?_
      refine GL.ent (Ent.front 1 _ _ rfl) ?_
      refine GL.call (As := [_, _]) rfl (fun w hst => part_exem g ⟨unk, d, n, _, rs⟩ _ num (mkS r.s) (hc (by intro e; rw [e] at hl; simp at hl)) (by rw [mkS_size]; exact hS r (List.mem_of_getElem? hr)) hN (hd (by intro e; rw [e] at hl; simp at hl)) hd2 w) rfl (fun cs hcs => ?_)
      obtain ⟨hl1, hone⟩ := hcs
      refine GL.w (.bone cs rfl rfl rfl rfl rfl (by rw [hl1]; rfl)) rfl (fun bP _ => ?_)
      refine GL.ent (Ent.front 5 _ _ rfl) ?_
      refine GL.open ?_
      rintro css _
      refine GL.w (.append 0 2 cs rfl rfl rfl rfl rfl (lkN_args0 cs 0) (by rw [hl1]; rfl) hone rfl rfl rfl (by omega)) rfl (fun q _ => ?_)
      refine GL.v (.assign rfl) rfl (GL.nil (GN.blk (GN.seq (GC.region (GL.v (.add rfl rfl (i64_in _ (by omega))) rfl (GL.v (.move rfl) rfl (GL.nil (?_))))))))
      have e1 : rlM m (d - 1) num (rs.take (i + 1)) = rlM m (d - 1) num (rs.take i) ++ [m (d - 1) r.s] := by rw [htk, rlM_snoc, if_pos (by omega)]
      have e2 : (rlM m (d - 1) num (rs.take i)).length + 1 = (rlM m (d - 1) num (rs.take (i + 1))).length := by rw [e1]; simp
      refine GN.loop (i + 1, q.1, q.2) (by simp only; omega) (by simp only; omega) (Sub.cons rfl (Sub.cons rfl (Sub.cons rfl (Sub.cons (lk_of rfl (by rw [e2])) (Sub.cons rfl (Sub.cons rfl (Sub.cons rfl (Sub.nil _)))))))) ?_
      simp only [← e2]
      rw [e1, noteL_snoc]
      refine Ent.trans (Ent.cons _ (Ent.front 3 _ _ rfl)) (Ent.trans (LstB.snoc (rep := resF rep) (a := m (d - 1) r.s) ⟨q.1, q.2, by simp⟩ _) (Ent.cons _ (Ent.trans (Ent.tail _ _) (Ent.cons _ (Ent.cons _ (Ent.nil _))))))
    · refine GC.skip (GN.blk (GN.seq (GC.region (GL.v (.add rfl rfl (i64_in _ (by omega))) rfl (GL.v (.move rfl) rfl (GL.nil (?_)))))))
      refine GN.loop (i + 1, A', c') (by simp only; omega) (by simp only; omega) (Sub.cons rfl (Sub.cons rfl (Sub.cons rfl (Sub.cons (lk_of rfl ?_) (Sub.cons rfl (Sub.cons rfl (Sub.cons rfl (Sub.nil _)))))))) ?_
      · simp only [htk, rlM_snoc, if_neg (show ¬ r.num = num by omega)]
      · simp only [htk, rlM_snoc, if_neg (show ¬ r.num = num by omega)]
        exact Ent.trans (Ent.front 2 _ _ rfl) (Ent.cons _ (Ent.cons _ (Ent.trans (Ent.tail _ _) (Ent.refl _))))
  · have hie : i = rs.length := by omega
    subst hie
    simp only [List.take_length]
    refine GC.exit (GX.seq (GX.loop (GX.blk (GN.seq (GC.seq (GC.region (GL.v (.move rfl) rfl (GL.v (.assign rfl) rfl (GL.nil (GN.seq (GC.ret (?_))))))))))))
    exact GR.one rfl rfl rfl _ rfl (Ent.refl _) ⟨_, _, rfl⟩

theorem List_val {α : Type} {f : Nat} {first captured : List Value} {Fr : HP} {rep : α → List Value → FP} {m : Int → Bs → Res α} {N : Nat} [FnIs Tryz.prog f] (g : Nat) (R : RM) (er : Option (Option Int)) (num : Nat) (hc : R.rs ≠ [] → RdC f first captured Fr rep 8 m N (R.d - 1)) (hN : R.n ≤ mx) (hS : ∀ r, r ∈ R.rs → r.s.length ≤ N) (hn : R.rs.length ≤ 4294967296) (hd : R.rs ≠ [] → 0 ≤ R.d) (hd2 : R.d ≤ 9223372036854775807) (w : World) :
    Tri Tryz.prog 221 [ptr g, .int .i64 (num : Int), .func (.func f) first.toArray captured.toArray] [RdS g R er, Fr] (fun v : Value => v) (fun v => [LstB (resF rep) 80 8 (rlM m (R.d - 1) num R.rs) v, RdS g R (noteL er (rlM m (R.d - 1) num R.rs)), Fr]) (fun v => ∃ A c, v = .slice A (rlM m (R.d - 1) num R.rs).length c) w := by
  refine Tri.rform fun A c hA => ?_
  obtain ⟨unk, d, n, v, rs⟩ := R
  simp only [RM.at] at hn hA hS hN hd hd2 hc ⊢
  obtain ⟨rfl, hA⟩ := hA
  refine tri_of_G 34 Tryz.func221 rfl Tryz.ntmps221 rfl (fun D => ?_)
  refine GC.open ?_
  rintro x hx
  refine GC.seq (GC.region (GL.v (.assign rfl) rfl (GL.nil (GN.seq (GC.seq (GC.region (GL.v (.assign rfl) rfl (GL.nil (GN.seq (GC.seq (GC.seq (GC.region (GL.v (.move rfl) rfl (GL.v (.nilCheck rfl) rfl (GL.v (.fieldAddr rfl) rfl (GL.v (.ld 0 rfl rfl rfl) rfl (GL.v (.lenSl rfl) rfl (GL.v (.move rfl) rfl (GL.nil (GN.seq (GC.block (?_))))))))))))))))))))))
  refine GC.loop (γ := Nat × Option Addr × Nat) (fun g => g.1 ≤ rs.length) (fun q => [(0, ptr g), (1, .int .i64 (num : Int)), (2, .func (.func f) first.toArray captured.toArray), (7, .slice q.2.1 (rlM m (d - 1) num (rs.take q.1)).length q.2.2), (13, .slice A rs.length c), (14, .int .i64 rs.length), (15, .int .i64 (q.1 : Int))])
    (fun q => [LstB (resF rep) 80 8 (rlM m (d - 1) num (rs.take q.1)) (.slice q.2.1 (rlM m (d - 1) num (rs.take q.1)).length q.2.2), RdS g ⟨unk, d, n, .slice A rs.length c, rs⟩ (noteL er (rlM m (d - 1) num (rs.take q.1))), Fr]) (fun q => rs.length - q.1) (0, none, 0) (Nat.zero_le _) (Sub.cons rfl (Sub.cons rfl (Sub.cons rfl (Sub.cons rfl (Sub.cons rfl (Sub.cons rfl (Sub.cons rfl (Sub.nil _)))))))) ?_ ?_
  · exact Ent.trans (Ent.close (Bs := RdS1 g ⟨unk, d, n, .slice A rs.length c, rs⟩ er) (p := RdS2 er) x hx [Fr]) (LstB.nil (resF rep) 80 8 _)
  rintro ⟨i, A', c'⟩ hi
  simp only at hi ⊢
  refine GC.seq (GC.region (GL.v (.lss rfl rfl) rfl (GL.nil (GN.seq (GC.seq (?_))))))
  refine GC.condD rfl (fun hlt => ?_) (fun hlt => ?_)
  · have hl : i < rs.length := by omega
    obtain ⟨r, hr⟩ : ∃ r, rs[i]? = some r := ⟨_, List.getElem?_eq_getElem hl⟩
    have htk : rs.take (i + 1) = rs.take i ++ [r] := by rw [List.take_add_one, hr]; rfl
    have hrl := rlM_len m (d - 1) num (rs.take i)
    rw [List.length_take] at hrl
    obtain ⟨g0, rfl⟩ := hA (by omega)
    refine GC.ent (Ent.front 1 _ _ rfl) ?_
    refine GC.open ?_
    rintro y hy
    refine GC.skip (GN.seq (GC.seq (GC.block (GC.seq (GC.region (GL.v (.indexAddr rfl rfl (by omega) (by omega)) rfl (?_)))))))
    refine GL.v (.ldOwnN 2 (recC r) rfl rfl rfl (fun j v hj => by have := flat_get recC_len rs i r j v hr hj; simpa using this)) rfl ?_
    refine GL.w .alloc rfl (fun b9 _ => GL.w0 (.store 0 rfl rfl rfl rfl rfl rfl rfl) (fun _ _ => GL.nil (GN.seq (GC.seq (GC.region (GL.v (.fieldAddr rfl) rfl (GL.v (.ld 0 rfl rfl rfl) rfl (GL.v (.move rfl) rfl (GL.v (.eql rfl rfl) rfl (GL.nil (GN.seq (?_))))))))))))
    refine GC.ent (Ent.front 3 _ _ rfl) ?_
    refine GC.ent (Ent.front 3 _ _ rfl) ?_
    refine GC.ent (Ent.front 3 _ _ rfl) ?_
    refine GC.ent (Ent.close (Bs := RdS1 g ⟨unk, d, n, .slice (some ⟨g0, 0, none⟩) rs.length c, rs⟩ (noteL er (rlM m (d - 1) num (rs.take i)))) (p := RdS2 _) y hy _) ?_
    refine GC.condD rfl (fun he => ?_) (fun he => ?_)
    · refine GC.region (GL.v (.move rfl) rfl (GL.v (.move rfl) rfl (GL.v (.move rfl) rfl (GL.v (.fieldAddr rfl) rfl (GL.v (.ld 1 rfl rfl rfl) rfl (GL.v (.move rfl) rfl (?_)))))))
      refine GL.ent (Ent.front 3 _ _ rfl) ?_
      refine GL.ent (Ent.front 1 _ _ rfl) ?_
      refine GL.call (As := [_, _]) rfl (fun w hst => part_val g ⟨unk, d, n, _, rs⟩ _ num (mkS r.s) (hc (by intro e; rw [e] at hl; simp at hl)) (by rw [mkS_size]; exact hS r (List.mem_of_getElem? hr)) hN (hd (by intro e; rw [e] at hl; simp at hl)) hd2 w) rfl (fun cs hcs => ?_)
      obtain ⟨hl1, hone⟩ := hcs
      refine GL.w (.bone cs rfl rfl rfl rfl rfl (by rw [hl1]; rfl)) rfl (fun bP _ => ?_)
      refine GL.ent (Ent.front 5 _ _ rfl) ?_
      refine GL.open ?_
      rintro css _
      refine GL.w (.append 0 2 cs rfl rfl rfl rfl rfl (lkN_args0 cs 0) (by rw [hl1]; rfl) hone rfl rfl rfl (by omega)) rfl (fun q _ => ?_)
      refine GL.v (.assign rfl) rfl (GL.nil (GN.blk (GN.seq (GC.region (GL.v (.add rfl rfl (i64_in _ (by omega))) rfl (GL.v (.move rfl) rfl (GL.nil (?_))))))))
      have e1 : rlM m (d - 1) num (rs.take (i + 1)) = rlM m (d - 1) num (rs.take i) ++ [m (d - 1) r.s] := by rw [htk, rlM_snoc, if_pos (by omega)]
      have e2 : (rlM m (d - 1) num (rs.take i)).length + 1 = (rlM m (d - 1) num (rs.take (i + 1))).length := by rw [e1]; simp
      refine GN.loop (i + 1, q.1, q.2) (by simp only; omega) (by simp only; omega) (Sub.cons rfl (Sub.cons rfl (Sub.cons rfl (Sub.cons (lk_of rfl (by rw [e2])) (Sub.cons rfl (Sub.cons rfl (Sub.cons rfl (Sub.nil _)))))))) ?_
      simp only [← e2]
      rw [e1, noteL_snoc]
      refine Ent.trans (Ent.cons _ (Ent.front 3 _ _ rfl)) (Ent.trans (LstB.snoc (rep := resF rep) (a := m (d - 1) r.s) ⟨q.1, q.2, by simp⟩ _) (Ent.cons _ (Ent.trans (Ent.tail _ _) (Ent.cons _ (Ent.cons _ (Ent.nil _))))))
    · refine GC.skip (GN.blk (GN.seq (GC.region (GL.v (.add rfl rfl (i64_in _ (by omega))) rfl (GL.v (.move rfl) rfl (GL.nil (?_)))))))
      refine GN.loop (i + 1, A', c') (by simp only; omega) (by simp only; omega) (Sub.cons rfl (Sub.cons rfl (Sub.cons rfl (Sub.cons (lk_of rfl ?_) (Sub.cons rfl (Sub.cons rfl (Sub.cons rfl (Sub.nil _)))))))) ?_
      · simp only [htk, rlM_snoc, if_neg (show ¬ r.num = num by omega)]
      · simp only [htk, rlM_snoc, if_neg (show ¬ r.num = num by omega)]
        exact Ent.trans (Ent.front 2 _ _ rfl) (Ent.cons _ (Ent.cons _ (Ent.trans (Ent.tail _ _) (Ent.refl _))))
  · have hie : i = rs.length := by omega
    subst hie
    simp only [List.take_length]
    refine GC.exit (GX.seq (GX.loop (GX.blk (GN.seq (GC.seq (GC.region (GL.v (.move rfl) rfl (GL.v (.assign rfl) rfl (GL.nil (GN.seq (GC.ret (?_))))))))))))
    exact GR.one rfl rfl rfl _ rfl (Ent.refl _) ⟨_, _, rfl⟩

end Go.Proofs.Gw
/- Package msg's reader: parts that may lack. Printed by wip/tools/gen6.py. -/
set_option linter.unusedVariables false
set_option linter.unusedSimpArgs false
namespace Go.Proofs.Gw
open Go Go.RowKit Go.IntWalk Go.Proofs.Gm

theorem Part_buck {α : Type} {f : Nat} {first captured : List Value} {Fr : HP} {rep : α → List Value → FP} {m : Int → Bs → Res α} {N : Nat} [FnIs Tryz.prog f] (g : Nat) (R : RM) (er : Option (Option Int)) (num : Nat) (hc : R.rs ≠ [] → RdC f first captured Fr rep 3 m N (R.d - 1)) (hN : R.n ≤ mx) (hJ : (joinM num R.rs).length ≤ N) (hNm : N ≤ mx) (hn : R.rs.length ≤ 4294967296) (hd : R.rs ≠ [] → 0 ≤ R.d) (hd2 : R.d ≤ 9223372036854775807) (w : World) :
    Tri Tryz.prog 53 [ptr g, .int .i64 (num : Int), .func (.func f) first.toArray captured.toArray] [RdS g R er, Fr] (fun cs : List Value => .tuple #[.agg cs.toArray, .bool (decide (ofNum R.rs num ≠ []))]) (fun cs => [RdS g R (note er (errP (partM m (R.d - 1) num R.rs))), (partF rep [.int .i32 0, .slice none 0 0, .string emptyS] (partM m (R.d - 1) num R.rs) cs).hp, Fr]) (fun cs => cs.length = 3 ∧ cs.all one = true) w := by
  unfold mx at hNm
  refine Tri.rform fun A c hA => ?_
  obtain ⟨unk, d, n, v, rs⟩ := R
  simp only [RM.at] at hn hA hJ hN hd hd2 hc ⊢
  obtain ⟨rfl, hA⟩ := hA
  refine tri_of_G 38 Tryz.func53 rfl Tryz.ntmps53 rfl (fun D => ?_)
  refine GC.open ?_
  rintro x hx
  refine GC.seq (GC.region (GL.w .alloc rfl (fun b6 _ => GL.v (.assign rfl) rfl (GL.nil (GN.seq (GC.seq (GC.region (GL.w .alloc rfl (fun b8 _ => GL.nil (GN.seq (GC.seq (GC.region (GL.v (.assign rfl) rfl (GL.nil (GN.seq (GC.seq (GC.seq (GC.region (GL.v (.move rfl) rfl (GL.v (.nilCheck rfl) rfl (GL.v (.fieldAddr rfl) rfl (GL.v (.ld 2 rfl rfl rfl) rfl (GL.v (.lenSl rfl) rfl (GL.v (.move rfl) rfl (GL.nil (GN.seq (GC.block (?_))))))))))))))))))))))))))))
  refine GC.loop (γ := Nat) (fun i => i ≤ rs.length) (fun i => [(0, ptr g), (1, .int .i64 (num : Int)), (2, .func (.func f) first.toArray captured.toArray), (6, ptr b6), (8, ptr b8), (9, .bool (decide (ofNum (rs.take i) num ≠ []))), (16, .slice A rs.length c), (17, .int .i64 rs.length), (18, .int .i64 (i : Int))])
    (fun i => [Bld 135 b8 (joinM num (rs.take i)), RdS g ⟨unk, d, n, .slice A rs.length c, rs⟩ er, Fr, Blk b6 29 3 (args0 0 [.int .i32 0, .slice none 0 0, .string emptyS])]) (fun i => rs.length - i) 0 (Nat.zero_le _) (Sub.cons rfl (Sub.cons rfl (Sub.cons rfl (Sub.cons rfl (Sub.cons rfl (Sub.cons rfl (Sub.cons rfl (Sub.cons rfl (Sub.cons rfl (Sub.nil _)))))))))) ?_ ?_
  · refine Ent.trans (Ent.trans (Ent.blk (u' := [(0, .pointer none), (1, .slice none 0 0)]) (by repeat (first | exact Sub.nil _ | refine Sub.cons rfl ?_)) (Ent.refl _)) (Bld.zero 135 b8 _)) (Ent.cons _ ?_)
    refine Ent.trans (Ent.front 3 _ _ rfl) (Ent.trans (Ent.front 3 _ _ rfl) (Ent.trans (Ent.front 3 _ _ rfl) (Ent.trans (Ent.close (Bs := RdS1 g ⟨unk, d, n, .slice A rs.length c, rs⟩ er) (p := RdS2 er) x hx _) (Ent.cons _ ?_))))
    exact Ent.trans (Ent.swap _ _ _) (Ent.refl _)
  intro i hi
  refine GC.seq (GC.region (GL.v (.lss rfl rfl) rfl (GL.nil (GN.seq (GC.seq (?_))))))
  refine GC.condD rfl (fun hlt => ?_) (fun hlt => ?_)
  · have hl : i < rs.length := by omega
    obtain ⟨r, hr⟩ : ∃ r, rs[i]? = some r := ⟨_, List.getElem?_eq_getElem hl⟩
    have htk : rs.take (i + 1) = rs.take i ++ [r] := by rw [List.take_add_one, hr]; rfl
    have hjl := joinM_take num rs (i + 1)
    obtain ⟨g0, rfl⟩ := hA (by omega)
    refine GC.ent (Ent.front 1 _ _ rfl) ?_
    refine GC.open ?_
    rintro y hy
    refine GC.skip (GN.seq (GC.seq (GC.block (GC.seq (GC.region (GL.v (.indexAddr rfl rfl (by omega) (by omega)) rfl (?_)))))))
    refine GL.v (.ldOwnN 2 (recC r) rfl rfl rfl (fun j v hj => by have := flat_get recC_len rs i r j v hr hj; simpa using this)) rfl ?_
    refine GL.w .alloc rfl (fun b11 _ => GL.w0 (.store 0 rfl rfl rfl rfl rfl rfl rfl) (fun _ _ => GL.nil (GN.seq (GC.seq (GC.region (GL.v (.fieldAddr rfl) rfl (GL.v (.ld 0 rfl rfl rfl) rfl (GL.v (.move rfl) rfl (GL.v (.eql rfl rfl) rfl (GL.nil (GN.seq (?_))))))))))))
    refine GC.ent (Ent.front 3 _ _ rfl) ?_
    refine GC.ent (Ent.front 3 _ _ rfl) ?_
    refine GC.ent (Ent.front 3 _ _ rfl) ?_
    refine GC.ent (Ent.close (Bs := RdS1 g ⟨unk, d, n, .slice (some ⟨g0, 0, none⟩) rs.length c, rs⟩ er) (p := RdS2 _) y hy _) ?_
    refine GC.condD rfl (fun he => ?_) (fun he => ?_)
    · rw [htk, joinM_snoc, if_pos (by omega), List.length_append] at hjl
      refine GC.seq (GC.region (GL.v (.assign rfl) rfl (GL.nil (GN.seq (GC.region (GL.v (.fieldAddr rfl) rfl (GL.v (.ld 1 rfl rfl rfl) rfl (?_))))))))
      refine GL.ent (Ent.front 2 _ _ rfl) ?_
      refine GL.call (As := [_]) rfl (fun w hst => WriteString_tri _ b8 liesB _ (mkS r.s) w (by rw [mkS_size]; omega)) rfl (fun _ _ => ?_)
      refine GL.nil (GN.blk (GN.seq (GC.region (GL.v (.add rfl rfl (i64_in _ (by omega))) rfl (GL.v (.move rfl) rfl (GL.nil (?_)))))))
      refine GN.loop (i + 1) (by omega) (by omega) (Sub.cons rfl (Sub.cons rfl (Sub.cons rfl (Sub.cons rfl (Sub.cons rfl (Sub.cons (lk_of rfl ?_) (Sub.cons rfl (Sub.cons rfl (Sub.cons rfl (Sub.nil _)))))))))) ?_
      · rw [htk, ofNum_snoc, if_pos (by omega), decide_eq_true (by simp)]
      · rw [htk, joinM_snoc, if_pos (by omega)]
        exact Ent.cons _ (Ent.cons _ (Ent.tail _ _))
    · refine GC.skip (GN.blk (GN.seq (GC.region (GL.v (.add rfl rfl (i64_in _ (by omega))) rfl (GL.v (.move rfl) rfl (GL.nil (?_)))))))
      refine GN.loop (i + 1) (by omega) (by omega) (Sub.cons rfl (Sub.cons rfl (Sub.cons rfl (Sub.cons rfl (Sub.cons rfl (Sub.cons (lk_of rfl ?_) (Sub.cons rfl (Sub.cons rfl (Sub.cons rfl (Sub.nil _)))))))))) ?_
      · rw [htk, ofNum_snoc, if_neg (by omega)]
      · rw [htk, joinM_snoc, if_neg (by omega)]
        exact Ent.trans (Ent.front 2 _ _ rfl) (Ent.cons _ (Ent.cons _ (Ent.tail _ _)))
  · have hie : i = rs.length := by omega
    subst hie
    simp only [List.take_length]
    by_cases h0 : ofNum rs num = []
    · have e1 : decide (ofNum rs num ≠ []) = false := decide_eq_false (fun h => h h0)
      have e2 : partM m (d - 1) num rs = none := if_pos h0
      have e3 : note er (errP (none : Option (Res α))) = er := by cases er <;> rfl
      rw [e1, e2, e3]
      refine GC.exit (GX.seq (GX.loop (GX.blk (GN.seq (GC.seq (GC.seq (GC.region (GL.v (.move rfl) rfl (GL.v (.not rfl) rfl (GL.nil (GN.seq (?_))))))))))))
      refine GC.cond rfl (fun _ => ?_) (fun h => Bool.noConfusion (h.symm.trans (rfl) : false = true))
      refine GC.seq (GC.region (GL.w .alloc rfl (fun b12 _ => GL.nil (GN.seq (GC.seq (GC.region (GL.v (.ldN 0 [_, _, _] rfl rfl rfl ⟨rfl, rfl, rfl, trivial⟩) rfl (GL.w0 (.store 4 rfl rfl rfl rfl rfl rfl rfl) (fun _ _ => GL.v (.assign rfl) rfl (GL.nil (GN.seq (GC.ret (?_)))))))))))))
      refine GR.cell2 4 [.int .i32 0, .slice none 0 0, .string emptyS] rfl rfl rfl rfl rfl rfl ⟨rfl, rfl, rfl, trivial⟩ [.int .i32 0, .slice none 0 0, .string emptyS] rfl ?_ ⟨rfl, rfl⟩
      exact Ent.trans (Ent.front 2 _ _ rfl) (Ent.cons _ (Ent.trans (Ent.front 2 _ _ rfl) (Ent.trans (Ent.cons _ (Ent.nil _)) (Ent.intro (A := (zeroF [.int .i32 0, .slice none 0 0, .string emptyS] [.int .i32 0, .slice none 0 0, .string emptyS]).hp) (fun _ => rfl) _))))
    · have e1 : decide (ofNum rs num ≠ []) = true := decide_eq_true h0
      have e2 : partM m (d - 1) num rs = some (m (d - 1) (joinM num rs)) := if_neg h0
      rw [e1, e2]
      have hne : rs ≠ [] := fun e => h0 (by rw [e]; rfl)
      refine GC.exit (GX.seq (GX.loop (GX.blk (GN.seq (GC.seq (GC.seq (GC.region (GL.v (.move rfl) rfl (GL.v (.not rfl) rfl (GL.nil (GN.seq (?_))))))))))))
      refine GC.cond rfl (fun h => Bool.noConfusion (h.symm.trans (rfl) : true = false)) (fun _ => ?_)
      refine GC.skip (GN.seq (GC.seq (GC.region (GL.v (.move rfl) rfl (GL.v (.move rfl) rfl (?_))))))
      refine GL.call (As := [_]) rfl (fun w hst => String_tri _ b8 _ w) rfl (fun _ _ => ?_)
      refine GL.v (.move rfl) rfl (?_)
      refine GL.call (As := [_, _]) rfl (fun w hst => part_buck g ⟨unk, d, n, _, rs⟩ _ num (mkS (joinM num rs)) (hc hne) (by rw [mkS_size]; exact hJ) hN (hd hne) hd2 w) rfl (fun cs hcs => ?_)
      obtain ⟨hl, h1⟩ := hcs
      refine GL.w0 (.store 3 rfl rfl rfl rfl (by rw [hl]; rfl) rfl h1) (fun _ _ => GL.v (.assign rfl) rfl (GL.nil (GN.seq (GC.ret (?_)))))
      exact GR.cell2 3 cs rfl rfl rfl rfl rfl (by rw [hl]; rfl) (lkN_stU _ _ _) cs rfl (Ent.cons _ (Ent.cons _ (Ent.cons _ (Ent.nil _)))) ⟨hl, h1⟩

theorem Part_val {α : Type} {f : Nat} {first captured : List Value} {Fr : HP} {rep : α → List Value → FP} {m : Int → Bs → Res α} {N : Nat} [FnIs Tryz.prog f] (g : Nat) (R : RM) (er : Option (Option Int)) (num : Nat) (hc : R.rs ≠ [] → RdC f first captured Fr rep 8 m N (R.d - 1)) (hN : R.n ≤ mx) (hJ : (joinM num R.rs).length ≤ N) (hNm : N ≤ mx) (hn : R.rs.length ≤ 4294967296) (hd : R.rs ≠ [] → 0 ≤ R.d) (hd2 : R.d ≤ 9223372036854775807) (w : World) :
    Tri Tryz.prog 126 [ptr g, .int .i64 (num : Int), .func (.func f) first.toArray captured.toArray] [RdS g R er, Fr] (fun cs : List Value => .tuple #[.agg cs.toArray, .bool (decide (ofNum R.rs num ≠ []))]) (fun cs => [RdS g R (note er (errP (partM m (R.d - 1) num R.rs))), (partF rep [.int .i64 0, .string emptyS, .bool false, .int .u64 0, .slice none 0 0, .slice none 0 0, .string emptyS, .string emptyS] (partM m (R.d - 1) num R.rs) cs).hp, Fr]) (fun cs => cs.length = 8 ∧ cs.all one = true) w := by
  unfold mx at hNm
  refine Tri.rform fun A c hA => ?_
  obtain ⟨unk, d, n, v, rs⟩ := R
  simp only [RM.at] at hn hA hJ hN hd hd2 hc ⊢
  obtain ⟨rfl, hA⟩ := hA
  refine tri_of_G 38 Tryz.func126 rfl Tryz.ntmps126 rfl (fun D => ?_)
  refine GC.open ?_
  rintro x hx
  refine GC.seq (GC.region (GL.w .alloc rfl (fun b6 _ => GL.v (.assign rfl) rfl (GL.nil (GN.seq (GC.seq (GC.region (GL.w .alloc rfl (fun b8 _ => GL.nil (GN.seq (GC.seq (GC.region (GL.v (.assign rfl) rfl (GL.nil (GN.seq (GC.seq (GC.seq (GC.region (GL.v (.move rfl) rfl (GL.v (.nilCheck rfl) rfl (GL.v (.fieldAddr rfl) rfl (GL.v (.ld 2 rfl rfl rfl) rfl (GL.v (.lenSl rfl) rfl (GL.v (.move rfl) rfl (GL.nil (GN.seq (GC.block (?_))))))))))))))))))))))))))))
  refine GC.loop (γ := Nat) (fun i => i ≤ rs.length) (fun i => [(0, ptr g), (1, .int .i64 (num : Int)), (2, .func (.func f) first.toArray captured.toArray), (6, ptr b6), (8, ptr b8), (9, .bool (decide (ofNum (rs.take i) num ≠ []))), (16, .slice A rs.length c), (17, .int .i64 rs.length), (18, .int .i64 (i : Int))])
    (fun i => [Bld 135 b8 (joinM num (rs.take i)), RdS g ⟨unk, d, n, .slice A rs.length c, rs⟩ er, Fr, Blk b6 80 8 (args0 0 [.int .i64 0, .string emptyS, .bool false, .int .u64 0, .slice none 0 0, .slice none 0 0, .string emptyS, .string emptyS])]) (fun i => rs.length - i) 0 (Nat.zero_le _) (Sub.cons rfl (Sub.cons rfl (Sub.cons rfl (Sub.cons rfl (Sub.cons rfl (Sub.cons rfl (Sub.cons rfl (Sub.cons rfl (Sub.cons rfl (Sub.nil _)))))))))) ?_ ?_
  · refine Ent.trans (Ent.trans (Ent.blk (u' := [(0, .pointer none), (1, .slice none 0 0)]) (by repeat (first | exact Sub.nil _ | refine Sub.cons rfl ?_)) (Ent.refl _)) (Bld.zero 135 b8 _)) (Ent.cons _ ?_)
    refine Ent.trans (Ent.front 3 _ _ rfl) (Ent.trans (Ent.front 3 _ _ rfl) (Ent.trans (Ent.front 3 _ _ rfl) (Ent.trans (Ent.close (Bs := RdS1 g ⟨unk, d, n, .slice A rs.length c, rs⟩ er) (p := RdS2 er) x hx _) (Ent.cons _ ?_))))
    exact Ent.trans (Ent.swap _ _ _) (Ent.refl _)
  intro i hi
  refine GC.seq (GC.region (GL.v (.lss rfl rfl) rfl (GL.nil (GN.seq (GC.seq (?_))))))
  refine GC.condD rfl (fun hlt => ?_) (fun hlt => ?_)
  · have hl : i < rs.length := by omega
    obtain ⟨r, hr⟩ : ∃ r, rs[i]? = some r := ⟨_, List.getElem?_eq_getElem hl⟩
    have htk : rs.take (i + 1) = rs.take i ++ [r] := by rw [List.take_add_one, hr]; rfl
    have hjl := joinM_take num rs (i + 1)
    obtain ⟨g0, rfl⟩ := hA (by omega)
    refine GC.ent (Ent.front 1 _ _ rfl) ?_
    refine GC.open ?_
    rintro y hy
    refine GC.skip (GN.seq (GC.seq (GC.block (GC.seq (GC.region (GL.v (.indexAddr rfl rfl (by omega) (by omega)) rfl (?_)))))))
    refine GL.v (.ldOwnN 2 (recC r) rfl rfl rfl (fun j v hj => by have := flat_get recC_len rs i r j v hr hj; simpa using this)) rfl ?_
    refine GL.w .alloc rfl (fun b11 _ => GL.w0 (.store 0 rfl rfl rfl rfl rfl rfl rfl) (fun _ _ => GL.nil (GN.seq (GC.seq (GC.region (GL.v (.fieldAddr rfl) rfl (GL.v (.ld 0 rfl rfl rfl) rfl (GL.v (.move rfl) rfl (GL.v (.eql rfl rfl) rfl (GL.nil (GN.seq (?_))))))))))))
    refine GC.ent (Ent.front 3 _ _ rfl) ?_
    refine GC.ent (Ent.front 3 _ _ rfl) ?_
    refine GC.ent (Ent.front 3 _ _ rfl) ?_
    refine GC.ent (Ent.close (Bs := RdS1 g ⟨unk, d, n, .slice (some ⟨g0, 0, none⟩) rs.length c, rs⟩ er) (p := RdS2 _) y hy _) ?_
    refine GC.condD rfl (fun he => ?_) (fun he => ?_)
    · rw [htk, joinM_snoc, if_pos (by omega), List.length_append] at hjl
      refine GC.seq (GC.region (GL.v (.assign rfl) rfl (GL.nil (GN.seq (GC.region (GL.v (.fieldAddr rfl) rfl (GL.v (.ld 1 rfl rfl rfl) rfl (?_))))))))
      refine GL.ent (Ent.front 2 _ _ rfl) ?_
      refine GL.call (As := [_]) rfl (fun w hst => WriteString_tri _ b8 liesB _ (mkS r.s) w (by rw [mkS_size]; omega)) rfl (fun _ _ => ?_)
      refine GL.nil (GN.blk (GN.seq (GC.region (GL.v (.add rfl rfl (i64_in _ (by omega))) rfl (GL.v (.move rfl) rfl (GL.nil (?_)))))))
      refine GN.loop (i + 1) (by omega) (by omega) (Sub.cons rfl (Sub.cons rfl (Sub.cons rfl (Sub.cons rfl (Sub.cons rfl (Sub.cons (lk_of rfl ?_) (Sub.cons rfl (Sub.cons rfl (Sub.cons rfl (Sub.nil _)))))))))) ?_
      · rw [htk, ofNum_snoc, if_pos (by omega), decide_eq_true (by simp)]
      · rw [htk, joinM_snoc, if_pos (by omega)]
        exact Ent.cons _ (Ent.cons _ (Ent.tail _ _))
    · refine GC.skip (GN.blk (GN.seq (GC.region (GL.v (.add rfl rfl (i64_in _ (by omega))) rfl (GL.v (.move rfl) rfl (GL.nil (?_)))))))
      refine GN.loop (i + 1) (by omega) (by omega) (Sub.cons rfl (Sub.cons rfl (Sub.cons rfl (Sub.cons rfl (Sub.cons rfl (Sub.cons (lk_of rfl ?_) (Sub.cons rfl (Sub.cons rfl (Sub.cons rfl (Sub.nil _)))))))))) ?_
      · rw [htk, ofNum_snoc, if_neg (by omega)]
      · rw [htk, joinM_snoc, if_neg (by omega)]
        exact Ent.trans (Ent.front 2 _ _ rfl) (Ent.cons _ (Ent.cons _ (Ent.tail _ _)))
  · have hie : i = rs.length := by omega
    subst hie
    simp only [List.take_length]
    by_cases h0 : ofNum rs num = []
    · have e1 : decide (ofNum rs num ≠ []) = false := decide_eq_false (fun h => h h0)
      have e2 : partM m (d - 1) num rs = none := if_pos h0
      have e3 : note er (errP (none : Option (Res α))) = er := by cases er <;> rfl
      rw [e1, e2, e3]
      refine GC.exit (GX.seq (GX.loop (GX.blk (GN.seq (GC.seq (GC.seq (GC.region (GL.v (.move rfl) rfl (GL.v (.not rfl) rfl (GL.nil (GN.seq (?_))))))))))))
      refine GC.cond rfl (fun _ => ?_) (fun h => Bool.noConfusion (h.symm.trans (rfl) : false = true))
      refine GC.seq (GC.region (GL.w .alloc rfl (fun b12 _ => GL.nil (GN.seq (GC.seq (GC.region (GL.v (.ldN 0 [_, _, _, _, _, _, _, _] rfl rfl rfl ⟨rfl, rfl, rfl, rfl, rfl, rfl, rfl, rfl, trivial⟩) rfl (GL.w0 (.store 4 rfl rfl rfl rfl rfl rfl rfl) (fun _ _ => GL.v (.assign rfl) rfl (GL.nil (GN.seq (GC.ret (?_)))))))))))))
      refine GR.cell2 4 [.int .i64 0, .string emptyS, .bool false, .int .u64 0, .slice none 0 0, .slice none 0 0, .string emptyS, .string emptyS] rfl rfl rfl rfl rfl rfl ⟨rfl, rfl, rfl, rfl, rfl, rfl, rfl, rfl, trivial⟩ [.int .i64 0, .string emptyS, .bool false, .int .u64 0, .slice none 0 0, .slice none 0 0, .string emptyS, .string emptyS] rfl ?_ ⟨rfl, rfl⟩
      exact Ent.trans (Ent.front 2 _ _ rfl) (Ent.cons _ (Ent.trans (Ent.front 2 _ _ rfl) (Ent.trans (Ent.cons _ (Ent.nil _)) (Ent.intro (A := (zeroF [.int .i64 0, .string emptyS, .bool false, .int .u64 0, .slice none 0 0, .slice none 0 0, .string emptyS, .string emptyS] [.int .i64 0, .string emptyS, .bool false, .int .u64 0, .slice none 0 0, .slice none 0 0, .string emptyS, .string emptyS]).hp) (fun _ => rfl) _))))
    · have e1 : decide (ofNum rs num ≠ []) = true := decide_eq_true h0
      have e2 : partM m (d - 1) num rs = some (m (d - 1) (joinM num rs)) := if_neg h0
      rw [e1, e2]
      have hne : rs ≠ [] := fun e => h0 (by rw [e]; rfl)
      refine GC.exit (GX.seq (GX.loop (GX.blk (GN.seq (GC.seq (GC.seq (GC.region (GL.v (.move rfl) rfl (GL.v (.not rfl) rfl (GL.nil (GN.seq (?_))))))))))))
      refine GC.cond rfl (fun h => Bool.noConfusion (h.symm.trans (rfl) : true = false)) (fun _ => ?_)
      refine GC.skip (GN.seq (GC.seq (GC.region (GL.v (.move rfl) rfl (GL.v (.move rfl) rfl (?_))))))
      refine GL.call (As := [_]) rfl (fun w hst => String_tri _ b8 _ w) rfl (fun _ _ => ?_)
      refine GL.v (.move rfl) rfl (?_)
      refine GL.call (As := [_, _]) rfl (fun w hst => part_val g ⟨unk, d, n, _, rs⟩ _ num (mkS (joinM num rs)) (hc hne) (by rw [mkS_size]; exact hJ) hN (hd hne) hd2 w) rfl (fun cs hcs => ?_)
      obtain ⟨hl, h1⟩ := hcs
      refine GL.w0 (.store 3 rfl rfl rfl rfl (by rw [hl]; rfl) rfl h1) (fun _ _ => GL.v (.assign rfl) rfl (GL.nil (GN.seq (GC.ret (?_)))))
      exact GR.cell2 3 cs rfl rfl rfl rfl rfl (by rw [hl]; rfl) (lkN_stU _ _ _) cs rfl (Ent.cons _ (Ent.cons _ (Ent.cons _ (Ent.nil _)))) ⟨hl, h1⟩

end Go.Proofs.Gw
/- Package msg's reader: one of several. -/
set_option linter.unusedVariables false
set_option linter.unusedSimpArgs false
namespace Go.Proofs.Gw
open Go Go.RowKit Go.IntWalk Go.Proofs.Gm

theorem lk_args0_of : ∀ (vs : List Value) (o i : Nat) (v : Value), vs[i]? = some v → lk (args0 o vs) (o + i) = some v
  | [], o, i, v, h => by simp at h
  | x :: vs, o, 0, v, h => by simp at h; subst h; simp only [args0, lk_cons, Nat.add_zero, if_true]
  | x :: vs, o, i + 1, v, h => by
    have := lk_args0_of vs (o + 1) i v (by simpa using h)
    simp only [args0, lk_cons]; rw [if_neg (by omega), show o + (i + 1) = o + 1 + i by omega]; exact this
abbrev numsC (ns : List Nat) : List Value := ns.map fun (n : Nat) => Value.int .i64 (n : Int)

theorem Index_tri (b T : Nat) (ns : List Nat) (e : Nat) (w : World) (hn : ns.length ≤ 1000) :
    Tri Tryz.prog 237 [.slice (some ⟨b, 0, none⟩) ns.length ns.length, .int .i64 (e : Int)] [Blk b T ns.length (args0 0 (numsC ns))] (fun k : Int => .int .i64 k) (fun _ => [Blk b T ns.length (args0 0 (numsC ns))]) (fun k => decide (k ≥ 0) = ns.contains e) w := by
  refine tri_of_G 19 Tryz.func237 rfl Tryz.ntmps237 rfl (fun D => ?_)
  refine GC.seq (GC.region (GL.v (.assign rfl) rfl (GL.nil (GN.seq (GC.seq (GC.seq (GC.region (GL.v (.move rfl) rfl (GL.v (.lenSl rfl) rfl (GL.v (.move rfl) rfl (GL.nil (GN.seq (GC.block (?_))))))))))))))
  refine GC.loop (γ := Nat) (fun i => i ≤ ns.length ∧ (ns.take i).contains e = false) (fun i => [(0, .slice (some ⟨b, 0, none⟩) ns.length ns.length), (1, .int .i64 (e : Int)), (7, .int .i64 ns.length), (8, .int .i64 (i : Int))]) (fun _ => [Blk b T ns.length (args0 0 (numsC ns))]) (fun i => ns.length - i) 0 ⟨Nat.zero_le _, rfl⟩ (Sub.cons rfl (Sub.cons rfl (Sub.cons rfl (Sub.cons rfl (Sub.nil _))))) (Ent.refl _) ?_
  rintro i ⟨hi, hc⟩
  refine GC.seq (GC.region (GL.v (.lss rfl rfl) rfl (GL.nil (GN.seq (GC.seq (?_))))))
  refine GC.condD rfl (fun hlt => ?_) (fun hlt => ?_)
  · have hl : i < ns.length := by omega
    obtain ⟨n, hr⟩ : ∃ n, ns[i]? = some n := ⟨_, List.getElem?_eq_getElem hl⟩
    have htk : ns.take (i + 1) = ns.take i ++ [n] := by rw [List.take_add_one, hr]; rfl
    have hv : (numsC ns)[i]? = some (.int .i64 (n : Int)) := by simp [numsC, hr]
    refine GC.skip (GN.seq (GC.seq (GC.block (GC.seq (GC.region (GL.v (.move rfl) rfl (GL.v (.assign rfl) rfl (GL.nil (GN.seq (GC.seq (GC.region (GL.v (.move rfl) rfl (GL.v (.move rfl) rfl (GL.v (.move rfl) rfl (GL.v (.indexAddr rfl rfl (by omega) (by omega)) rfl (?_))))))))))))))))
    refine GL.v (.ld 0 (v := .int .i64 (n : Int)) rfl rfl (by have := lk_args0_of _ 0 i _ hv; simpa using this)) rfl ?_
    refine GL.v (.eql rfl rfl) rfl (GL.nil (GN.seq (?_)))
    refine GC.condD rfl (fun he => ?_) (fun he => ?_)
    · refine GC.seq (GC.region (GL.v (.move rfl) rfl (GL.v (.assign rfl) rfl (GL.nil (GN.seq (GC.ret (?_)))))))
      refine GR.one rfl rfl rfl (i : Int) rfl (Ent.refl _) ?_
      have : e ∈ ns := List.mem_of_getElem? (i := i) (by rw [hr]; congr 1; omega)
      rw [List.contains_iff_mem.2 this, decide_eq_true (by omega)]
    · refine GC.skip (GN.blk (GN.seq (GC.region (GL.v (.add rfl rfl (i64_in _ (by omega))) rfl (GL.v (.move rfl) rfl (GL.nil (?_)))))))
      refine GN.loop (i + 1) ⟨by omega, ?_⟩ (by omega) (Sub.cons rfl (Sub.cons rfl (Sub.cons rfl (Sub.cons rfl (Sub.nil _))))) (Ent.refl _)
      rw [htk]
      simp only [List.contains_eq_mem, List.mem_append, List.mem_singleton, decide_eq_false_iff_not, not_or] at hc ⊢
      exact ⟨hc, by omega⟩
  · have : i = ns.length := by omega
    subst this
    rw [List.take_length] at hc
    refine GC.exit (GX.seq (GX.loop (GX.blk (GN.seq (GC.seq (GC.region (GL.v (.assign rfl) rfl (GL.nil (GN.seq (GC.ret (?_)))))))))))
    refine GR.one rfl rfl rfl (-1) rfl (Ent.refl _) ?_
    rw [hc]; rfl
theorem Contains_tri (b T : Nat) (ns : List Nat) (e : Nat) (w : World) (hn : ns.length ≤ 1000) :
    Tri Tryz.prog 216 [.slice (some ⟨b, 0, none⟩) ns.length ns.length, .int .i64 (e : Int)] [Blk b T ns.length (args0 0 (numsC ns))] (fun _ : Unit => .bool (ns.contains e)) (fun _ => [Blk b T ns.length (args0 0 (numsC ns))]) (fun _ => True) w := by
  refine tri_of_G 9 Tryz.func216 rfl Tryz.ntmps216 rfl (fun D => ?_)
  refine GC.seq (GC.region (GL.v (.assign rfl) rfl (GL.nil (GN.seq (GC.seq (GC.region (GL.v (.move rfl) rfl (GL.v (.move rfl) rfl (?_)))))))))
  refine GL.call (As := [_]) rfl (fun w hst => Index_tri b T ns e w hn) rfl (fun k hk => ?_)
  rw [← hk]
  refine GL.v (.geq rfl rfl) rfl (GL.v (.assign rfl) rfl (GL.nil (GN.seq (GC.ret (?_)))))
  exact GR.one rfl rfl rfl () rfl (Ent.refl _) trivial

end Go.Proofs.Gw
/- Package msg's reader: one of several. -/
set_option linter.unusedVariables false
set_option linter.unusedSimpArgs false
namespace Go.Proofs.Gw
open Go Go.RowKit Go.IntWalk Go.Proofs.Gm

abbrev strC (l : List Bs) : List Value := l.map fun (x : Bs) => Value.string (mkS x)
abbrev oneC (o : OneR) (v : Value) : List Value := [.int .i64 (o.num : Int), .int .u64 (o.n : Int), .string (mkS o.s), v]
abbrev OwnT (v : Value) (l : List Bs) : HP := Own 9 1 v l.length (strC l)
theorem oneM_len (nums : List Nat) : ∀ (rs : List Rec), (oneM nums rs).all.length ≤ rs.length := by
  intro rs
  suffices h : ∀ (l : List Rec) (o : OneR), (l.foldl (oneS nums) o).all.length ≤ o.all.length + l.length by
    have := h rs one0; simpa [oneM, one0] using this
  intro l
  induction l with
  | nil => intro o; simp
  | cons r l ih =>
    intro o
    rw [List.foldl_cons]
    refine Nat.le_trans (ih _) ?_
    have : (oneS nums o r).all.length ≤ o.all.length + 1 := by
      unfold oneS; repeat' split
      all_goals simp
    simp only [List.length_cons]; omega

theorem One_tri (g : Nat) (R : RM) (er : Option (Option Int)) (b T : Nat) (ns : List Nat) (hns : ns.length ≤ 1000) (hn : R.rs.length ≤ 4294967296) (w : World) :
    Tri Tryz.prog 184 [ptr g, .slice (some ⟨b, 0, none⟩) ns.length ns.length] [RdS g R er, Blk b T ns.length (args0 0 (numsC ns))] (fun v : Value => .agg (oneC (oneM ns R.rs) v).toArray) (fun v => [OwnT v (oneM ns R.rs).all, RdS g R er]) (fun v => ∃ A c, v = .slice A (oneM ns R.rs).all.length c) w := by
  refine Tri.rform fun A c hA => ?_
  obtain ⟨unk, d, n, v, rs⟩ := R
  simp only [RM.at] at hn hA ⊢
  obtain ⟨rfl, hA⟩ := hA
  refine tri_of_G 45 Tryz.func184 rfl Tryz.ntmps184 rfl (fun D => ?_)
  refine GC.open ?_
  rintro x hx
  refine GC.seq (GC.region (GL.w .alloc rfl (fun b4 _ => GL.nil (GN.seq (GC.seq (GC.region (GL.w .alloc rfl (fun b5 _ => GL.nil (GN.seq (GC.seq (GC.seq (GC.region (GL.v (.move rfl) rfl (GL.v (.nilCheck rfl) rfl (GL.v (.fieldAddr rfl) rfl (GL.v (.ld 2 rfl rfl rfl) rfl (GL.v (.lenSl rfl) rfl (GL.v (.move rfl) rfl (GL.nil (GN.seq (GC.block (?_))))))))))))))))))))))
  refine GC.loop (γ := Nat × Option Addr × Nat) (fun q => q.1 ≤ rs.length) (fun q => [(0, ptr g), (1, .slice (some ⟨b, 0, none⟩) ns.length ns.length), (4, ptr b4), (5, ptr b5), (11, .slice A rs.length c), (12, .int .i64 rs.length), (13, .int .i64 (q.1 : Int))])
    (fun q => [Blk b5 230 4 (args0 0 (oneC (oneM ns (rs.take q.1)) (.slice q.2.1 (oneM ns (rs.take q.1)).all.length q.2.2))), OwnT (.slice q.2.1 (oneM ns (rs.take q.1)).all.length q.2.2) (oneM ns (rs.take q.1)).all, RdS g ⟨unk, d, n, .slice A rs.length c, rs⟩ er, Blk b T ns.length (args0 0 (numsC ns)), Blk b4 230 4 []]) (fun q => rs.length - q.1) (0, none, 0) (Nat.zero_le _) (Sub.cons rfl (Sub.cons rfl (Sub.cons rfl (Sub.cons rfl (Sub.cons rfl (Sub.cons rfl (Sub.cons rfl (Sub.nil _)))))))) ?_ ?_
  · refine Ent.trans (Ent.blk (by repeat (first | exact Sub.nil _ | refine Sub.cons rfl ?_)) (Ent.refl _)) (Ent.cons _ ?_)
    refine Ent.trans (Ent.trans (Ent.front 3 _ _ rfl) (Ent.trans (Ent.front 3 _ _ rfl) (Ent.trans (Ent.front 3 _ _ rfl) (Ent.close (Bs := RdS1 g ⟨unk, d, n, .slice A rs.length c, rs⟩ er) (p := RdS2 er) x hx _)))) ?_
    exact Ent.trans (Ent.trans (Ent.cons _ (Ent.trans (Ent.swap _ _ _) (Ent.cons _ (Ent.blk (u' := []) (by repeat (first | exact Sub.nil _ | refine Sub.cons rfl ?_)) (Ent.refl _))))) (Ent.refl _)) (Ent.intro (A := OwnT (.slice none 0 0) []) (fun w => Own.nil _ _ w) _)
  rintro ⟨i, A', c'⟩ hi
  simp only at hi ⊢
  refine GC.seq (GC.region (GL.v (.lss rfl rfl) rfl (GL.nil (GN.seq (GC.seq (?_))))))
  refine GC.condD rfl (fun hlt => ?_) (fun hlt => ?_)
  · have hl : i < rs.length := by omega
    obtain ⟨r, hr⟩ : ∃ r, rs[i]? = some r := ⟨_, List.getElem?_eq_getElem hl⟩
    have htk : rs.take (i + 1) = rs.take i ++ [r] := by rw [List.take_add_one, hr]; rfl
    have hol := oneM_len ns (rs.take i)
    rw [List.length_take] at hol
    obtain ⟨g0, rfl⟩ := hA (by omega)
    have hstep : oneM ns (rs.take (i + 1)) = oneS ns (oneM ns (rs.take i)) r := by rw [htk, oneM_snoc]
    generalize ho : oneM ns (rs.take i) = o at hol hstep ⊢
    refine GC.ent (Ent.front 2 _ _ rfl) ?_
    refine GC.open ?_
    rintro y hy
    refine GC.skip (GN.seq (GC.seq (GC.block (GC.seq (GC.region (GL.v (.indexAddr rfl rfl (by omega) (by omega)) rfl (?_)))))))
    refine GL.v (.ldOwnN 2 (recC r) rfl rfl rfl (fun j v hj => by have := flat_get recC_len rs i r j v hr hj; simpa using this)) rfl ?_
    refine GL.w .alloc rfl (fun b7 _ => GL.w0 (.store 0 rfl rfl rfl rfl rfl rfl rfl) (fun _ _ => GL.nil (GN.seq (GC.seq (GC.seq (GC.region (GL.v (.move rfl) rfl (GL.v (.fieldAddr rfl) rfl (GL.v (.ld 0 rfl rfl rfl) rfl (?_))))))))))
    refine GL.ent (Ent.front 3 _ _ rfl) ?_
    refine GL.ent (Ent.front 3 _ _ rfl) ?_
    refine GL.ent (Ent.front 3 _ _ rfl) ?_
    refine GL.ent (Ent.close (Bs := RdS1 g ⟨unk, d, n, .slice (some ⟨g0, 0, none⟩) rs.length c, rs⟩ er) (p := RdS2 _) y hy _) ?_
    refine GL.ent (Ent.front 4 _ _ rfl) ?_
    refine GL.call (As := [_]) rfl (fun w hst => Contains_tri b T ns r.num w hns) rfl (fun _ _ => ?_)
    refine GL.v (.not rfl) rfl (GL.nil (GN.seq (?_)))
    by_cases hct : ns.contains r.num = true
    · refine GC.cond rfl (fun h => Bool.noConfusion (h.symm.trans ((by rw [hct]; rfl)) : true = false)) (fun _ => ?_)
      refine GC.skip (GN.seq (GC.seq (GC.seq (GC.region (GL.v (.fieldAddr rfl) rfl (GL.v (.ld 2 rfl rfl rfl) rfl (GL.v (.fieldAddr rfl) rfl (GL.v (.ld 3 rfl rfl rfl) rfl (GL.v (.neq rfl rfl) rfl (GL.nil (GN.seq (?_))))))))))))
      refine GC.condD rfl (fun hne => ?_) (fun hne => ?_)
      · have ho' : oneS ns o r = ⟨r.num, r.n, r.s, [r.s]⟩ := by unfold oneS; rw [if_pos hct, if_neg (by omega)]
        refine GC.region (GL.v (.fieldAddr rfl) rfl (GL.v (.ld 2 rfl rfl rfl) rfl (GL.v (.build (cs := [_, _, _, _]) rfl rfl) rfl (GL.w0 (.store 3 rfl rfl rfl rfl rfl rfl rfl) (fun _ _ => GL.nil (GN.seq (GC.seq (?_))))))))
        refine GC.draw ([Blk b7 169 5 [(0, .int .i64 (r.num : Int)), (1, .int .i64 (r.kind : Int)), (2, .int .u64 (r.n : Int)), (3, .string (mkS r.s)), (4, .string (mkS r.raw))]]) (m := 8) rfl (by repeat (first | exact Ent.nil _ | (with_reducible exact Ent.refl _) | refine Ent.blk (by repeat (first | exact Sub.nil _ | refine Sub.cons rfl ?_)) ?_ | refine Ent.cons _ ?_ | refine Ent.trans (Ent.tail _ _) ?_)) ?_
        refine GA.take 0 rfl (by kernel_rfl) (by kernel_rfl) (by kernel_rfl) (.fieldAddr rfl) rfl (GA.take 1 rfl (by kernel_rfl) (by kernel_rfl) (by kernel_rfl) (.ld 0 rfl rfl rfl) rfl (GA.take 2 rfl (by kernel_rfl) (by kernel_rfl) (by kernel_rfl) (.fieldAddr rfl) rfl (GA.take 3 rfl (by kernel_rfl) (by kernel_rfl) (by kernel_rfl) (.ld 0 rfl rfl rfl) rfl (GA.take 4 rfl (by kernel_rfl) (by kernel_rfl) (by kernel_rfl) (.fieldAddr rfl) rfl (?_)))))
        refine GA.one 5 (by kernel_rfl) (GAi.w0 rfl (.store 3 rfl rfl rfl rfl rfl rfl rfl) (fun _ _ => (by repeat (first | exact Ent.nil _ | (with_reducible exact Ent.refl _) | refine Ent.blk (by repeat (first | exact Sub.nil _ | refine Sub.cons rfl ?_)) ?_ | refine Ent.cons _ ?_ | refine Ent.trans (Ent.tail _ _) ?_))) (fun _ _ => ?_))
        refine GA.take 6 rfl (by kernel_rfl) (by kernel_rfl) (by kernel_rfl) (.fieldAddr rfl) rfl (?_)
        refine GA.one 7 (by kernel_rfl) (GAi.w0 rfl (.store 3 rfl rfl rfl rfl rfl rfl rfl) (fun _ _ => (by repeat (first | exact Ent.nil _ | (with_reducible exact Ent.refl _) | refine Ent.blk (by repeat (first | exact Sub.nil _ | refine Sub.cons rfl ?_)) ?_ | refine Ent.cons _ ?_ | refine Ent.trans (Ent.tail _ _) ?_))) (fun _ _ => ?_))
        refine GA.done (by kernel_rfl) (?_)
        refine GN.ent (Ent.intro (A := OwnT (.slice none 0 0) []) (fun w => Own.nil _ _ w) _) ?_
        refine GN.seq (GC.region (GL.v (.fieldAddr rfl) rfl (GL.v (.ld 4 rfl rfl rfl) rfl (GL.v (.fieldAddr rfl) rfl (GL.v (.ld 3 rfl rfl rfl) rfl (?_))))))
        refine GL.w (.bone [.string (mkS r.s)] rfl rfl rfl rfl rfl rfl) rfl (fun bV _ => ?_)
        refine GL.w (.append 1 0 [.string (mkS r.s)] rfl rfl rfl rfl rfl ⟨rfl, trivial⟩ rfl rfl rfl rfl rfl (by simp)) rfl (fun q _ => ?_)
        refine GL.v (.fieldAddr rfl) rfl (GL.w0 (.store 5 rfl rfl rfl rfl rfl rfl rfl) (fun _ _ => GL.nil (GN.blk (GN.seq (GC.region (GL.v (.add rfl rfl (i64_in _ (by omega))) rfl (GL.v (.move rfl) rfl (GL.nil (?_)))))))))
        refine GN.loop (i + 1, q.1, q.2) (by simp only; omega) (by simp only; omega) (Sub.cons rfl (Sub.cons rfl (Sub.cons rfl (Sub.cons rfl (Sub.cons rfl (Sub.cons rfl (Sub.cons rfl (Sub.nil _)))))))) ?_
        simp only [hstep, ho']
        exact (Ent.trans (Ent.front 5 _ _ rfl) (Ent.blk (by repeat (first | exact Sub.nil _ | refine Sub.cons rfl ?_)) (Ent.trans (Ent.front 1 _ _ rfl) (Ent.cons _ (Ent.trans (Ent.front 2 _ _ rfl) (Ent.cons _ (Ent.trans (Ent.front 1 _ _ rfl) (Ent.cons _ (Ent.trans (Ent.front 3 _ _ rfl) (Ent.cons _ (Ent.nil _)))))))))))
      · have hnum : r.num = o.num := by omega
        have ho' : oneS ns o r = ⟨o.num, r.n, r.s, o.all ++ [r.s]⟩ := by unfold oneS; rw [if_pos hct, if_pos hnum, hnum]
        refine GC.skip (GN.seq (GC.seq (?_)))
        refine GC.draw ([Blk b7 169 5 [(0, .int .i64 (r.num : Int)), (1, .int .i64 (r.kind : Int)), (2, .int .u64 (r.n : Int)), (3, .string (mkS r.s)), (4, .string (mkS r.raw))]]) (m := 8) rfl (by repeat (first | exact Ent.nil _ | (with_reducible exact Ent.refl _) | refine Ent.blk (by repeat (first | exact Sub.nil _ | refine Sub.cons rfl ?_)) ?_ | refine Ent.cons _ ?_ | refine Ent.trans (Ent.tail _ _) ?_)) ?_
        refine GA.take 0 rfl (by kernel_rfl) (by kernel_rfl) (by kernel_rfl) (.fieldAddr rfl) rfl (GA.take 1 rfl (by kernel_rfl) (by kernel_rfl) (by kernel_rfl) (.ld 0 rfl rfl rfl) rfl (GA.take 2 rfl (by kernel_rfl) (by kernel_rfl) (by kernel_rfl) (.fieldAddr rfl) rfl (GA.take 3 rfl (by kernel_rfl) (by kernel_rfl) (by kernel_rfl) (.ld 0 rfl rfl rfl) rfl (GA.take 4 rfl (by kernel_rfl) (by kernel_rfl) (by kernel_rfl) (.fieldAddr rfl) rfl (?_)))))
        refine GA.one 5 (by kernel_rfl) (GAi.w0 rfl (.store 3 rfl rfl rfl rfl rfl rfl rfl) (fun _ _ => (by repeat (first | exact Ent.nil _ | (with_reducible exact Ent.refl _) | refine Ent.blk (by repeat (first | exact Sub.nil _ | refine Sub.cons rfl ?_)) ?_ | refine Ent.cons _ ?_ | refine Ent.trans (Ent.tail _ _) ?_))) (fun _ _ => ?_))
        refine GA.take 6 rfl (by kernel_rfl) (by kernel_rfl) (by kernel_rfl) (.fieldAddr rfl) rfl (?_)
        refine GA.one 7 (by kernel_rfl) (GAi.w0 rfl (.store 3 rfl rfl rfl rfl rfl rfl rfl) (fun _ _ => (by repeat (first | exact Ent.nil _ | (with_reducible exact Ent.refl _) | refine Ent.blk (by repeat (first | exact Sub.nil _ | refine Sub.cons rfl ?_)) ?_ | refine Ent.cons _ ?_ | refine Ent.trans (Ent.tail _ _) ?_))) (fun _ _ => ?_))
        refine GA.done (by kernel_rfl) (?_)
        refine GN.seq (GC.region (GL.v (.fieldAddr rfl) rfl (GL.v (.ld 3 rfl rfl rfl) rfl (GL.v (.fieldAddr rfl) rfl (GL.v (.ld 2 rfl rfl rfl) rfl (?_))))))
        refine GL.w (.bone [.string (mkS r.s)] rfl rfl rfl rfl rfl rfl) rfl (fun bV _ => ?_)
        refine GL.w (.append 5 0 [.string (mkS r.s)] rfl rfl rfl rfl rfl ⟨rfl, trivial⟩ rfl rfl rfl rfl rfl (by omega)) rfl (fun q _ => ?_)
        refine GL.v (.fieldAddr rfl) rfl (GL.w0 (.store 4 rfl rfl rfl rfl rfl rfl rfl) (fun _ _ => GL.nil (GN.blk (GN.seq (GC.region (GL.v (.add rfl rfl (i64_in _ (by omega))) rfl (GL.v (.move rfl) rfl (GL.nil (?_)))))))))
        have e1 : o.all.length + 1 = (o.all ++ [r.s]).length := by simp
        have e2 : strC o.all ++ [Value.string (mkS r.s)] = strC (o.all ++ [r.s]) := by simp [strC]
        rw [e1, e2]
        refine GN.loop (i + 1, q.1, q.2) (by simp only; omega) (by simp only; omega) (Sub.cons rfl (Sub.cons rfl (Sub.cons rfl (Sub.cons rfl (Sub.cons rfl (Sub.cons rfl (Sub.cons rfl (Sub.nil _)))))))) ?_
        simp only [hstep, ho']
        exact (Ent.trans (Ent.front 4 _ _ rfl) (Ent.blk (by repeat (first | exact Sub.nil _ | refine Sub.cons rfl ?_)) (Ent.trans (Ent.front 4 _ _ rfl) (Ent.cons _ (Ent.trans (Ent.front 2 _ _ rfl) (Ent.cons _ (Ent.trans (Ent.front 1 _ _ rfl) (Ent.cons _ (Ent.trans (Ent.front 2 _ _ rfl) (Ent.cons _ (Ent.nil _)))))))))))
    · have ho' : oneS ns o r = o := by unfold oneS; rw [if_neg hct]
      refine GC.cond rfl (fun _ => ?_) (fun h => Bool.noConfusion (h.symm.trans ((by simpa using hct)) : false = true))
      refine GC.exit (GX.seq (GX.blk (GN.seq (GC.region (GL.v (.add rfl rfl (i64_in _ (by omega))) rfl (GL.v (.move rfl) rfl (GL.nil (?_))))))))
      refine GN.loop (i + 1, A', c') (by simp only; omega) (by simp only; omega) (Sub.cons rfl (Sub.cons rfl (Sub.cons rfl (Sub.cons rfl (Sub.cons rfl (Sub.cons rfl (Sub.cons rfl (Sub.nil _)))))))) ?_
      simp only [hstep, ho']
      exact (Ent.trans (Ent.front 3 _ _ rfl) (Ent.cons _ (Ent.trans (Ent.front 3 _ _ rfl) (Ent.cons _ (Ent.trans (Ent.front 1 _ _ rfl) (Ent.cons _ ((Ent.cons _ (Ent.trans (Ent.front 1 _ _ rfl) (Ent.cons _ (Ent.nil _)))))))))))
  · have hie : i = rs.length := by omega
    subst hie
    simp only [List.take_length]
    refine GC.exit (GX.seq (GX.loop (GX.blk (GN.seq (GC.seq (GC.region (GL.v (.ldN 0 [_, _, _, _] rfl rfl rfl ⟨rfl, rfl, rfl, rfl, trivial⟩) rfl (GL.w0 (.store 4 rfl rfl rfl rfl rfl rfl rfl) (fun _ _ => GL.nil (GN.seq (GC.ret (?_))))))))))))
    exact GR.cell1 4 (oneC (oneM ns rs) (.slice A' (oneM ns rs).all.length c')) rfl rfl rfl rfl rfl ⟨rfl, rfl, rfl, rfl, trivial⟩ (.slice A' (oneM ns rs).all.length c') rfl (Ent.trans (Ent.front 1 _ _ rfl) (Ent.cons _ (Ent.trans (Ent.front 1 _ _ rfl) (Ent.cons _ (Ent.nil _))))) ⟨_, _, rfl⟩

end Go.Proofs.Gw
/- Package msg's reader: a number of two kinds; packed numbers. -/
set_option linter.unusedVariables false
set_option linter.unusedSimpArgs false
namespace Go.Proofs.Gw
open Go Go.RowKit Go.IntWalk Go.Proofs.Gm

def numK (a b : Nat) (rs : List Rec) : Nat := if (oneM [a, b] rs).num = a then 1 else if (oneM [a, b] rs).num = b then 2 else 0
def numN (a b : Nat) (rs : List Rec) : Nat := if (oneM [a, b] rs).num = a then (oneM [a, b] rs).n else if (oneM [a, b] rs).num = b then (oneM [a, b] rs).n else 0
theorem Number_tri (g : Nat) (R : RM) (er : Option (Option Int)) (a b : Nat) (hn : R.rs.length ≤ 4294967296) (w : World) :
    Tri Tryz.prog 132 [ptr g, .int .i64 (a : Int), .int .i64 (b : Int)] [RdS g R er] (fun _ : Unit => .tuple #[.int .i64 (numK a b R.rs : Int), .int .u64 (numN a b R.rs : Int)]) (fun _ => [RdS g R er]) (fun _ => True) w := by
  refine tri_of_G 26 Tryz.func132 rfl Tryz.ntmps132 rfl (fun D => ?_)
  refine GC.seq (GC.region (GL.v (.assign rfl) rfl (GL.v (.assign rfl) rfl (GL.nil (GN.seq (GC.seq (GC.region (GL.v (.move rfl) rfl (GL.v (.move rfl) rfl (GL.v (.move rfl) rfl (?_)))))))))))
  refine GL.w (.bslice [.int .i64 (a : Int), .int .i64 (b : Int)] rfl rfl rfl rfl rfl) rfl (fun bM _ => ?_)
  refine GL.ent (Ent.front 1 _ _ rfl) ?_
  refine GL.call (As := [_, _]) rfl (fun w hst => One_tri g R er bM 3 [a, b] (by simp) hn w) rfl (fun v hv => ?_)
  obtain ⟨A, c, rfl⟩ := hv
  unfold numK numN
  generalize oneM [a, b] R.rs = o
  refine GL.w .alloc rfl (fun b8 _ => GL.w0 (.store 0 rfl rfl rfl rfl rfl rfl rfl) (fun _ _ => GL.nil (GN.seq (GC.seq (GC.seq (GC.region (GL.v (.fieldAddr rfl) rfl (GL.v (.ld 0 rfl rfl rfl) rfl (GL.nil (GN.seq (GC.block (GC.seq (GC.region (GL.v (.move rfl) rfl (GL.v (.eql rfl rfl) rfl (GL.v (.assign rfl) rfl (GL.nil (GN.seq (?_)))))))))))))))))))
  refine GC.condD rfl (fun h1 => ?_) (fun h1 => ?_)
  · simp only [if_pos (show o.num = a by omega)]
    refine GC.seq (?_)
    refine GC.draw ([Blk b8 230 4 (args0 0 (oneC o (.slice A o.all.length c)))]) (m := 4) rfl (by repeat (first | exact Ent.nil _ | (with_reducible exact Ent.refl _) | refine Ent.blk (by repeat (first | exact Sub.nil _ | refine Sub.cons rfl ?_)) ?_ | refine Ent.cons _ ?_ | refine Ent.trans (Ent.tail _ _) ?_)) ?_
    refine GA.take 0 rfl (by kernel_rfl) (by kernel_rfl) (by kernel_rfl) (.fieldAddr rfl) rfl (GA.take 1 rfl (by kernel_rfl) (by kernel_rfl) (by kernel_rfl) (.ld 0 rfl rfl rfl) rfl (GA.take 2 rfl (by kernel_rfl) (by kernel_rfl) (by kernel_rfl) (.assign rfl) rfl (GA.take 3 rfl (by kernel_rfl) (by kernel_rfl) (by kernel_rfl) (.assign rfl) rfl (GA.done (by kernel_rfl) (?_)))))
    refine GN.seq (GC.ret (?_))
    exact GR.two rfl rfl rfl rfl () rfl (Ent.trans (Ent.front 2 _ _ rfl) (Ent.cons _ (Ent.nil _))) trivial
  · simp only [if_neg (show ¬ o.num = a by omega)]
    refine GC.seq (GC.region (GL.v (.move rfl) rfl (GL.v (.eql rfl rfl) rfl (GL.v (.assign rfl) rfl (GL.nil (GN.seq (?_)))))))
    refine GC.condD rfl (fun h2 => ?_) (fun h2 => ?_)
    · simp only [if_pos (show o.num = b by omega)]
      refine GC.seq (?_)
      refine GC.draw ([Blk b8 230 4 (args0 0 (oneC o (.slice A o.all.length c)))]) (m := 4) rfl (by repeat (first | exact Ent.nil _ | (with_reducible exact Ent.refl _) | refine Ent.blk (by repeat (first | exact Sub.nil _ | refine Sub.cons rfl ?_)) ?_ | refine Ent.cons _ ?_ | refine Ent.trans (Ent.tail _ _) ?_)) ?_
      refine GA.take 0 rfl (by kernel_rfl) (by kernel_rfl) (by kernel_rfl) (.fieldAddr rfl) rfl (GA.take 1 rfl (by kernel_rfl) (by kernel_rfl) (by kernel_rfl) (.ld 0 rfl rfl rfl) rfl (GA.take 2 rfl (by kernel_rfl) (by kernel_rfl) (by kernel_rfl) (.assign rfl) rfl (GA.take 3 rfl (by kernel_rfl) (by kernel_rfl) (by kernel_rfl) (.assign rfl) rfl (GA.done (by kernel_rfl) (?_)))))
      refine GN.seq (GC.ret (?_))
      exact GR.two rfl rfl rfl rfl () rfl (Ent.trans (Ent.front 2 _ _ rfl) (Ent.cons _ (Ent.nil _))) trivial
    · simp only [if_neg (show ¬ o.num = b by omega)]
      refine GC.skip (GN.blk (GN.seq (GC.seq (GC.region (GL.v (.assign rfl) rfl (GL.v (.assign rfl) rfl (GL.nil (GN.seq (GC.ret (?_))))))))))
      exact GR.two rfl rfl rfl rfl () rfl (Ent.trans (Ent.front 2 _ _ rfl) (Ent.cons _ (Ent.nil _))) trivial

/-- Varints, one behind the other. -/
def varsM (l : Bs) : Except Int (List Nat) :=
  if l = [] then .ok [] else
  match h : vget l with
  | .error c => .error c
  | .ok (n, k) => match varsM (l.drop k) with
    | .error c => .error c
    | .ok ns => .ok (n :: ns)
termination_by l.length
decreasing_by have := vget_ok h; simp only [List.length_drop]; omega
def fixsM (l : Bs) : Except Int (List Nat) :=
  if h : l = [] then .ok [] else if h8 : l.length < 8 then .error 1 else
  match fixsM (l.drop 8) with
  | .error c => .error c
  | .ok ns => .ok (le (l.take 8) :: ns)
termination_by l.length
decreasing_by simp only [List.length_drop]; omega
abbrev u64C (l : List Nat) : List Value := l.map fun (n : Nat) => Value.int .u64 (n : Int)
abbrev OwnN (v : Value) (l : List Nat) : HP := Own 24 1 v l.length (u64C l)
theorem varsM_ok {l : Bs} {ns : List Nat} (h : varsM l = .ok ns) : l = [] ∧ ns = [] ∨ ∃ n k ns', vget l = .ok (n, k) ∧ varsM (l.drop k) = .ok ns' ∧ ns = n :: ns' := by
  rw [varsM] at h
  split at h
  · rename_i e; cases h; exact .inl ⟨e, rfl⟩
  · split at h
    · cases h
    · rename_i n k hr
      split at h
      · cases h
      · rename_i ns' hq; cases h; exact .inr ⟨n, k, ns', hr, hq, rfl⟩
theorem varsM_err {l : Bs} {c : Int} (h : varsM l = .error c) : l ≠ [] ∧ (vget l = .error c ∨ ∃ n k, vget l = .ok (n, k) ∧ varsM (l.drop k) = .error c) := by
  rw [varsM] at h
  split at h
  · cases h
  · rename_i hne
    split at h
    · rename_i hr; cases h; exact ⟨hne, .inl hr⟩
    · rename_i n k hr
      split at h
      · rename_i hq; cases h; exact ⟨hne, .inr ⟨n, k, hr, hq⟩⟩
      · cases h

theorem Varints_ok (s : ByteArray) (ns : List Nat) (w : World) (hs : s.size ≤ mx) (hv : varsM (bs s) = .ok ns) :
    Tri Tryz.prog 189 [.string s] [] (fun v : Value => .tuple #[v, .nilIface]) (fun v => [OwnN v ns]) (fun v => ∃ A c, v = .slice A ns.length c) w := by
  have hs' := hs
  unfold mx at hs'
  refine tri_of_G 33 Tryz.func189 rfl Tryz.ntmps189 rfl (fun D => ?_)
  refine GC.seq (GC.region (GL.v (.assign rfl) rfl (GL.v (.assign rfl) rfl (GL.nil (GN.seq (GC.seq (GC.region (GL.v (.assign rfl) rfl (GL.nil (GN.seq (GC.seq (GC.region (GL.v (.move rfl) rfl (GL.v (.build (cs := [_, _, _, _]) rfl rfl) rfl (GL.w (.box rfl rfl) rfl (fun b9 _ => GL.v (.assign rfl) rfl (GL.nil (GN.seq (GC.seq (GC.block (?_)))))))))))))))))))))
  refine GC.loop (γ := Nat × List Nat × List Nat × Option Addr × Nat) (fun g => g.1 ≤ s.size ∧ g.2.1.length ≤ g.1 ∧ varsM ((bs s).drop g.1) = .ok g.2.2.1 ∧ ns = g.2.1 ++ g.2.2.1) (fun g => [(0, .string s), (5, ptr b9), (4, .slice g.2.2.2.1 g.2.1.length g.2.2.2.2)]) (fun g => [RdO b9 s (g.1 : Int) 0, OwnN (.slice g.2.2.2.1 g.2.1.length g.2.2.2.2) g.2.1]) (fun g => s.size - g.1) (0, [], ns, none, 0) ⟨by simp, by simp, by simpa using hv, rfl⟩ (Sub.cons rfl (Sub.cons rfl (Sub.cons rfl (Sub.nil _)))) ?_ ?_
  · exact ((Ent.intro (A := OwnN (.slice none 0 0) []) (fun w => Own.nil _ _ w) _).trans (Ent.swap _ _ _)).trans (Ent.blk (by repeat (first | exact Sub.nil _ | refine Sub.cons rfl ?_)) (Ent.refl _))
  rintro ⟨at_, pre, post, A, cp⟩ ⟨h1, h2, h3, h4⟩
  simp only at h1 h2 h3 h4 ⊢
  have hl : ((bs s).drop at_).length = s.size - at_ := by rw [List.length_drop, bs_length]
  refine GC.seq (GC.seq (GC.region (GL.v (.move rfl) rfl (GL.v (.nilCheck rfl) rfl (GL.v (.fieldAddr rfl) rfl (GL.v (.ld 0 rfl rfl rfl) rfl (GL.v (.move rfl) rfl (GL.v (.lenS rfl) rfl (GL.v (.lss rfl rfl) rfl (GL.nil (GN.seq (?_))))))))))))
  refine GC.condD rfl (fun hlt => ?_) (fun hlt => ?_)
  · rcases varsM_ok h3 with ⟨e1, _⟩ | ⟨n, k, post', hr, hp, rfl⟩
    · exfalso
      rw [e1] at hl; simp at hl; omega
    · have hk := vget_ok hr
      refine GC.skip (GN.seq (GC.block (GC.seq (GC.region (GL.v (.move rfl) rfl (?_))))))
      refine GL.call (As := [_]) rfl (fun w hst => rvarint_ok _ s at_ n k 0 w hs h1 hr) rfl (fun _ _ => ?_)
      refine GL.v (.assign rfl) rfl (GL.nil (GN.seq (GC.seq (GC.seq (GC.region (GL.v (.move rfl) rfl (GL.v (.nilCheck rfl) rfl (GL.v (.fieldAddr rfl) rfl (GL.v (.ld 0 rfl rfl rfl) rfl (GL.v (.neqNil rfl (by first | exact .inl rfl | exact .inr ⟨_, _, rfl⟩ | assumption)) rfl (GL.nil (GN.seq (?_)))))))))))))
      refine GC.cond rfl (fun h => Bool.noConfusion (h.symm.trans (rfl) : true = false)) (fun _ => ?_)
      refine GC.skip (GN.seq (GC.region (GL.v (.move rfl) rfl (GL.v (.move rfl) rfl (?_)))))
      refine GL.w (.bone [.int .u64 (n : Int)] rfl rfl rfl rfl rfl rfl) rfl (fun bP _ => ?_)
      refine GL.w (.append 2 0 [.int .u64 (n : Int)] rfl rfl rfl rfl rfl ⟨rfl, trivial⟩ rfl rfl rfl rfl rfl (by omega)) rfl (fun q _ => ?_)
      refine GL.v (.assign rfl) rfl (GL.nil (GN.blk (?_)))
      have e1 : pre.length + 1 = (pre ++ [n]).length := by simp
      have e2 : u64C pre ++ [Value.int .u64 (n : Int)] = u64C (pre ++ [n]) := by simp [u64C]
      have e4 : (bs s).drop (at_ + k) = ((bs s).drop at_).drop k := by rw [List.drop_drop]
      rw [e1, e2]
      refine GN.loop (at_ + k, pre ++ [n], post', q.1, q.2) ⟨by simp only; omega, by simp only [List.length_append, List.length_singleton]; omega, by simp only [e4]; exact hp, by simp only; rw [h4]; simp⟩ (by simp only; omega) (Sub.cons rfl (Sub.cons rfl (Sub.cons rfl (Sub.nil _)))) (Ent.trans (Ent.front 1 _ _ rfl) (Ent.cons _ (Ent.trans (Ent.front 1 _ _ rfl) (Ent.cons _ (Ent.nil _)))))
  · refine GC.exit (GX.seq (GX.loop (GX.blk (GN.seq (GC.seq (GC.region (GL.v (.move rfl) rfl (GL.v (.assign rfl) rfl (GL.v (.assign rfl) rfl (GL.nil (GN.seq (GC.ret (?_)))))))))))))
    rcases varsM_ok h3 with ⟨e1, rfl⟩ | ⟨n, k, post', hr, hp, rfl⟩
    · rw [List.append_nil] at h4
      subst h4
      refine GR.two rfl rfl rfl rfl _ rfl (Ent.trans (Ent.tail _ _) (Ent.refl _)) ⟨_, _, rfl⟩
    · exfalso
      have hk := vget_ok hr
      omega

theorem Varints_err (s : ByteArray) (c : Int) (w : World) (hs : s.size ≤ mx) (hv : varsM (bs s) = .error c) :
    Tri Tryz.prog 189 [.string s] [] (fun v : Value => .tuple #[.slice none 0 0, v]) (fun v => [ErG v s.size none]) (fun v => ∃ t u, v = .iface t u) w := by
  have hs' := hs
  unfold mx at hs'
  refine tri_of_G 33 Tryz.func189 rfl Tryz.ntmps189 rfl (fun D => ?_)
  refine GC.seq (GC.region (GL.v (.assign rfl) rfl (GL.v (.assign rfl) rfl (GL.nil (GN.seq (GC.seq (GC.region (GL.v (.assign rfl) rfl (GL.nil (GN.seq (GC.seq (GC.region (GL.v (.move rfl) rfl (GL.v (.build (cs := [_, _, _, _]) rfl rfl) rfl (GL.w (.box rfl rfl) rfl (fun b9 _ => GL.v (.assign rfl) rfl (GL.nil (GN.seq (GC.seq (GC.block (?_)))))))))))))))))))))
  refine GC.loop (γ := Nat × List Nat × Option Addr × Nat) (fun g => g.1 ≤ s.size ∧ g.2.1.length ≤ g.1 ∧ varsM ((bs s).drop g.1) = .error c) (fun g => [(0, .string s), (5, ptr b9), (4, .slice g.2.2.1 g.2.1.length g.2.2.2)]) (fun g => [RdO b9 s (g.1 : Int) 0, OwnN (.slice g.2.2.1 g.2.1.length g.2.2.2) g.2.1]) (fun g => s.size - g.1) (0, [], none, 0) ⟨by simp, by simp, by simpa using hv⟩ (Sub.cons rfl (Sub.cons rfl (Sub.cons rfl (Sub.nil _)))) ?_ ?_
  · exact ((Ent.intro (A := OwnN (.slice none 0 0) []) (fun w => Own.nil _ _ w) _).trans (Ent.swap _ _ _)).trans (Ent.blk (by repeat (first | exact Sub.nil _ | refine Sub.cons rfl ?_)) (Ent.refl _))
  rintro ⟨at_, pre, A, cp⟩ ⟨h1, h2, h3⟩
  simp only at h1 h2 h3 ⊢
  have hl : ((bs s).drop at_).length = s.size - at_ := by rw [List.length_drop, bs_length]
  obtain ⟨hne, h3'⟩ := varsM_err h3
  refine GC.seq (GC.seq (GC.region (GL.v (.move rfl) rfl (GL.v (.nilCheck rfl) rfl (GL.v (.fieldAddr rfl) rfl (GL.v (.ld 0 rfl rfl rfl) rfl (GL.v (.move rfl) rfl (GL.v (.lenS rfl) rfl (GL.v (.lss rfl rfl) rfl (GL.nil (GN.seq (?_))))))))))))
  refine GC.condD rfl (fun hlt => ?_) (fun hlt => ?_)
  · rcases h3' with hr | ⟨n, k, hr, hp⟩
    · refine GC.skip (GN.seq (GC.block (GC.seq (GC.region (GL.v (.move rfl) rfl (?_))))))
      refine GL.call (As := [_]) rfl (fun w hst => rvarint_err _ s at_ c 0 w hs h1 hr) rfl (fun _ _ => ?_)
      refine GL.open ?_
      rintro ⟨at2, u, q⟩ ⟨h0, h1', h2', t, u', rfl⟩
      refine GL.v (.assign rfl) rfl (GL.nil (GN.seq (GC.seq (GC.seq (GC.region (GL.v (.move rfl) rfl (GL.v (.nilCheck rfl) rfl (GL.v (.fieldAddr rfl) rfl (GL.v (.ld 0 rfl rfl rfl) rfl (GL.v (.neqNil rfl (by first | exact .inl rfl | exact .inr ⟨_, _, rfl⟩ | assumption)) rfl (GL.nil (GN.seq (?_)))))))))))))
      refine GC.cond rfl (fun _ => ?_) (fun h => Bool.noConfusion (h.symm.trans (rfl) : false = true))
      refine GC.seq (?_)
      refine GC.draw _ (m := 6) rfl (Ent.refl _) ?_
      refine GA.take 0 rfl (by kernel_rfl) (by kernel_rfl) (by kernel_rfl) (.move rfl) rfl (GA.take 1 rfl (by kernel_rfl) (by kernel_rfl) (by kernel_rfl) (.nilCheck rfl) rfl (GA.take 2 rfl (by kernel_rfl) (by kernel_rfl) (by kernel_rfl) (.fieldAddr rfl) rfl (GA.take 3 rfl (by kernel_rfl) (by kernel_rfl) (by kernel_rfl) (.ld 0 rfl rfl rfl) rfl (GA.take 4 rfl (by kernel_rfl) (by kernel_rfl) (by kernel_rfl) (.assign rfl) rfl (GA.take 5 rfl (by kernel_rfl) (by kernel_rfl) (by kernel_rfl) (.assign rfl) rfl (GA.done (by kernel_rfl) (?_)))))))
      refine GN.seq (GC.ret (?_))
      exact GR.two rfl rfl rfl rfl (.iface t u') rfl (Ent.trans (Ent.trans (Ent.front 1 _ _ rfl) (Ent.cons _ (Ent.nil _))) (Ent.close (Bs := ErG1 (.iface t u')) (p := ErG2 s.size none) ((q : Int), .code c) ⟨by simp only; omega, by simp only at h2' ⊢; omega, good_vget hr, fun _ h => by cases h⟩ [])) ⟨_, _, rfl⟩
    · have hk := vget_ok hr
      refine GC.skip (GN.seq (GC.block (GC.seq (GC.region (GL.v (.move rfl) rfl (?_))))))
      refine GL.call (As := [_]) rfl (fun w hst => rvarint_ok _ s at_ n k 0 w hs h1 hr) rfl (fun _ _ => ?_)
      refine GL.v (.assign rfl) rfl (GL.nil (GN.seq (GC.seq (GC.seq (GC.region (GL.v (.move rfl) rfl (GL.v (.nilCheck rfl) rfl (GL.v (.fieldAddr rfl) rfl (GL.v (.ld 0 rfl rfl rfl) rfl (GL.v (.neqNil rfl (by first | exact .inl rfl | exact .inr ⟨_, _, rfl⟩ | assumption)) rfl (GL.nil (GN.seq (?_)))))))))))))
      refine GC.cond rfl (fun h => Bool.noConfusion (h.symm.trans (rfl) : true = false)) (fun _ => ?_)
      refine GC.skip (GN.seq (GC.region (GL.v (.move rfl) rfl (GL.v (.move rfl) rfl (?_)))))
      refine GL.w (.bone [.int .u64 (n : Int)] rfl rfl rfl rfl rfl rfl) rfl (fun bP _ => ?_)
      refine GL.w (.append 2 0 [.int .u64 (n : Int)] rfl rfl rfl rfl rfl ⟨rfl, trivial⟩ rfl rfl rfl rfl rfl (by omega)) rfl (fun q _ => ?_)
      refine GL.v (.assign rfl) rfl (GL.nil (GN.blk (?_)))
      have e1 : pre.length + 1 = (pre ++ [n]).length := by simp
      have e2 : u64C pre ++ [Value.int .u64 (n : Int)] = u64C (pre ++ [n]) := by simp [u64C]
      have e4 : (bs s).drop (at_ + k) = ((bs s).drop at_).drop k := by rw [List.drop_drop]
      rw [e1, e2]
      refine GN.loop (at_ + k, pre ++ [n], q.1, q.2) ⟨by simp only; omega, by simp only [List.length_append, List.length_singleton]; omega, by simp only [e4]; exact hp⟩ (by simp only; omega) (Sub.cons rfl (Sub.cons rfl (Sub.cons rfl (Sub.nil _)))) (Ent.trans (Ent.front 1 _ _ rfl) (Ent.cons _ (Ent.trans (Ent.front 1 _ _ rfl) (Ent.cons _ (Ent.nil _)))))
  · exfalso
    have hz : ((bs s).drop at_).length = 0 := by omega
    exact hne (List.eq_nil_of_length_eq_zero hz)

end Go.Proofs.Gw
/- Package msg's reader: packed numbers. -/
set_option linter.unusedVariables false
set_option linter.unusedSimpArgs false
namespace Go.Proofs.Gw
open Go Go.RowKit Go.IntWalk Go.Proofs.Gm

abbrev NRes := Except Int (List Nat)
def nOf : NRes → List Nat
  | .ok ns => ns
  | .error _ => []
def nErr : NRes → Option (Option Int)
  | .ok _ => none
  | .error _ => some none
/-- The contract of a function that reads packed numbers. -/
def PkC (f : Nat) (m : Bs → NRes) (N : Nat) : Prop := ∀ (s : ByteArray) (w : World), s.size ≤ N → Tri Tryz.prog f [.string s] [] (fun x : Value × Value => .tuple #[x.1, x.2]) (fun x => [OwnN x.1 (nOf (m (bs s))), ErF x.2 s.size (nErr (m (bs s)))]) (fun x => ∃ A c, x.1 = .slice A (nOf (m (bs s))).length c) w
theorem Varints_pk : PkC 189 varsM mx := fun s w hs => by
  cases hv : varsM (bs s) with
  | ok ns =>
    refine (Varints_ok s ns w hs hv).mono fun v hv' => ⟨(v, .nilIface), rfl, ?_, hv'⟩
    exact Ent.trans (Ent.intro (A := ErF .nilIface s.size none) (fun _ => rfl) _) (Ent.swap _ _ _)
  | error c =>
    refine (Varints_err s c w hs hv).mono fun v hv' => ⟨(.slice none 0 0, v), rfl, ?_, ⟨_, _, rfl⟩⟩
    exact Ent.intro (A := OwnN (.slice none 0 0) []) (fun w => Own.nil _ _ w) _

def pkM (m : Bs → NRes) (num : Nat) (rs : List Rec) : List Nat := (ofNum rs num).flatMap fun r => if r.kind = 2 then nOf (m r.s) else [r.n]
def pkE (m : Bs → NRes) (num : Nat) (er : Option (Option Int)) (rs : List Rec) : Option (Option Int) := rs.foldl (fun er r => if r.num = num ∧ r.kind = 2 then note er (nErr (m r.s)) else er) er
theorem pkM_snoc (m : Bs → NRes) (num : Nat) (rs : List Rec) (r : Rec) : pkM m num (rs ++ [r]) = if r.num = num then pkM m num rs ++ (if r.kind = 2 then nOf (m r.s) else [r.n]) else pkM m num rs := by
  unfold pkM; rw [ofNum_snoc]; by_cases h : r.num = num <;> simp [h]
theorem pkE_snoc (m : Bs → NRes) (num : Nat) (er : Option (Option Int)) (rs : List Rec) (r : Rec) : pkE m num er (rs ++ [r]) = if r.num = num ∧ r.kind = 2 then note (pkE m num er rs) (nErr (m r.s)) else pkE m num er rs := by
  unfold pkE; rw [List.foldl_append]; rfl
theorem pkM_take (m : Bs → NRes) (num : Nat) (rs : List Rec) (i : Nat) : (pkM m num (rs.take i)).length ≤ (pkM m num rs).length := by
  conv => rhs; rw [← List.take_append_drop i rs]
  unfold pkM ofNum
  rw [List.filter_append, List.flatMap_append, List.length_append]; omega
theorem u64C_one (l : List Nat) : (u64C l).all one = true := by
  rw [List.all_eq_true]; intro v hv
  simp only [u64C, List.mem_map] at hv
  obtain ⟨n, _, rfl⟩ := hv; rfl

theorem packed_tri (g : Nat) (R : RM) (er : Option (Option Int)) (num f : Nat) [FnIs Tryz.prog f] (m : Bs → NRes) (N : Nat) (hc : PkC f m N) (hS : ∀ r, r ∈ R.rs → r.s.length ≤ N) (hN : R.n ≤ mx) (hL : (pkM m num R.rs).length ≤ 4294967296) (hn : R.rs.length ≤ 4294967296) (w : World) :
    Tri Tryz.prog 170 [ptr g, .int .i64 (num : Int), .func (.func f) #[] #[]] [RdS g R er] (fun v : Value => v) (fun v => [OwnN v (pkM m num R.rs), RdS g R (pkE m num er R.rs)]) (fun v => ∃ A c, v = .slice A (pkM m num R.rs).length c) w := by
  refine Tri.rform fun A c hA => ?_
  obtain ⟨unk, d, n, v, rs⟩ := R
  simp only [RM.at] at hn hA hS hN hL ⊢
  obtain ⟨rfl, hA⟩ := hA
  refine tri_of_G 51 Tryz.func170 rfl Tryz.ntmps170 rfl (fun D => ?_)
  refine GC.open ?_
  rintro x hx
  refine GC.seq (GC.region (GL.v (.assign rfl) rfl (GL.nil (GN.seq (GC.seq (GC.region (GL.v (.assign rfl) rfl (GL.nil (GN.seq (GC.seq (GC.seq (GC.region (GL.v (.move rfl) rfl (GL.v (.nilCheck rfl) rfl (GL.v (.fieldAddr rfl) rfl (GL.v (.ld 0 rfl rfl rfl) rfl (GL.v (.lenSl rfl) rfl (GL.v (.move rfl) rfl (GL.nil (GN.seq (GC.block (?_))))))))))))))))))))))
  refine GC.loop (γ := Nat × Option Addr × Nat) (fun q => q.1 ≤ rs.length) (fun q => [(0, ptr g), (1, .int .i64 (num : Int)), (2, .func (.func f) #[] #[]), (7, .slice q.2.1 (pkM m num (rs.take q.1)).length q.2.2), (15, .slice A rs.length c), (16, .int .i64 rs.length), (17, .int .i64 (q.1 : Int))])
    (fun q => [OwnN (.slice q.2.1 (pkM m num (rs.take q.1)).length q.2.2) (pkM m num (rs.take q.1)), RdS g ⟨unk, d, n, .slice A rs.length c, rs⟩ (pkE m num er (rs.take q.1))]) (fun q => rs.length - q.1) (0, none, 0) (Nat.zero_le _) (Sub.cons rfl (Sub.cons rfl (Sub.cons rfl (Sub.cons rfl (Sub.cons rfl (Sub.cons rfl (Sub.cons rfl (Sub.nil _)))))))) ?_ ?_
  · exact Ent.trans (Ent.close (Bs := RdS1 g ⟨unk, d, n, .slice A rs.length c, rs⟩ er) (p := RdS2 er) x hx []) (Ent.intro (A := OwnN (.slice none 0 0) []) (fun w => Own.nil _ _ w) _)
  rintro ⟨i, A', c'⟩ hi
  simp only at hi ⊢
  refine GC.seq (GC.region (GL.v (.lss rfl rfl) rfl (GL.nil (GN.seq (GC.seq (?_))))))
  refine GC.condD rfl (fun hlt => ?_) (fun hlt => ?_)
  · have hl : i < rs.length := by omega
    obtain ⟨r, hr⟩ : ∃ r, rs[i]? = some r := ⟨_, List.getElem?_eq_getElem hl⟩
    have htk : rs.take (i + 1) = rs.take i ++ [r] := by rw [List.take_add_one, hr]; rfl
    have hpl := pkM_take m num rs (i + 1)
    obtain ⟨g0, rfl⟩ := hA (by omega)
    refine GC.ent (Ent.front 1 _ _ rfl) ?_
    refine GC.open ?_
    rintro y hy
    refine GC.skip (GN.seq (GC.seq (GC.block (GC.seq (GC.region (GL.v (.indexAddr rfl rfl (by omega) (by omega)) rfl (?_)))))))
    refine GL.v (.ldOwnN 2 (recC r) rfl rfl rfl (fun j v hj => by have := flat_get recC_len rs i r j v hr hj; simpa using this)) rfl ?_
    refine GL.w .alloc rfl (fun b9 _ => GL.w0 (.store 0 rfl rfl rfl rfl rfl rfl rfl) (fun _ _ => GL.nil (GN.seq (GC.block (GC.seq (GC.region (GL.v (.fieldAddr rfl) rfl (GL.v (.ld 0 rfl rfl rfl) rfl (GL.v (.move rfl) rfl (GL.v (.neq rfl rfl) rfl (GL.v (.assign rfl) rfl (GL.nil (GN.seq (?_))))))))))))))
    refine GC.ent (Ent.front 3 _ _ rfl) ?_
    refine GC.ent (Ent.front 3 _ _ rfl) ?_
    refine GC.ent (Ent.front 3 _ _ rfl) ?_
    refine GC.ent (Ent.close (Bs := RdS1 g ⟨unk, d, n, .slice (some ⟨g0, 0, none⟩) rs.length c, rs⟩ (pkE m num er (rs.take i))) (p := RdS2 _) y hy _) ?_
    refine GC.condD rfl (fun he => ?_) (fun he => ?_)
    · refine GC.skip (GN.blk (GN.blk (GN.seq (GC.region (GL.v (.add rfl rfl (i64_in _ (by omega))) rfl (GL.v (.move rfl) rfl (GL.nil (?_))))))))
      refine GN.loop (i + 1, A', c') (by simp only; omega) (by simp only; omega) (Sub.cons rfl (Sub.cons rfl (Sub.cons rfl (Sub.cons (lk_of rfl ?_) (Sub.cons rfl (Sub.cons rfl (Sub.cons rfl (Sub.nil _)))))))) ?_
      · simp only [htk, pkM_snoc, if_neg (show ¬ r.num = num by omega)]
      · simp only [htk, pkM_snoc, pkE_snoc, if_neg (show ¬ r.num = num by omega), if_neg (show ¬ (r.num = num ∧ r.kind = 2) by omega)]
        exact (Ent.trans (Ent.front 2 _ _ rfl) (Ent.cons _ ((Ent.cons _ (Ent.nil _)))))
    · refine GC.seq (GC.region (GL.v (.fieldAddr rfl) rfl (GL.v (.ld 1 rfl rfl rfl) rfl (GL.v (.eql rfl rfl) rfl (GL.v (.assign rfl) rfl (GL.nil (GN.seq (?_))))))))
      refine GC.condD rfl (fun hk => ?_) (fun hk => ?_)
      · have e1 : pkM m num (rs.take (i + 1)) = pkM m num (rs.take i) ++ nOf (m r.s) := by rw [htk, pkM_snoc, if_pos (by omega), if_pos (by omega)]
        have e2 : pkE m num er (rs.take (i + 1)) = note (pkE m num er (rs.take i)) (nErr (m r.s)) := by rw [htk, pkE_snoc, if_pos (by omega)]
        have e3 : (pkM m num (rs.take i)).length + (nOf (m r.s)).length = (pkM m num (rs.take (i + 1))).length := by rw [e1, List.length_append]
        have e4 : u64C (pkM m num (rs.take i)) ++ u64C (nOf (m r.s)) = u64C (pkM m num (rs.take (i + 1))) := by rw [e1]; simp [u64C]
        refine GC.seq (GC.region (GL.v (.move rfl) rfl (GL.v (.fieldAddr rfl) rfl (GL.v (.ld 1 rfl rfl rfl) rfl (?_)))))
        refine GL.callV rfl (As := []) rfl (fun w hst => hc (mkS r.s) w (by rw [mkS_size]; exact hS r (List.mem_of_getElem? hr))) rfl (fun ⟨v1, v2⟩ hv => ?_)
        obtain ⟨B, cB, hv⟩ := hv
        simp only at hv ⊢
        subst hv
        refine GL.v (.move rfl) rfl (GL.v (.extract rfl rfl) rfl (GL.v (.extract rfl rfl) rfl (GL.v (.assign rfl) rfl (GL.v (.assign rfl) rfl (GL.nil (GN.seq (GC.seq (GC.region (GL.v (.move rfl) rfl (GL.v (.move rfl) rfl (GL.v (.move rfl) rfl (?_))))))))))))
        refine GL.ent (Ent.front 1 _ _ rfl) ?_
        refine GL.ent (Ent.front 2 _ _ rfl) ?_
        refine GL.call (As := [_, _]) rfl (fun w hst => fails_tri g ⟨unk, d, n, _, rs⟩ _ (num : Int) v2 _ _ w (by unfold mx at hN; exact hN)) rfl (fun _ _ => ?_)
        refine GL.nil (GN.seq (GC.region (GL.v (.move rfl) rfl (GL.v (.move rfl) rfl (?_)))))
        refine GL.w (.appendO 3 1 rfl rfl rfl rfl (u64C_one _) rfl rfl rfl (by rw [show bs (mkS r.s) = r.s from bs_mkS _]; omega)) rfl (fun q _ => ?_)
        refine GL.v (.assign rfl) rfl (GL.nil (GN.blk (GN.blk (GN.seq (GC.region (GL.v (.add rfl rfl (i64_in _ (by omega))) rfl (GL.v (.move rfl) rfl (GL.nil (?_)))))))))
        rw [show bs (mkS r.s) = r.s from bs_mkS _, e3, e4, ← e2]
        exact GN.loop (i + 1, q.1, q.2) (by simp only; omega) (by simp only; omega) (Sub.cons rfl (Sub.cons rfl (Sub.cons rfl (Sub.cons rfl (Sub.cons rfl (Sub.cons rfl (Sub.cons rfl (Sub.nil _)))))))) (Ent.trans (Ent.front 3 _ _ rfl) (Ent.cons _ ((Ent.cons _ (Ent.nil _)))))
      · have e1 : pkM m num (rs.take (i + 1)) = pkM m num (rs.take i) ++ [r.n] := by rw [htk, pkM_snoc, if_pos (by omega), if_neg (by omega)]
        have e2 : pkE m num er (rs.take (i + 1)) = pkE m num er (rs.take i) := by rw [htk, pkE_snoc, if_neg (by omega)]
        have e3 : (pkM m num (rs.take i)).length + 1 = (pkM m num (rs.take (i + 1))).length := by rw [e1]; simp
        have e4 : u64C (pkM m num (rs.take i)) ++ [Value.int .u64 (r.n : Int)] = u64C (pkM m num (rs.take (i + 1))) := by rw [e1]; simp [u64C]
        refine GC.region (GL.v (.move rfl) rfl (GL.v (.fieldAddr rfl) rfl (GL.v (.ld 1 rfl rfl rfl) rfl (?_))))
        refine GL.w (.bone [.int .u64 (r.n : Int)] rfl rfl rfl rfl rfl rfl) rfl (fun bP _ => ?_)
        refine GL.w (.append 3 0 [.int .u64 (r.n : Int)] rfl rfl rfl rfl rfl ⟨rfl, trivial⟩ rfl rfl rfl rfl rfl (by omega)) rfl (fun q _ => ?_)
        refine GL.v (.assign rfl) rfl (GL.nil (GN.blk (GN.blk (GN.seq (GC.region (GL.v (.add rfl rfl (i64_in _ (by omega))) rfl (GL.v (.move rfl) rfl (GL.nil (?_)))))))))
        rw [e3, e4, ← e2]
        exact GN.loop (i + 1, q.1, q.2) (by simp only; omega) (by simp only; omega) (Sub.cons rfl (Sub.cons rfl (Sub.cons rfl (Sub.cons rfl (Sub.cons rfl (Sub.cons rfl (Sub.cons rfl (Sub.nil _)))))))) (Ent.trans (Ent.front 3 _ _ rfl) (Ent.cons _ (Ent.trans (Ent.front 1 _ _ rfl) (Ent.cons _ (Ent.nil _)))))
  · have hie : i = rs.length := by omega
    subst hie
    simp only [List.take_length]
    refine GC.exit (GX.seq (GX.loop (GX.blk (GN.seq (GC.seq (GC.region (GL.v (.move rfl) rfl (GL.v (.assign rfl) rfl (GL.nil (GN.seq (GC.ret (?_))))))))))))
    exact GR.one rfl rfl rfl _ rfl (Ent.refl _) ⟨_, _, rfl⟩

theorem Vars_tri (g : Nat) (R : RM) (er : Option (Option Int)) (num : Nat) (hS : ∀ r, r ∈ R.rs → r.s.length ≤ mx) (hN : R.n ≤ mx) (hL : (pkM varsM num R.rs).length ≤ 4294967296) (hn : R.rs.length ≤ 4294967296) (w : World) :
    Tri Tryz.prog 135 [ptr g, .int .i64 (num : Int)] [RdS g R er] (fun v : Value => v) (fun v => [OwnN v (pkM varsM num R.rs), RdS g R (pkE varsM num er R.rs)]) (fun v => ∃ A c, v = .slice A (pkM varsM num R.rs).length c) w := by
  refine tri_of_G 8 Tryz.func135 rfl Tryz.ntmps135 rfl (fun D => ?_)
  refine GC.seq (GC.region (GL.v (.assign rfl) rfl (GL.nil (GN.seq (GC.seq (GC.region (GL.v (.move rfl) rfl (GL.v (.move rfl) rfl (?_)))))))))
  refine GL.call (As := [_]) rfl (fun w hst => packed_tri g R er num 189 varsM mx Varints_pk hS hN hL hn w) rfl (fun v hv => ?_)
  refine GL.v (.assign rfl) rfl (GL.nil (GN.seq (GC.ret (?_))))
  exact GR.one rfl rfl rfl v rfl (Ent.refl _) hv

end Go.Proofs.Gw
