/- Texts that a claim of this seat leans on: H1, H2, H3. No statement is claimed in this text. -/
import Derived.Test.YtabmekglalbmoaaGreatDoorB12
import Derived.Test.YtabmekglalbmoaaGreatDoorB17
import Derived.Test.YtabmekglalbmoaaGreatDoorB16
/- Numbers in eight bytes each, read. -/
set_option linter.unusedVariables false
set_option linter.unusedSimpArgs false
namespace Go.Proofs.Gw
open Go Go.RowKit Go.IntWalk Go.Proofs.Gm

theorem fixsM_ok {l : Bs} {ns : List Nat} (h : fixsM l = .ok ns) : l = [] ∧ ns = [] ∨ ∃ ns', 8 ≤ l.length ∧ fixsM (l.drop 8) = .ok ns' ∧ ns = le (l.take 8) :: ns' := by
  rw [fixsM] at h
  split at h
  · rename_i e; cases h; exact .inl ⟨e, rfl⟩
  · split at h
    · cases h
    · rename_i h8
      split at h
      · cases h
      · rename_i ns' hq; cases h; exact .inr ⟨ns', by omega, hq, rfl⟩
theorem fixsM_err {l : Bs} {c : Int} (h : fixsM l = .error c) : l ≠ [] ∧ (l.length < 8 ∧ c = 1 ∨ 8 ≤ l.length ∧ fixsM (l.drop 8) = .error c) := by
  rw [fixsM] at h
  split at h
  · cases h
  · rename_i hne
    split at h
    · rename_i h8; cases h; exact ⟨hne, .inl ⟨h8, rfl⟩⟩
    · rename_i h8
      split at h
      · rename_i hq; cases h; exact ⟨hne, .inr ⟨by omega, hq⟩⟩
      · cases h

theorem Fixeds_ok (s : ByteArray) (ns : List Nat) (w : World) (hs : s.size ≤ mx) (hv : fixsM (bs s) = .ok ns) :
    Tri Tryz.prog 171 [.string s] [] (fun v : Value => .tuple #[v, .nilIface]) (fun v => [OwnN v ns]) (fun v => ∃ A c, v = .slice A ns.length c) w := by
  have hs' := hs
  unfold mx at hs'
  refine tri_of_G 33 Tryz.func171 rfl Tryz.ntmps171 rfl (fun D => ?_)
  refine GC.seq (GC.region (GL.v (.assign rfl) rfl (GL.v (.assign rfl) rfl (GL.nil (GN.seq (GC.seq (GC.region (GL.v (.assign rfl) rfl (GL.nil (GN.seq (GC.seq (GC.region (GL.v (.move rfl) rfl (GL.v (.build (cs := [_, _, _, _]) rfl rfl) rfl (GL.w (.box rfl rfl) rfl (fun b9 _ => GL.v (.assign rfl) rfl (GL.nil (GN.seq (GC.seq (GC.block (?_)))))))))))))))))))))
  refine GC.loop (γ := Nat × List Nat × List Nat × Option Addr × Nat) (fun g => g.1 ≤ s.size ∧ g.2.1.length ≤ g.1 ∧ fixsM ((bs s).drop g.1) = .ok g.2.2.1 ∧ ns = g.2.1 ++ g.2.2.1) (fun g => [(0, .string s), (5, ptr b9), (4, .slice g.2.2.2.1 g.2.1.length g.2.2.2.2)]) (fun g => [RdO b9 s (g.1 : Int) 0, OwnN (.slice g.2.2.2.1 g.2.1.length g.2.2.2.2) g.2.1]) (fun g => s.size - g.1) (0, [], ns, none, 0) ⟨by simp, by simp, by simpa using hv, rfl⟩ (Sub.cons rfl (Sub.cons rfl (Sub.cons rfl (Sub.nil _)))) ?_ ?_
  · exact ((Ent.intro (A := OwnN (.slice none 0 0) []) (fun w => Own.nil _ _ w) _).trans (Ent.swap _ _ _)).trans (Ent.blk (by repeat (first | exact Sub.nil _ | refine Sub.cons rfl ?_)) (Ent.refl _))
  rintro ⟨at_, pre, post, A, cp⟩ ⟨h1, h2, h3, h4⟩
  simp only at h1 h2 h3 h4 ⊢
  have hl : ((bs s).drop at_).length = s.size - at_ := by rw [List.length_drop, bs_length]
  refine GC.seq (GC.seq (GC.region (GL.v (.move rfl) rfl (GL.v (.nilCheck rfl) rfl (GL.v (.fieldAddr rfl) rfl (GL.v (.ld 0 rfl rfl rfl) rfl (GL.v (.move rfl) rfl (GL.v (.lenS rfl) rfl (GL.v (.lss rfl rfl) rfl (GL.nil (GN.seq (?_))))))))))))
  refine GC.condD rfl (fun hlt => ?_) (fun hlt => ?_)
  · rcases fixsM_ok h3 with ⟨e1, _⟩ | ⟨post', hr, hp, rfl⟩
    · exfalso
      rw [e1] at hl; simp at hl; omega
    · generalize hn : le (((bs s).drop at_).take 8) = n
      refine GC.skip (GN.seq (GC.block (GC.seq (GC.region (GL.v (.move rfl) rfl (?_))))))
      refine GL.call (As := [_]) rfl (fun w hst => little_ok _ s at_ 8 0 w hs h1 (by omega) (by omega)) rfl (fun _ _ => ?_)
      rw [hn]
      have hn64 : n < 2 ^ 64 := by have := le_lt (((bs s).drop at_).take 8); rw [hn, List.length_take, Nat.min_eq_left hr] at this; omega
      refine GL.v (.assign rfl) rfl (GL.nil (GN.seq (GC.seq (GC.seq (GC.region (GL.v (.move rfl) rfl (GL.v (.nilCheck rfl) rfl (GL.v (.fieldAddr rfl) rfl (GL.v (.ld 0 rfl rfl rfl) rfl (GL.v (.neqNil rfl (by first | exact .inl rfl | exact .inr ⟨_, _, rfl⟩ | assumption)) rfl (GL.nil (GN.seq (?_)))))))))))))
      refine GC.cond rfl (fun h => Bool.noConfusion (h.symm.trans (rfl) : true = false)) (fun _ => ?_)
      refine GC.skip (GN.seq (GC.region (GL.v (.move rfl) rfl (GL.v (.move rfl) rfl (?_)))))
      refine GL.w (.bone [.int .u64 (n : Int)] rfl rfl rfl rfl rfl rfl) rfl (fun bP _ => ?_)
      refine GL.w (.append 2 0 [.int .u64 (n : Int)] rfl rfl rfl rfl rfl ⟨rfl, trivial⟩ rfl rfl rfl rfl rfl (by omega)) rfl (fun q _ => ?_)
      refine GL.v (.assign rfl) rfl (GL.nil (GN.blk (?_)))
      have e1 : pre.length + 1 = (pre ++ [n]).length := by simp
      have e2 : u64C pre ++ [Value.int .u64 (n : Int)] = u64C (pre ++ [n]) := by simp [u64C]
      have e4 : (bs s).drop (at_ + 8) = ((bs s).drop at_).drop 8 := by rw [List.drop_drop]
      rw [e1, e2]
      refine GN.loop (at_ + 8, pre ++ [n], post', q.1, q.2) ⟨by simp only; omega, by simp only [List.length_append, List.length_singleton]; omega, by simp only [e4]; exact hp, by simp only; rw [h4, hn]; simp⟩ (by simp only; omega) (Sub.cons rfl (Sub.cons rfl (Sub.cons rfl (Sub.nil _)))) (Ent.trans (Ent.front 1 _ _ rfl) (Ent.cons _ (Ent.trans (Ent.front 1 _ _ rfl) (Ent.cons _ (Ent.nil _)))))
  · refine GC.exit (GX.seq (GX.loop (GX.blk (GN.seq (GC.seq (GC.region (GL.v (.move rfl) rfl (GL.v (.assign rfl) rfl (GL.v (.assign rfl) rfl (GL.nil (GN.seq (GC.ret (?_)))))))))))))
    rcases fixsM_ok h3 with ⟨e1, rfl⟩ | ⟨post', hr, hp, rfl⟩
    · rw [List.append_nil] at h4
      subst h4
      refine GR.two rfl rfl rfl rfl _ rfl (Ent.trans (Ent.tail _ _) (Ent.refl _)) ⟨_, _, rfl⟩
    · exfalso
      omega

theorem Fixeds_err (s : ByteArray) (c : Int) (w : World) (hs : s.size ≤ mx) (hv : fixsM (bs s) = .error c) :
    Tri Tryz.prog 171 [.string s] [] (fun v : Value => .tuple #[.slice none 0 0, v]) (fun v => [ErG v s.size none]) (fun v => ∃ t u, v = .iface t u) w := by
  have hs' := hs
  unfold mx at hs'
  refine tri_of_G 33 Tryz.func171 rfl Tryz.ntmps171 rfl (fun D => ?_)
  refine GC.seq (GC.region (GL.v (.assign rfl) rfl (GL.v (.assign rfl) rfl (GL.nil (GN.seq (GC.seq (GC.region (GL.v (.assign rfl) rfl (GL.nil (GN.seq (GC.seq (GC.region (GL.v (.move rfl) rfl (GL.v (.build (cs := [_, _, _, _]) rfl rfl) rfl (GL.w (.box rfl rfl) rfl (fun b9 _ => GL.v (.assign rfl) rfl (GL.nil (GN.seq (GC.seq (GC.block (?_)))))))))))))))))))))
  refine GC.loop (γ := Nat × List Nat × Option Addr × Nat) (fun g => g.1 ≤ s.size ∧ g.2.1.length ≤ g.1 ∧ fixsM ((bs s).drop g.1) = .error c) (fun g => [(0, .string s), (5, ptr b9), (4, .slice g.2.2.1 g.2.1.length g.2.2.2)]) (fun g => [RdO b9 s (g.1 : Int) 0, OwnN (.slice g.2.2.1 g.2.1.length g.2.2.2) g.2.1]) (fun g => s.size - g.1) (0, [], none, 0) ⟨by simp, by simp, by simpa using hv⟩ (Sub.cons rfl (Sub.cons rfl (Sub.cons rfl (Sub.nil _)))) ?_ ?_
  · exact ((Ent.intro (A := OwnN (.slice none 0 0) []) (fun w => Own.nil _ _ w) _).trans (Ent.swap _ _ _)).trans (Ent.blk (by repeat (first | exact Sub.nil _ | refine Sub.cons rfl ?_)) (Ent.refl _))
  rintro ⟨at_, pre, A, cp⟩ ⟨h1, h2, h3⟩
  simp only at h1 h2 h3 ⊢
  have hl : ((bs s).drop at_).length = s.size - at_ := by rw [List.length_drop, bs_length]
  obtain ⟨hne, h3'⟩ := fixsM_err h3
  refine GC.seq (GC.seq (GC.region (GL.v (.move rfl) rfl (GL.v (.nilCheck rfl) rfl (GL.v (.fieldAddr rfl) rfl (GL.v (.ld 0 rfl rfl rfl) rfl (GL.v (.move rfl) rfl (GL.v (.lenS rfl) rfl (GL.v (.lss rfl rfl) rfl (GL.nil (GN.seq (?_))))))))))))
  refine GC.condD rfl (fun hlt => ?_) (fun hlt => ?_)
  · rcases h3' with ⟨hr, rfl⟩ | ⟨hr, hp⟩
    · refine GC.skip (GN.seq (GC.block (GC.seq (GC.region (GL.v (.move rfl) rfl (?_))))))
      refine GL.call (As := [_]) rfl (fun w hst => little_err _ s at_ 8 0 w hs h1 (by omega) (by omega)) rfl (fun _ _ => ?_)
      refine GL.open ?_
      rintro ⟨at2, u, q⟩ ⟨h0, h1', h2', t, u', rfl⟩
      refine GL.v (.assign rfl) rfl (GL.nil (GN.seq (GC.seq (GC.seq (GC.region (GL.v (.move rfl) rfl (GL.v (.nilCheck rfl) rfl (GL.v (.fieldAddr rfl) rfl (GL.v (.ld 0 rfl rfl rfl) rfl (GL.v (.neqNil rfl (by first | exact .inl rfl | exact .inr ⟨_, _, rfl⟩ | assumption)) rfl (GL.nil (GN.seq (?_)))))))))))))
      refine GC.cond rfl (fun _ => ?_) (fun h => Bool.noConfusion (h.symm.trans (rfl) : false = true))
      refine GC.seq (?_)
      refine GC.draw _ (m := 6) rfl (Ent.refl _) ?_
      refine GA.take 0 rfl (by kernel_rfl) (by kernel_rfl) (by kernel_rfl) (.move rfl) rfl (GA.take 1 rfl (by kernel_rfl) (by kernel_rfl) (by kernel_rfl) (.nilCheck rfl) rfl (GA.take 2 rfl (by kernel_rfl) (by kernel_rfl) (by kernel_rfl) (.fieldAddr rfl) rfl (GA.take 3 rfl (by kernel_rfl) (by kernel_rfl) (by kernel_rfl) (.ld 0 rfl rfl rfl) rfl (GA.take 4 rfl (by kernel_rfl) (by kernel_rfl) (by kernel_rfl) (.assign rfl) rfl (GA.take 5 rfl (by kernel_rfl) (by kernel_rfl) (by kernel_rfl) (.assign rfl) rfl (GA.done (by kernel_rfl) (?_)))))))
      refine GN.seq (GC.ret (?_))
      exact GR.two rfl rfl rfl rfl (.iface t u') rfl (Ent.trans (Ent.trans (Ent.front 1 _ _ rfl) (Ent.cons _ (Ent.nil _))) (Ent.close (Bs := ErG1 (.iface t u')) (p := ErG2 s.size none) ((q : Int), .code 1) ⟨by simp only; omega, by simp only at h2' ⊢; omega, .inl rfl, fun _ h => by cases h⟩ [])) ⟨_, _, rfl⟩
    · generalize hn : le (((bs s).drop at_).take 8) = n
      refine GC.skip (GN.seq (GC.block (GC.seq (GC.region (GL.v (.move rfl) rfl (?_))))))
      refine GL.call (As := [_]) rfl (fun w hst => little_ok _ s at_ 8 0 w hs h1 (by omega) (by omega)) rfl (fun _ _ => ?_)
      rw [hn]
      refine GL.v (.assign rfl) rfl (GL.nil (GN.seq (GC.seq (GC.seq (GC.region (GL.v (.move rfl) rfl (GL.v (.nilCheck rfl) rfl (GL.v (.fieldAddr rfl) rfl (GL.v (.ld 0 rfl rfl rfl) rfl (GL.v (.neqNil rfl (by first | exact .inl rfl | exact .inr ⟨_, _, rfl⟩ | assumption)) rfl (GL.nil (GN.seq (?_)))))))))))))
      refine GC.cond rfl (fun h => Bool.noConfusion (h.symm.trans (rfl) : true = false)) (fun _ => ?_)
      refine GC.skip (GN.seq (GC.region (GL.v (.move rfl) rfl (GL.v (.move rfl) rfl (?_)))))
      refine GL.w (.bone [.int .u64 (n : Int)] rfl rfl rfl rfl rfl rfl) rfl (fun bP _ => ?_)
      refine GL.w (.append 2 0 [.int .u64 (n : Int)] rfl rfl rfl rfl rfl ⟨rfl, trivial⟩ rfl rfl rfl rfl rfl (by omega)) rfl (fun q _ => ?_)
      refine GL.v (.assign rfl) rfl (GL.nil (GN.blk (?_)))
      have e1 : pre.length + 1 = (pre ++ [n]).length := by simp
      have e2 : u64C pre ++ [Value.int .u64 (n : Int)] = u64C (pre ++ [n]) := by simp [u64C]
      have e4 : (bs s).drop (at_ + 8) = ((bs s).drop at_).drop 8 := by rw [List.drop_drop]
      rw [e1, e2]
      refine GN.loop (at_ + 8, pre ++ [n], q.1, q.2) ⟨by simp only; omega, by simp only [List.length_append, List.length_singleton]; omega, by simp only [e4]; exact hp⟩ (by simp only; omega) (Sub.cons rfl (Sub.cons rfl (Sub.cons rfl (Sub.nil _)))) (Ent.trans (Ent.front 1 _ _ rfl) (Ent.cons _ (Ent.trans (Ent.front 1 _ _ rfl) (Ent.cons _ (Ent.nil _)))))
  · exfalso
    have hz : ((bs s).drop at_).length = 0 := by omega
    exact hne (List.eq_nil_of_length_eq_zero hz)

theorem Fixeds_pk : PkC 171 fixsM mx := fun s w hs => by
  cases hv : fixsM (bs s) with
  | ok ns =>
    refine (Fixeds_ok s ns w hs hv).mono fun v hv' => ⟨(v, .nilIface), rfl, ?_, hv'⟩
    exact Ent.trans (Ent.intro (A := ErF .nilIface s.size none) (fun _ => rfl) _) (Ent.swap _ _ _)
  | error c =>
    refine (Fixeds_err s c w hs hv).mono fun v hv' => ⟨(.slice none 0 0, v), rfl, ?_, ⟨_, _, rfl⟩⟩
    exact Ent.intro (A := OwnN (.slice none 0 0) []) (fun w => Own.nil _ _ w) _
theorem RFixeds_tri (g : Nat) (R : RM) (er : Option (Option Int)) (num : Nat) (hS : ∀ r, r ∈ R.rs → r.s.length ≤ mx) (hN : R.n ≤ mx) (hL : (pkM fixsM num R.rs).length ≤ 4294967296) (hn : R.rs.length ≤ 4294967296) (w : World) :
    Tri Tryz.prog 108 [ptr g, .int .i64 (num : Int)] [RdS g R er] (fun v : Value => v) (fun v => [OwnN v (pkM fixsM num R.rs), RdS g R (pkE fixsM num er R.rs)]) (fun v => ∃ A c, v = .slice A (pkM fixsM num R.rs).length c) w := by
  refine tri_of_G 8 Tryz.func108 rfl Tryz.ntmps108 rfl (fun D => ?_)
  refine GC.seq (GC.region (GL.v (.assign rfl) rfl (GL.nil (GN.seq (GC.seq (GC.region (GL.v (.move rfl) rfl (GL.v (.move rfl) rfl (?_)))))))))
  refine GL.call (As := [_]) rfl (fun w hst => packed_tri g R er num 171 fixsM mx Fixeds_pk hS hN hL hn w) rfl (fun v hv => ?_)
  refine GL.v (.assign rfl) rfl (GL.nil (GN.seq (GC.ret (?_))))
  exact GR.one rfl rfl rfl v rfl (Ent.refl _) hv
theorem fixsM_len : ∀ (k : Nat) (l : Bs) (ns : List Nat), l.length ≤ k → fixsM l = .ok ns → ns.length ≤ l.length := by
  intro k
  induction k with
  | zero =>
    intro l ns hl h
    rcases fixsM_ok h with ⟨_, rfl⟩ | ⟨ns', h8, hq, rfl⟩
    · simp
    · omega
  | succ k ih =>
    intro l ns hl h
    rcases fixsM_ok h with ⟨_, rfl⟩ | ⟨ns', h8, hq, rfl⟩
    · simp
    · have h2 := ih (l.drop 8) ns' (by simp; omega) hq
      simp only [List.length_drop] at h2
      simp only [List.length_cons]; omega
theorem nOf_fixs (s : Bs) : (nOf (fixsM s)).length ≤ s.length := by
  cases h : fixsM s with
  | ok ns => exact fixsM_len _ s ns (Nat.le_refl _) h
  | error c => simp [nOf]
end Go.Proofs.Gw
/- Points of histograms that are read. Printed by wip/tools/gen15.py. -/
set_option linter.unusedVariables false
set_option linter.unusedSimpArgs false
namespace Go.Proofs.Gw
open Go Go.RowKit Go.IntWalk Go.Proofs.Gm

theorem hisF_of (x : His) (v1 vc vb v2 : Value) {ok : Nat → Prop} {w : World} (h1 : (listF keyF 11 x.attrs v1).holds ok w) (hc : (numsF x.counts vc).holds ok w) (hb : (numsF x.bounds vb).holds ok w) (h2 : (listF exemF 7 x.exs v2).holds ok w) :
    (hisF x [v1, .int .u64 (x.start : Int), .int .u64 (x.time : Int), .int .u64 (x.count : Int), .bool x.sum.has, .int .u64 (x.sum.n : Int), .bool x.min.has, .int .u64 (x.min.n : Int), .bool x.max.has, .int .u64 (x.max.n : Int), vc, vb, v2, .int .u32 (x.flags : Int), .string (mkS x.unk)]).holds ok w := ⟨(v1, vc, vb, v2), rfl, h1, hc, hb, h2⟩
theorem Own.nums (v : Value) (l : List Nat) (Hs : List HP) : Ent (OwnN v l :: Hs) ((numsF l v).hp :: Hs) := Ent.head (h := OwnN v l) (h' := (numsF l v).hp) (fun ok w h => Own.rowS h) (Ent.refl _)
theorem his_fin (d : Int) (s : Bs) (e e' : Nat) (v1 vc vb v2 : Value) (Hs : List HP) :
    Ent (LstB (resF keyF) e 11 (rlM keyM (d - 1) 9 (readT hisT d s)) v1 :: OwnN vc (pkM fixsM 6 (readT hisT d s)) :: OwnN vb (pkM fixsM 7 (readT hisT d s)) :: LstB (resF exemF) e' 7 (rlM exemM (d - 1) 8 (readT hisT d s)) v2 :: Hs)
      ((resF hisF (hisM d s) [v1, .int .u64 ((lastM (readT hisT d s) 2).n : Int), .int .u64 ((lastM (readT hisT d s) 3).n : Int), .int .u64 ((lastM (readT hisT d s) 4).n : Int), .bool (decide ((lastM (readT hisT d s) 5).num = 5)), .int .u64 ((lastM (readT hisT d s) 5).n : Int), .bool (decide ((lastM (readT hisT d s) 11).num = 11)), .int .u64 ((lastM (readT hisT d s) 11).n : Int), .bool (decide ((lastM (readT hisT d s) 12).num = 12)), .int .u64 ((lastM (readT hisT d s) 12).n : Int), vc, vb, v2, .int .u32 (((lastM (readT hisT d s) 10).n % 4294967296 : Nat) : Int), .string (mkS (readU hisT d s))]).hp :: Hs) := by
  refine fins_of hisF _ _ _ _ _ ((Ent.tail _ _).trans ((Ent.tail _ _).trans ((Ent.tail _ _).trans (Ent.tail _ _)))) fun h => ?_
  unfold hisE at h
  simp only at h
  have h8 := noteL_none h
  have h7 := pkE_er h8.1
  have h6 := pkE_er h7
  have h9 := noteL_none h6
  refine Ent.trans (LstB.done h9.2 _) ?_
  refine Ent.trans (Ent.cons _ (Own.nums _ _ _)) ?_
  refine Ent.trans (Ent.cons _ (Ent.cons _ (Own.nums _ _ _))) ?_
  refine Ent.trans (Ent.cons _ (Ent.cons _ (Ent.cons _ (LstB.done h8.2 _)))) ?_
  refine Ent.trans (Ent.cons _ (Ent.cons _ (Ent.fand (numsF _ _) (listF exemF 7 _ _) _))) ?_
  refine Ent.trans (Ent.cons _ (Ent.fand (numsF _ _) (FP.and _ _) _)) ?_
  refine Ent.trans (Ent.fand (listF keyF 11 _ _) (FP.and _ _) _) ?_
  exact Ent.head (fun ok w h => by obtain ⟨a1, a2, a3, a4⟩ := h; exact hisF_of ⟨_, _, _, _, optM _ 5, optM _ 11, optM _ 12, _, _, _, _, _⟩ v1 vc vb v2 a1 a2 a3 a4) (Ent.refl _)
theorem His_rd (N : Nat) (hN : N ≤ 4294967296) (d : Int) (hd1 : -9223372036854775808 ≤ d) (hd2 : d ≤ 9223372036854775807) : RdC 33 [] [] Emp hisF 15 hisM N d := fun s w hs => by
  have hsm : s.size ≤ mx := by unfold mx; omega
  have hM := readT_mem (t := hisT) (d := d) (l := bs s)
  rw [bs_length] at hM
  have hmx : N ≤ mx := by unfold mx; omega
  have hrl : (readT hisT d (bs s)).length ≤ mx := Nat.le_trans hM.1 hsm
  have hr32 : (readT hisT d (bs s)).length ≤ 4294967296 := Nat.le_trans hM.1 (by omega)
  have hrN : ∀ r, r ∈ readT hisT d (bs s) → r.s.length ≤ N := fun r hr => Nat.le_trans (hM.2.1 r hr) hs
  have hrs : ∀ r, r ∈ readT hisT d (bs s) → r.s.length ≤ mx := fun r hr => Nat.le_trans (hM.2.1 r hr) hsm
  have hp6 := pkM_len fixsM nOf_fixs hisT d (bs s) 6
  have hp7 := pkM_len fixsM nOf_fixs hisT d (bs s) 7
  rw [bs_length] at hp6 hp7
  refine tri_of_G 50 Tryz.func33 rfl Tryz.ntmps33 rfl (fun D => ?_)
  refine GC.seq (GC.region (GL.w .alloc rfl (fun b4 _ => GL.v (.assign rfl) rfl (GL.nil (GN.seq (GC.seq (GC.region (GL.v (.move rfl) rfl (GL.v (.move rfl) rfl (?_))))))))))
  refine GL.call (As := []) rfl (fun w hst => Read_tri s d _ hisT tbl_his w hsm hd1 hd2) rfl (fun ⟨g, v0⟩ _ => ?_)
  refine GL.v (.assign rfl) rfl (GL.nil (GN.seq (GC.seq (?_))))
  refine GC.ent (Ent.front 2 _ _ rfl) ?_
  refine GC.ent (Ent.front 1 _ _ rfl) ?_
  refine GC.draw ([RdB g ⟨mkS (readU hisT d (bs s)), d, s.size, v0, readT hisT d (bs s)⟩]) (m := 30) rfl (by repeat (first | exact Ent.trans (RdS.blk _ _ _ _) (Ent.cons _ (Ent.nil _)) | refine Ent.trans (Ent.tail _ _) ?_)) ?_
  refine GV.enter 28 rfl ?_
  refine GV.take 0 rfl rfl (by kernel_rfl) (by kernel_rfl) (by kernel_rfl) (by kernel_rfl) (by kernel_rfl) (.move rfl) rfl (GV.take 2 rfl rfl (by kernel_rfl) (by kernel_rfl) (by kernel_rfl) (by kernel_rfl) (by kernel_rfl) (.move rfl) rfl (GV.take 4 rfl rfl (by kernel_rfl) (by kernel_rfl) (by kernel_rfl) (by kernel_rfl) (by kernel_rfl) (.move rfl) rfl (GV.take 6 rfl rfl (by kernel_rfl) (by kernel_rfl) (by kernel_rfl) (by kernel_rfl) (by kernel_rfl) (.move rfl) rfl (GV.take 8 rfl rfl (by kernel_rfl) (by kernel_rfl) (by kernel_rfl) (by kernel_rfl) (by kernel_rfl) (.move rfl) rfl (GV.take 10 rfl rfl (by kernel_rfl) (by kernel_rfl) (by kernel_rfl) (by kernel_rfl) (by kernel_rfl) (.move rfl) rfl (GV.take 12 rfl rfl (by kernel_rfl) (by kernel_rfl) (by kernel_rfl) (by kernel_rfl) (by kernel_rfl) (.move rfl) rfl (GV.take 14 rfl rfl (by kernel_rfl) (by kernel_rfl) (by kernel_rfl) (by kernel_rfl) (by kernel_rfl) (.move rfl) rfl (GV.take 16 rfl rfl (by kernel_rfl) (by kernel_rfl) (by kernel_rfl) (by kernel_rfl) (by kernel_rfl) (.move rfl) rfl (GV.take 18 rfl rfl (by kernel_rfl) (by kernel_rfl) (by kernel_rfl) (by kernel_rfl) (by kernel_rfl) (.move rfl) rfl (GV.take 20 rfl rfl (by kernel_rfl) (by kernel_rfl) (by kernel_rfl) (by kernel_rfl) (by kernel_rfl) (.move rfl) rfl (GV.take 23 rfl rfl (by kernel_rfl) (by kernel_rfl) (by kernel_rfl) (by kernel_rfl) (by kernel_rfl) (.move rfl) rfl (GV.take 24 rfl rfl (by kernel_rfl) (by kernel_rfl) (by kernel_rfl) (by kernel_rfl) (by kernel_rfl) (.nilCheck rfl) rfl (GV.take 25 rfl rfl (by kernel_rfl) (by kernel_rfl) (by kernel_rfl) (by kernel_rfl) (by kernel_rfl) (.fieldAddr rfl) rfl (GV.take 26 rfl rfl (by kernel_rfl) (by kernel_rfl) (by kernel_rfl) (by kernel_rfl) (by kernel_rfl) (.ld 0 rfl rfl rfl) rfl (?_)))))))))))))))
  refine GV.call 1 (As := [_, _]) (by kernel_rfl) (by kernel_rfl) rfl rfl rfl rfl rfl rfl (fun w hst => List_key g _ _ 9 (fun h => Key_rd N hN (d - 1) (by have := hM.2.2 h; omega) (by omega)) hsm hrN hr32 hM.2.2 hd2 w) rfl (by repeat (first | exact Ent.trans (RdS.blk _ _ _ _) (Ent.cons _ (Ent.nil _)) | refine Ent.trans (Ent.tail _ _) ?_)) (fun v1 hv1 => (by repeat (first | exact Ent.trans (RdS.blk _ _ _ _) (Ent.cons _ (Ent.nil _)) | refine Ent.trans (Ent.tail _ _) ?_))) (fun v1 hv1 => ?_)
  obtain ⟨A1, c1, rfl⟩ := hv1
  refine GV.ent (Ent.front 2 _ _ rfl) ?_
  refine GV.ent (Ent.front 2 _ _ rfl) ?_
  refine GV.call 3 (As := [_]) (by kernel_rfl) (by kernel_rfl) rfl rfl rfl rfl rfl rfl (fun w hst => Fixed_tri g _ _ 2 w hrl) rfl (by repeat (first | exact Ent.trans (RdS.blk _ _ _ _) (Ent.cons _ (Ent.nil _)) | refine Ent.trans (Ent.tail _ _) ?_)) (fun _ _ => (by repeat (first | exact Ent.trans (RdS.blk _ _ _ _) (Ent.cons _ (Ent.nil _)) | refine Ent.trans (Ent.tail _ _) ?_))) (fun _ _ => ?_)
  refine GV.call 5 (As := [_]) (by kernel_rfl) (by kernel_rfl) rfl rfl rfl rfl rfl rfl (fun w hst => Fixed_tri g _ _ 3 w hrl) rfl (by repeat (first | exact Ent.trans (RdS.blk _ _ _ _) (Ent.cons _ (Ent.nil _)) | refine Ent.trans (Ent.tail _ _) ?_)) (fun _ _ => (by repeat (first | exact Ent.trans (RdS.blk _ _ _ _) (Ent.cons _ (Ent.nil _)) | refine Ent.trans (Ent.tail _ _) ?_))) (fun _ _ => ?_)
  refine GV.call 7 (As := [_]) (by kernel_rfl) (by kernel_rfl) rfl rfl rfl rfl rfl rfl (fun w hst => Fixed_tri g _ _ 4 w hrl) rfl (by repeat (first | exact Ent.trans (RdS.blk _ _ _ _) (Ent.cons _ (Ent.nil _)) | refine Ent.trans (Ent.tail _ _) ?_)) (fun _ _ => (by repeat (first | exact Ent.trans (RdS.blk _ _ _ _) (Ent.cons _ (Ent.nil _)) | refine Ent.trans (Ent.tail _ _) ?_))) (fun _ _ => ?_)
  refine GV.call 9 (As := [_]) (by kernel_rfl) (by kernel_rfl) rfl rfl rfl rfl rfl rfl (fun w hst => Opt_tri g _ _ 5 w hrl) rfl (by repeat (first | exact Ent.trans (RdS.blk _ _ _ _) (Ent.cons _ (Ent.nil _)) | refine Ent.trans (Ent.tail _ _) ?_)) (fun _ _ => (by repeat (first | exact Ent.trans (RdS.blk _ _ _ _) (Ent.cons _ (Ent.nil _)) | refine Ent.trans (Ent.tail _ _) ?_))) (fun _ _ => ?_)
  refine GV.call 11 (As := [_]) (by kernel_rfl) (by kernel_rfl) rfl rfl rfl rfl rfl rfl (fun w hst => Opt_tri g _ _ 11 w hrl) rfl (by repeat (first | exact Ent.trans (RdS.blk _ _ _ _) (Ent.cons _ (Ent.nil _)) | refine Ent.trans (Ent.tail _ _) ?_)) (fun _ _ => (by repeat (first | exact Ent.trans (RdS.blk _ _ _ _) (Ent.cons _ (Ent.nil _)) | refine Ent.trans (Ent.tail _ _) ?_))) (fun _ _ => ?_)
  refine GV.call 13 (As := [_]) (by kernel_rfl) (by kernel_rfl) rfl rfl rfl rfl rfl rfl (fun w hst => Opt_tri g _ _ 12 w hrl) rfl (by repeat (first | exact Ent.trans (RdS.blk _ _ _ _) (Ent.cons _ (Ent.nil _)) | refine Ent.trans (Ent.tail _ _) ?_)) (fun _ _ => (by repeat (first | exact Ent.trans (RdS.blk _ _ _ _) (Ent.cons _ (Ent.nil _)) | refine Ent.trans (Ent.tail _ _) ?_))) (fun _ _ => ?_)
  refine GV.call 15 (As := [_]) (by kernel_rfl) (by kernel_rfl) rfl rfl rfl rfl rfl rfl (fun w hst => RFixeds_tri g _ _ 6 hrs hsm (Nat.le_trans hp6 (by omega)) hr32 w) rfl (by repeat (first | exact Ent.trans (RdS.blk _ _ _ _) (Ent.cons _ (Ent.nil _)) | refine Ent.trans (Ent.tail _ _) ?_)) (fun v3 hv3 => (by repeat (first | exact Ent.trans (RdS.blk _ _ _ _) (Ent.cons _ (Ent.nil _)) | refine Ent.trans (Ent.tail _ _) ?_))) (fun v3 hv3 => ?_)
  obtain ⟨A3, c3, rfl⟩ := hv3
  refine GV.ent (Ent.front 2 _ _ rfl) ?_
  refine GV.ent (Ent.front 2 _ _ rfl) ?_
  refine GV.call 17 (As := [_]) (by kernel_rfl) (by kernel_rfl) rfl rfl rfl rfl rfl rfl (fun w hst => RFixeds_tri g _ _ 7 hrs hsm (Nat.le_trans hp7 (by omega)) hr32 w) rfl (by repeat (first | exact Ent.trans (RdS.blk _ _ _ _) (Ent.cons _ (Ent.nil _)) | refine Ent.trans (Ent.tail _ _) ?_)) (fun v4 hv4 => (by repeat (first | exact Ent.trans (RdS.blk _ _ _ _) (Ent.cons _ (Ent.nil _)) | refine Ent.trans (Ent.tail _ _) ?_))) (fun v4 hv4 => ?_)
  obtain ⟨A4, c4, rfl⟩ := hv4
  refine GV.ent (Ent.front 2 _ _ rfl) ?_
  refine GV.ent (Ent.front 2 _ _ rfl) ?_
  refine GV.call 19 (As := [_, _]) (by kernel_rfl) (by kernel_rfl) rfl rfl rfl rfl rfl rfl (fun w hst => List_exem g _ _ 8 (fun h => exem_rd N hN (d - 1) (by have := hM.2.2 h; omega) (by omega)) hsm hrN hr32 hM.2.2 hd2 w) rfl (by repeat (first | exact Ent.trans (RdS.blk _ _ _ _) (Ent.cons _ (Ent.nil _)) | refine Ent.trans (Ent.tail _ _) ?_)) (fun v2 hv2 => (by repeat (first | exact Ent.trans (RdS.blk _ _ _ _) (Ent.cons _ (Ent.nil _)) | refine Ent.trans (Ent.tail _ _) ?_))) (fun v2 hv2 => ?_)
  obtain ⟨A2, c2, rfl⟩ := hv2
  refine GV.ent (Ent.front 2 _ _ rfl) ?_
  refine GV.ent (Ent.front 2 _ _ rfl) ?_
  refine GV.call 21 (As := [_]) (by kernel_rfl) (by kernel_rfl) rfl rfl rfl rfl rfl rfl (fun w hst => Fixed_tri g _ _ 10 w hrl) rfl (by repeat (first | exact Ent.trans (RdS.blk _ _ _ _) (Ent.cons _ (Ent.nil _)) | refine Ent.trans (Ent.tail _ _) ?_)) (fun _ _ => (by repeat (first | exact Ent.trans (RdS.blk _ _ _ _) (Ent.cons _ (Ent.nil _)) | refine Ent.trans (Ent.tail _ _) ?_))) (fun _ _ => ?_)
  refine GV.take 22 rfl rfl (by kernel_rfl) (by kernel_rfl) (by kernel_rfl) (by kernel_rfl) (by kernel_rfl) (.convInt rfl (u32w _)) rfl (GV.take 27 rfl rfl (by kernel_rfl) (by kernel_rfl) (by kernel_rfl) (by kernel_rfl) (by kernel_rfl) (.build (cs := [_, _, _, _, _, _, _, _, _, _, _, _, _, _, _]) rfl rfl) rfl (?_))
  refine GV.fin (by kernel_rfl) rfl rfl rfl (by repeat (first | exact Ent.trans (RdS.blk _ _ _ _) (Ent.cons _ (Ent.nil _)) | refine Ent.trans (Ent.tail _ _) ?_)) (fun b7 => ?_)
  refine GA.one 29 (by kernel_rfl) (GAi.w0 rfl (.store 0 rfl rfl rfl rfl rfl rfl rfl) (fun _ _ => (by repeat (first | exact Ent.trans (RdS.blk _ _ _ _) (Ent.cons _ (Ent.nil _)) | refine Ent.trans (Ent.tail _ _) ?_))) (fun _ _ => ?_))
  refine GA.done (by kernel_rfl) (?_)
  refine GN.seq (GC.seq (GC.seq (GC.region (GL.v (.move rfl) rfl (GL.v (.nilCheck rfl) rfl (GL.v (.fieldAddr rfl) rfl (?_)))))))
  refine GL.ent (Ent.front 1 _ _ rfl) ?_
  refine GL.open ?_
  rintro x hx
  rcases hx with ⟨hn, rfl⟩ | ⟨⟨oc, ho⟩, t, u, rfl⟩
  · refine GL.v (.ld 0 rfl rfl rfl) rfl (GL.v (.neqNil rfl (by first | exact .inl rfl | exact .inr ⟨_, _, rfl⟩ | assumption)) rfl (GL.nil (GN.seq (?_))))
    refine GC.cond rfl (fun h => Bool.noConfusion (h.symm.trans (rfl) : true = false)) (fun _ => ?_)
    refine GC.skip (GN.seq (GC.seq (GC.region (GL.v (.ldN 3 [_, _, _, _, _, _, _, _, _, _, _, _, _, _, _] rfl rfl rfl ⟨rfl, rfl, rfl, rfl, rfl, rfl, rfl, rfl, rfl, rfl, rfl, rfl, rfl, rfl, rfl, trivial⟩) rfl (GL.w0 (.store 9 rfl rfl rfl rfl rfl rfl rfl) (fun _ _ => GL.v (.assign rfl) rfl (GL.nil (GN.seq (GC.ret (?_))))))))))
    exact GR.cell2 9 [.slice A1 (rlM keyM (d - 1) 9 (readT hisT d (bs s))).length c1, .int .u64 ((lastM (readT hisT d (bs s)) 2).n : Int), .int .u64 ((lastM (readT hisT d (bs s)) 3).n : Int), .int .u64 ((lastM (readT hisT d (bs s)) 4).n : Int), .bool (decide ((lastM (readT hisT d (bs s)) 5).num = 5)), .int .u64 ((lastM (readT hisT d (bs s)) 5).n : Int), .bool (decide ((lastM (readT hisT d (bs s)) 11).num = 11)), .int .u64 ((lastM (readT hisT d (bs s)) 11).n : Int), .bool (decide ((lastM (readT hisT d (bs s)) 12).num = 12)), .int .u64 ((lastM (readT hisT d (bs s)) 12).n : Int), .slice A3 (pkM fixsM 6 (readT hisT d (bs s))).length c3, .slice A4 (pkM fixsM 7 (readT hisT d (bs s))).length c4, .slice A2 (rlM exemM (d - 1) 8 (readT hisT d (bs s))).length c2, .int .u32 (((lastM (readT hisT d (bs s)) 10).n % 4294967296 : Nat) : Int), .string (mkS (readU hisT d (bs s)))] rfl rfl rfl rfl rfl rfl ⟨rfl, rfl, rfl, rfl, rfl, rfl, rfl, rfl, rfl, rfl, rfl, rfl, rfl, rfl, rfl, trivial⟩ (_, .nilIface) rfl (Ent.trans (Ent.trans (Ent.front 8 _ _ rfl) (Ent.cons _ (Ent.trans (Ent.front 7 _ _ rfl) (Ent.cons _ (Ent.trans (Ent.front 6 _ _ rfl) (Ent.cons _ (Ent.trans (Ent.front 5 _ _ rfl) (Ent.cons _ (Ent.trans (Ent.front 1 _ _ rfl) (Ent.cons _ (Ent.trans (Ent.front 3 _ _ rfl) (Ent.cons _ (Ent.nil _))))))))))))) (Ent.trans (his_fin d (bs s) _ _ _ _ _ _ _) (by rw [show errE (hisM d (bs s)) = hisE d (bs s) from errE_fin _ _]; exact Ent.refl _))) ⟨rfl, rfl⟩
  · skip
    refine GL.v (.ld 0 rfl rfl rfl) rfl (GL.v (.neqNil rfl (by first | exact .inl rfl | exact .inr ⟨_, _, rfl⟩ | assumption)) rfl (GL.nil (GN.seq (?_))))
    refine GC.cond rfl (fun _ => ?_) (fun h => Bool.noConfusion (h.symm.trans (rfl) : false = true))
    refine GC.seq (?_)
    refine GC.draw ([Blk g 93 5 [(0, .iface t u)]]) (m := 7) rfl (by repeat (first | exact Ent.nil _ | (with_reducible exact Ent.refl _) | refine Ent.blk (by repeat (first | exact Sub.nil _ | refine Sub.cons rfl ?_)) ?_ | refine Ent.cons _ ?_ | refine Ent.trans (Ent.tail _ _) ?_)) ?_
    refine GA.take 0 rfl (by kernel_rfl) (by kernel_rfl) (by kernel_rfl) (.build (cs := [_, _, _, _, _, _, _, _, _, _, _, _, _, _, _]) rfl rfl) rfl (GA.take 1 rfl (by kernel_rfl) (by kernel_rfl) (by kernel_rfl) (.move rfl) rfl (GA.take 2 rfl (by kernel_rfl) (by kernel_rfl) (by kernel_rfl) (.nilCheck rfl) rfl (GA.take 3 rfl (by kernel_rfl) (by kernel_rfl) (by kernel_rfl) (.fieldAddr rfl) rfl (GA.take 4 rfl (by kernel_rfl) (by kernel_rfl) (by kernel_rfl) (.ld 0 rfl rfl rfl) rfl (?_)))))
    refine GA.one 5 (by kernel_rfl) (GAi.w0 rfl (.store 9 rfl rfl rfl rfl rfl rfl rfl) (fun _ _ => (by repeat (first | exact Ent.nil _ | (with_reducible exact Ent.refl _) | refine Ent.blk (by repeat (first | exact Sub.nil _ | refine Sub.cons rfl ?_)) ?_ | refine Ent.cons _ ?_ | refine Ent.trans (Ent.tail _ _) ?_))) (fun _ _ => ?_))
    refine GA.take 6 rfl (by kernel_rfl) (by kernel_rfl) (by kernel_rfl) (.assign rfl) rfl (GA.done (by kernel_rfl) (?_))
    refine GN.seq (GC.ret (?_))
    refine GR.cell2 9 [.slice none 0 0, .int .u64 0, .int .u64 0, .int .u64 0, .bool false, .int .u64 0, .bool false, .int .u64 0, .bool false, .int .u64 0, .slice none 0 0, .slice none 0 0, .slice none 0 0, .int .u32 0, .string emptyS] rfl rfl rfl rfl rfl rfl ⟨rfl, rfl, rfl, rfl, rfl, rfl, rfl, rfl, rfl, rfl, rfl, rfl, rfl, rfl, rfl, trivial⟩ ([.slice none 0 0, .int .u64 0, .int .u64 0, .int .u64 0, .bool false, .int .u64 0, .bool false, .int .u64 0, .bool false, .int .u64 0, .slice none 0 0, .slice none 0 0, .slice none 0 0, .int .u32 0, .string emptyS], .iface t u) rfl (Ent.trans (Ent.trans (Ent.front 1 _ _ rfl) (Ent.cons _ (Ent.trans (Ent.front 3 _ _ rfl) (Ent.cons _ (Ent.nil _))))) ?_) ⟨rfl, rfl⟩
    have hq : hisM d (bs s) = .error oc := by unfold hisM hisE; simp only at ho ⊢; rw [ho]; rfl
    rw [hq, ho]
    exact (Ent.intro (A := (resF hisF (.error oc) _).hp) (fun _ => trivial) _)
end Go.Proofs.Gw
/- The writer, more: numbers of eight bytes; lists of them; nothing of a list. -/
set_option linter.unusedVariables false
set_option linter.unusedSimpArgs false
namespace Go.Proofs.Gw
open Go Go.RowKit Go.IntWalk Go.Proofs.Gm

section
variable {C : Ctx} {ρ : List (Nat × Value)} {Hs : List HP} {ty : TypeId}
theorem OpV.ldNumF (i : Nat) {F : FP} {t : TypeId} {x : Operand} {l : List Nat} {g off n c j m : Nat} [hz : TSz C.P t false 1] (hi : Hs[i]? = some F.hp) (hF : ∀ ok w, F.holds ok w → (numsF l (.slice (some ⟨g, off, none⟩) n c)).holds ok w) (hx : ev ρ x = some (.pointer (some ⟨g, off + j * 1, none⟩))) (hj : l[j]? = some m) : OpV C ρ (St C Hs) (.load t x) ty (.int .u64 (m : Int)) :=
  OpV.load1 hx fun w hs => by
    have h1 := hF _ _ (hs.fp i hi)
    obtain ⟨g', off', c', e, h2⟩ := nums_at h1 hj
    simp only [Value.slice.injEq, Option.some.injEq, Addr.mk.injEq, and_true] at e
    obtain ⟨⟨rfl, rfl⟩, _, _⟩ := e
    exact h2
end
theorem fixW_len (num n : Nat) : (fixW num n).length ≤ 18 := by
  unfold fixW; refine Nat.le_trans (putW_len _ _ _) ?_; rw [leM_len]; omega
theorem WEight_tri (b num n : Nat) (l : Bs) (w : World) (h1 : num < 2 ^ 62) (h2 : n < 2 ^ 64) (hn : l.length + 20 ≤ 140737488355328) : Tri Tryz.prog 156 [ptr b, .int .i64 (num : Int), .int .u64 (n : Int)] [Wr b l] (fun _ : Unit => .tuple #[]) (fun _ => [Wr b (l ++ fixW num n)]) (fun _ => True) w := by
  refine tri_of_G 11 Tryz.func156 rfl Tryz.ntmps156 rfl (fun D => ?_)
  refine GC.region (GL.v (.move rfl) rfl (GL.v (.move rfl) rfl (GL.v (.move rfl) rfl (?_))))
  refine GL.call (As := []) rfl (fun w hst => Fixed_w num n w h1 h2) rfl (fun _ _ => ?_)
  have := fixW_len num n
  refine GL.call (As := [_]) rfl (fun w hst => Raw_tri b l (fixW num n) w (by omega)) rfl (fun _ _ => ?_)
  refine GL.nil (?_)
  exact GR.none rfl rfl () rfl (Ent.refl _) trivial
theorem WFixed_tri (b num n : Nat) (l : Bs) (w : World) (h1 : num < 2 ^ 62) (h2 : n < 2 ^ 64) (hn : l.length + 20 ≤ 140737488355328) : Tri Tryz.prog 84 [ptr b, .int .i64 (num : Int), .int .u64 (n : Int)] [Wr b l] (fun _ : Unit => .tuple #[]) (fun _ => [Wr b (l ++ fixedW num n)]) (fun _ => True) w := by
  refine tri_of_G 12 Tryz.func84 rfl Tryz.ntmps84 rfl (fun D => ?_)
  refine GC.seq (GC.region (GL.v (.move rfl) rfl (GL.v (.gtr rfl rfl) rfl (GL.nil (GN.seq (?_))))))
  refine GC.condD rfl (fun he => ?_) (fun he => ?_)
  · refine GC.region (GL.v (.move rfl) rfl (GL.v (.move rfl) rfl (GL.v (.move rfl) rfl (?_))))
    refine GL.call (As := [_]) rfl (fun w hst => WEight_tri b num n l w h1 h2 hn) rfl (fun _ _ => ?_)
    refine GL.nil (?_)
    have e : fixedW num n = fixW num n := by unfold fixedW; rw [if_pos (by omega)]
    rw [e]
    exact GR.none rfl rfl () rfl (Ent.refl _) trivial
  · refine GC.skip (?_)
    have e : fixedW num n = [] := by unfold fixedW; rw [if_neg (by omega)]
    rw [e, List.append_nil]
    exact GR.none rfl rfl () rfl (Ent.refl _) trivial
def optW (num : Nat) (o : OptN) : Bs := if o.has then fixW num o.n else []
theorem WOpt_tri (b num : Nat) (o : OptN) (l : Bs) (w : World) (h1 : num < 2 ^ 62) (h2 : o.n < 2 ^ 64) (hn : l.length + 20 ≤ 140737488355328) : Tri Tryz.prog 105 [ptr b, .int .i64 (num : Int), .agg #[.bool o.has, .int .u64 (o.n : Int)]] [Wr b l] (fun _ : Unit => .tuple #[]) (fun _ => [Wr b (l ++ optW num o)]) (fun _ => True) w := by
  refine tri_of_G 13 Tryz.func105 rfl Tryz.ntmps105 rfl (fun D => ?_)
  refine GC.seq (GC.region (GL.w (.box rfl rfl) rfl (fun b5 _ => GL.nil (GN.seq (GC.seq (GC.region (GL.v (.fieldAddr rfl) rfl (GL.v (.ld 0 rfl rfl rfl) rfl (GL.nil (GN.seq (?_)))))))))))
  refine GC.cond rfl (fun he => ?_) (fun he => ?_)
  · refine GC.region (GL.v (.move rfl) rfl (GL.v (.move rfl) rfl (GL.v (.fieldAddr rfl) rfl (GL.v (.ld 0 rfl rfl rfl) rfl (?_)))))
    refine GL.ent (Ent.front 1 _ _ rfl) ?_
    refine GL.call (As := [_]) rfl (fun w hst => WEight_tri b num o.n l w h1 h2 hn) rfl (fun _ _ => ?_)
    refine GL.nil (?_)
    have e : optW num o = fixW num o.n := by unfold optW; rw [if_pos he]
    rw [e]
    exact GR.none rfl rfl () rfl ((Ent.cons _ (Ent.nil _))) trivial
  · refine GC.skip (?_)
    have e : optW num o = [] := by unfold optW; rw [if_neg (by rw [he]; simp)]
    rw [e, List.append_nil]
    exact GR.none rfl rfl () rfl (Ent.trans (Ent.front 1 _ _ rfl) (Ent.cons _ (Ent.nil _))) trivial
theorem fix1 (n : Nat) : fixW 1 n = 9 :: leM 8 n := by
  unfold fixW putW
  have : tagW 1 1 = [9] := by simp [tagW, putM]
  rw [this]; rfl
theorem extract1 (n : Nat) : (mkS (fixW 1 n)).extract 1 (mkS (fixW 1 n)).size = mkS (leM 8 n) := bs_inj (by
  rw [bs_extract, bs_mkS, bs_mkS, mkS_size, fix1, List.take_length]; rfl)
theorem flat_leM_len : ∀ (l : List Nat), (l.flatMap (leM 8)).length = 8 * l.length
  | [] => rfl
  | n :: l => by rw [List.flatMap_cons, List.length_append, leM_len, flat_leM_len l, List.length_cons]; omega
theorem WFixeds_tri (F : FP) (b num : Nat) (l : Bs) (ns : List Nat) (v : Value) (w : World) (hF : ∀ ok w, F.holds ok w → (numsF ns v).holds ok w) (h1 : num < 2 ^ 62) (h2 : ∀ n, n ∈ ns → n < 2 ^ 64) (h3 : ns.length ≤ 4294967296) (hn : l.length ≤ 4294967296) :
    Tri Tryz.prog 106 [ptr b, .int .i64 (num : Int), v] [Wr b l, F.hp] (fun _ : Unit => .tuple #[]) (fun _ => [Wr b (l ++ fixsW num ns), F.hp]) (fun _ => True) w := by
  refine tri_of_G 24 Tryz.func106 rfl Tryz.ntmps106 rfl (fun D => ?_)
  refine GC.fact 1 (φ := ∃ A c, v = .slice A ns.length c ∧ (0 < ns.length → ∃ g off, A = some ⟨g, off, none⟩)) rfl (fun ok w h => numsF.form (hF ok w h)) (fun hv => ?_)
  obtain ⟨A, c, rfl, hA⟩ := hv
  refine GC.seq (GC.region (GL.w .alloc rfl (fun b6 _ => GL.nil (GN.seq (GC.seq (GC.seq (GC.region (GL.v (.move rfl) rfl (GL.v (.lenSl rfl) rfl (GL.v (.move rfl) rfl (GL.nil (GN.seq (GC.block (?_))))))))))))))
  refine GC.loop (γ := Nat) (fun i => i ≤ ns.length) (fun i => [(0, ptr b), (1, .int .i64 (num : Int)), (6, ptr b6), (9, .slice A ns.length c), (10, .int .i64 (ns.length : Int)), (11, .int .i64 (i : Int))])
    (fun i => [Bld 135 b6 ((ns.take i).flatMap (leM 8)), Wr b l, F.hp]) (fun i => ns.length - i) 0 (Nat.zero_le _) (Sub.cons rfl (Sub.cons rfl (Sub.cons rfl (Sub.cons rfl (Sub.cons rfl (Sub.cons rfl (Sub.nil _))))))) ?_ ?_
  · exact Ent.trans (Ent.blk (u' := [(0, .pointer none), (1, .slice none 0 0)]) (by repeat (first | exact Sub.nil _ | refine Sub.cons rfl ?_)) (Ent.refl _)) (Bld.zero 135 b6 _)
  intro i hi
  have hfl := flat_leM_len ns
  refine GC.seq (GC.region (GL.v (.lss rfl rfl) rfl (GL.nil (GN.seq (GC.seq (?_))))))
  refine GC.condD rfl (fun hlt => ?_) (fun hlt => ?_)
  · have hl : i < ns.length := by omega
    obtain ⟨m, hm⟩ : ∃ m, ns[i]? = some m := ⟨_, List.getElem?_eq_getElem hl⟩
    have htk : ns.take (i + 1) = ns.take i ++ [m] := by rw [List.take_add_one, hm]; rfl
    obtain ⟨g0, off, rfl⟩ := hA (by omega)
    have hm64 := h2 m (List.mem_of_getElem? hm)
    refine GC.skip (GN.seq (GC.seq (GC.block (GC.seq (GC.region (GL.v (.indexAddr rfl rfl (by omega) (by omega)) rfl (?_)))))))
    refine GL.v (.ldNumF 2 (F := F) (j := i) (m := m) rfl hF rfl hm) rfl ?_
    refine GL.v (.assign rfl) rfl (GL.nil (GN.seq (GC.region (GL.v (.move rfl) rfl (?_)))))
    refine GL.call (As := []) rfl (fun w hst => Fixed_w 1 m w (by omega) hm64) rfl (fun _ _ => ?_)
    have hf9 : (mkS (fixW 1 m)).size = 9 := by rw [mkS_size, fix1, List.length_cons, leM_len]
    refine GL.v (.sliceSL rfl rfl (by omega) (by rw [hf9]; omega)) rfl (?_)
    rw [show (mkS (fixW 1 m)).extract (1 : Int).toNat (mkS (fixW 1 m)).size = mkS (leM 8 m) from extract1 m]
    have hle := flat_leM_len (ns.take i)
    rw [List.length_take] at hle
    refine GL.call (As := [_]) rfl (fun w hst => WriteString_tri _ b6 liesB _ (mkS (leM 8 m)) w (by rw [mkS_size, leM_len, hle]; omega)) rfl (fun _ _ => ?_)
    refine GL.nil (GN.blk (GN.seq (GC.region (GL.v (.add rfl rfl (i64_in _ (by omega))) rfl (GL.v (.move rfl) rfl (GL.nil (?_)))))))
    refine GN.loop (i + 1) (by omega) (by omega) (Sub.cons rfl (Sub.cons rfl (Sub.cons rfl (Sub.cons rfl (Sub.cons rfl (Sub.cons rfl (Sub.nil _))))))) ?_
    rw [htk, List.flatMap_append, bs_mkS]
    simp only [List.flatMap_cons, List.flatMap_nil, List.append_nil]
    exact Ent.refl _
  · have hie : i = ns.length := by omega
    subst hie
    rw [List.take_length]
    refine GC.exit (GX.seq (GX.loop (GX.blk (GN.seq (GC.region (GL.v (.move rfl) rfl (GL.v (.move rfl) rfl (?_))))))))
    refine GL.call (As := [_]) rfl (fun w hst => String_tri _ b6 (ns.flatMap (leM 8)) w) rfl (fun _ _ => ?_)
    refine GL.call (As := [_]) rfl (fun w hst => WText_tri b num l (ns.flatMap (leM 8)) w h1 (by omega)) rfl (fun _ _ => ?_)
    refine GL.nil (?_)
    exact GR.none rfl rfl () rfl (Ent.refl _) trivial
theorem PartsK_nil (b f : Nat) (num d : Int) (A : Option Addr) (c : Nat) (l : Bs) (w : World) : Tri Tryz.prog 88 [ptr b, .int .i64 num, .slice A 0 c, .int .i64 d, .func (.func f) #[] #[]] [Wr b l] (fun _ : Unit => .tuple #[]) (fun _ => [Wr b l]) (fun _ => True) w := by
  refine tri_of_G 33 Tryz.func88 rfl Tryz.ntmps88 rfl (fun D => ?_)
  refine GC.seq (GC.region (GL.v (.move rfl) rfl (GL.v (.lenSl rfl) rfl (GL.v (.move rfl) rfl (GL.nil (GN.seq (GC.block (?_))))))))
  refine GC.loop (γ := Unit) (fun _ => True) (fun _ => [(15, .int .i64 0), (16, .int .i64 0)]) (fun _ => [Wr b l]) (fun _ => 0) () trivial (Sub.cons rfl (Sub.cons rfl (Sub.nil _))) (Ent.refl _) ?_
  intro _ _
  refine GC.seq (GC.region (GL.v (.lss rfl rfl) rfl (GL.nil (GN.seq (GC.seq (?_))))))
  refine GC.cond rfl (fun h => Bool.noConfusion (h.symm.trans (decide_eq_false ((by omega))) : true = false)) (fun _ => ?_)
  refine GC.exit (GX.seq (GX.loop (GX.blk (?_))))
  exact GR.none rfl rfl () rfl (Ent.refl _) trivial
theorem PartsX_nil (b f : Nat) (num d : Int) (A : Option Addr) (c : Nat) (l : Bs) (w : World) : Tri Tryz.prog 86 [ptr b, .int .i64 num, .slice A 0 c, .int .i64 d, .func (.func f) #[] #[]] [Wr b l] (fun _ : Unit => .tuple #[]) (fun _ => [Wr b l]) (fun _ => True) w := by
  refine tri_of_G 33 Tryz.func86 rfl Tryz.ntmps86 rfl (fun D => ?_)
  refine GC.seq (GC.region (GL.v (.move rfl) rfl (GL.v (.lenSl rfl) rfl (GL.v (.move rfl) rfl (GL.nil (GN.seq (GC.block (?_))))))))
  refine GC.loop (γ := Unit) (fun _ => True) (fun _ => [(15, .int .i64 0), (16, .int .i64 0)]) (fun _ => [Wr b l]) (fun _ => 0) () trivial (Sub.cons rfl (Sub.cons rfl (Sub.nil _))) (Ent.refl _) ?_
  intro _ _
  refine GC.seq (GC.region (GL.v (.lss rfl rfl) rfl (GL.nil (GN.seq (GC.seq (?_))))))
  refine GC.cond rfl (fun h => Bool.noConfusion (h.symm.trans (decide_eq_false ((by omega))) : true = false)) (fun _ => ?_)
  refine GC.exit (GX.seq (GX.loop (GX.blk (?_))))
  exact GR.none rfl rfl () rfl (Ent.refl _) trivial
theorem MayKeys_nil (A : Option Addr) (c : Nat) (d : Int) (w : World) : Tri Tryz.prog 96 [.slice A 0 c, .int .i64 d] [] (fun _ : Unit => .bool true) (fun _ => []) (fun _ => True) w := by
  refine tri_of_G 18 Tryz.func96 rfl Tryz.ntmps96 rfl (fun D => ?_)
  refine GC.seq (GC.region (GL.v (.assign rfl) rfl (GL.nil (GN.seq (GC.seq (GC.seq (GC.region (GL.v (.move rfl) rfl (GL.v (.lenSl rfl) rfl (GL.v (.move rfl) rfl (GL.nil (GN.seq (GC.block (?_))))))))))))))
  refine GC.loop (γ := Unit) (fun _ => True) (fun _ => [(8, .int .i64 0), (9, .int .i64 0)]) (fun _ => []) (fun _ => 0) () trivial (Sub.cons rfl (Sub.cons rfl (Sub.nil _))) (Ent.nil _) ?_
  intro _ _
  refine GC.seq (GC.region (GL.v (.lss rfl rfl) rfl (GL.nil (GN.seq (GC.seq (?_))))))
  refine GC.cond rfl (fun h => Bool.noConfusion (h.symm.trans (decide_eq_false ((by omega))) : true = false)) (fun _ => ?_)
  refine GC.exit (GX.seq (GX.loop (GX.blk (GN.seq (GC.seq (GC.region (GL.v (.assign rfl) rfl (GL.nil (GN.seq (GC.ret (?_)))))))))))
  exact GR.one rfl rfl rfl () rfl (Ent.nil _) trivial
theorem IndexX_nil (A : Option Addr) (c f : Nat) (cap : Array Value) (w : World) : Tri Tryz.prog 206 [.slice A 0 c, .func (.func f) #[] cap] [] (fun _ : Unit => .int .i64 (-1)) (fun _ => []) (fun _ => True) w := by
  refine tri_of_G 19 Tryz.func206 rfl Tryz.ntmps206 rfl (fun D => ?_)
  refine GC.seq (GC.region (GL.v (.assign rfl) rfl (GL.nil (GN.seq (GC.seq (GC.seq (GC.region (GL.v (.move rfl) rfl (GL.v (.lenSl rfl) rfl (GL.v (.move rfl) rfl (GL.nil (GN.seq (GC.block (?_))))))))))))))
  refine GC.loop (γ := Unit) (fun _ => True) (fun _ => [(7, .int .i64 0), (8, .int .i64 0)]) (fun _ => []) (fun _ => 0) () trivial (Sub.cons rfl (Sub.cons rfl (Sub.nil _))) (Ent.nil _) ?_
  intro _ _
  refine GC.seq (GC.region (GL.v (.lss rfl rfl) rfl (GL.nil (GN.seq (GC.seq (?_))))))
  refine GC.cond rfl (fun h => Bool.noConfusion (h.symm.trans (decide_eq_false ((by omega))) : true = false)) (fun _ => ?_)
  refine GC.exit (GX.seq (GX.loop (GX.blk (GN.seq (GC.seq (GC.region (GL.v (.assign rfl) rfl (GL.nil (GN.seq (GC.ret (?_)))))))))))
  exact GR.one rfl rfl rfl () rfl (Ent.nil _) trivial
theorem ContX_nil (A : Option Addr) (c f : Nat) (cap : Array Value) (w : World) : Tri Tryz.prog 162 [.slice A 0 c, .func (.func f) #[] cap] [] (fun _ : Unit => .bool false) (fun _ => []) (fun _ => True) w := by
  refine tri_of_G 9 Tryz.func162 rfl Tryz.ntmps162 rfl (fun D => ?_)
  refine GC.seq (GC.region (GL.v (.assign rfl) rfl (GL.nil (GN.seq (GC.seq (GC.region (GL.v (.move rfl) rfl (GL.v (.move rfl) rfl (?_)))))))))
  refine GL.call (As := []) rfl (fun w hst => IndexX_nil A c f cap w) rfl (fun _ _ => ?_)
  refine GL.v (.geq rfl rfl) rfl (GL.v (.assign rfl) rfl (GL.nil (GN.seq (GC.ret (?_)))))
  exact GR.one rfl rfl rfl () rfl (Ent.nil _) trivial
end Go.Proofs.Gw
