/- Texts that a claim of this seat leans on: W1, W2, W3, W4. No statement is claimed in this text. -/
import Derived.Test.YtabmekglalbmoaaGreatDoorB11
import Derived.Test.YtabmekglalbmoaaGreatDoorB10
/- Bytes that are written: numbers, tags, records; the writer. -/
set_option linter.unusedVariables false
set_option linter.unusedSimpArgs false
namespace Go.Proofs.Gw
open Go Go.RowKit Go.IntWalk Go.Proofs.Gm

theorem u8w (n : Nat) : IntKind.u8.wrap (n : Int) = ((n % 256 : Nat) : Int) := by simp [IntKind.wrap, IntKind.bits, IntKind.signed]
theorem or_u8_128 (c : Nat) (hc : c < 256) : bits .or .u8 (c : Int) 128 = ((c % 128 + 128 : Nat) : Int) := by
  have h := or_u8 c 128 hc (by omega)
  rw [show ((128 : Nat) : Int) = 128 from rfl] at h
  rw [h]
  congr 1
  rcases Nat.lt_or_ge c 128 with h1 | h1
  · have h2 := or_apart c 1 7 h1
    rw [show 1 * 2 ^ 7 = 128 from rfl] at h2
    rw [h2]; omega
  · have h2 := or_apart (c - 128) 1 7 (by omega)
    rw [show 1 * 2 ^ 7 = 128 from rfl] at h2
    have h3 : c = (c - 128) ||| 128 := by rw [h2]; omega
    rw [h3, Nat.or_assoc, Nat.or_self, ← h3]; omega
theorem byC_snoc (l : Bs) (k : Nat) (h : k < 256) : byC l ++ [Value.int .u8 (k : Int)] = byC (l ++ [UInt8.ofNat k]) := by
  have : (UInt8.ofNat k).toNat = k := UInt8.toNat_ofNat_of_lt' (by simpa using h)
  simp [byC, Lib.byteCells, this]
theorem putM_ge {m : Nat} (h : 128 ≤ m) : putM m = UInt8.ofNat (m % 128 + 128) :: putM (m / 128) := by rw [putM, if_neg (by omega)]
theorem putM_lt {m : Nat} (h : m < 128) : putM m = [UInt8.ofNat m] := by rw [putM, if_pos h]

theorem Put_tri (n : Nat) (w : World) (hn : n < 2 ^ 64) : Tri Tryz.prog 67 [.int .u64 (n : Int)] [] (fun _ : Unit => .string (mkS (putM n))) (fun _ => []) (fun _ => True) w := by
  refine tri_of_G 20 Tryz.func67 rfl Tryz.ntmps67 rfl (fun D => ?_)
  refine GC.seq (GC.region (GL.v (.assign rfl) rfl (GL.nil (GN.seq (GC.seq (GC.region (GL.v (.assign rfl) rfl (GL.nil (GN.seq (GC.seq (GC.block (?_))))))))))))
  refine GC.loop (γ := Nat × Bs × Option Addr × Nat) (fun q => q.2.1 ++ putM q.1 = putM n ∧ q.1 < 2 ^ 64) (fun q => [(0, .int .u64 (q.1 : Int)), (3, .slice q.2.2.1 q.2.1.length q.2.2.2)])
    (fun q => [Own 5 1 (.slice q.2.2.1 q.2.1.length q.2.2.2) q.2.1.length (byC q.2.1)]) (fun q => q.1) (n, [], none, 0) ⟨rfl, hn⟩ (Sub.cons rfl (Sub.cons rfl (Sub.nil _))) (Ent.intro (A := Own 5 1 (.slice none 0 0) 0 []) (fun w => Own.nil _ _ w) _) ?_
  rintro ⟨m, l, A, c⟩ ⟨h1, h2⟩
  simp only at h1 h2 ⊢
  have hl : l.length + (putM m).length ≤ 10 := by
    rw [← List.length_append, h1]; exact putM_len64 n hn
  refine GC.seq (GC.seq (GC.region (GL.v (.move rfl) rfl (GL.v (.geq rfl rfl) rfl (GL.nil (GN.seq (?_)))))))
  refine GC.condD rfl (fun hge => ?_) (fun hge => ?_)
  · have hg : 128 ≤ m := by omega
    have e := putM_ge hg
    rw [e] at h1 hl
    simp only [List.length_cons] at hl
    refine GC.skip (GN.seq (GC.seq (GC.block (GC.region (GL.v (.move rfl) rfl (GL.v (.move rfl) rfl (GL.v (.convInt rfl (u8w m)) rfl (GL.v (.or rfl rfl) rfl (?_)))))))))
    rw [or_u8_128 (m % 256) (by omega)]
    refine GL.w (.bone [.int .u8 ((m % 256 % 128 + 128 : Nat) : Int)] rfl rfl rfl rfl rfl rfl) rfl (fun bV _ => ?_)
    refine GL.w (.append 1 0 [.int .u8 ((m % 256 % 128 + 128 : Nat) : Int)] rfl rfl rfl rfl rfl ⟨rfl, trivial⟩ rfl rfl rfl rfl rfl (by omega)) rfl (fun q _ => ?_)
    refine GL.v (.assign rfl) rfl (GL.nil (GN.blk (GN.seq (GC.region (GL.v (.move rfl) rfl (GL.v (.shr rfl rfl (by omega) (show ((m : Nat) : Int) / 2 ^ min ((7 : Int).toNat) IntKind.u64.bits = ((m / 128 : Nat) : Int) by simp [IntKind.bits])) rfl (GL.v (.assign rfl) rfl (GL.nil (?_)))))))))
    refine GN.loop (m / 128, l ++ [UInt8.ofNat (m % 128 + 128)], q.1, q.2) ⟨by simp only [List.append_assoc]; exact h1, by simp only; omega⟩ (by simp only; omega) (Sub.cons rfl (Sub.cons ?_ (Sub.nil _))) ?_
    · simp only [List.length_append, List.length_cons, List.length_nil]; rfl
    · simp only [List.length_append, List.length_cons, List.length_nil]
      rw [← byC_snoc l (m % 128 + 128) (by omega), show m % 256 % 128 = m % 128 by omega]
      exact Ent.trans (Ent.tail _ _) (Ent.refl _)
  · have hg : m < 128 := by omega
    rw [putM_lt hg] at h1 hl
    refine GC.exit (GX.seq (GX.loop (GX.blk (GN.seq (GC.seq (GC.region (GL.v (.move rfl) rfl (GL.v (.move rfl) rfl (GL.v (.convInt rfl (show IntKind.u8.wrap (m : Int) = (m : Int) by rw [u8w, Nat.mod_eq_of_lt (by omega)])) rfl (?_))))))))))
    refine GL.w (.bone [.int .u8 (m : Int)] rfl rfl rfl rfl rfl rfl) rfl (fun bV _ => ?_)
    refine GL.w (.append 1 0 [.int .u8 (m : Int)] rfl rfl rfl rfl rfl ⟨rfl, trivial⟩ rfl rfl rfl rfl rfl (by simp only [List.length_cons, List.length_nil] at hl; omega)) rfl (fun q _ => ?_)
    rw [byC_snoc l m (by omega), h1, show l.length + 1 = (putM n).length by rw [← h1]; simp]
    refine GL.v (.strOf 1 rfl rfl rfl) rfl ?_
    refine GL.v (.assign rfl) rfl (GL.nil (GN.seq (GC.ret (?_))))
    exact GR.one rfl rfl rfl () rfl (Ent.nil _) trivial

theorem or_tag (a k : Nat) (ha : a ≤ 536870911) (hk : k ≤ 5) : bits .or .u64 ((a * 8 : Nat) : Int) (k : Int) = ((a * 8 + k : Nat) : Int) := by
  rw [or_u64 _ _ (by omega) (by omega)]
  have := or_apart k a 3 (by omega)
  rw [Nat.or_comm, show a * 8 = a * 2 ^ 3 by rfl, this, Nat.add_comm]
theorem Tag_tri (num kind : Nat) (w : World) (h1 : num < 2 ^ 62) (h2 : kind < 2 ^ 62) : Tri Tryz.prog 19 [.int .i64 (num : Int), .int .i64 (kind : Int)] [] (fun _ : Unit => .string (mkS (tagW num kind))) (fun _ => []) (fun _ => True) w := by
  refine tri_of_G 26 Tryz.func19 rfl Tryz.ntmps19 rfl (fun D => ?_)
  refine GC.seq (GC.region (GL.v (.assign rfl) rfl (GL.nil (GN.seq (GC.seq (GC.seq (GC.region (GL.v (.move rfl) rfl (GL.v (.lss rfl rfl) rfl (GL.v (.move rfl) rfl (?_)))))))))))
  refine GL.partD 7 rfl (fun g1 => ?_) (fun g1 => ?_)
  · refine GL.sg rfl rfl rfl rfl (GL.sg rfl rfl rfl rfl (GL.v (.pickT rfl rfl) rfl (GL.v (.move rfl) rfl (GL.sg rfl rfl rfl rfl (GL.sg rfl rfl rfl rfl (GL.v (.pickT rfl rfl) rfl (GL.v (.move rfl) rfl (GL.sg rfl rfl rfl rfl (GL.sg rfl rfl rfl rfl (GL.v (.pickT rfl rfl) rfl (GL.nil (GN.seq (GC.cond rfl (fun _ => ?_) (fun h => by first | (have := of_decide_eq_false h; contradiction) | (have := of_decide_eq_true h; contradiction) | (cases h; done)))))))))))))))
    refine GC.seq (GC.region (GL.v (.assign rfl) rfl (GL.nil (GN.seq (GC.ret (?_))))))
    exact GR.one rfl rfl rfl () (congrArg Value.string (by unfold tagW; rw [if_pos (by omega)]; rfl)) (Ent.nil _) trivial
  · refine GL.vg rfl rfl (.move rfl) rfl (GL.vg rfl rfl (.gtr rfl rfl) rfl (GL.v (.pickF rfl rfl) rfl (GL.v (.move rfl) rfl (?_))))
    refine GL.partD 11 rfl (fun g2 => ?_) (fun g2 => ?_)
    · refine GL.sg rfl rfl rfl rfl (GL.sg rfl rfl rfl rfl (GL.v (.pickT rfl rfl) rfl (GL.v (.move rfl) rfl (GL.sg rfl rfl rfl rfl (GL.sg rfl rfl rfl rfl (GL.v (.pickT rfl rfl) rfl (GL.nil (GN.seq (GC.cond rfl (fun _ => ?_) (fun h => by first | (have := of_decide_eq_false h; contradiction) | (have := of_decide_eq_true h; contradiction) | (cases h; done)))))))))))
      refine GC.seq (GC.region (GL.v (.assign rfl) rfl (GL.nil (GN.seq (GC.ret (?_))))))
      exact GR.one rfl rfl rfl () (congrArg Value.string (by unfold tagW; rw [if_pos (by omega)]; rfl)) (Ent.nil _) trivial
    · refine GL.vg rfl rfl (.move rfl) rfl (GL.vg rfl rfl (.lss rfl rfl) rfl (GL.v (.pickF rfl rfl) rfl (GL.v (.move rfl) rfl (?_))))
      refine GL.partD 15 rfl (fun g3 => ?_) (fun g3 => ?_)
      · exfalso; omega
      · refine GL.vg rfl rfl (.move rfl) rfl (GL.vg rfl rfl (.gtr rfl rfl) rfl (GL.v (.pickF rfl rfl) rfl (GL.nil (GN.seq (?_)))))
        refine GC.condD rfl (fun g4 => ?_) (fun g4 => ?_)
        · refine GC.seq (GC.region (GL.v (.assign rfl) rfl (GL.nil (GN.seq (GC.ret (?_))))))
          exact GR.one rfl rfl rfl () (congrArg Value.string (by unfold tagW; rw [if_pos (by omega)]; rfl)) (Ent.nil _) trivial
        · skip
          refine GC.skip (GN.seq (GC.seq (GC.region (GL.v (.move rfl) rfl (GL.v (.convInt rfl (u64_in _ (by omega))) rfl (GL.v (.shl rfl rfl (by omega) (show IntKind.u64.wrap ((num : Int) * 2 ^ min ((3 : Int).toNat) IntKind.u64.bits) = ((num * 8 : Nat) : Int) by rw [show (num : Int) * 2 ^ min ((3 : Int).toNat) IntKind.u64.bits = ((num * 8 : Nat) : Int) by simp [IntKind.bits]]; exact u64_in _ (by omega))) rfl (GL.v (.move rfl) rfl (GL.v (.convInt rfl (u64_in _ (by omega))) rfl (GL.v (.or rfl rfl) rfl (?_))))))))))
          rw [or_tag num kind (by omega) (by omega)]
          refine GL.call (As := []) rfl (fun w hst => Put_tri (num * 8 + kind) w (by omega)) rfl (fun _ _ => ?_)
          refine GL.v (.assign rfl) rfl (GL.nil (GN.seq (GC.ret (?_))))
          exact GR.one rfl rfl rfl () (congrArg Value.string (by unfold tagW; rw [if_neg (by omega)])) (Ent.nil _) trivial
theorem mkS_nil {l : Bs} (h : mkS l = ⟨#[]⟩) : l = [] := by
  have := congrArg bs h
  rw [bs_mkS] at this; exact this
theorem mkS_app (a b : Bs) : mkS a ++ mkS b = mkS (a ++ b) := bs_inj (by rw [bs_append, bs_mkS, bs_mkS, bs_mkS])
theorem put_tri (num kind : Nat) (s : Bs) (w : World) (h1 : num < 2 ^ 62) (h2 : kind < 2 ^ 62) (hs : s.length ≤ 2 ^ 62) : Tri Tryz.prog 77 [.int .i64 (num : Int), .int .i64 (kind : Int), .string (mkS s)] [] (fun _ : Unit => .string (mkS (putW num kind s))) (fun _ => []) (fun _ => True) w := by
  refine tri_of_G 16 Tryz.func77 rfl Tryz.ntmps77 rfl (fun D => ?_)
  refine GC.seq (GC.region (GL.v (.assign rfl) rfl (GL.nil (GN.seq (GC.seq (GC.region (GL.v (.move rfl) rfl (GL.v (.move rfl) rfl (?_)))))))))
  refine GL.call (As := []) rfl (fun w hst => Tag_tri num kind w h1 h2) rfl (fun _ _ => ?_)
  have hl := tagW_len num kind
  refine GL.v (.assign rfl) rfl (GL.nil (GN.seq (GC.seq (GC.seq (GC.region (GL.v (.move rfl) rfl (GL.v (.eqlS rfl rfl) rfl (GL.nil (GN.seq (?_))))))))))
  refine GC.condD rfl (fun he => ?_) (fun he => ?_)
  · refine GC.seq (GC.region (GL.v (.assign rfl) rfl (GL.nil (GN.seq (GC.ret (?_))))))
    exact GR.one rfl rfl rfl () (congrArg Value.string (by unfold putW; rw [if_pos (mkS_nil he)]; rfl)) (Ent.nil _) trivial
  · skip
    refine GC.skip (GN.seq (GC.seq (GC.region (GL.v (.move rfl) rfl (GL.v (.move rfl) rfl (GL.v (.addS rfl rfl (by rw [mkS_size, mkS_size]; omega)) rfl (GL.v (.assign rfl) rfl (GL.nil (GN.seq (GC.ret (?_)))))))))))
    exact GR.one rfl rfl rfl () (congrArg Value.string (by unfold putW; rw [if_neg (fun h => he (by rw [h]; rfl)), mkS_app])) (Ent.nil _) trivial
theorem Varint_tri (num n : Nat) (w : World) (h1 : num < 2 ^ 62) (hn : n < 2 ^ 64) : Tri Tryz.prog 205 [.int .i64 (num : Int), .int .u64 (n : Int)] [] (fun _ : Unit => .string (mkS (varW num n))) (fun _ => []) (fun _ => True) w := by
  refine tri_of_G 9 Tryz.func205 rfl Tryz.ntmps205 rfl (fun D => ?_)
  refine GC.seq (GC.region (GL.v (.assign rfl) rfl (GL.nil (GN.seq (GC.seq (GC.region (GL.v (.move rfl) rfl (GL.v (.move rfl) rfl (?_)))))))))
  refine GL.call (As := []) rfl (fun w hst => Put_tri n w hn) rfl (fun _ _ => ?_)
  refine GL.call (As := []) rfl (fun w hst => put_tri num 0 (putM n) w h1 (by omega) (by have := putM_len64 n hn; omega)) rfl (fun _ _ => ?_)
  refine GL.v (.assign rfl) rfl (GL.nil (GN.seq (GC.ret (?_))))
  exact GR.one rfl rfl rfl () rfl (Ent.nil _) trivial
theorem Bytes_tri_w (num : Nat) (s : Bs) (w : World) (h1 : num < 2 ^ 62) (hs : s.length ≤ 140737488355328) : Tri Tryz.prog 201 [.int .i64 (num : Int), .string (mkS s)] [] (fun _ : Unit => .string (mkS (bytW num s))) (fun _ => []) (fun _ => True) w := by
  refine tri_of_G 13 Tryz.func201 rfl Tryz.ntmps201 rfl (fun D => ?_)
  refine GC.seq (GC.region (GL.v (.assign rfl) rfl (GL.nil (GN.seq (GC.seq (GC.region (GL.v (.move rfl) rfl (GL.v (.move rfl) rfl (GL.v (.lenS rfl) rfl (GL.v (.convInt rfl (u64_in _ (by rw [mkS_size]; omega))) rfl (?_)))))))))))
  have e : ((mkS s).size : Int) = (s.length : Int) := by rw [mkS_size]
  rw [e]
  refine GL.call (As := []) rfl (fun w hst => Put_tri s.length w (by omega)) rfl (fun _ _ => ?_)
  have hl := putM_len64 s.length (by omega)
  refine GL.v (.move rfl) rfl (GL.v (.addS rfl rfl (by rw [mkS_size, mkS_size]; omega)) rfl (?_))
  rw [mkS_app]
  refine GL.call (As := []) rfl (fun w hst => put_tri num 2 (putM s.length ++ s) w h1 (by omega) (by rw [List.length_append]; omega)) rfl (fun _ _ => ?_)
  refine GL.v (.assign rfl) rfl (GL.nil (GN.seq (GC.ret (?_))))
  exact GR.one rfl rfl rfl () rfl (Ent.nil _) trivial
abbrev Wr (b : Nat) (l : Bs) : HP := Bld 137 b l
theorem Raw_tri (b : Nat) (l s : Bs) (w : World) (hn : l.length + s.length ≤ 140737488355328) : Tri Tryz.prog 91 [ptr b, .string (mkS s)] [Wr b l] (fun _ : Unit => .tuple #[]) (fun _ => [Wr b (l ++ s)]) (fun _ => True) w := by
  refine tri_of_G 9 Tryz.func91 rfl Tryz.ntmps91 rfl (fun D => ?_)
  refine GC.region (GL.v (.move rfl) rfl (GL.v (.nilCheck rfl) rfl (GL.v (.fieldAddr rfl) rfl (GL.v (.move rfl) rfl (?_)))))
  refine GL.call (As := [_]) rfl (fun w hst => WriteString_tri _ b liesW l (mkS s) w (by rw [mkS_size]; exact hn)) rfl (fun _ _ => ?_)
  refine GL.nil (?_)
  rw [bs_mkS]
  exact GR.none rfl rfl () rfl (Ent.refl _) trivial
theorem WString_tri (b : Nat) (l : Bs) (w : World) : Tri Tryz.prog 92 [ptr b] [Wr b l] (fun _ : Unit => .string (mkS l)) (fun _ => []) (fun _ => True) w := by
  refine tri_of_G 7 Tryz.func92 rfl Tryz.ntmps92 rfl (fun D => ?_)
  refine GC.seq (GC.region (GL.v (.assign rfl) rfl (GL.nil (GN.seq (GC.seq (GC.region (GL.v (.move rfl) rfl (GL.v (.nilCheck rfl) rfl (GL.v (.fieldAddr rfl) rfl (?_))))))))))
  refine GL.call (As := [_]) rfl (fun w hst => String_tri _ b l w) rfl (fun _ _ => ?_)
  refine GL.v (.assign rfl) rfl (GL.nil (GN.seq (GC.ret (?_))))
  exact GR.one rfl rfl rfl () rfl (Ent.refl _) trivial
theorem bytW_len (num : Nat) (s : Bs) (h : s.length < 2 ^ 64) : (bytW num s).length ≤ 20 + s.length := by
  unfold bytW
  refine Nat.le_trans (putW_len _ _ _) ?_
  rw [List.length_append]; have := putM_len64 s.length h; omega
theorem varW_len (num n : Nat) (h : n < 2 ^ 64) : (varW num n).length ≤ 20 := by
  unfold varW
  refine Nat.le_trans (putW_len _ _ _) ?_
  have := putM_len64 n h; omega
theorem WPart_tri (b num : Nat) (l s : Bs) (w : World) (h1 : num < 2 ^ 62) (hn : l.length + s.length + 20 ≤ 140737488355328) : Tri Tryz.prog 157 [ptr b, .int .i64 (num : Int), .string (mkS s)] [Wr b l] (fun _ : Unit => .tuple #[]) (fun _ => [Wr b (l ++ bytW num s)]) (fun _ => True) w := by
  refine tri_of_G 11 Tryz.func157 rfl Tryz.ntmps157 rfl (fun D => ?_)
  refine GC.region (GL.v (.move rfl) rfl (GL.v (.move rfl) rfl (GL.v (.move rfl) rfl (?_))))
  refine GL.call (As := []) rfl (fun w hst => Bytes_tri_w num s w h1 (by omega)) rfl (fun _ _ => ?_)
  have := bytW_len num s (by omega)
  refine GL.call (As := [_]) rfl (fun w hst => Raw_tri b l (bytW num s) w (by omega)) rfl (fun _ _ => ?_)
  refine GL.nil (?_)
  exact GR.none rfl rfl () rfl (Ent.refl _) trivial
theorem WText_tri (b num : Nat) (l s : Bs) (w : World) (h1 : num < 2 ^ 62) (hn : l.length + s.length + 20 ≤ 140737488355328) : Tri Tryz.prog 158 [ptr b, .int .i64 (num : Int), .string (mkS s)] [Wr b l] (fun _ : Unit => .tuple #[]) (fun _ => [Wr b (l ++ textW num s)]) (fun _ => True) w := by
  refine tri_of_G 12 Tryz.func158 rfl Tryz.ntmps158 rfl (fun D => ?_)
  refine GC.seq (GC.region (GL.v (.move rfl) rfl (GL.v (.neqS rfl rfl) rfl (GL.nil (GN.seq (?_))))))
  refine GC.condD rfl (fun he => ?_) (fun he => ?_)
  · refine GC.region (GL.v (.move rfl) rfl (GL.v (.move rfl) rfl (GL.v (.move rfl) rfl (?_))))
    refine GL.call (As := [_]) rfl (fun w hst => WPart_tri b num l s w h1 hn) rfl (fun _ _ => ?_)
    refine GL.nil (?_)
    have e : textW num s = bytW num s := by unfold textW; rw [if_neg (fun h => he (by rw [h]; rfl))]
    rw [e]
    exact GR.none rfl rfl () rfl (Ent.refl _) trivial
  · refine GC.skip (?_)
    have e : textW num s = [] := by unfold textW; rw [if_pos (mkS_nil (Classical.not_not.1 he))]
    rw [e, List.append_nil]
    exact GR.none rfl rfl () rfl (Ent.refl _) trivial
theorem WFew_tri (b num n : Nat) (l : Bs) (w : World) (h1 : num < 2 ^ 62) (h2 : n < 2 ^ 64) (hn : l.length + 20 ≤ 140737488355328) : Tri Tryz.prog 161 [ptr b, .int .i64 (num : Int), .int .u64 (n : Int)] [Wr b l] (fun _ : Unit => .tuple #[]) (fun _ => [Wr b (l ++ varW num n)]) (fun _ => True) w := by
  refine tri_of_G 11 Tryz.func161 rfl Tryz.ntmps161 rfl (fun D => ?_)
  refine GC.region (GL.v (.move rfl) rfl (GL.v (.move rfl) rfl (GL.v (.move rfl) rfl (?_))))
  refine GL.call (As := []) rfl (fun w hst => Varint_tri num n w h1 h2) rfl (fun _ _ => ?_)
  have := varW_len num n h2
  refine GL.call (As := [_]) rfl (fun w hst => Raw_tri b l (varW num n) w (by omega)) rfl (fun _ _ => ?_)
  refine GL.nil (?_)
  exact GR.none rfl rfl () rfl (Ent.refl _) trivial
theorem WVar_tri (b num n : Nat) (l : Bs) (w : World) (h1 : num < 2 ^ 62) (h2 : n < 2 ^ 64) (hn : l.length + 20 ≤ 140737488355328) : Tri Tryz.prog 90 [ptr b, .int .i64 (num : Int), .int .u64 (n : Int)] [Wr b l] (fun _ : Unit => .tuple #[]) (fun _ => [Wr b (l ++ vW num n)]) (fun _ => True) w := by
  refine tri_of_G 12 Tryz.func90 rfl Tryz.ntmps90 rfl (fun D => ?_)
  refine GC.seq (GC.region (GL.v (.move rfl) rfl (GL.v (.gtr rfl rfl) rfl (GL.nil (GN.seq (?_))))))
  refine GC.condD rfl (fun he => ?_) (fun he => ?_)
  · refine GC.region (GL.v (.move rfl) rfl (GL.v (.move rfl) rfl (GL.v (.move rfl) rfl (?_))))
    refine GL.call (As := [_]) rfl (fun w hst => WFew_tri b num n l w h1 h2 hn) rfl (fun _ _ => ?_)
    refine GL.nil (?_)
    have e : vW num n = varW num n := by unfold vW; rw [if_pos (by omega)]
    rw [e]
    exact GR.none rfl rfl () rfl (Ent.refl _) trivial
  · refine GC.skip (?_)
    have e : vW num n = [] := by unfold vW; rw [if_neg (by omega)]
    rw [e, List.append_nil]
    exact GR.none rfl rfl () rfl (Ent.refl _) trivial
end Go.Proofs.Gw
/- Lists of numbers that are read and written; what may stand behind; the examples of chapter 14. -/
set_option linter.unusedVariables false
set_option linter.unusedSimpArgs false
namespace Go.Proofs.Gw
open Go Go.RowKit Go.IntWalk Go.Proofs.Gm

theorem Blk.nums (b T c : Nat) (l : List Nat) (hl : l.length ≤ 9223372036854775807) (Hs : List HP) : Ent (Blk b T l.length (args0 0 (u64C l)) :: Hs) ((numsF l (.slice (some ⟨b, 0, none⟩) l.length c)).hp :: Hs) :=
  Ent.head (h := Blk b T l.length (args0 0 (u64C l))) (h' := (numsF l (.slice (some ⟨b, 0, none⟩) l.length c)).hp) (fun ok w h => by
    obtain ⟨h1, cur, h2, h3, h4⟩ := h
    refine ⟨by simp [u64C], _, _, rfl, fun _ => ⟨b, 0, rfl, h1, hl, cur, _, _, h2, fun j u hj => ?_⟩⟩
    have := lk_args0_of (u64C l) 0 j u hj
    exact h4 _ _ this) (Ent.refl _)
theorem numsF.form {l : List Nat} {v : Value} {ok : Nat → Prop} {w : World} (h : (numsF l v).hp.holds ok w) : ∃ A c, v = .slice A l.length c ∧ (0 < l.length → ∃ g off, A = some ⟨g, off, none⟩) := by
  obtain ⟨_, A, c, h2, h3⟩ := h
  exact ⟨A, c, h2, fun h => by obtain ⟨g, off, e, _⟩ := h3 h; exact ⟨g, off, e⟩⟩
section
variable {C : Ctx} {K : List KI} {ρ : List (Nat × Value)} {Hs : List HP} {ty : TypeId}
/-- A number of a list. -/
theorem OpV.ldNum (i : Nat) {t : TypeId} {x : Operand} {l : List Nat} {g off n c j m : Nat} [hz : TSz C.P t false 1] (hi : Hs[i]? = some (numsF l (.slice (some ⟨g, off, none⟩) n c)).hp) (hx : ev ρ x = some (.pointer (some ⟨g, off + j, none⟩))) (hj : l[j]? = some m) : OpV C ρ (St C Hs) (.load t x) ty (.int .u64 (m : Int)) :=
  OpV.load1 hx fun w hs => by
    obtain ⟨ok, _, h1⟩ := Sat.at i hi hs.sat
    obtain ⟨h2, A, c', h3, h4⟩ := h1
    have hlt : 0 < l.length := by have := (List.getElem?_eq_some_iff.1 hj).1; omega
    obtain ⟨g', off', h5, h6, _, cs, T, fr, h7, h8⟩ := h4 hlt
    simp only [Value.slice.injEq] at h3
    obtain ⟨rfl, _, _⟩ := h3
    simp only [Option.some.injEq, Addr.mk.injEq, and_true] at h5
    obtain ⟨rfl, rfl⟩ := h5
    rw [cell?_of_heap h7]
    exact h8 j _ (by simp [u64C, hj])
end
theorem WVars_tri (b num : Nat) (l : Bs) (ns : List Nat) (v : Value) (w : World) (h1 : num < 2 ^ 62) (h2 : ∀ n, n ∈ ns → n < 2 ^ 64) (h3 : ns.length ≤ 4294967296) (hn : l.length ≤ 4294967296) :
    Tri Tryz.prog 118 [ptr b, .int .i64 (num : Int), v] [Wr b l, (numsF ns v).hp] (fun _ : Unit => .tuple #[]) (fun _ => [Wr b (l ++ varsW num ns), (numsF ns v).hp]) (fun _ => True) w := by
  refine tri_of_G 23 Tryz.func118 rfl Tryz.ntmps118 rfl (fun D => ?_)
  refine GC.fact 1 (φ := ∃ A c, v = .slice A ns.length c ∧ (0 < ns.length → ∃ g off, A = some ⟨g, off, none⟩)) rfl (fun ok w h => numsF.form h) (fun hv => ?_)
  obtain ⟨A, c, rfl, hA⟩ := hv
  refine GC.seq (GC.region (GL.w .alloc rfl (fun b6 _ => GL.nil (GN.seq (GC.seq (GC.seq (GC.region (GL.v (.move rfl) rfl (GL.v (.lenSl rfl) rfl (GL.v (.move rfl) rfl (GL.nil (GN.seq (GC.block (?_))))))))))))))
  refine GC.loop (γ := Nat) (fun i => i ≤ ns.length) (fun i => [(0, ptr b), (1, .int .i64 (num : Int)), (6, ptr b6), (9, .slice A ns.length c), (10, .int .i64 (ns.length : Int)), (11, .int .i64 (i : Int))])
    (fun i => [Bld 135 b6 ((ns.take i).flatMap putM), Wr b l, (numsF ns (.slice A ns.length c)).hp]) (fun i => ns.length - i) 0 (Nat.zero_le _) (Sub.cons rfl (Sub.cons rfl (Sub.cons rfl (Sub.cons rfl (Sub.cons rfl (Sub.cons rfl (Sub.nil _))))))) ?_ ?_
  · exact Ent.trans (Ent.blk (u' := [(0, .pointer none), (1, .slice none 0 0)]) (by repeat (first | exact Sub.nil _ | refine Sub.cons rfl ?_)) (Ent.refl _)) (Bld.zero 135 b6 _)
  intro i hi
  have hfl := flat_putM_len ns h2
  refine GC.seq (GC.region (GL.v (.lss rfl rfl) rfl (GL.nil (GN.seq (GC.seq (?_))))))
  refine GC.condD rfl (fun hlt => ?_) (fun hlt => ?_)
  · have hl : i < ns.length := by omega
    obtain ⟨m, hm⟩ : ∃ m, ns[i]? = some m := ⟨_, List.getElem?_eq_getElem hl⟩
    have htk : ns.take (i + 1) = ns.take i ++ [m] := by rw [List.take_add_one, hm]; rfl
    obtain ⟨g0, off, rfl⟩ := hA (by omega)
    have hm64 := h2 m (List.mem_of_getElem? hm)
    refine GC.skip (GN.seq (GC.seq (GC.block (GC.seq (GC.region (GL.v (.indexAddr rfl rfl (by omega) (by omega)) rfl (?_)))))))
    refine GL.v (.ldNum 2 (j := i) (m := m) rfl (by simp [ev, lk]) hm) rfl ?_
    refine GL.v (.assign rfl) rfl (GL.nil (GN.seq (GC.region (GL.v (.move rfl) rfl (?_)))))
    refine GL.call (As := []) rfl (fun w hst => Put_tri m w hm64) rfl (fun _ _ => ?_)
    have hle : ((ns.take i).flatMap putM).length ≤ 10 * ns.length := by
      refine Nat.le_trans (flat_putM_len _ fun n hn => h2 n (List.mem_of_mem_take hn)) ?_
      rw [List.length_take]; omega
    have hp10 := putM_len64 m hm64
    refine GL.call (As := [_]) rfl (fun w hst => WriteString_tri _ b6 liesB _ (mkS (putM m)) w (by rw [mkS_size]; omega)) rfl (fun _ _ => ?_)
    refine GL.nil (GN.blk (GN.seq (GC.region (GL.v (.add rfl rfl (i64_in _ (by omega))) rfl (GL.v (.move rfl) rfl (GL.nil (?_)))))))
    refine GN.loop (i + 1) (by omega) (by omega) (Sub.cons rfl (Sub.cons rfl (Sub.cons rfl (Sub.cons rfl (Sub.cons rfl (Sub.cons rfl (Sub.nil _))))))) ?_
    rw [htk, List.flatMap_append, bs_mkS]
    simp only [List.flatMap_cons, List.flatMap_nil, List.append_nil]
    exact Ent.refl _
  · have hie : i = ns.length := by omega
    subst hie
    rw [List.take_length]
    refine GC.exit (GX.seq (GX.loop (GX.blk (GN.seq (GC.region (GL.v (.move rfl) rfl (GL.v (.move rfl) rfl (?_))))))))
    refine GL.call (As := [_]) rfl (fun w hst => String_tri _ b6 (ns.flatMap putM) w) rfl (fun _ _ => ?_)
    refine GL.call (As := [_]) rfl (fun w hst => WText_tri b num l (ns.flatMap putM) w h1 (by omega)) rfl (fun _ _ => ?_)
    refine GL.nil (?_)
    exact GR.none rfl rfl () rfl (Ent.refl _) trivial

def mayR (tm : Nat → Nat → Bool) (d : Int) (l : Bs) : Bool := match allM d l with
  | .ok rs => rs.all fun r => !tm r.num r.kind
  | .error _ => false
theorem Rest_tri (s : ByteArray) (d : Int) (f : Nat) (tm : Nat → Nat → Bool) (ht : Tbl f tm) [FnIs Tryz.prog f] (w : World) (hs : s.size ≤ mx) (hd1 : -9223372036854775808 ≤ d) (hd2 : d ≤ 9223372036854775807) :
    Tri Tryz.prog 97 [.string s, .int .i64 d, .func (.func f) #[] #[]] [] (fun _ : Unit => .bool (mayR tm d (bs s))) (fun _ => []) (fun _ => True) w := by
  have hs' := hs
  unfold mx at hs'
  refine tri_of_G 32 Tryz.func97 rfl Tryz.ntmps97 rfl (fun D => ?_)
  cases hv : allM d (bs s) with
  | error c =>
    have e : mayR tm d (bs s) = false := by unfold mayR; rw [hv]
    rw [e]
    refine GC.seq (GC.region (GL.v (.assign rfl) rfl (GL.nil (GN.seq (GC.seq (GC.region (GL.v (.move rfl) rfl (GL.v (.move rfl) rfl (?_)))))))))
    refine GL.call (As := []) rfl (fun w hst => All_err s d c w hs hd1 hd2 hv) rfl (fun x hx => ?_)
    obtain ⟨hq, t, u, hxx⟩ := hx
    obtain ⟨xv, q⟩ := x
    simp only at hxx hq
    subst hxx
    refine GL.v (.move rfl) rfl (GL.v (.extract rfl rfl) rfl (GL.v (.extract rfl rfl) rfl (GL.v (.assign rfl) rfl (GL.v (.assign rfl) rfl (GL.nil (GN.seq (GC.seq (GC.seq (GC.region (GL.v (.move rfl) rfl (GL.v (.lenSl rfl) rfl (GL.v (.move rfl) rfl (GL.nil (GN.seq (GC.block (?_))))))))))))))))
    refine GC.loop (γ := Unit) (fun _ => True) (fun _ => [(8, .iface t u), (17, .slice none 0 0), (18, .int .i64 0), (19, .int .i64 0)]) (fun _ => []) (fun _ => 0) () trivial (Sub.cons rfl (Sub.cons rfl (Sub.cons rfl (Sub.cons rfl (Sub.nil _))))) (Ent.nil _) ?_
    intro _ _
    refine GC.seq (GC.region (GL.v (.lss rfl rfl) rfl (GL.nil (GN.seq (GC.seq (?_))))))
    refine GC.cond rfl (fun h => Bool.noConfusion (h.symm.trans (decide_eq_false ((by omega))) : true = false)) (fun _ => ?_)
    refine GC.exit (GX.seq (GX.loop (GX.blk (GN.seq (GC.seq (GC.region (GL.v (.move rfl) rfl (GL.v (.eqlNil rfl (by first | exact .inl rfl | exact .inr ⟨_, _, rfl⟩ | assumption)) rfl (GL.v (.assign rfl) rfl (GL.nil (GN.seq (GC.ret (?_)))))))))))))
    exact GR.one rfl rfl rfl () rfl (Ent.refl _) trivial
  | ok rs =>
    have hmem := allM_mem _ d _ rs (Nat.le_refl _) hv
    have hlen : rs.length ≤ s.size := by rw [← bs_length]; exact hmem.1
    have e : mayR tm d (bs s) = rs.all (fun r => !tm r.num r.kind) := by unfold mayR; rw [hv]
    rw [e]
    refine GC.seq (GC.region (GL.v (.assign rfl) rfl (GL.nil (GN.seq (GC.seq (GC.region (GL.v (.move rfl) rfl (GL.v (.move rfl) rfl (?_)))))))))
    refine GL.call (As := []) rfl (fun w hst => All_ok s d rs w hs hd1 hd2 hv) rfl (fun v hx => ?_)
    obtain ⟨A, c, rfl⟩ := hx
    refine GL.v (.move rfl) rfl (GL.v (.extract rfl rfl) rfl (GL.v (.extract rfl rfl) rfl (GL.v (.assign rfl) rfl (GL.v (.assign rfl) rfl (GL.nil (GN.seq (GC.seq (GC.seq (GC.region (GL.v (.move rfl) rfl (GL.v (.lenSl rfl) rfl (GL.v (.move rfl) rfl (GL.nil (GN.seq (GC.block (?_))))))))))))))))
    refine GC.fact 0 (φ := 0 < rs.length → ∃ g0, A = some ⟨g0, 0, none⟩) rfl (fun ok w h => by obtain ⟨A', c', h1, _, h2⟩ := Own.form h; injection h1 with h1; subst h1; exact h2) (fun hA => ?_)
    refine GC.loop (γ := Nat) (fun i => i ≤ rs.length ∧ (rs.take i).all (fun r => !tm r.num r.kind) = true) (fun i => [(2, .func (.func f) #[] #[]), (8, .nilIface), (17, .slice A rs.length c), (18, .int .i64 (rs.length : Int)), (19, .int .i64 (i : Int))]) (fun _ => [OwnR (.slice A rs.length c) rs]) (fun i => rs.length - i) 0 ⟨Nat.zero_le _, rfl⟩ (Sub.cons rfl (Sub.cons rfl (Sub.cons rfl (Sub.cons rfl (Sub.cons rfl (Sub.nil _)))))) (Ent.refl _) ?_
    rintro i ⟨hi, hall⟩
    refine GC.seq (GC.region (GL.v (.lss rfl rfl) rfl (GL.nil (GN.seq (GC.seq (?_))))))
    refine GC.condD rfl (fun hlt => ?_) (fun hlt => ?_)
    · have hl : i < rs.length := by omega
      obtain ⟨r, hr⟩ : ∃ r, rs[i]? = some r := ⟨_, List.getElem?_eq_getElem hl⟩
      have htk : rs.take (i + 1) = rs.take i ++ [r] := by rw [List.take_add_one, hr]; rfl
      obtain ⟨g0, rfl⟩ := hA (by omega)
      have hm := hmem.2 r (List.mem_of_getElem? hr)
      refine GC.skip (GN.seq (GC.seq (GC.block (GC.seq (GC.region (GL.v (.indexAddr rfl rfl (by omega) (by omega)) rfl (?_)))))))
      refine GL.v (.ldOwnN 0 (recC r) rfl rfl rfl (fun j v hj => by have := flat_get recC_len rs i r j v hr hj; simpa using this)) rfl ?_
      refine GL.w .alloc rfl (fun b10 _ => GL.w0 (.store 0 rfl rfl rfl rfl rfl rfl rfl) (fun _ _ => GL.nil (GN.seq (GC.seq (GC.region (GL.v (.move rfl) rfl (GL.v (.fieldAddr rfl) rfl (GL.v (.ld 0 rfl rfl rfl) rfl (GL.v (.fieldAddr rfl) rfl (GL.v (.ld 0 rfl rfl rfl) rfl (?_)))))))))))
      refine GL.callV rfl (As := []) rfl (fun w hst => ht r.num r.kind w hm.2.1 hm.2.2.1) rfl (fun _ _ => ?_)
      refine GL.nil (GN.seq (?_))
      refine GC.cond rfl (fun hb => ?_) (fun hb => ?_)
      · refine GC.seq (GC.region (GL.v (.assign rfl) rfl (GL.nil (GN.seq (GC.ret (?_))))))
        have e2 : rs.all (fun r => !tm r.num r.kind) = false := by
          rw [List.all_eq_false]; exact ⟨r, List.mem_of_getElem? hr, by rw [hb]; simp⟩
        rw [e2]
        exact GR.one rfl rfl rfl () rfl (Ent.nil _) trivial
      · refine GC.skip (GN.blk (GN.seq (GC.region (GL.v (.add rfl rfl (i64_in _ (by omega))) rfl (GL.v (.move rfl) rfl (GL.nil (?_)))))))
        refine GN.loop (i + 1) ⟨by omega, ?_⟩ (by omega) (Sub.cons rfl (Sub.cons rfl (Sub.cons rfl (Sub.cons rfl (Sub.cons rfl (Sub.nil _)))))) (Ent.trans (Ent.front 1 _ _ rfl) (Ent.cons _ (Ent.nil _)))
        rw [htk, List.all_append, hall]; simp [hb]
    · have hie : i = rs.length := by omega
      subst hie
      rw [List.take_length] at hall
      refine GC.exit (GX.seq (GX.loop (GX.blk (GN.seq (GC.seq (GC.region (GL.v (.move rfl) rfl (GL.v (.eqlNil rfl (by first | exact .inl rfl | exact .inr ⟨_, _, rfl⟩ | assumption)) rfl (GL.v (.assign rfl) rfl (GL.nil (GN.seq (GC.ret (?_)))))))))))))
      rw [hall]
      exact GR.one rfl rfl rfl () rfl (Ent.nil _) trivial
end Go.Proofs.Gw
/- The examples of chapter 14. -/
set_option linter.unusedVariables false
set_option linter.unusedSimpArgs false
namespace Go.Proofs.Gw
open Go Go.RowKit Go.IntWalk Go.Proofs.Gm

theorem Zig32_m1 (w : World) : Tri Tryz.prog 117 [.int .i32 (-1)] [] (fun _ : Unit => .int .u64 ((1 : Nat) : Int)) (fun _ => []) (fun _ => True) w := by
  refine tri_of_G 11 Tryz.func117 rfl Tryz.ntmps117 rfl (fun D => ?_)
  refine GC.seq (GC.region (GL.v (.assign rfl) rfl (GL.nil (GN.seq (GC.seq (GC.region (GL.v (.move rfl) rfl (GL.v (.convInt rfl (show IntKind.u32.wrap (-1) = 4294967295 by decide)) rfl (GL.v (.shl rfl rfl (by omega) (show IntKind.u32.wrap (4294967295 * 2 ^ min ((1 : Int).toNat) IntKind.u32.bits) = 4294967294 by decide)) rfl (GL.v (.move rfl) rfl (GL.v (.shr rfl rfl (by omega) (show (-1 : Int) / 2 ^ min ((31 : Int).toNat) IntKind.i32.bits = -1 by decide)) rfl (GL.v (.convInt rfl (show IntKind.u32.wrap (-1) = 4294967295 by decide)) rfl (GL.v (.xor rfl rfl) rfl (GL.v (.convInt rfl (show IntKind.u64.wrap (bits .xor .u32 4294967294 4294967295) = ((1 : Nat) : Int) by decide)) rfl (GL.v (.assign rfl) rfl (GL.nil (GN.seq (GC.ret (?_)))))))))))))))))))
  exact GR.one rfl rfl rfl () rfl (Ent.nil _) trivial
theorem MayB0 (v : Value) (w : World) : Tri Tryz.prog 116 [.agg #[.int .i32 (-1), v, .string emptyS], .int .i64 0] [] (fun _ : Unit => .bool true) (fun _ => []) (fun _ => True) w := by
  refine tri_of_G 13 Tryz.func116 rfl Tryz.ntmps116 rfl (fun D => ?_)
  refine GC.seq (GC.region (GL.w (.box rfl rfl) rfl (fun b2 _ => GL.v (.assign rfl) rfl (GL.nil (GN.seq (GC.seq (GC.region (GL.v (.move rfl) rfl (GL.v (.geq rfl rfl) rfl (GL.v (.move rfl) rfl (?_)))))))))))
  refine GL.partD 7 rfl (fun h => ?_) (fun h => ?_)
  · refine GL.vg rfl rfl (.fieldAddr rfl) rfl (GL.vg rfl rfl (.ld 0 rfl rfl rfl) rfl (GL.vg rfl rfl (.move rfl) rfl (GL.gd rfl rfl (?_))))
    refine GL.call (As := []) rfl (fun w hst => Rest_tri emptyS 0 _ buckT tbl_buck w (by decide) (by omega) (by omega)) rfl (fun _ _ => ?_)
    have e : mayR buckT 0 (bs emptyS) = true := by unfold mayR; rw [show bs emptyS = [] from rfl, allM_nil]; rfl
    rw [e]
    refine GL.v (.pickT rfl rfl) rfl (GL.v (.assign rfl) rfl (GL.nil (GN.seq (GC.ret (?_)))))
    exact GR.one rfl rfl rfl () rfl (Ent.nil _) trivial
  · exact absurd (by omega) h
theorem MB0 (b c : Nat) (w : World) : Tri Tryz.prog 43 [.agg #[.int .i32 (-1), .slice (some ⟨b, 0, none⟩) 2 c, .string emptyS], .int .i64 0] [(numsF [1, 300] (.slice (some ⟨b, 0, none⟩) 2 c)).hp] (fun _ : Unit => .tuple #[.string (mkS [8, 1, 18, 3, 1, 172, 2]), .nilIface]) (fun _ => []) (fun _ => True) w := by
  have e1 : vW 1 1 = [8, 1] := by simp [vW, varW, putW, tagW, putM]
  have e2 : varsW 2 [1, 300] = [18, 3, 1, 172, 2] := by simp [varsW, textW, bytW, putW, tagW, putM]
  refine tri_of_G 23 Tryz.func43 rfl Tryz.ntmps43 rfl (fun D => ?_)
  refine GC.seq (GC.region (GL.w (.box rfl rfl) rfl (fun b2 _ => GL.v (.assign rfl) rfl (GL.v (.assign rfl) rfl (GL.nil (GN.seq (GC.seq (GC.seq (GC.region (GL.v (.ldN 0 [_, _, _] rfl rfl rfl ⟨rfl, rfl, rfl, trivial⟩) rfl (GL.v (.move rfl) rfl (?_))))))))))))
  refine GL.call (As := []) rfl (fun w hst => MayB0 _ w) rfl (fun _ _ => ?_)
  refine GL.v (.not rfl) rfl (GL.nil (GN.seq (?_)))
  refine GC.cond rfl (fun h => Bool.noConfusion (h.symm.trans (rfl) : true = false)) (fun _ => ?_)
  refine GC.skip (GN.seq (GC.seq (GC.region (GL.w .alloc rfl (fun b6 _ => GL.nil (GN.seq (GC.seq (GC.region (GL.v (.fieldAddr rfl) rfl (GL.v (.ld 1 rfl rfl rfl) rfl (?_)))))))))))
  refine GL.ent (Ent.trans (Ent.blk (u' := [(0, .pointer none), (1, .slice none 0 0)]) (by repeat (first | exact Sub.nil _ | refine Sub.cons rfl ?_)) (Ent.refl _)) (Bld.zero 137 b6 _)) ?_
  refine GL.call (As := []) rfl (fun w hst => Zig32_m1 w) rfl (fun _ _ => ?_)
  refine GL.call (As := [_]) rfl (fun w hst => WVar_tri b6 1 1 [] w (by omega) (by omega) (by simp)) rfl (fun _ _ => ?_)
  refine GL.nil (GN.seq (GC.seq (GC.region (GL.v (.fieldAddr rfl) rfl (GL.v (.ld 1 rfl rfl rfl) rfl (?_))))))
  refine GL.ent (Ent.front 2 _ _ rfl) ?_
  refine GL.ent (Ent.front 1 _ _ rfl) ?_
  refine GL.call (As := [_, _]) rfl (fun w hst => WVars_tri b6 2 _ [1, 300] _ w (by omega) (by intro n hn; simp at hn; omega) (by simp) (by rw [e1]; decide)) rfl (fun _ _ => ?_)
  refine GL.nil (GN.seq (GC.seq (GC.region (GL.v (.fieldAddr rfl) rfl (GL.v (.ld 2 rfl rfl rfl) rfl (?_))))))
  refine GL.call (As := [_]) rfl (fun w hst => Raw_tri b6 _ [] w (by rw [e1, e2]; decide)) rfl (fun _ _ => ?_)
  refine GL.nil (GN.seq (GC.seq (GC.region (?_))))
  refine GL.call (As := [_]) rfl (fun w hst => WString_tri b6 _ w) rfl (fun _ _ => ?_)
  refine GL.v (.assign rfl) rfl (GL.v (.assign rfl) rfl (GL.nil (GN.seq (GC.ret (?_)))))
  refine GR.two rfl rfl rfl rfl () (congrArg (fun x => Value.tuple #[.string (mkS x), .nilIface]) ?_) (Ent.nil _) trivial
  rw [e1, e2]; rfl
end Go.Proofs.Gw
/- The examples of chapter 14 hold; how large what is read can be. -/
set_option linter.unusedVariables false
set_option linter.unusedSimpArgs false
namespace Go.Proofs.Gw
open Go Go.RowKit Go.IntWalk Go.Proofs.Gm

section
variable {C : Ctx} {ρ : List (Nat × Value)} {S : World → Prop} {op : Op} {ty : TypeId}
theorem OpV.isT {b : Bool} (h : OpV C ρ S op ty (.bool b)) (hb : b = true) : OpV C ρ S op ty (.bool true) := hb ▸ h
theorem OpV.isF {b : Bool} (h : OpV C ρ S op ty (.bool b)) (hb : b = false) : OpV C ρ S op ty (.bool false) := hb ▸ h
end
theorem listF.form {α : Type} {rep : α → List Value → FP} {k : Nat} {l : List α} {v : Value} {ok : Nat → Prop} {w : World} (h : (listF rep k l v).holds ok w) : ∃ A c, v = .slice A l.length c := by
  obtain ⟨css, ⟨_, A, c, h2, _⟩, _⟩ := h
  exact ⟨A, c, h2⟩
theorem numsF.form2 {l : List Nat} {v : Value} {ok : Nat → Prop} {w : World} (h : (numsF l v).holds ok w) : ∃ A c, v = .slice A l.length c := by
  obtain ⟨_, A, c, h2, _⟩ := h
  exact ⟨A, c, h2⟩
/-- A point's cells: what stands there. -/
theorem expF_form {x : Expo} {cs : List Value} {ok : Nat → Prop} {w : World} (h : (expF x cs).hp.holds ok w) : ∃ A1 c1 A2 c2 A3 c3 A4 c4, cs = [.slice A1 x.attrs.length c1, .int .u64 (x.start : Int), .int .u64 (x.time : Int), .int .u64 (x.count : Int), .bool x.sum.has, .int .u64 (x.sum.n : Int), .bool x.min.has, .int .u64 (x.min.n : Int), .bool x.max.has, .int .u64 (x.max.n : Int), .int .i32 x.scale, .int .u64 (x.zero : Int), .bool x.hasPos, .int .i32 x.pos.off, .slice A2 x.pos.counts.length c2, .string (mkS x.pos.unk), .bool x.hasNeg, .int .i32 x.neg.off, .slice A3 x.neg.counts.length c3, .string (mkS x.neg.unk), .slice A4 x.exs.length c4, .int .u32 (x.flags : Int), .int .u64 (x.thr : Int), .string (mkS x.unk)] := by
  obtain ⟨⟨v1, v2, v3, v4⟩, h0, h1, h2, h3, h4⟩ := h
  obtain ⟨A1, c1, rfl⟩ := listF.form h1
  obtain ⟨A2, c2, rfl⟩ := numsF.form2 h2
  obtain ⟨A3, c3, rfl⟩ := numsF.form2 h3
  obtain ⟨A4, c4, rfl⟩ := listF.form h4
  exact ⟨A1, c1, A2, c2, A3, c3, A4, c4, h0⟩
theorem readU_len (t : Nat → Nat → Bool) (d : Int) (l : Bs) : (readU t d l).length ≤ l.length := by
  unfold readU
  split
  · simp
  · split
    · simp
    · rename_i rs hv
      have h := rest_len t rs
      rwa [allM_raw _ d l rs (Nat.le_refl _) hv] at h
theorem readT_len (t : Nat → Nat → Bool) (d : Int) (l : Bs) : (readT t d l).length ≤ l.length := readT_mem.1
theorem oks_len {α : Type} (rl : List (Res α)) : (oks rl).length ≤ rl.length := List.length_filterMap_le _ _
theorem buck_small {d : Int} {l : Bs} {b : Buck} (h : buckM d l = .ok b) : b.unk.length ≤ l.length ∧ b.counts.length ≤ l.length := by
  obtain ⟨_, rfl⟩ := finM_ok h
  exact ⟨readU_len _ _ _, pkM_len varsM nOf_vars _ _ _ _⟩
theorem side_small {d : Int} {num : Nat} {l : Bs} {rs : List Rec} (hj : (joinM num rs).length ≤ l.length) (h : errP (partM buckM d num rs) = none) : (partD buck0 (partM buckM d num rs)).unk.length ≤ l.length ∧ (partD buck0 (partM buckM d num rs)).counts.length ≤ l.length := by
  unfold partM at h ⊢
  split
  · exact ⟨Nat.zero_le _, Nat.zero_le _⟩
  · rename_i hn
    rw [if_neg hn] at h
    obtain ⟨a, ha⟩ := errE_ok h
    rw [ha]
    have := buck_small ha
    exact ⟨Nat.le_trans this.1 hj, Nat.le_trans this.2 hj⟩
theorem exp_small {d : Int} {l : Bs} {x : Expo} (h : expM d l = .ok x) : x.unk.length ≤ l.length ∧ x.attrs.length ≤ l.length ∧ x.pos.counts.length ≤ l.length ∧ x.pos.unk.length ≤ l.length ∧ x.neg.counts.length ≤ l.length := by
  obtain ⟨e, rfl⟩ := finM_ok h
  unfold expE at e
  obtain ⟨e1, h9⟩ := note_eq_none e
  obtain ⟨e2, h8⟩ := note_eq_none e1
  have s8 := side_small (joinM_len expT d l 8) h8
  have s9 := side_small (joinM_len expT d l 9) h9
  refine ⟨readU_len _ _ _, ?_, s8.2, s8.1, s9.2⟩
  exact Nat.le_trans (oks_len _) (Nat.le_trans (rlM_len _ _ _ _) (readT_len _ _ _))
theorem exp0 : ∃ E, expM 1 [66, 0] = .ok E ∧ E.hasPos = true ∧ E.hasNeg = false := by
  have r : recM 1 [66, 0] = .ok (⟨8, 2, 0, [], [66, 0]⟩, 2) := by
    unfold recM
    rw [show tagM [66, 0] = .ok (8, 2, 1) by simp [tagM, vget, vr]]
    simp only
    rw [show restM 1 8 2 (List.drop 1 [66, 0]) = .ok (0, [], 1) by rw [restM]; simp [vget, vr]]
    rfl
  have a : allM 1 [66, 0] = .ok [⟨8, 2, 0, [], [66, 0]⟩] := allM_cons r (allM_nil _)
  obtain ⟨a1, a2, a3⟩ := readE_ok (by omega) a expT
  have a4 : takenM expT [⟨8, 2, 0, [], [66, 0]⟩] = [⟨8, 2, 0, [], [66, 0]⟩] := rfl
  rw [a4] at a3
  obtain ⟨b1, b2, b3⟩ := readE_ok (d := 0) (by omega) (allM_nil 0) buckT
  have b4 : buckE 0 [] = none := by unfold buckE; rw [b1, b3]; rfl
  have b5 : errE (buckM 0 []) = none := by rw [show errE (buckM 0 []) = buckE 0 [] from errE_fin _ _, b4]
  refine ⟨_, finM_none _ ?_, ?_, ?_⟩
  · unfold expE
    simp only [a1, a3]
    have e1 : rlM keyM (1 - 1) 1 [⟨8, 2, 0, [], [66, 0]⟩] = [] := rfl
    have e2 : rlM exemM (1 - 1) 11 [⟨8, 2, 0, [], [66, 0]⟩] = [] := rfl
    have e3 : partM buckM (1 - 1) 8 [⟨8, 2, 0, [], [66, 0]⟩] = some (buckM 0 []) := rfl
    have e4 : partM buckM (1 - 1) 9 [⟨8, 2, 0, [], [66, 0]⟩] = none := rfl
    rw [e1, e2, e3, e4]
    simp only [errP, b5]; rfl
  · simp only [a3]; rfl
  · simp only [a3]; rfl
theorem first14_tri (w : World) : Tri Tryz.prog 14 [] [] (fun _ : Unit => .bool true) (fun _ => []) (fun _ => True) w := by
  refine tri_of_G 34 Tryz.func14 rfl Tryz.ntmps14 rfl (fun D => ?_)
  refine GC.seq (GC.region (GL.v (.assign rfl) rfl (GL.nil (GN.seq (GC.seq (GC.region (?_)))))))
  refine GL.w (.bslice [.int .u64 1, .int .u64 300] rfl rfl rfl rfl rfl) rfl (fun bK _ => ?_)
  refine GL.v (.build (cs := [_, _, _]) rfl rfl) rfl (?_)
  refine GL.ent (Blk.nums bK _ 2 [1, 300] (by simp) _) ?_
  refine GL.call (As := [_]) rfl (fun w hst => MB0 bK 2 w) rfl (fun _ _ => ?_)
  refine GL.v (.move rfl) rfl (GL.v (.extract rfl rfl) rfl (GL.v (.extract rfl rfl) rfl (GL.v (.assign rfl) rfl (GL.v (.assign rfl) rfl (GL.nil (GN.seq (GC.seq (GC.region (?_)))))))))
  refine GL.ent (Ent.intro (A := Emp) (fun _ => trivial) _) ?_
  refine GL.call (As := [_]) rfl (fun w hst => Exp_rd 4294967296 (by omega) 1 (by omega) (by omega) (mkS [66, 0]) w (by decide)) rfl (fun ⟨cs, e⟩ hcs => ?_)
  obtain ⟨hl, h1⟩ := hcs
  obtain ⟨Z, hZ, hp, hn⟩ := exp0
  simp only [bs_mkS, hZ]
  refine GL.fact 0 (φ := _) rfl (fun ok w h => expF_form h) (fun hf => ?_)
  obtain ⟨A1, c1, A2, c2, A3, c3, A4, c4, rfl⟩ := hf
  refine GL.fact 1 (φ := _) rfl (fun ok w h => ErF.form h) (fun hf => ?_)
  have he : e = .nilIface := by
    rcases hf with h | ⟨⟨oc, h⟩, _⟩
    · exact h.2
    · cases h
  subst he
  rw [hp, hn]
  refine GL.v (.move rfl) rfl (GL.v (.extract rfl rfl) rfl (GL.v (.extract rfl rfl) rfl (GL.w .alloc rfl (fun b3 _ => GL.w0 (.store 0 rfl rfl rfl rfl rfl rfl rfl) (fun _ _ => GL.v (.assign rfl) rfl (GL.nil (GN.seq (GC.seq (GC.region (GL.v (.move rfl) rfl (GL.v (.isT (.eqlS rfl rfl) (decide_eq_true rfl)) rfl (GL.v (.move rfl) rfl (GL.vg rfl rfl (.move rfl) rfl (GL.vg rfl rfl (.isT (.eqlNil rfl (.inl rfl)) rfl) rfl (GL.v (.pickT rfl rfl) rfl (GL.v (.move rfl) rfl (GL.vg rfl rfl (.move rfl) rfl (GL.vg rfl rfl (.isT (.eqlNil rfl (.inl rfl)) rfl) rfl (GL.v (.pickT rfl rfl) rfl (GL.v (.move rfl) rfl (GL.vg rfl rfl (.fieldAddr rfl) rfl (GL.vg rfl rfl (.ld 0 rfl rfl rfl) rfl (GL.v (.pickT rfl rfl) rfl (GL.v (.move rfl) rfl (GL.vg rfl rfl (.fieldAddr rfl) rfl (GL.vg rfl rfl (.ld 0 rfl rfl rfl) rfl (GL.vg rfl rfl (.not rfl) rfl (GL.v (.pickT rfl rfl) rfl (GL.v (.assign rfl) rfl (GL.nil (GN.seq (GC.ret (?_)))))))))))))))))))))))))))))))))
  exact GR.one rfl rfl rfl () rfl (Ent.nil _) trivial
end Go.Proofs.Gw
