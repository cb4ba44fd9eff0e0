/- Texts that a claim of this seat leans on: L6, L7, L8. No statement is claimed in this text. -/
import Derived.Test.YtabmekglalbmoaaGreatDoorB9
import Derived.Test.YtabmekglalbmoaaGreatDoorB10
/- Exemplars and buckets that are read. -/
set_option linter.unusedVariables false
set_option linter.unusedSimpArgs false
namespace Go.Proofs.Gw
open Go Go.RowKit Go.IntWalk Go.Proofs.Gm

theorem i32_wrap (n : Int) : IntKind.i32.wrap n = if n % 4294967296 ≥ 2147483648 then n % 4294967296 - 4294967296 else n % 4294967296 := by
  simp [IntKind.wrap, IntKind.bits, IntKind.signed]
theorem xor_i32_m1 (a : Nat) (h : a < 2147483648) : bits .xor .i32 (a : Int) (-1) = -(a : Int) - 1 := by
  have h1 : BitVec.ofInt 32 (-1) = BitVec.allOnes 32 := by decide
  have h2 : (BitVec.ofInt 32 (a : Int)).toNat = a := by
    rw [BitVec.ofInt_natCast, BitVec.toNat_ofNat]; exact Nat.mod_eq_of_lt (by omega)
  show IntKind.i32.wrap ((BitVec.ofInt 32 (a : Int) ^^^ BitVec.ofInt 32 (-1)).toNat : Int) = _
  rw [h1, BitVec.xor_allOnes, BitVec.toNat_not, h2, i32_wrap]
  rw [if_pos (by omega)]; omega
theorem xor_i32_0 (a : Nat) (h : a < 2147483648) : bits .xor .i32 (a : Int) 0 = (a : Int) := by
  have h1 : BitVec.ofInt 32 0 = 0#32 := by decide
  have h2 : (BitVec.ofInt 32 (a : Int)).toNat = a := by
    rw [BitVec.ofInt_natCast, BitVec.toNat_ofNat]; exact Nat.mod_eq_of_lt (by omega)
  show IntKind.i32.wrap ((BitVec.ofInt 32 (a : Int) ^^^ BitVec.ofInt 32 0).toNat : Int) = _
  rw [h1, BitVec.xor_zero, h2, i32_wrap, if_neg (by omega)]; omega
theorem Zag32_tri (n : Nat) (hn : n < 2 ^ 64) (w : World) : Tri Tryz.prog 50 [.int .u64 (n : Int)] [] (fun _ : Unit => .int .i32 (zag32 n)) (fun _ => []) (fun _ => True) w := by
  refine tri_of_G 12 Tryz.func50 rfl Tryz.ntmps50 rfl (fun D => ?_)
  have e1 : IntKind.u32.wrap (n : Int) = ((n % 4294967296 : Nat) : Int) := by simp [IntKind.wrap, IntKind.bits, IntKind.signed]
  have e2 : bits .and .u64 (n : Int) 1 = ((n % 2 : Nat) : Int) := by
    have := and_u64 n 1 hn (by omega)
    rw [Nat.and_one_is_mod] at this; exact this
  refine GC.seq (GC.region (GL.v (.assign rfl) rfl (GL.nil (GN.seq (GC.seq (GC.region (GL.v (.move rfl) rfl (GL.v (.convInt rfl e1) rfl (GL.v (.shr rfl rfl (by omega) (show ((n % 4294967296 : Nat) : Int) / 2 ^ min ((1 : Int).toNat) IntKind.u32.bits = ((n % 4294967296 / 2 : Nat) : Int) by simp [IntKind.bits])) rfl (GL.v (.convInt rfl (i32_in ((n % 4294967296 / 2 : Nat) : Int) (by omega))) rfl (GL.v (.move rfl) rfl (GL.v (.and rfl rfl) rfl (GL.v (.convInt rfl (show IntKind.i32.wrap (bits .and .u64 (n : Int) 1) = ((n % 2 : Nat) : Int) by rw [e2]; exact i32_in _ (by omega))) rfl (GL.v (.neg rfl) rfl (GL.v (.xor rfl rfl) rfl (GL.v (.assign rfl) rfl (GL.nil (GN.seq (GC.ret (?_))))))))))))))))))))
  refine GR.one rfl rfl rfl () (congrArg (Value.int .i32) ?_) (Ent.refl _) trivial
  unfold zag32
  rcases Nat.mod_two_eq_zero_or_one n with h | h
  · rw [h, if_pos rfl]
    exact xor_i32_0 _ (by omega)
  · rw [h, if_neg (by omega)]
    exact xor_i32_m1 _ (by omega)
theorem readT_n {t : Nat → Nat → Bool} {d : Int} {l : Bs} {r : Rec} (h : r ∈ readT t d l) : r.n < 2 ^ 64 ∧ 0 < r.raw.length ∧ r.s.length ≤ r.raw.length := by
  unfold readT at h
  split at h
  · cases h
  · split at h
    · cases h
    · rename_i rs hv
      have hm := (List.mem_filter.1 h).1
      refine ⟨((allM_mem _ d l rs (Nat.le_refl _) hv).2 r hm).2.2.2.1, ?_, allM_s _ d l rs (Nat.le_refl _) hv r hm⟩
      clear h
      have key : ∀ (m : Nat) (l : Bs) (rs : List Rec), l.length ≤ m → allM d l = .ok rs → ∀ r, r ∈ rs → 0 < r.raw.length := by
        intro m
        induction m with
        | zero =>
          intro l rs hl h r hr
          rcases allM_ok h with ⟨_, rfl⟩ | ⟨r', k, rs', hr', hq, rfl, hne⟩
          · cases hr
          · exact absurd (List.eq_nil_of_length_eq_zero (by omega)) hne
        | succ m ih =>
          intro l rs hl h r hr
          rcases allM_ok h with ⟨_, rfl⟩ | ⟨r', k, rs', hr', hq, rfl, hne⟩
          · cases hr
          · have hk := recM_ok hr'
            rcases List.mem_cons.1 hr with rfl | hr
            · rw [hk.2.2.2.2.2.2.2, List.length_take]; omega
            · exact ih (l.drop k) rs' (by simp; omega) hq r hr
      exact key _ l rs (Nat.le_refl _) hv r hm
theorem lastM_n (t : Nat → Nat → Bool) (d : Int) (l : Bs) (num : Nat) : (lastM (readT t d l) num).n < 2 ^ 64 := by
  unfold lastM
  cases h : ((readT t d l).filter fun r => r.num = num).getLast? with
  | none => simp [rec00]
  | some r => exact (readT_n (List.mem_filter.1 (List.mem_of_getLast? h)).1).1
theorem varsM_len : ∀ (k : Nat) (l : Bs) (ns : List Nat), l.length ≤ k → varsM l = .ok ns → ns.length ≤ l.length := by
  intro k
  induction k with
  | zero =>
    intro l ns hl h
    rcases varsM_ok h with ⟨_, rfl⟩ | ⟨n, k, ns', hv, hq, rfl⟩
    · simp
    · have := vget_ok hv; omega
  | succ k ih =>
    intro l ns hl h
    rcases varsM_ok h with ⟨_, rfl⟩ | ⟨n, j, ns', hv, hq, rfl⟩
    · simp
    · have := vget_ok hv
      have h2 := ih (l.drop j) ns' (by simp; omega) hq
      simp only [List.length_drop] at h2
      simp only [List.length_cons]; omega
theorem nOf_vars (s : Bs) : (nOf (varsM s)).length ≤ s.length := by
  cases h : varsM s with
  | ok ns => exact varsM_len _ s ns (Nat.le_refl _) h
  | error c => simp [nOf]
theorem pkM_len (m : Bs → NRes) (hm : ∀ s, (nOf (m s)).length ≤ s.length) (t : Nat → Nat → Bool) (d : Int) (l : Bs) (num : Nat) : (pkM m num (readT t d l)).length ≤ l.length := by
  have h1 : ∀ rs : List Rec, (∀ r, r ∈ rs → 0 < r.raw.length ∧ r.s.length ≤ r.raw.length) → (pkM m num rs).length ≤ (rs.flatMap (·.raw)).length := by
    intro rs
    induction rs with
    | nil => intro _; simp [pkM, ofNum]
    | cons r rs ih =>
      intro h
      have h2 := ih (fun x hx => h x (List.mem_cons_of_mem _ hx))
      have h3 := h r List.mem_cons_self
      have h4 := hm r.s
      unfold pkM ofNum at h2 ⊢
      rw [List.filter_cons, List.flatMap_cons, List.length_append]
      split
      · rw [List.flatMap_cons, List.length_append]
        split
        · omega
        · simp only [List.length_cons, List.length_nil]; omega
      · omega
  refine Nat.le_trans (h1 _ fun r hr => (readT_n hr).2) ?_
  unfold readT
  split
  · simp
  · split
    · simp
    · rename_i rs hv
      have h2 := allM_raw _ d l rs (Nat.le_refl _) hv
      conv => rhs; rw [← h2]
      unfold takenM
      clear h2 hv
      induction rs with
      | nil => simp
      | cons r rs ih =>
        rw [List.filter_cons]
        split
        · rw [List.flatMap_cons, List.flatMap_cons, List.length_append, List.length_append]; omega
        · rw [List.flatMap_cons, List.length_append]; omega

theorem fin_of {α : Type} (rep : α → List Value → FP) (er : Option (Option Int)) (a : α) (cs : List Value) (A : HP) (Hs : List HP) (h : er = none → Ent (A :: Hs) ((rep a cs).hp :: Hs)) : Ent (A :: Hs) ((resF rep (finM er a) cs).hp :: Hs) := by
  cases er with
  | some oc => exact Ent.head (h' := (resF rep (.error oc) cs).hp) (fun _ _ _ => trivial) (Ent.refl _)
  | none => exact h rfl
theorem exemF_mk (x : Exem) (v : Value) {ok : Nat → Prop} {w : World} (h : (listF keyF 11 x.attrs v).holds ok w) : (exemF x [v, .int .u64 (x.time : Int), .int .i64 x.kind, .int .u64 (x.n : Int), .string (mkS x.span), .string (mkS x.trace), .string (mkS x.unk)]).holds ok w := ⟨v, rfl, h⟩
theorem exem_fin (d : Int) (s : Bs) (e : Nat) (v : Value) (Hs : List HP) :
    Ent (LstB (resF keyF) e 11 (rlM keyM (d - 1) 7 (readT exemT d s)) v :: Hs)
      ((resF exemF (exemM d s) [v, .int .u64 ((lastM (readT exemT d s) 2).n : Int), .int .i64 (numK 3 6 (readT exemT d s) : Int), .int .u64 (numN 3 6 (readT exemT d s) : Int), .string (mkS (lastM (readT exemT d s) 4).s), .string (mkS (lastM (readT exemT d s) 5).s), .string (mkS (readU exemT d s))]).hp :: Hs) := by
  refine fin_of exemF _ _ _ _ _ fun h => Ent.trans (LstB.done (noteL_none h).2 Hs) ?_
  exact Ent.head (fun ok w h => exemF_mk ⟨_, _, _, _, _, _, _⟩ v h) (Ent.refl _)
theorem exem_rd (N : Nat) (hN : N ≤ 4294967296) (d : Int) (hd1 : -9223372036854775808 ≤ d) (hd2 : d ≤ 9223372036854775807) : RdC 52 [] [] Emp exemF 7 exemM N d := fun s w hs => by
  have hsm : s.size ≤ mx := by unfold mx; omega
  have hM := readT_mem (t := exemT) (d := d) (l := bs s)
  rw [bs_length] at hM
  have hmx : N ≤ mx := by unfold mx; omega
  have hrl : (readT exemT d (bs s)).length ≤ mx := Nat.le_trans hM.1 hsm
  have hr32 : (readT exemT d (bs s)).length ≤ 4294967296 := Nat.le_trans hM.1 (by omega)
  refine tri_of_G 42 Tryz.func52 rfl Tryz.ntmps52 rfl (fun D => ?_)
  refine GC.seq (GC.region (GL.w .alloc rfl (fun b4 _ => GL.v (.assign rfl) rfl (GL.nil (GN.seq (GC.seq (GC.region (GL.v (.move rfl) rfl (GL.v (.move rfl) rfl (?_))))))))))
  refine GL.call (As := []) rfl (fun w hst => Read_tri s d _ exemT tbl_exem w hsm hd1 hd2) rfl (fun ⟨g, v0⟩ _ => ?_)
  refine GL.v (.assign rfl) rfl (GL.nil (GN.seq (GC.seq (?_))))
  refine GC.ent (Ent.front 2 _ _ rfl) ?_
  refine GC.ent (Ent.front 1 _ _ rfl) ?_
  refine GC.draw ([RdB g ⟨mkS (readU exemT d (bs s)), d, s.size, v0, readT exemT d (bs s)⟩]) (m := 15) rfl (by repeat (first | exact Ent.trans (RdS.blk _ _ _ _) (Ent.cons _ (Ent.nil _)) | refine Ent.trans (Ent.tail _ _) ?_)) ?_
  refine GV.enter 13 rfl ?_
  refine GV.take 0 rfl rfl (by kernel_rfl) (by kernel_rfl) (by kernel_rfl) (by kernel_rfl) (by kernel_rfl) (.move rfl) rfl (GV.take 2 rfl rfl (by kernel_rfl) (by kernel_rfl) (by kernel_rfl) (by kernel_rfl) (by kernel_rfl) (.move rfl) rfl (GV.take 4 rfl rfl (by kernel_rfl) (by kernel_rfl) (by kernel_rfl) (by kernel_rfl) (by kernel_rfl) (.move rfl) rfl (GV.take 6 rfl rfl (by kernel_rfl) (by kernel_rfl) (by kernel_rfl) (by kernel_rfl) (by kernel_rfl) (.move rfl) rfl (GV.take 8 rfl rfl (by kernel_rfl) (by kernel_rfl) (by kernel_rfl) (by kernel_rfl) (by kernel_rfl) (.move rfl) rfl (GV.take 9 rfl rfl (by kernel_rfl) (by kernel_rfl) (by kernel_rfl) (by kernel_rfl) (by kernel_rfl) (.nilCheck rfl) rfl (GV.take 10 rfl rfl (by kernel_rfl) (by kernel_rfl) (by kernel_rfl) (by kernel_rfl) (by kernel_rfl) (.fieldAddr rfl) rfl (GV.take 11 rfl rfl (by kernel_rfl) (by kernel_rfl) (by kernel_rfl) (by kernel_rfl) (by kernel_rfl) (.ld 0 rfl rfl rfl) rfl (?_))))))))
  refine GV.call 1 (As := [_]) (by kernel_rfl) (by kernel_rfl) rfl rfl rfl rfl rfl rfl (fun w hst => Fixed_tri g _ _ 2 w hrl) rfl (by repeat (first | exact Ent.trans (RdS.blk _ _ _ _) (Ent.cons _ (Ent.nil _)) | refine Ent.trans (Ent.tail _ _) ?_)) (fun _ _ => (by repeat (first | exact Ent.trans (RdS.blk _ _ _ _) (Ent.cons _ (Ent.nil _)) | refine Ent.trans (Ent.tail _ _) ?_))) (fun _ _ => ?_)
  refine GV.call 3 (As := [_]) (by kernel_rfl) (by kernel_rfl) rfl rfl rfl rfl rfl rfl (fun w hst => Bytes_tri g _ _ 4 w hrl) rfl (by repeat (first | exact Ent.trans (RdS.blk _ _ _ _) (Ent.cons _ (Ent.nil _)) | refine Ent.trans (Ent.tail _ _) ?_)) (fun _ _ => (by repeat (first | exact Ent.trans (RdS.blk _ _ _ _) (Ent.cons _ (Ent.nil _)) | refine Ent.trans (Ent.tail _ _) ?_))) (fun _ _ => ?_)
  refine GV.call 5 (As := [_]) (by kernel_rfl) (by kernel_rfl) rfl rfl rfl rfl rfl rfl (fun w hst => Bytes_tri g _ _ 5 w hrl) rfl (by repeat (first | exact Ent.trans (RdS.blk _ _ _ _) (Ent.cons _ (Ent.nil _)) | refine Ent.trans (Ent.tail _ _) ?_)) (fun _ _ => (by repeat (first | exact Ent.trans (RdS.blk _ _ _ _) (Ent.cons _ (Ent.nil _)) | refine Ent.trans (Ent.tail _ _) ?_))) (fun _ _ => ?_)
  refine GV.ent (Ent.front 1 _ _ rfl) ?_
  refine GV.ent (Ent.front 1 _ _ rfl) ?_
  refine GV.call 7 (As := [_, _]) (by kernel_rfl) (by kernel_rfl) rfl rfl rfl rfl rfl rfl (fun w hst => List_key g _ _ 7 (fun h => Key_rd N hN (d - 1) (by have := hM.2.2 h; omega) (by omega)) hsm (fun r hr => Nat.le_trans (hM.2.1 r hr) hs) hr32 hM.2.2 hd2 w) rfl (by repeat (first | exact Ent.trans (RdS.blk _ _ _ _) (Ent.cons _ (Ent.nil _)) | refine Ent.trans (Ent.tail _ _) ?_)) (fun v hv => (by repeat (first | exact Ent.trans (RdS.blk _ _ _ _) (Ent.cons _ (Ent.nil _)) | refine Ent.trans (Ent.tail _ _) ?_))) (fun v hv => ?_)
  obtain ⟨A, c, rfl⟩ := hv
  refine GV.take 12 rfl rfl (by kernel_rfl) (by kernel_rfl) (by kernel_rfl) (by kernel_rfl) (by kernel_rfl) (.build (cs := [_, _, _, _, _, _, _]) rfl rfl) rfl (?_)
  refine GV.fin (by kernel_rfl) rfl rfl rfl (by repeat (first | exact Ent.trans (RdS.blk _ _ _ _) (Ent.cons _ (Ent.nil _)) | refine Ent.trans (Ent.tail _ _) ?_)) (fun b7 => ?_)
  refine GA.one 14 (by kernel_rfl) (GAi.w0 rfl (.store 0 rfl rfl rfl rfl rfl rfl rfl) (fun _ _ => (by repeat (first | exact Ent.trans (RdS.blk _ _ _ _) (Ent.cons _ (Ent.nil _)) | refine Ent.trans (Ent.tail _ _) ?_))) (fun _ _ => ?_))
  refine GA.done (by kernel_rfl) (?_)
  refine GN.seq (GC.seq (GC.region (GL.v (.move rfl) rfl (?_))))
  refine GL.ent (Ent.front 2 _ _ rfl) ?_
  refine GL.call (As := [_]) rfl (fun w hst => Number_tri g _ _ 3 6 hr32 w) rfl (fun _ _ => ?_)
  refine GL.v (.move rfl) rfl (GL.v (.extract rfl rfl) rfl (GL.v (.extract rfl rfl) rfl (GL.v (.fieldAddr rfl) rfl (GL.w0 (.store 1 rfl rfl rfl rfl rfl rfl rfl) (fun _ _ => GL.v (.fieldAddr rfl) rfl (GL.w0 (.store 1 rfl rfl rfl rfl rfl rfl rfl) (fun _ _ => GL.nil (GN.seq (GC.seq (GC.seq (GC.region (GL.v (.move rfl) rfl (GL.v (.nilCheck rfl) rfl (GL.v (.fieldAddr rfl) rfl (?_)))))))))))))))
  refine GL.open ?_
  rintro x hx
  rcases hx with ⟨hn, rfl⟩ | ⟨⟨oc, ho⟩, t, u, rfl⟩
  · refine GL.v (.ld 0 rfl rfl rfl) rfl (GL.v (.neqNil rfl (by first | exact .inl rfl | exact .inr ⟨_, _, rfl⟩ | assumption)) rfl (GL.nil (GN.seq (?_))))
    refine GC.cond rfl (fun h => Bool.noConfusion (h.symm.trans (rfl) : true = false)) (fun _ => ?_)
    refine GC.skip (GN.seq (GC.seq (GC.region (GL.v (.ldN 3 [_, _, _, _, _, _, _] rfl rfl rfl ⟨rfl, rfl, rfl, rfl, rfl, rfl, rfl, trivial⟩) rfl (GL.w0 (.store 6 rfl rfl rfl rfl rfl rfl rfl) (fun _ _ => GL.v (.assign rfl) rfl (GL.nil (GN.seq (GC.ret (?_))))))))))
    exact GR.cell2 6 [.slice A (rlM keyM (d - 1) 7 (readT exemT d (bs s))).length c, .int .u64 ((lastM (readT exemT d (bs s)) 2).n : Int), .int .i64 (numK 3 6 (readT exemT d (bs s)) : Int), .int .u64 (numN 3 6 (readT exemT d (bs s)) : Int), .string (mkS (lastM (readT exemT d (bs s)) 4).s), .string (mkS (lastM (readT exemT d (bs s)) 5).s), .string (mkS (readU exemT d (bs s)))] rfl rfl rfl rfl rfl rfl ⟨rfl, rfl, rfl, rfl, rfl, rfl, rfl, trivial⟩ (_, .nilIface) rfl (Ent.trans (Ent.trans (Ent.front 4 _ _ rfl) (Ent.cons _ (Ent.trans (Ent.front 1 _ _ rfl) (Ent.cons _ (Ent.trans (Ent.front 3 _ _ rfl) (Ent.cons _ (Ent.nil _))))))) (Ent.trans (exem_fin d (bs s) _ _ _) (by rw [show errE (exemM d (bs s)) = exemE d (bs s) from errE_fin _ _]; exact Ent.refl _))) ⟨rfl, rfl⟩
  · refine GL.v (.ld 0 rfl rfl rfl) rfl (GL.v (.neqNil rfl (by first | exact .inl rfl | exact .inr ⟨_, _, rfl⟩ | assumption)) rfl (GL.nil (GN.seq (?_))))
    refine GC.cond rfl (fun _ => ?_) (fun h => Bool.noConfusion (h.symm.trans (rfl) : false = true))
    refine GC.seq (?_)
    refine GC.draw ([Blk g 93 5 [(0, .iface t u)]]) (m := 7) rfl (by repeat (first | exact Ent.nil _ | (with_reducible exact Ent.refl _) | refine Ent.blk (by repeat (first | exact Sub.nil _ | refine Sub.cons rfl ?_)) ?_ | refine Ent.cons _ ?_ | refine Ent.trans (Ent.tail _ _) ?_)) ?_
    refine GA.take 0 rfl (by kernel_rfl) (by kernel_rfl) (by kernel_rfl) (.build (cs := [_, _, _, _, _, _, _]) rfl rfl) rfl (GA.take 1 rfl (by kernel_rfl) (by kernel_rfl) (by kernel_rfl) (.move rfl) rfl (GA.take 2 rfl (by kernel_rfl) (by kernel_rfl) (by kernel_rfl) (.nilCheck rfl) rfl (GA.take 3 rfl (by kernel_rfl) (by kernel_rfl) (by kernel_rfl) (.fieldAddr rfl) rfl (GA.take 4 rfl (by kernel_rfl) (by kernel_rfl) (by kernel_rfl) (.ld 0 rfl rfl rfl) rfl (?_)))))
    refine GA.one 5 (by kernel_rfl) (GAi.w0 rfl (.store 6 rfl rfl rfl rfl rfl rfl rfl) (fun _ _ => (by repeat (first | exact Ent.nil _ | (with_reducible exact Ent.refl _) | refine Ent.blk (by repeat (first | exact Sub.nil _ | refine Sub.cons rfl ?_)) ?_ | refine Ent.cons _ ?_ | refine Ent.trans (Ent.tail _ _) ?_))) (fun _ _ => ?_))
    refine GA.take 6 rfl (by kernel_rfl) (by kernel_rfl) (by kernel_rfl) (.assign rfl) rfl (GA.done (by kernel_rfl) (?_))
    refine GN.seq (GC.ret (?_))
    refine GR.cell2 6 [.slice none 0 0, .int .u64 0, .int .i64 0, .int .u64 0, .string emptyS, .string emptyS, .string emptyS] rfl rfl rfl rfl rfl rfl ⟨rfl, rfl, rfl, rfl, rfl, rfl, rfl, trivial⟩ ([.slice none 0 0, .int .u64 0, .int .i64 0, .int .u64 0, .string emptyS, .string emptyS, .string emptyS], .iface t u) rfl (Ent.trans (Ent.trans (Ent.front 4 _ _ rfl) (Ent.cons _ (Ent.trans (Ent.front 1 _ _ rfl) (Ent.cons _ (Ent.trans (Ent.front 3 _ _ rfl) (Ent.cons _ (Ent.nil _))))))) ?_) ⟨rfl, rfl⟩
    have hq : exemM d (bs s) = .error oc := by unfold exemM exemE; simp only at ho ⊢; rw [ho]; rfl
    rw [hq, ho]
    exact Ent.head (h' := (resF exemF (.error oc) _).hp) (fun _ _ _ => trivial) (Ent.refl _)
end Go.Proofs.Gw
/- Buckets and points of exponential histograms that are read. -/
set_option linter.unusedVariables false
set_option linter.unusedSimpArgs false
namespace Go.Proofs.Gw
open Go Go.RowKit Go.IntWalk Go.Proofs.Gm

theorem fins_of {α : Type} (rep : α → List Value → FP) (er : Option (Option Int)) (a : α) (cs : List Value) (As Hs : List HP) (hd : Ent As Hs) (h : er = none → Ent As ((rep a cs).hp :: Hs)) : Ent As ((resF rep (finM er a) cs).hp :: Hs) := by
  cases er with
  | some oc => exact hd.trans (Ent.intro (A := (resF rep (.error oc) cs).hp) (fun _ => trivial) Hs)
  | none => exact h rfl
theorem Ent.fand (f g : FP) (Hs : List HP) : Ent (f.hp :: g.hp :: Hs) ((FP.and f g).hp :: Hs) :=
  Ent.merge (A := f.hp) (B := g.hp) (E := (FP.and f g).hp) (fun o1 o2 w h1 h2 => ⟨f.mono o1 _ w (fun _ h => .inl h) h1, g.mono o2 _ w (fun _ h => .inr h) h2⟩) Hs
theorem buckF_mk (x : Buck) (v : Value) {ok : Nat → Prop} {w : World} (h : rowS ok w 1 v x.counts.length (u64C x.counts)) : (buckF x [.int .i32 x.off, v, .string (mkS x.unk)]).holds ok w := ⟨v, rfl, h⟩
theorem buck_fin (d : Int) (s : Bs) (v : Value) (Hs : List HP) :
    Ent (OwnN v (pkM varsM 2 (readT buckT d s)) :: Hs) ((resF buckF (buckM d s) [.int .i32 (zag32 (lastM (readT buckT d s) 1).n), v, .string (mkS (readU buckT d s))]).hp :: Hs) :=
  fin_of buckF _ _ _ _ _ fun h => Ent.head (fun ok w h => buckF_mk ⟨_, _, _⟩ v (Own.rowS h)) (Ent.refl _)
theorem u32w (n : Nat) : IntKind.u32.wrap (n : Int) = ((n % 4294967296 : Nat) : Int) := by simp [IntKind.wrap, IntKind.bits, IntKind.signed]
theorem Buck_rd (N : Nat) (hN : N ≤ 4294967296) (d : Int) (hd1 : -9223372036854775808 ≤ d) (hd2 : d ≤ 9223372036854775807) : RdC 54 [] [] Emp buckF 3 buckM N d := fun s w hs => by
  have hsm : s.size ≤ mx := by unfold mx; omega
  have hM := readT_mem (t := buckT) (d := d) (l := bs s)
  rw [bs_length] at hM
  have hrl : (readT buckT d (bs s)).length ≤ mx := Nat.le_trans hM.1 hsm
  have hr32 : (readT buckT d (bs s)).length ≤ 4294967296 := Nat.le_trans hM.1 (by omega)
  have hrs : ∀ r, r ∈ readT buckT d (bs s) → r.s.length ≤ mx := fun r hr => Nat.le_trans (hM.2.1 r hr) hsm
  have hpk := pkM_len varsM nOf_vars buckT d (bs s) 2
  rw [bs_length] at hpk
  refine tri_of_G 32 Tryz.func54 rfl Tryz.ntmps54 rfl (fun D => ?_)
  refine GC.seq (GC.region (GL.w .alloc rfl (fun b4 _ => GL.v (.assign rfl) rfl (GL.nil (GN.seq (GC.seq (GC.region (GL.v (.move rfl) rfl (GL.v (.move rfl) rfl (?_))))))))))
  refine GL.call (As := []) rfl (fun w hst => Read_tri s d _ buckT tbl_buck w hsm hd1 hd2) rfl (fun ⟨g, v0⟩ _ => ?_)
  refine GL.v (.assign rfl) rfl (GL.nil (GN.seq (GC.seq (?_))))
  refine GC.ent (Ent.front 2 _ _ rfl) ?_
  refine GC.ent (Ent.front 1 _ _ rfl) ?_
  refine GC.draw ([RdB g ⟨mkS (readU buckT d (bs s)), d, s.size, v0, readT buckT d (bs s)⟩]) (m := 12) rfl (by repeat (first | exact Ent.trans (RdS.blk _ _ _ _) (Ent.cons _ (Ent.nil _)) | refine Ent.trans (Ent.tail _ _) ?_)) ?_
  refine GV.enter 10 rfl ?_
  refine GV.take 0 rfl rfl (by kernel_rfl) (by kernel_rfl) (by kernel_rfl) (by kernel_rfl) (by kernel_rfl) (.move rfl) rfl (GV.take 3 rfl rfl (by kernel_rfl) (by kernel_rfl) (by kernel_rfl) (by kernel_rfl) (by kernel_rfl) (.move rfl) rfl (GV.take 5 rfl rfl (by kernel_rfl) (by kernel_rfl) (by kernel_rfl) (by kernel_rfl) (by kernel_rfl) (.move rfl) rfl (GV.take 6 rfl rfl (by kernel_rfl) (by kernel_rfl) (by kernel_rfl) (by kernel_rfl) (by kernel_rfl) (.nilCheck rfl) rfl (GV.take 7 rfl rfl (by kernel_rfl) (by kernel_rfl) (by kernel_rfl) (by kernel_rfl) (by kernel_rfl) (.fieldAddr rfl) rfl (GV.take 8 rfl rfl (by kernel_rfl) (by kernel_rfl) (by kernel_rfl) (by kernel_rfl) (by kernel_rfl) (.ld 0 rfl rfl rfl) rfl (?_))))))
  refine GV.call 1 (As := [_]) (by kernel_rfl) (by kernel_rfl) rfl rfl rfl rfl rfl rfl (fun w hst => Fixed_tri g _ _ 1 w hrl) rfl (by repeat (first | exact Ent.trans (RdS.blk _ _ _ _) (Ent.cons _ (Ent.nil _)) | refine Ent.trans (Ent.tail _ _) ?_)) (fun _ _ => (by repeat (first | exact Ent.trans (RdS.blk _ _ _ _) (Ent.cons _ (Ent.nil _)) | refine Ent.trans (Ent.tail _ _) ?_))) (fun _ _ => ?_)
  refine GV.call 2 (As := []) (by kernel_rfl) (by kernel_rfl) rfl rfl rfl rfl rfl rfl (fun w hst => Zag32_tri _ (lastM_n buckT d (bs s) 1) w) rfl (by repeat (first | exact Ent.trans (RdS.blk _ _ _ _) (Ent.cons _ (Ent.nil _)) | refine Ent.trans (Ent.tail _ _) ?_)) (fun _ _ => (by repeat (first | exact Ent.trans (RdS.blk _ _ _ _) (Ent.cons _ (Ent.nil _)) | refine Ent.trans (Ent.tail _ _) ?_))) (fun _ _ => ?_)
  refine GV.call 4 (As := [_]) (by kernel_rfl) (by kernel_rfl) rfl rfl rfl rfl rfl rfl (fun w hst => Vars_tri g _ _ 2 hrs hsm (Nat.le_trans hpk (by omega)) hr32 w) rfl (by repeat (first | exact Ent.trans (RdS.blk _ _ _ _) (Ent.cons _ (Ent.nil _)) | refine Ent.trans (Ent.tail _ _) ?_)) (fun v hv => (by repeat (first | exact Ent.trans (RdS.blk _ _ _ _) (Ent.cons _ (Ent.nil _)) | refine Ent.trans (Ent.tail _ _) ?_))) (fun v hv => ?_)
  obtain ⟨A, c, rfl⟩ := hv
  refine GV.take 9 rfl rfl (by kernel_rfl) (by kernel_rfl) (by kernel_rfl) (by kernel_rfl) (by kernel_rfl) (.build (cs := [_, _, _]) rfl rfl) rfl (?_)
  refine GV.fin (by kernel_rfl) rfl rfl rfl (by repeat (first | exact Ent.trans (RdS.blk _ _ _ _) (Ent.cons _ (Ent.nil _)) | refine Ent.trans (Ent.tail _ _) ?_)) (fun b7 => ?_)
  refine GA.one 11 (by kernel_rfl) (GAi.w0 rfl (.store 0 rfl rfl rfl rfl rfl rfl rfl) (fun _ _ => (by repeat (first | exact Ent.trans (RdS.blk _ _ _ _) (Ent.cons _ (Ent.nil _)) | refine Ent.trans (Ent.tail _ _) ?_))) (fun _ _ => ?_))
  refine GA.done (by kernel_rfl) (?_)
  refine GN.seq (GC.seq (GC.seq (GC.region (GL.v (.move rfl) rfl (GL.v (.nilCheck rfl) rfl (GL.v (.fieldAddr rfl) rfl (?_)))))))
  refine GL.ent (Ent.front 2 _ _ rfl) ?_
  refine GL.open ?_
  rintro x hx
  rcases hx with ⟨hn, rfl⟩ | ⟨⟨oc, ho⟩, t, u, rfl⟩
  · refine GL.v (.ld 0 rfl rfl rfl) rfl (GL.v (.neqNil rfl (by first | exact .inl rfl | exact .inr ⟨_, _, rfl⟩ | assumption)) rfl (GL.nil (GN.seq (?_))))
    refine GC.cond rfl (fun h => Bool.noConfusion (h.symm.trans (rfl) : true = false)) (fun _ => ?_)
    refine GC.skip (GN.seq (GC.seq (GC.region (GL.v (.ldN 3 [_, _, _] rfl rfl rfl ⟨rfl, rfl, rfl, trivial⟩) rfl (GL.w0 (.store 6 rfl rfl rfl rfl rfl rfl rfl) (fun _ _ => GL.v (.assign rfl) rfl (GL.nil (GN.seq (GC.ret (?_))))))))))
    exact GR.cell2 6 [.int .i32 (zag32 (lastM (readT buckT d (bs s)) 1).n), .slice A (pkM varsM 2 (readT buckT d (bs s))).length c, .string (mkS (readU buckT d (bs s)))] rfl rfl rfl rfl rfl rfl ⟨rfl, rfl, rfl, trivial⟩ (_, .nilIface) rfl (Ent.trans (Ent.trans (Ent.front 4 _ _ rfl) (Ent.cons _ (Ent.trans (Ent.front 1 _ _ rfl) (Ent.cons _ (Ent.trans (Ent.front 3 _ _ rfl) (Ent.cons _ (Ent.nil _))))))) (Ent.trans (buck_fin d (bs s) _ _) (by rw [show errE (buckM d (bs s)) = buckE d (bs s) from errE_fin _ _]; exact Ent.refl _))) ⟨rfl, rfl⟩
  · skip
    refine GL.v (.ld 0 rfl rfl rfl) rfl (GL.v (.neqNil rfl (by first | exact .inl rfl | exact .inr ⟨_, _, rfl⟩ | assumption)) rfl (GL.nil (GN.seq (?_))))
    refine GC.cond rfl (fun _ => ?_) (fun h => Bool.noConfusion (h.symm.trans (rfl) : false = true))
    refine GC.seq (?_)
    refine GC.draw ([Blk g 93 5 [(0, .iface t u)]]) (m := 7) rfl (by repeat (first | exact Ent.nil _ | (with_reducible exact Ent.refl _) | refine Ent.blk (by repeat (first | exact Sub.nil _ | refine Sub.cons rfl ?_)) ?_ | refine Ent.cons _ ?_ | refine Ent.trans (Ent.tail _ _) ?_)) ?_
    refine GA.take 0 rfl (by kernel_rfl) (by kernel_rfl) (by kernel_rfl) (.build (cs := [_, _, _]) rfl rfl) rfl (GA.take 1 rfl (by kernel_rfl) (by kernel_rfl) (by kernel_rfl) (.move rfl) rfl (GA.take 2 rfl (by kernel_rfl) (by kernel_rfl) (by kernel_rfl) (.nilCheck rfl) rfl (GA.take 3 rfl (by kernel_rfl) (by kernel_rfl) (by kernel_rfl) (.fieldAddr rfl) rfl (GA.take 4 rfl (by kernel_rfl) (by kernel_rfl) (by kernel_rfl) (.ld 0 rfl rfl rfl) rfl (?_)))))
    refine GA.one 5 (by kernel_rfl) (GAi.w0 rfl (.store 6 rfl rfl rfl rfl rfl rfl rfl) (fun _ _ => (by repeat (first | exact Ent.nil _ | (with_reducible exact Ent.refl _) | refine Ent.blk (by repeat (first | exact Sub.nil _ | refine Sub.cons rfl ?_)) ?_ | refine Ent.cons _ ?_ | refine Ent.trans (Ent.tail _ _) ?_))) (fun _ _ => ?_))
    refine GA.take 6 rfl (by kernel_rfl) (by kernel_rfl) (by kernel_rfl) (.assign rfl) rfl (GA.done (by kernel_rfl) (?_))
    refine GN.seq (GC.ret (?_))
    refine GR.cell2 6 [.int .i32 0, .slice none 0 0, .string emptyS] rfl rfl rfl rfl rfl rfl ⟨rfl, rfl, rfl, trivial⟩ ([.int .i32 0, .slice none 0 0, .string emptyS], .iface t u) rfl (Ent.trans (Ent.trans (Ent.front 4 _ _ rfl) (Ent.cons _ (Ent.trans (Ent.front 1 _ _ rfl) (Ent.cons _ (Ent.trans (Ent.front 3 _ _ rfl) (Ent.cons _ (Ent.nil _))))))) ?_) ⟨rfl, rfl⟩
    have hq : buckM d (bs s) = .error oc := by unfold buckM buckE; simp only at ho ⊢; rw [ho]; rfl
    rw [hq, ho]
    exact Ent.trans (Ent.trans (Ent.front 1 _ _ rfl) (Ent.cons _ (Ent.trans (Ent.front 1 _ _ rfl) (Ent.cons _ (Ent.nil _))))) (Ent.intro (A := (resF buckF (.error oc) _).hp) (fun _ => trivial) _)

/-- A side that may lack. -/
theorem part_buckF {p : Option (Res Buck)} {cs : List Value} (h : errP p = none) {ok : Nat → Prop} {w : World} (h2 : (partF buckF [.int .i32 0, .slice none 0 0, .string emptyS] p cs).holds ok w) : (buckF (partD buck0 p) cs).holds ok w := by
  cases p with
  | none => have h3 : cs = _ := h2; rw [h3]; exact ⟨.slice none 0 0, rfl, by simp [partD, buck0, u64C], none, 0, rfl, fun h => absurd h (by simp [partD, buck0])⟩
  | some x =>
    cases x with
    | ok b => exact h2
    | error oc => cases h
theorem expF_of (x : Expo) (v1 v2 p1 p2 p3 n1 n2 n3 : Value) {ok : Nat → Prop} {w : World} (h1 : (listF keyF 11 x.attrs v1).holds ok w) (hp : (buckF x.pos [p1, p2, p3]).holds ok w) (hn : (buckF x.neg [n1, n2, n3]).holds ok w) (h2 : (listF exemF 7 x.exs v2).holds ok w) :
    (expF x [v1, .int .u64 (x.start : Int), .int .u64 (x.time : Int), .int .u64 (x.count : Int), .bool x.sum.has, .int .u64 (x.sum.n : Int), .bool x.min.has, .int .u64 (x.min.n : Int), .bool x.max.has, .int .u64 (x.max.n : Int), .int .i32 x.scale, .int .u64 (x.zero : Int), .bool x.hasPos, p1, p2, p3, .bool x.hasNeg, n1, n2, n3, v2, .int .u32 (x.flags : Int), .int .u64 (x.thr : Int), .string (mkS x.unk)]).holds ok w := by
  obtain ⟨a, ha, ha2⟩ := hp
  obtain ⟨b, hb, hb2⟩ := hn
  have ha : [p1, p2, p3] = _ := ha
  have hb : [n1, n2, n3] = _ := hb
  simp only [List.cons.injEq, and_true] at ha hb
  obtain ⟨rfl, rfl, rfl⟩ := ha
  obtain ⟨rfl, rfl, rfl⟩ := hb
  exact ⟨(v1, p2, n2, v2), rfl, h1, ha2, hb2, h2⟩
/-- A point's cells. -/
theorem exp_fin (d : Int) (s : Bs) (e e' : Nat) (v1 v2 p1 p2 p3 n1 n2 n3 : Value) (Hs : List HP) :
    Ent (LstB (resF keyF) e 11 (rlM keyM (d - 1) 1 (readT expT d s)) v1 :: (partF buckF [.int .i32 0, .slice none 0 0, .string emptyS] (partM buckM (d - 1) 8 (readT expT d s)) [p1, p2, p3]).hp ::
        (partF buckF [.int .i32 0, .slice none 0 0, .string emptyS] (partM buckM (d - 1) 9 (readT expT d s)) [n1, n2, n3]).hp :: LstB (resF exemF) e' 7 (rlM exemM (d - 1) 11 (readT expT d s)) v2 :: Hs)
      ((resF expF (expM d s) [v1, .int .u64 ((lastM (readT expT d s) 2).n : Int), .int .u64 ((lastM (readT expT d s) 3).n : Int), .int .u64 ((lastM (readT expT d s) 4).n : Int), .bool (decide ((lastM (readT expT d s) 5).num = 5)), .int .u64 ((lastM (readT expT d s) 5).n : Int),
        .bool (decide ((lastM (readT expT d s) 12).num = 12)), .int .u64 ((lastM (readT expT d s) 12).n : Int), .bool (decide ((lastM (readT expT d s) 13).num = 13)), .int .u64 ((lastM (readT expT d s) 13).n : Int), .int .i32 (zag32 (lastM (readT expT d s) 6).n), .int .u64 ((lastM (readT expT d s) 7).n : Int),
        .bool (decide (ofNum (readT expT d s) 8 ≠ [])), p1, p2, p3, .bool (decide (ofNum (readT expT d s) 9 ≠ [])), n1, n2, n3, v2, .int .u32 (((lastM (readT expT d s) 10).n % 4294967296 : Nat) : Int), .int .u64 ((lastM (readT expT d s) 14).n : Int), .string (mkS (readU expT d s))]).hp :: Hs) := by
  refine fins_of expF _ _ _ _ _ ((Ent.tail _ _).trans ((Ent.tail _ _).trans ((Ent.tail _ _).trans (Ent.tail _ _)))) fun h => ?_
  unfold expE at h
  simp only at h
  obtain ⟨h1, h9⟩ := note_eq_none h
  obtain ⟨h2, h8⟩ := note_eq_none h1
  have h11 := noteL_none h2
  have h1 := noteL_none h11.1
  refine Ent.trans (LstB.done h1.2 _) ?_
  refine Ent.trans (Ent.cons _ (Ent.cons _ (Ent.cons _ (LstB.done h11.2 _)))) ?_
  refine Ent.trans (Ent.cons _ (Ent.cons _ (Ent.fand (partF buckF _ _ _) (listF exemF 7 _ _) _))) ?_
  refine Ent.trans (Ent.cons _ (Ent.fand (partF buckF _ _ _) (FP.and _ _) _)) ?_
  refine Ent.trans (Ent.fand (listF keyF 11 _ _) (FP.and _ _) _) ?_
  exact Ent.head (fun ok w h => by obtain ⟨a1, a2, a3, a4⟩ := h; exact expF_of ⟨_, _, _, _, optM _ 5, optM _ 12, optM _ 13, _, _, _, _, _, _, _, _, _, _⟩ v1 v2 p1 p2 p3 n1 n2 n3 a1 (part_buckF h8 a2) (part_buckF h9 a3) a4) (Ent.refl _)
end Go.Proofs.Gw
/- Points of exponential histograms that are read. Printed by wip/tools/gen8.py. -/
set_option linter.unusedVariables false
set_option linter.unusedSimpArgs false
namespace Go.Proofs.Gw
open Go Go.RowKit Go.IntWalk Go.Proofs.Gm

theorem list3 {l : List Value} (h : l.length = 3) : ∃ a1 a2 a3, l = [a1, a2, a3] := by
  match l, h with
  | [a1, a2, a3], _ => exact ⟨_, _, _, rfl⟩
theorem Exp_rd (N : Nat) (hN : N ≤ 4294967296) (d : Int) (hd1 : -9223372036854775808 ≤ d) (hd2 : d ≤ 9223372036854775807) : RdC 15 [] [] Emp expF 24 expM N d := fun s w hs => by
  have hsm : s.size ≤ mx := by unfold mx; omega
  have hM := readT_mem (t := expT) (d := d) (l := bs s)
  rw [bs_length] at hM
  have hmx : N ≤ mx := by unfold mx; omega
  have hrl : (readT expT d (bs s)).length ≤ mx := Nat.le_trans hM.1 hsm
  have hr32 : (readT expT d (bs s)).length ≤ 4294967296 := Nat.le_trans hM.1 (by omega)
  have hrN : ∀ r, r ∈ readT expT d (bs s) → r.s.length ≤ N := fun r hr => Nat.le_trans (hM.2.1 r hr) hs
  have hj8 := joinM_len expT d (bs s) 8
  have hj9 := joinM_len expT d (bs s) 9
  rw [bs_length] at hj8 hj9
  refine tri_of_G 67 Tryz.func15 rfl Tryz.ntmps15 rfl (fun D => ?_)
  refine GC.seq (GC.region (GL.w .alloc rfl (fun b4 _ => GL.v (.assign rfl) rfl (GL.nil (GN.seq (GC.seq (GC.region (GL.v (.move rfl) rfl (GL.v (.move rfl) rfl (?_))))))))))
  refine GL.call (As := []) rfl (fun w hst => Read_tri s d _ expT tbl_exp w hsm hd1 hd2) rfl (fun ⟨g, v0⟩ _ => ?_)
  refine GL.v (.assign rfl) rfl (GL.nil (GN.seq (GC.seq (?_))))
  refine GC.ent (Ent.front 2 _ _ rfl) ?_
  refine GC.ent (Ent.front 1 _ _ rfl) ?_
  refine GC.draw ([RdB g ⟨mkS (readU expT d (bs s)), d, s.size, v0, readT expT d (bs s)⟩]) (m := 33) rfl (by repeat (first | exact Ent.trans (RdS.blk _ _ _ _) (Ent.cons _ (Ent.nil _)) | refine Ent.trans (Ent.tail _ _) ?_)) ?_
  refine GV.enter 31 rfl ?_
  refine GV.take 0 rfl rfl (by kernel_rfl) (by kernel_rfl) (by kernel_rfl) (by kernel_rfl) (by kernel_rfl) (.move rfl) rfl (GV.take 2 rfl rfl (by kernel_rfl) (by kernel_rfl) (by kernel_rfl) (by kernel_rfl) (by kernel_rfl) (.move rfl) rfl (GV.take 4 rfl rfl (by kernel_rfl) (by kernel_rfl) (by kernel_rfl) (by kernel_rfl) (by kernel_rfl) (.move rfl) rfl (GV.take 6 rfl rfl (by kernel_rfl) (by kernel_rfl) (by kernel_rfl) (by kernel_rfl) (by kernel_rfl) (.move rfl) rfl (GV.take 8 rfl rfl (by kernel_rfl) (by kernel_rfl) (by kernel_rfl) (by kernel_rfl) (by kernel_rfl) (.move rfl) rfl (GV.take 10 rfl rfl (by kernel_rfl) (by kernel_rfl) (by kernel_rfl) (by kernel_rfl) (by kernel_rfl) (.move rfl) rfl (GV.take 12 rfl rfl (by kernel_rfl) (by kernel_rfl) (by kernel_rfl) (by kernel_rfl) (by kernel_rfl) (.move rfl) rfl (GV.take 14 rfl rfl (by kernel_rfl) (by kernel_rfl) (by kernel_rfl) (by kernel_rfl) (by kernel_rfl) (.move rfl) rfl (GV.take 17 rfl rfl (by kernel_rfl) (by kernel_rfl) (by kernel_rfl) (by kernel_rfl) (by kernel_rfl) (.move rfl) rfl (GV.take 19 rfl rfl (by kernel_rfl) (by kernel_rfl) (by kernel_rfl) (by kernel_rfl) (by kernel_rfl) (.move rfl) rfl (GV.take 21 rfl rfl (by kernel_rfl) (by kernel_rfl) (by kernel_rfl) (by kernel_rfl) (by kernel_rfl) (.move rfl) rfl (GV.take 24 rfl rfl (by kernel_rfl) (by kernel_rfl) (by kernel_rfl) (by kernel_rfl) (by kernel_rfl) (.move rfl) rfl (GV.take 26 rfl rfl (by kernel_rfl) (by kernel_rfl) (by kernel_rfl) (by kernel_rfl) (by kernel_rfl) (.move rfl) rfl (GV.take 27 rfl rfl (by kernel_rfl) (by kernel_rfl) (by kernel_rfl) (by kernel_rfl) (by kernel_rfl) (.nilCheck rfl) rfl (GV.take 28 rfl rfl (by kernel_rfl) (by kernel_rfl) (by kernel_rfl) (by kernel_rfl) (by kernel_rfl) (.fieldAddr rfl) rfl (GV.take 29 rfl rfl (by kernel_rfl) (by kernel_rfl) (by kernel_rfl) (by kernel_rfl) (by kernel_rfl) (.ld 0 rfl rfl rfl) rfl (?_))))))))))))))))
  refine GV.call 1 (As := [_, _]) (by kernel_rfl) (by kernel_rfl) rfl rfl rfl rfl rfl rfl (fun w hst => List_key g _ _ 1 (fun h => Key_rd N hN (d - 1) (by have := hM.2.2 h; omega) (by omega)) hsm hrN hr32 hM.2.2 hd2 w) rfl (by repeat (first | exact Ent.trans (RdS.blk _ _ _ _) (Ent.cons _ (Ent.nil _)) | refine Ent.trans (Ent.tail _ _) ?_)) (fun v1 hv1 => (by repeat (first | exact Ent.trans (RdS.blk _ _ _ _) (Ent.cons _ (Ent.nil _)) | refine Ent.trans (Ent.tail _ _) ?_))) (fun v1 hv1 => ?_)
  obtain ⟨A1, c1, rfl⟩ := hv1
  refine GV.ent (Ent.front 2 _ _ rfl) ?_
  refine GV.ent (Ent.front 2 _ _ rfl) ?_
  refine GV.call 3 (As := [_]) (by kernel_rfl) (by kernel_rfl) rfl rfl rfl rfl rfl rfl (fun w hst => Fixed_tri g _ _ 2 w hrl) rfl (by repeat (first | exact Ent.trans (RdS.blk _ _ _ _) (Ent.cons _ (Ent.nil _)) | refine Ent.trans (Ent.tail _ _) ?_)) (fun _ _ => (by repeat (first | exact Ent.trans (RdS.blk _ _ _ _) (Ent.cons _ (Ent.nil _)) | refine Ent.trans (Ent.tail _ _) ?_))) (fun _ _ => ?_)
  refine GV.call 5 (As := [_]) (by kernel_rfl) (by kernel_rfl) rfl rfl rfl rfl rfl rfl (fun w hst => Fixed_tri g _ _ 3 w hrl) rfl (by repeat (first | exact Ent.trans (RdS.blk _ _ _ _) (Ent.cons _ (Ent.nil _)) | refine Ent.trans (Ent.tail _ _) ?_)) (fun _ _ => (by repeat (first | exact Ent.trans (RdS.blk _ _ _ _) (Ent.cons _ (Ent.nil _)) | refine Ent.trans (Ent.tail _ _) ?_))) (fun _ _ => ?_)
  refine GV.call 7 (As := [_]) (by kernel_rfl) (by kernel_rfl) rfl rfl rfl rfl rfl rfl (fun w hst => Fixed_tri g _ _ 4 w hrl) rfl (by repeat (first | exact Ent.trans (RdS.blk _ _ _ _) (Ent.cons _ (Ent.nil _)) | refine Ent.trans (Ent.tail _ _) ?_)) (fun _ _ => (by repeat (first | exact Ent.trans (RdS.blk _ _ _ _) (Ent.cons _ (Ent.nil _)) | refine Ent.trans (Ent.tail _ _) ?_))) (fun _ _ => ?_)
  refine GV.call 9 (As := [_]) (by kernel_rfl) (by kernel_rfl) rfl rfl rfl rfl rfl rfl (fun w hst => Opt_tri g _ _ 5 w hrl) rfl (by repeat (first | exact Ent.trans (RdS.blk _ _ _ _) (Ent.cons _ (Ent.nil _)) | refine Ent.trans (Ent.tail _ _) ?_)) (fun _ _ => (by repeat (first | exact Ent.trans (RdS.blk _ _ _ _) (Ent.cons _ (Ent.nil _)) | refine Ent.trans (Ent.tail _ _) ?_))) (fun _ _ => ?_)
  refine GV.call 11 (As := [_]) (by kernel_rfl) (by kernel_rfl) rfl rfl rfl rfl rfl rfl (fun w hst => Opt_tri g _ _ 12 w hrl) rfl (by repeat (first | exact Ent.trans (RdS.blk _ _ _ _) (Ent.cons _ (Ent.nil _)) | refine Ent.trans (Ent.tail _ _) ?_)) (fun _ _ => (by repeat (first | exact Ent.trans (RdS.blk _ _ _ _) (Ent.cons _ (Ent.nil _)) | refine Ent.trans (Ent.tail _ _) ?_))) (fun _ _ => ?_)
  refine GV.call 13 (As := [_]) (by kernel_rfl) (by kernel_rfl) rfl rfl rfl rfl rfl rfl (fun w hst => Opt_tri g _ _ 13 w hrl) rfl (by repeat (first | exact Ent.trans (RdS.blk _ _ _ _) (Ent.cons _ (Ent.nil _)) | refine Ent.trans (Ent.tail _ _) ?_)) (fun _ _ => (by repeat (first | exact Ent.trans (RdS.blk _ _ _ _) (Ent.cons _ (Ent.nil _)) | refine Ent.trans (Ent.tail _ _) ?_))) (fun _ _ => ?_)
  refine GV.call 15 (As := [_]) (by kernel_rfl) (by kernel_rfl) rfl rfl rfl rfl rfl rfl (fun w hst => Fixed_tri g _ _ 6 w hrl) rfl (by repeat (first | exact Ent.trans (RdS.blk _ _ _ _) (Ent.cons _ (Ent.nil _)) | refine Ent.trans (Ent.tail _ _) ?_)) (fun _ _ => (by repeat (first | exact Ent.trans (RdS.blk _ _ _ _) (Ent.cons _ (Ent.nil _)) | refine Ent.trans (Ent.tail _ _) ?_))) (fun _ _ => ?_)
  refine GV.call 16 (As := []) (by kernel_rfl) (by kernel_rfl) rfl rfl rfl rfl rfl rfl (fun w hst => Zag32_tri _ (lastM_n expT d (bs s) 6) w) rfl (by repeat (first | exact Ent.trans (RdS.blk _ _ _ _) (Ent.cons _ (Ent.nil _)) | refine Ent.trans (Ent.tail _ _) ?_)) (fun _ _ => (by repeat (first | exact Ent.trans (RdS.blk _ _ _ _) (Ent.cons _ (Ent.nil _)) | refine Ent.trans (Ent.tail _ _) ?_))) (fun _ _ => ?_)
  refine GV.call 18 (As := [_]) (by kernel_rfl) (by kernel_rfl) rfl rfl rfl rfl rfl rfl (fun w hst => Fixed_tri g _ _ 7 w hrl) rfl (by repeat (first | exact Ent.trans (RdS.blk _ _ _ _) (Ent.cons _ (Ent.nil _)) | refine Ent.trans (Ent.tail _ _) ?_)) (fun _ _ => (by repeat (first | exact Ent.trans (RdS.blk _ _ _ _) (Ent.cons _ (Ent.nil _)) | refine Ent.trans (Ent.tail _ _) ?_))) (fun _ _ => ?_)
  refine GV.call 20 (As := [_, _]) (by kernel_rfl) (by kernel_rfl) rfl rfl rfl rfl rfl rfl (fun w hst => List_exem g _ _ 11 (fun h => exem_rd N hN (d - 1) (by have := hM.2.2 h; omega) (by omega)) hsm hrN hr32 hM.2.2 hd2 w) rfl (by repeat (first | exact Ent.trans (RdS.blk _ _ _ _) (Ent.cons _ (Ent.nil _)) | refine Ent.trans (Ent.tail _ _) ?_)) (fun v2 hv2 => (by repeat (first | exact Ent.trans (RdS.blk _ _ _ _) (Ent.cons _ (Ent.nil _)) | refine Ent.trans (Ent.tail _ _) ?_))) (fun v2 hv2 => ?_)
  obtain ⟨A2, c2, rfl⟩ := hv2
  refine GV.ent (Ent.front 2 _ _ rfl) ?_
  refine GV.ent (Ent.front 2 _ _ rfl) ?_
  refine GV.call 22 (As := [_]) (by kernel_rfl) (by kernel_rfl) rfl rfl rfl rfl rfl rfl (fun w hst => Fixed_tri g _ _ 10 w hrl) rfl (by repeat (first | exact Ent.trans (RdS.blk _ _ _ _) (Ent.cons _ (Ent.nil _)) | refine Ent.trans (Ent.tail _ _) ?_)) (fun _ _ => (by repeat (first | exact Ent.trans (RdS.blk _ _ _ _) (Ent.cons _ (Ent.nil _)) | refine Ent.trans (Ent.tail _ _) ?_))) (fun _ _ => ?_)
  refine GV.take 23 rfl rfl (by kernel_rfl) (by kernel_rfl) (by kernel_rfl) (by kernel_rfl) (by kernel_rfl) (.convInt rfl (u32w _)) rfl (?_)
  refine GV.call 25 (As := [_]) (by kernel_rfl) (by kernel_rfl) rfl rfl rfl rfl rfl rfl (fun w hst => Fixed_tri g _ _ 14 w hrl) rfl (by repeat (first | exact Ent.trans (RdS.blk _ _ _ _) (Ent.cons _ (Ent.nil _)) | refine Ent.trans (Ent.tail _ _) ?_)) (fun _ _ => (by repeat (first | exact Ent.trans (RdS.blk _ _ _ _) (Ent.cons _ (Ent.nil _)) | refine Ent.trans (Ent.tail _ _) ?_))) (fun _ _ => ?_)
  refine GV.take 30 rfl rfl (by kernel_rfl) (by kernel_rfl) (by kernel_rfl) (by kernel_rfl) (by kernel_rfl) (.build (cs := [_, _, _, _, _, _, _, _, _, _, _, _, _, _, _, _, _, _, _, _, _, _, _, _]) rfl rfl) rfl (?_)
  refine GV.fin (by kernel_rfl) rfl rfl rfl (by repeat (first | exact Ent.trans (RdS.blk _ _ _ _) (Ent.cons _ (Ent.nil _)) | refine Ent.trans (Ent.tail _ _) ?_)) (fun b7 => ?_)
  refine GA.one 32 (by kernel_rfl) (GAi.w0 rfl (.store 0 rfl rfl rfl rfl rfl rfl rfl) (fun _ _ => (by repeat (first | exact Ent.trans (RdS.blk _ _ _ _) (Ent.cons _ (Ent.nil _)) | refine Ent.trans (Ent.tail _ _) ?_))) (fun _ _ => ?_))
  refine GA.done (by kernel_rfl) (?_)
  refine GN.seq (GC.seq (GC.region (GL.v (.move rfl) rfl (?_))))
  refine GL.ent (Ent.front 2 _ _ rfl) ?_
  refine GL.ent (Ent.front 2 _ _ rfl) ?_
  refine GL.call (As := [_, _]) rfl (fun w hst => Part_buck g _ _ 8 (fun h => Buck_rd N hN (d - 1) (by have := hM.2.2 h; omega) (by omega)) hsm (Nat.le_trans hj8 hs) hmx hr32 hM.2.2 hd2 w) rfl (fun cs8 hcs8 => ?_)
  obtain ⟨hl8, h8⟩ := hcs8
  obtain ⟨p1, p2, p3, rfl⟩ := list3 hl8
  refine GL.v (.move rfl) rfl (GL.v (.extract rfl rfl) rfl (GL.v (.extract rfl rfl) rfl (GL.v (.fieldAddr rfl) rfl (GL.w0 (.store 3 rfl rfl rfl rfl rfl rfl h8) (fun _ _ => GL.v (.fieldAddr rfl) rfl (GL.w0 (.store 3 rfl rfl rfl rfl rfl rfl rfl) (fun _ _ => GL.nil (GN.seq (GC.seq (GC.region (GL.v (.move rfl) rfl (?_))))))))))))
  refine GL.ent (Ent.front 2 _ _ rfl) ?_
  refine GL.ent (Ent.front 1 _ _ rfl) ?_
  refine GL.call (As := [_, _]) rfl (fun w hst => Part_buck g _ _ 9 (fun h => Buck_rd N hN (d - 1) (by have := hM.2.2 h; omega) (by omega)) hsm (Nat.le_trans hj9 hs) hmx hr32 hM.2.2 hd2 w) rfl (fun cs9 hcs9 => ?_)
  obtain ⟨hl9, h9⟩ := hcs9
  obtain ⟨n1, n2, n3, rfl⟩ := list3 hl9
  simp only at h8 h9 ⊢
  refine GL.v (.move rfl) rfl (GL.v (.extract rfl rfl) rfl (GL.v (.extract rfl rfl) rfl (GL.v (.fieldAddr rfl) rfl (GL.w0 (.store 4 rfl rfl rfl rfl rfl rfl h9) (fun _ _ => GL.v (.fieldAddr rfl) rfl (GL.w0 (.store 4 rfl rfl rfl rfl rfl rfl rfl) (fun _ _ => GL.nil (GN.seq (GC.seq (GC.seq (GC.region (GL.v (.move rfl) rfl (GL.v (.nilCheck rfl) rfl (GL.v (.fieldAddr rfl) rfl (?_)))))))))))))))
  have o3 : ([.slice A1 (rlM keyM (d - 1) 1 (readT expT d (bs s))).length c1, .int .u64 ((lastM (readT expT d (bs s)) 2).n : Int), .int .u64 ((lastM (readT expT d (bs s)) 3).n : Int), .int .u64 ((lastM (readT expT d (bs s)) 4).n : Int), .bool (decide ((lastM (readT expT d (bs s)) 5).num = 5)), .int .u64 ((lastM (readT expT d (bs s)) 5).n : Int), .bool (decide ((lastM (readT expT d (bs s)) 12).num = 12)), .int .u64 ((lastM (readT expT d (bs s)) 12).n : Int), .bool (decide ((lastM (readT expT d (bs s)) 13).num = 13)), .int .u64 ((lastM (readT expT d (bs s)) 13).n : Int), .int .i32 (zag32 (lastM (readT expT d (bs s)) 6).n), .int .u64 ((lastM (readT expT d (bs s)) 7).n : Int), .bool (decide (ofNum (readT expT d (bs s)) 8 ≠ [])), p1, p2, p3, .bool (decide (ofNum (readT expT d (bs s)) 9 ≠ [])), n1, n2, n3, .slice A2 (rlM exemM (d - 1) 11 (readT expT d (bs s))).length c2, .int .u32 (((lastM (readT expT d (bs s)) 10).n % 4294967296 : Nat) : Int), .int .u64 ((lastM (readT expT d (bs s)) 14).n : Int), .string (mkS (readU expT d (bs s)))] : List Value).all one = true := by
    simp only [List.all_cons, List.all_nil, Bool.and_true, Bool.and_eq_true] at h8 h9
    simp only [List.all_cons, List.all_nil, h8.1, h8.2.1, h8.2.2, h9.1, h9.2.1, h9.2.2]; rfl
  refine GL.open ?_
  rintro x hx
  rcases hx with ⟨hn, rfl⟩ | ⟨⟨oc, ho⟩, t, u, rfl⟩
  · refine GL.v (.ld 0 rfl rfl rfl) rfl (GL.v (.neqNil rfl (by first | exact .inl rfl | exact .inr ⟨_, _, rfl⟩ | assumption)) rfl (GL.nil (GN.seq (?_))))
    refine GC.cond rfl (fun h => Bool.noConfusion (h.symm.trans (rfl) : true = false)) (fun _ => ?_)
    refine GC.skip (GN.seq (GC.seq (GC.region (GL.v (.ldN 6 [_, _, _, _, _, _, _, _, _, _, _, _, _, _, _, _, _, _, _, _, _, _, _, _] rfl rfl rfl ⟨rfl, rfl, rfl, rfl, rfl, rfl, rfl, rfl, rfl, rfl, rfl, rfl, rfl, rfl, rfl, rfl, rfl, rfl, rfl, rfl, rfl, rfl, rfl, rfl, trivial⟩) rfl (GL.w0 (.store 9 rfl rfl rfl rfl rfl rfl o3) (fun _ _ => GL.v (.assign rfl) rfl (GL.nil (GN.seq (GC.ret (?_))))))))))
    exact GR.cell2 9 [.slice A1 (rlM keyM (d - 1) 1 (readT expT d (bs s))).length c1, .int .u64 ((lastM (readT expT d (bs s)) 2).n : Int), .int .u64 ((lastM (readT expT d (bs s)) 3).n : Int), .int .u64 ((lastM (readT expT d (bs s)) 4).n : Int), .bool (decide ((lastM (readT expT d (bs s)) 5).num = 5)), .int .u64 ((lastM (readT expT d (bs s)) 5).n : Int), .bool (decide ((lastM (readT expT d (bs s)) 12).num = 12)), .int .u64 ((lastM (readT expT d (bs s)) 12).n : Int), .bool (decide ((lastM (readT expT d (bs s)) 13).num = 13)), .int .u64 ((lastM (readT expT d (bs s)) 13).n : Int), .int .i32 (zag32 (lastM (readT expT d (bs s)) 6).n), .int .u64 ((lastM (readT expT d (bs s)) 7).n : Int), .bool (decide (ofNum (readT expT d (bs s)) 8 ≠ [])), p1, p2, p3, .bool (decide (ofNum (readT expT d (bs s)) 9 ≠ [])), n1, n2, n3, .slice A2 (rlM exemM (d - 1) 11 (readT expT d (bs s))).length c2, .int .u32 (((lastM (readT expT d (bs s)) 10).n % 4294967296 : Nat) : Int), .int .u64 ((lastM (readT expT d (bs s)) 14).n : Int), .string (mkS (readU expT d (bs s)))] rfl rfl rfl rfl rfl rfl ⟨rfl, rfl, rfl, rfl, rfl, rfl, rfl, rfl, rfl, rfl, rfl, rfl, rfl, rfl, rfl, rfl, rfl, rfl, rfl, rfl, rfl, rfl, rfl, rfl, trivial⟩ (_, .nilIface) rfl (Ent.trans (Ent.trans (Ent.front 8 _ _ rfl) (Ent.cons _ (Ent.trans (Ent.front 5 _ _ rfl) (Ent.cons _ (Ent.trans (Ent.front 3 _ _ rfl) (Ent.cons _ (Ent.trans (Ent.front 5 _ _ rfl) (Ent.cons _ (Ent.trans (Ent.front 1 _ _ rfl) (Ent.cons _ (Ent.trans (Ent.front 2 _ _ rfl) (Ent.cons _ (Ent.nil _))))))))))))) (Ent.trans (exp_fin d (bs s) _ _ _ _ _ _ _ _ _ _ _) (by rw [show errE (expM d (bs s)) = expE d (bs s) from errE_fin _ _]; exact Ent.refl _))) ⟨rfl, o3⟩
  · skip
    refine GL.v (.ld 0 rfl rfl rfl) rfl (GL.v (.neqNil rfl (by first | exact .inl rfl | exact .inr ⟨_, _, rfl⟩ | assumption)) rfl (GL.nil (GN.seq (?_))))
    refine GC.cond rfl (fun _ => ?_) (fun h => Bool.noConfusion (h.symm.trans (rfl) : false = true))
    refine GC.seq (?_)
    refine GC.draw ([Blk g 93 5 [(0, .iface t u)]]) (m := 7) rfl (by repeat (first | exact Ent.nil _ | (with_reducible exact Ent.refl _) | refine Ent.blk (by repeat (first | exact Sub.nil _ | refine Sub.cons rfl ?_)) ?_ | refine Ent.cons _ ?_ | refine Ent.trans (Ent.tail _ _) ?_)) ?_
    refine GA.take 0 rfl (by kernel_rfl) (by kernel_rfl) (by kernel_rfl) (.build (cs := [_, _, _, _, _, _, _, _, _, _, _, _, _, _, _, _, _, _, _, _, _, _, _, _]) rfl rfl) rfl (GA.take 1 rfl (by kernel_rfl) (by kernel_rfl) (by kernel_rfl) (.move rfl) rfl (GA.take 2 rfl (by kernel_rfl) (by kernel_rfl) (by kernel_rfl) (.nilCheck rfl) rfl (GA.take 3 rfl (by kernel_rfl) (by kernel_rfl) (by kernel_rfl) (.fieldAddr rfl) rfl (GA.take 4 rfl (by kernel_rfl) (by kernel_rfl) (by kernel_rfl) (.ld 0 rfl rfl rfl) rfl (?_)))))
    refine GA.one 5 (by kernel_rfl) (GAi.w0 rfl (.store 9 rfl rfl rfl rfl rfl rfl rfl) (fun _ _ => (by repeat (first | exact Ent.nil _ | (with_reducible exact Ent.refl _) | refine Ent.blk (by repeat (first | exact Sub.nil _ | refine Sub.cons rfl ?_)) ?_ | refine Ent.cons _ ?_ | refine Ent.trans (Ent.tail _ _) ?_))) (fun _ _ => ?_))
    refine GA.take 6 rfl (by kernel_rfl) (by kernel_rfl) (by kernel_rfl) (.assign rfl) rfl (GA.done (by kernel_rfl) (?_))
    refine GN.seq (GC.ret (?_))
    refine GR.cell2 9 [.slice none 0 0, .int .u64 0, .int .u64 0, .int .u64 0, .bool false, .int .u64 0, .bool false, .int .u64 0, .bool false, .int .u64 0, .int .i32 0, .int .u64 0, .bool false, .int .i32 0, .slice none 0 0, .string emptyS, .bool false, .int .i32 0, .slice none 0 0, .string emptyS, .slice none 0 0, .int .u32 0, .int .u64 0, .string emptyS] rfl rfl rfl rfl rfl rfl ⟨rfl, rfl, rfl, rfl, rfl, rfl, rfl, rfl, rfl, rfl, rfl, rfl, rfl, rfl, rfl, rfl, rfl, rfl, rfl, rfl, rfl, rfl, rfl, rfl, trivial⟩ ([.slice none 0 0, .int .u64 0, .int .u64 0, .int .u64 0, .bool false, .int .u64 0, .bool false, .int .u64 0, .bool false, .int .u64 0, .int .i32 0, .int .u64 0, .bool false, .int .i32 0, .slice none 0 0, .string emptyS, .bool false, .int .i32 0, .slice none 0 0, .string emptyS, .slice none 0 0, .int .u32 0, .int .u64 0, .string emptyS], .iface t u) rfl (Ent.trans (Ent.trans (Ent.front 1 _ _ rfl) (Ent.cons _ (Ent.trans (Ent.front 3 _ _ rfl) (Ent.cons _ (Ent.nil _))))) ?_) ⟨rfl, rfl⟩
    have hq : expM d (bs s) = .error oc := by unfold expM expE; simp only at ho ⊢; rw [ho]; rfl
    rw [hq, ho]
    exact (Ent.intro (A := (resF expF (.error oc) _).hp) (fun _ => trivial) _)
end Go.Proofs.Gw
