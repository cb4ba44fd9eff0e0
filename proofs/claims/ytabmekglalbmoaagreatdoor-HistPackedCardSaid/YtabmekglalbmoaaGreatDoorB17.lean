/- Texts that a claim of this seat leans on: W5, P4. No statement is claimed in this text. -/
import Derived.Test.YtabmekglalbmoaaGreatDoorB12
import Derived.Laws.MakeOwn
import Derived.Test.YtabmekglalbmoaaGreatDoorB10
/- Numbers in eight bytes, written. -/
set_option linter.unusedVariables false
set_option linter.unusedSimpArgs false
namespace Go.Proofs.Gw
open Go Go.RowKit Go.IntWalk Go.Proofs.Gm
section
variable {C : Ctx} {K : List KI} {ρ : List (Nat × Value)} {Hs : List HP} {ty : TypeId}
theorem OpW.make8 {t e : TypeId} [ht : TSl C.P t e] [hb : TByte C.P e] : OpW C ρ Hs (.makeSlice t (.const (.int .i64 8)) (.const (.int .i64 8))) ty (fun b : Nat => .slice (some ⟨b, 0, none⟩) 8 8) (fun b => Blk b e 8 (args0 0 (List.replicate 8 (.int .u8 0))) :: Hs) (fun _ => True) := fun a w he hs => by
  have hbo := hb.out
  cases hq : C.P.info? e with
  | none => simp [hq] at hbo
  | some i =>
    simp only [hq, Option.map_some, Option.some.injEq, Prod.mk.injEq] at hbo
    obtain ⟨hz, hsz, hby⟩ := hbo
    have h := run_makeSlice (P := C.P) w t e i (.int .u8 0) ht.out hq hz .i64 .i64 8 8 (by omega) (by omega) (by rw [hsz]; decide) (by rw [hby]; decide) (by omega)
    have hc : madeCells (Value.int .u8 0).cells ((8 : Int).toNat * i.size) = (List.replicate 8 (Value.int .u8 0)).toArray := by rw [hsz]; exact (zrow_eq [.int .u8 0] 8 (by simp)).trans rfl
    rw [hc] at h
    refine ⟨w.heap.size, w.alloc (.cells (List.replicate 8 (Value.int .u8 0)).toArray e), fun dst pos af g => .inl ?_, hs.new (List.replicate 8 (.int .u8 0)) e, trivial⟩
    simp only [execOp, Act.eval, Sem.run_bind, h, Result.andThen, Sem.run_pure]
    rfl
theorem OpV.strOfBlk (i : Nat) {S D e T : TypeId} {x : Operand} {b n c : Nat} {u : List (Nat × Value)} {l : Bs} [hS : TSl C.P S e] [hE : TInt C.P e .u8] [hD : TStr C.P D] (hi : Hs[i]? = some (Blk b T n u)) (hu : ∀ j v, (byC l)[j]? = some v → lk u j = some v) (hx : ev ρ x = some (.slice (some ⟨b, 0, none⟩) l.length c)) :
    OpV C ρ (St C Hs) (.convert S D x) ty (.string (mkS l)) := fun a w he hs dst pos af gd => by
  obtain ⟨ok, hok, h1, cur, h2, h3, h4⟩ := Sat.at i hi hs.sat
  have h : (convert S D (.slice (some ⟨b, 0, none⟩) l.length c)).run C.P w = .ok (.string (mkS l)) w :=
    run_convert_bytes_back w S D e ⟨b, 0, none⟩ c l hS.out hE.out hD.out (fun j hj => by
      have h5 := h4 j _ (hu j (.int .u8 l[j].toNat) (by simp only [byC, Lib.byteCells, List.getElem?_map, List.getElem?_eq_getElem hj]; rfl))
      have h6 : w.cell? ⟨b, j, none⟩ = some (.int .u8 (l[j].toNat : Int)) := by rw [cell?_of_heap h2]; exact h5
      rw [Addr.add_lit, Nat.zero_add]; exact h6)
  simp only [execOp, he.eval hx, Sem.run_bind, h, Result.andThen, Sem.run_pure]
end
theorem lk_args0_inv : ∀ (vs : List Value) (o t : Nat) (v : Value), lk (args0 o vs) t = some v → o ≤ t ∧ vs[t - o]? = some v
  | [], o, t, v, h => by simp [args0, lk] at h
  | x :: vs, o, t, v, h => by
    simp only [args0, lk_cons] at h
    split at h
    · rename_i he; subst he; cases h; exact ⟨Nat.le_refl _, by simp⟩
    · rename_i he
      obtain ⟨h1, h2⟩ := lk_args0_inv vs (o + 1) t v h
      exact ⟨by omega, by rw [show t - o = (t - (o + 1)) + 1 by omega]; simpa using h2⟩
theorem Sub.setAt (cs : List Value) (i : Nat) (v : Value) (hi : i < cs.length) : Sub ((i, v) :: args0 0 cs) (args0 0 (cs.set i v)) := fun t x h => by
  obtain ⟨_, h2⟩ := lk_args0_inv _ _ _ _ h
  rw [Nat.sub_zero] at h2
  rw [lk_cons]
  split
  · rename_i he; subst he
    rw [List.getElem?_set_self hi] at h2; exact h2
  · rename_i he
    rw [List.getElem?_set_ne he] at h2
    have := lk_args0_of cs 0 t x h2
    rwa [Nat.zero_add] at this
/-- The first i of eight bytes, and nothing behind. -/
def cellE (n i : Nat) : List Value := (List.range 8).map fun j => .int .u8 ((if j < i then n / 256 ^ j % 256 else 0 : Nat) : Int)
theorem cellE_set (n i : Nat) (hi : i < 8) : (cellE n i).set i (.int .u8 ((n / 256 ^ i % 256 : Nat) : Int)) = cellE n (i + 1) := by
  unfold cellE
  refine List.ext_getElem? fun j => ?_
  by_cases hj : j = i
  · subst hj
    rw [List.getElem?_set_self (by simpa using hi), List.getElem?_map, List.getElem?_range hi]
    simp
  · rw [List.getElem?_set_ne (fun e => hj e.symm), List.getElem?_map, List.getElem?_map]
    rcases Nat.lt_or_ge j 8 with h | h
    · rw [List.getElem?_range h]
      simp only [Option.map_some]
      by_cases h2 : j < i
      · rw [if_pos h2, if_pos (by omega)]
      · rw [if_neg h2, if_neg (by omega)]
    · rw [List.getElem?_eq_none (by simpa using h)]; rfl
theorem cellE_0 (n : Nat) : cellE n 0 = List.replicate 8 (.int .u8 0) := rfl
theorem ofNat_toNat (k : Nat) : ((UInt8.ofNat (k % 256)).toNat : Int) = ((k % 256 : Nat) : Int) := by
  rw [UInt8.toNat_ofNat_of_lt' (by show k % 256 < 256; omega)]
theorem cellE_8 (n : Nat) : cellE n 8 = byC (leM 8 n) := by
  have h : leM 8 n = (List.range 8).map fun j => UInt8.ofNat (n / 256 ^ j % 256) := by
    simp only [leM, List.range, List.range.loop, List.map_cons, List.map_nil, Nat.div_div_eq_div_mul]
    simp
  rw [h]
  unfold cellE byC Lib.byteCells
  rw [List.map_map]
  refine List.map_congr_left fun j hj => ?_
  have : j < 8 := by simpa using hj
  simp only [Function.comp_apply, if_pos this, ofNat_toNat]
theorem eight_tri (n : Nat) (w : World) (hn : n < 2 ^ 64) : Tri Tryz.prog 78 [.int .u64 (n : Int)] [] (fun _ : Unit => .string (mkS (leM 8 n))) (fun _ => []) (fun _ => True) w := by
  refine tri_of_G 22 Tryz.func78 rfl Tryz.ntmps78 rfl (fun D => ?_)
  refine GC.seq (GC.region (GL.v (.assign rfl) rfl (GL.nil (GN.seq (GC.seq (GC.region (?_)))))))
  refine GL.w .make8 rfl (fun b3 _ => ?_)
  refine GL.v (.assign rfl) rfl (GL.nil (GN.seq (GC.seq (GC.seq (GC.region (GL.v (.move rfl) rfl (GL.v (.lenSl rfl) rfl (GL.v (.move rfl) rfl (GL.nil (GN.seq (GC.block (?_))))))))))))
  refine GC.loop (γ := Nat) (fun i => i ≤ 8) (fun i => [(0, .int .u64 (n : Int)), (3, .slice (some ⟨b3, 0, none⟩) 8 8), (7, .int .i64 8), (8, .int .i64 (i : Int))]) (fun i => [Blk b3 5 8 (args0 0 (cellE n i))]) (fun i => 8 - i) 0 (by omega) (Sub.cons rfl (Sub.cons rfl (Sub.cons rfl (Sub.cons rfl (Sub.nil _))))) (Ent.refl _) ?_
  intro i hi
  refine GC.seq (GC.region (GL.v (.lss rfl rfl) rfl (GL.nil (GN.seq (GC.seq (?_))))))
  refine GC.condD rfl (fun hlt => ?_) (fun hlt => ?_)
  · have h8 : i < 8 := by omega
    have e1 : (n : Int) / 2 ^ min (8 * (i : Int)).toNat IntKind.u64.bits = ((n / 256 ^ i : Nat) : Int) := by
      rw [show (8 * (i : Int)).toNat = 8 * i by omega, show IntKind.u64.bits = 64 from rfl, Nat.min_eq_left (by omega), Nat.pow_mul 2 8 i |> fun h => (by rw [show ((2 : Int) ^ (8 * i)) = ((2 ^ (8 * i) : Nat) : Int) by simp, h] : ((2 : Int) ^ (8 * i)) = (((2 ^ 8) ^ i : Nat) : Int))]
      simp
    have ei : 0 + (i : Int).toNat * 1 = i := by omega
    refine GC.skip (GN.seq (GC.seq (GC.block (GC.seq (GC.region (GL.v (.move rfl) rfl (GL.v (.assign rfl) rfl (GL.nil (GN.seq (GC.region (GL.v (.move rfl) rfl (GL.v (.move rfl) rfl (GL.v (.move rfl) rfl (GL.v (.move rfl) rfl (GL.v (.mul rfl rfl (i64_in _ (by omega))) rfl (GL.v (.shr rfl rfl (by omega) e1) rfl (GL.v (.convInt rfl (u8w _)) rfl (GL.v (.indexAddr rfl rfl (by omega) (by omega)) rfl (?_)))))))))))))))))))
    refine GL.w0 (.store (T := 5) (b := b3) (off := 0 + (i : Int).toNat * 1) (n := 8) (v := .int .u8 ((n / 256 ^ i % 256 : Nat) : Int)) (cs := [.int .u8 ((n / 256 ^ i % 256 : Nat) : Int)]) 0 rfl rfl rfl rfl rfl (by rw [Nat.ble_eq]; omega) rfl) (fun _ _ => ?_)
    rw [ei]
    refine GL.nil (GN.blk (GN.seq (GC.region (GL.v (.add rfl rfl (i64_in _ (by omega))) rfl (GL.v (.move rfl) rfl (GL.nil (?_)))))))
    refine GN.loop (i + 1) (by omega) (by omega) (Sub.cons rfl (Sub.cons rfl (Sub.cons rfl (Sub.cons rfl (Sub.nil _))))) ?_
    have hsub := Sub.setAt (cellE n i) i (.int .u8 ((n / 256 ^ i % 256 : Nat) : Int)) (by simp [cellE]; omega)
    rw [cellE_set n i h8] at hsub
    exact Ent.blk hsub (Ent.refl _)
  · have hie : i = 8 := by omega
    subst hie
    refine GC.exit (GX.seq (GX.loop (GX.blk (GN.seq (GC.seq (GC.region (GL.v (.move rfl) rfl (?_))))))))
    have hl8 : (leM 8 n).length = 8 := leM_len 8 n
    refine GL.v (.strOfBlk 0 (l := leM 8 n) rfl (fun j v hj => by rw [cellE_8]; have := lk_args0_of (byC (leM 8 n)) 0 j v hj; rwa [Nat.zero_add] at this) rfl) rfl ?_
    refine GL.v (.assign rfl) rfl (GL.nil (GN.seq (GC.ret (?_))))
    exact GR.one rfl rfl rfl () rfl (Ent.nil _) trivial
theorem Fixed_w (num n : Nat) (w : World) (h1 : num < 2 ^ 62) (hn : n < 2 ^ 64) : Tri Tryz.prog 23 [.int .i64 (num : Int), .int .u64 (n : Int)] [] (fun _ : Unit => .string (mkS (fixW num n))) (fun _ => []) (fun _ => True) w := by
  refine tri_of_G 9 Tryz.func23 rfl Tryz.ntmps23 rfl (fun D => ?_)
  refine GC.seq (GC.region (GL.v (.assign rfl) rfl (GL.nil (GN.seq (GC.seq (GC.region (GL.v (.move rfl) rfl (GL.v (.move rfl) rfl (?_)))))))))
  refine GL.call (As := []) rfl (fun w hst => eight_tri n w hn) rfl (fun _ _ => ?_)
  refine GL.call (As := []) rfl (fun w hst => put_tri num 1 (leM 8 n) w h1 (by omega) (by rw [leM_len]; omega)) rfl (fun _ _ => ?_)
  refine GL.v (.assign rfl) rfl (GL.nil (GN.seq (GC.ret (?_))))
  exact GR.one rfl rfl rfl () rfl (Ent.nil _) trivial
end Go.Proofs.Gw
/- Records that no table takes, before and behind a text that is read. -/
set_option linter.unusedVariables false
namespace Go.Proofs.Gm
theorem vr_put (t : Bs) : ∀ (k n i acc : Nat), n ≤ k → i ≤ 9 → n < 2 ^ (64 - 7 * i) → vr i acc (putM n ++ t) = .ok (acc + n * 128 ^ i, i + (putM n).length) := by
  intro k
  induction k with
  | zero =>
    intro n i acc hk hi hn
    have : n = 0 := by omega
    subst this
    rw [putM, if_pos (by omega)]
    simp [vr]
  | succ k ih =>
    intro n i acc hk hi hn
    rcases Nat.lt_or_ge n 128 with h | h
    · rw [putM, if_pos h]
      have hc : (UInt8.ofNat n).toNat = n := UInt8.toNat_ofNat_of_lt' (by show n < 256; omega)
      rw [List.cons_append, vr, hc]
      rw [if_neg (fun h9 => by
        obtain ⟨rfl, h9⟩ := h9
        have : (2 : Nat) ^ (64 - 7 * 9) = 2 := by decide
        omega), if_pos h]
      simp [Nat.mod_eq_of_lt h]
    · have h9 : i ≠ 9 := fun e => by
        subst e
        have : (2 : Nat) ^ (64 - 7 * 9) = 2 := by decide
        omega
      have hc : (UInt8.ofNat (n % 128 + 128)).toNat = n % 128 + 128 := UInt8.toNat_ofNat_of_lt' (by show n % 128 + 128 < 256; omega)
      rw [putM, if_neg (by omega), List.cons_append, vr, hc, if_neg (fun h => h9 h.1), if_neg (by omega)]
      have e1 : (n % 128 + 128) % 128 = n % 128 := by omega
      have e2 : (2 : Nat) ^ (64 - 7 * i) = 128 * 2 ^ (64 - 7 * (i + 1)) := by
        rw [show 64 - 7 * i = 7 + (64 - 7 * (i + 1)) by omega, Nat.pow_add]
      rw [e2] at hn
      rw [e1, ih (n / 128) (i + 1) _ (by omega) (by omega) (by omega)]
      have e3 : n % 128 * 128 ^ i + n / 128 * 128 ^ (i + 1) = n * 128 ^ i := by
        have : n / 128 * 128 ^ (i + 1) = n / 128 * 128 * 128 ^ i := by rw [Nat.pow_succ, Nat.mul_comm (128 ^ i) 128, Nat.mul_assoc]
        rw [this, ← Nat.add_mul]
        congr 1; omega
      rw [Nat.add_assoc, e3, List.length_cons]
      congr 2; omega
theorem vget_put (n : Nat) (t : Bs) (h : n < 2 ^ 64) : vget (putM n ++ t) = .ok (n, (putM n).length) := by
  unfold vget
  rw [vr_put t n n 0 0 (Nat.le_refl _) (by omega) (by simpa using h)]
  simp
theorem tag_put (num kind : Nat) (t : Bs) (h1 : 1 ≤ num) (h2 : num ≤ 536870911) (h3 : kind ≤ 5) : tagM (tagW num kind ++ t) = .ok (num, kind, (tagW num kind).length) := by
  unfold tagW
  rw [if_neg (by omega)]
  unfold tagM
  rw [vget_put _ _ (by omega)]
  simp only
  rw [show (num * 8 + kind) / 8 = num by omega, show (num * 8 + kind) % 8 = kind by omega, if_neg (by omega)]
theorem rec_f32 (d : Int) (num : Nat) (t : Bs) (h1 : 1 ≤ num) (h2 : num ≤ 536870911) (ht : t.length = 4) : recM d (tagW num 5 ++ t) = .ok (⟨num, 5, le t, [], tagW num 5 ++ t⟩, (tagW num 5 ++ t).length) := by
  unfold recM
  rw [tag_put num 5 t h1 h2 (by omega)]
  simp only
  rw [List.drop_left, restM]
  simp only [show ((5 : Nat) = 0) = False by simp, show ((5 : Nat) = 1) = False by simp, if_false, if_true, ht, Nat.le_refl]
  rw [List.take_of_length_le (by omega), List.take_of_length_le (by simp; omega)]
  simp [ht]
theorem rec_f64 (d : Int) (num : Nat) (t : Bs) (h1 : 1 ≤ num) (h2 : num ≤ 536870911) (ht : t.length = 8) : recM d (tagW num 1 ++ t) = .ok (⟨num, 1, le t, [], tagW num 1 ++ t⟩, (tagW num 1 ++ t).length) := by
  unfold recM
  rw [tag_put num 1 t h1 h2 (by omega)]
  simp only
  rw [List.drop_left, restM]
  simp only [show ((1 : Nat) = 0) = False by simp, if_false, if_true, ht, Nat.le_refl]
  rw [List.take_of_length_le (by omega), List.take_of_length_le (by simp; omega)]
  simp [ht]
theorem all_single {d : Int} {u : Bs} {r : Rec} (h : recM d u = .ok (r, u.length)) : allM d u = .ok [r] :=
  allM_cons h (by rw [List.drop_length]; exact allM_nil d)
end Go.Proofs.Gm
namespace Go.Proofs.Gw
open Go Go.Proofs.Gm
/-- What stands ahead, of no table, is unknown: all else is the same. -/
theorem read_front {d : Int} {s u : Bs} {us : List Rec} (hu : allM d u = .ok us) (tm : Nat → Nat → Bool) (hn : ∀ r, r ∈ us → tm r.num r.kind = false) (hs : readE d s = none) :
    readE d (u ++ s) = none ∧ readU tm d (u ++ s) = u ++ readU tm d s ∧ readT tm d (u ++ s) = readT tm d s := by
  obtain ⟨hd, ts, h1⟩ := readE_none hs
  have b := readE_ok hd hu tm
  obtain ⟨a1, a2, a3⟩ := read_app b.1 hs tm
  refine ⟨a1, ?_, ?_⟩
  · rw [a2, b.2.1]
    have h4 := allM_raw _ d u us (Nat.le_refl _) hu
    rw [restR, List.filter_eq_self.2 (fun r hr => by rw [hn r hr]; rfl), h4]
  · rw [a3, b.2.2, takenM, List.filter_eq_nil_iff.2 (fun r hr => by rw [hn r hr]; simp), List.nil_append]
theorem exp_front {d : Int} {s u : Bs} {us : List Rec} {x : Expo} (hs : expM d s = .ok x) (hu : allM d u = .ok us) (hn : ∀ r, r ∈ us → expT r.num r.kind = false) : expM d (u ++ s) = .ok { x with unk := u ++ x.unk } := by
  obtain ⟨e1, rfl⟩ := finM_ok hs
  have r := expE_read e1
  obtain ⟨q1, q2, q3⟩ := read_front hu expT hn r
  unfold expM
  simp only [q2, q3]
  rw [show expE d (u ++ s) = expE d s by unfold expE; simp only [q1, q3, r], e1]; rfl
theorem exp_front_err {d : Int} {s u : Bs} {us : List Rec} {oc : Option Int} (hs : errE (expM d s) = some oc) (hu : allM d u = .ok us) (hn : ∀ r, r ∈ us → expT r.num r.kind = false) : ∃ oc, errE (expM d (u ++ s)) = some oc := by
  rw [show errE (expM d s) = expE d s from errE_fin _ _] at hs
  rw [show errE (expM d (u ++ s)) = expE d (u ++ s) from errE_fin _ _]
  by_cases hd : d < 0
  · exact ⟨_, expE_some (readE_neg hd _)⟩
  · cases h : allM d s with
    | error c =>
      have h2 := allM_app d s _ u us (Nat.le_refl _) hu
      rw [h] at h2
      exact ⟨some c, expE_some (by unfold readE; rw [if_neg hd, h2])⟩
    | ok ts =>
      have r := (readE_ok (by omega) h expT).1
      obtain ⟨q1, q2, q3⟩ := read_front hu expT hn r
      rw [show expE d (u ++ s) = expE d s by unfold expE; simp only [q1, q3, r]]
      exact ⟨oc, hs⟩
theorem exp_others {d : Int} {s : Bs} {x : Expo} (num n : Nat) (h1 : 1 ≤ num) (h2 : num ≤ 536870911) (hs : expM d s = .ok x) :
    expM d (s ++ (tagW num 5 ++ [97, 98, 99, 100])) = .ok { x with unk := x.unk ++ (tagW num 5 ++ [97, 98, 99, 100]) } ∧
    expM d ((tagW num 5 ++ [97, 98, 99, 100]) ++ s) = .ok { x with unk := (tagW num 5 ++ [97, 98, 99, 100]) ++ x.unk } ∧
    expM d (fixW 536870911 n ++ s ++ fixW 536870911 n) = .ok { x with unk := fixW 536870911 n ++ x.unk ++ fixW 536870911 n } := by
  have hu := all_single (rec_f32 d num [97, 98, 99, 100] h1 h2 rfl)
  have hf : fixW 536870911 n = tagW 536870911 1 ++ leM 8 n := by
    unfold fixW putW; rw [if_neg]; unfold tagW; rw [if_neg (by omega)]; exact putM_ne _
  have hv := all_single (rec_f64 d 536870911 (leM 8 n) (by omega) (by omega) (leM_len 8 n))
  rw [← hf] at hv
  have hun : ∀ r, r ∈ [(⟨num, 5, le [97, 98, 99, 100], [], tagW num 5 ++ [97, 98, 99, 100]⟩ : Rec)] → expT r.num r.kind = false := by
    intro r hr
    simp only [List.mem_singleton] at hr
    subst hr
    unfold expT
    simp only
    repeat' split
    all_goals first | rfl | decide
  have hvn : ∀ r, r ∈ [(⟨536870911, 1, le (leM 8 n), [], fixW 536870911 n⟩ : Rec)] → expT r.num r.kind = false := by
    intro r hr
    simp only [List.mem_singleton] at hr
    subst hr; rfl
  refine ⟨exp_unk hs hu hun, exp_front hs hu hun, ?_⟩
  have h3 := exp_front hs hv hvn
  exact exp_unk h3 hv hvn
theorem exp_others_err {d : Int} {s : Bs} {oc : Option Int} (num : Nat) (h1 : 1 ≤ num) (h2 : num ≤ 536870911) (hs : errE (expM d s) = some oc) : ∃ oc, errE (expM d ((tagW num 5 ++ [97, 98, 99, 100]) ++ s)) = some oc := by
  have hu := all_single (rec_f32 d num [97, 98, 99, 100] h1 h2 rfl)
  refine exp_front_err hs hu ?_
  intro r hr
  simp only [List.mem_singleton] at hr
  subst hr
  unfold expT
  simp only
  repeat' split
  all_goals first | rfl | decide
end Go.Proofs.Gw
