/- Texts that a claim of this seat leans on: Z1, J4. No statement is claimed in this text. -/
import Derived.Test.YtabmekglalbmoaaGreatDoorB19
/- How much there is: the references' measures end, whatever they tell. -/
set_option linter.unusedVariables false
set_option linter.unusedSimpArgs false
namespace Go.Proofs.Gw
open Go Go.RowKit Go.IntWalk Go.Proofs.Gm

theorem take_tri (room n : Int) (w : World) : Tri Tryz.prog 70 [.int .i64 room, .int .i64 n] [] (fun r : Int => .int .i64 r) (fun _ => []) (fun _ => True) w := by
  refine tri_of_G0 17 Tryz.func70 rfl Tryz.ntmps70 rfl ?_
  refine GC.seq (GC.region (GL.v (.assign rfl) rfl (GL.nil (GN.seq (GC.seq (GC.seq (GC.region (GL.v (.move rfl) rfl (GL.v (.lss rfl rfl) rfl (GL.v (.move rfl) rfl (?_)))))))))))
  -- part
  refine GL.partD 7 rfl (fun g1 => ?_) (fun g1 => ?_)
  · refine GL.sg rfl rfl rfl rfl (GL.sg rfl rfl rfl rfl (GL.sg rfl rfl rfl rfl (GL.sg rfl rfl rfl rfl (GL.v (.pickT rfl rfl) rfl (GL.nil (GN.seq (GC.cond rfl (fun _ => ?_) (fun h => by first | (have := of_decide_eq_false h; contradiction) | (have := of_decide_eq_true h; contradiction) | (cases h; done)))))))))
    refine GC.seq (GC.region (GL.v (.assign rfl) rfl (GL.nil (GN.seq (GC.ret (?_))))))
    -- ret
    exact GR.one rfl rfl rfl (-1) rfl (Ent.nil _) trivial
  refine GL.vg rfl rfl (.move rfl) rfl (GL.vg rfl rfl (.move rfl) rfl (GL.vg rfl rfl (.subW rfl rfl) rfl (GL.vg rfl rfl (.gtr rfl rfl) rfl (GL.v (.pickF rfl rfl) rfl (GL.nil (GN.seq (?_)))))))
  -- if
  refine GC.condD rfl (fun g2 => ?_) (fun g2 => ?_)
  · refine GC.seq (GC.region (GL.v (.assign rfl) rfl (GL.nil (GN.seq (GC.ret (?_))))))
    -- ret
    exact GR.one rfl rfl rfl (-1) rfl (Ent.nil _) trivial
  refine GC.skip (GN.seq (GC.seq (GC.region (GL.v (.move rfl) rfl (GL.v (.move rfl) rfl (GL.v (.subW rfl rfl) rfl (GL.v (.subW rfl rfl) rfl (GL.v (.assign rfl) rfl (GL.nil (GN.seq (GC.ret (?_))))))))))))
  -- ret
  exact GR.one rfl rfl rfl _ rfl (Ent.nil _) trivial
theorem RoomBuck_tri (x : Buck) (cs : List Value) (room : Int) (w : World) (hx : (buckF x cs).holds (Old w) w) : Tri Tryz.prog 69 [.agg cs.toArray, .int .i64 room] [] (fun r : Int => .int .i64 r) (fun _ => []) (fun _ => True) w := by
  obtain ⟨v, e, hL⟩ := hx
  have e : cs = _ := e
  subst e
  obtain ⟨A, c, rfl⟩ := numsF.form2 hL
  refine tri_of_G0 16 Tryz.func69 rfl Tryz.ntmps69 rfl ?_
  refine GC.seq (GC.region (GL.w (.box rfl rfl) rfl (fun b2 _ => GL.v (.assign rfl) rfl (GL.nil (GN.seq (GC.seq (?_)))))))
  -- draw
  refine GC.draw _ (m := 12) rfl (Ent.refl _) ?_
  refine GA.take 0 rfl (by kernel_rfl) (by kernel_rfl) (by kernel_rfl) (.move rfl) rfl (GA.take 1 rfl (by kernel_rfl) (by kernel_rfl) (by kernel_rfl) (.fieldAddr rfl) rfl (GA.take 2 rfl (by kernel_rfl) (by kernel_rfl) (by kernel_rfl) (.ld 0 rfl rfl rfl) rfl (GA.take 3 rfl (by kernel_rfl) (by kernel_rfl) (by kernel_rfl) (.lenS rfl) rfl (GA.take 5 rfl (by kernel_rfl) (by kernel_rfl) (by kernel_rfl) (.fieldAddr rfl) rfl (GA.take 6 rfl (by kernel_rfl) (by kernel_rfl) (by kernel_rfl) (.ld 0 rfl rfl rfl) rfl (GA.take 7 rfl (by kernel_rfl) (by kernel_rfl) (by kernel_rfl) (.lenSl rfl) rfl (GA.take 8 rfl (by kernel_rfl) (by kernel_rfl) (by kernel_rfl) (.min2 rfl rfl) rfl (GA.take 9 rfl (by kernel_rfl) (by kernel_rfl) (by kernel_rfl) (.mulW rfl rfl) rfl (?_)))))))))
  refine GA.one 4 (by kernel_rfl) ?_
  -- draw one 4 call
  refine GAi.call (As := []) rfl rfl (fun w hst => take_tri _ _ w) rfl (fun r1 _ => Ent.refl _) (fun r1 _ => ?_)
  refine GA.one 10 (by kernel_rfl) ?_
  -- draw one 10 call
  refine GAi.call (As := []) rfl rfl (fun w hst => take_tri _ _ w) rfl (fun r2 _ => Ent.refl _) (fun r2 _ => ?_)
  refine GA.take 11 rfl (by kernel_rfl) (by kernel_rfl) (by kernel_rfl) (.assign rfl) rfl (GA.done (by kernel_rfl) (?_))
  -- drawn
  refine GN.seq (GC.ret (?_))
  -- ret
  exact GR.one rfl rfl rfl r2 rfl (Ent.nil _) trivial
def keyVal : Key → Val
  | .mk _ _ v _ => v
def RoomVC (x : Val) : Prop := ∀ (deep room : Int) (cs : List Value) (w : World), -9223372036854775808 ≤ deep → deep ≤ 9223372036854775807 → (valF x cs).holds (Old w) w → Tri Tryz.prog 150 [.agg cs.toArray, .int .i64 deep, .int .i64 room] [] (fun r : Int => .int .i64 r) (fun _ => []) (fun _ => True) w
theorem RoomKeys_tri (l : List Key) (v : Value) (deep room : Int) (w : World) (hd1 : -9223372036854775808 ≤ deep) (hd2 : deep ≤ 9223372036854775807) (hl : (listF keyF 11 l v).holds (Old w) w) (hc : ∀ a, a ∈ l → RoomVC (keyVal a)) :
    Tri Tryz.prog 72 [v, .int .i64 deep, .int .i64 room] [] (fun r : Int => .int .i64 r) (fun _ => []) (fun _ => True) w := by
  have hbl := list_len hl
  obtain ⟨A, c, rfl⟩ := listF.form hl
  refine tri_of_G0 49 Tryz.func72 rfl Tryz.ntmps72 rfl ?_
  refine GC.seq (GC.region (GL.v (.assign rfl) rfl (GL.nil (GN.seq (GC.seq (GC.seq (GC.region (GL.v (.move rfl) rfl (GL.v (.lss rfl rfl) rfl (GL.v (.move rfl) rfl (?_)))))))))))
  -- part
  refine GL.partD 10 rfl (fun g1 => ?_) (fun g1 => ?_)
  · refine GL.vg rfl rfl (.move rfl) rfl (GL.vg rfl rfl (.lenSl rfl) rfl (GL.vg rfl rfl (.gtr rfl rfl) rfl (GL.v (.pickT rfl rfl) rfl (GL.nil (GN.seq (?_))))))
    -- if
    refine GC.condD rfl (fun g2 => ?_) (fun g2 => ?_)
    · refine GC.seq (GC.region (GL.v (.assign rfl) rfl (GL.nil (GN.seq (GC.ret (?_))))))
      -- ret
      exact GR.one rfl rfl rfl (-1) rfl (Ent.nil _) trivial
    · refine GC.skip (GN.seq (GC.seq (GC.seq (GC.region (GL.v (.assign rfl) rfl (GL.nil (GN.seq (GC.block (?_)))))))))
      -- loop
      refine GC.loop (γ := Nat × Int) (fun q => q.1 ≤ l.length) (fun q => [(0, .slice A l.length c), (1, .int .i64 deep), (2, .int .i64 q.2), (7, .int .i64 (q.1 : Int))]) (fun _ => []) (fun q => l.length - q.1) (0, room) (Nat.zero_le _) (Sub.cons rfl (Sub.cons rfl (Sub.cons rfl (Sub.cons rfl (Sub.nil _))))) (Ent.nil _) ?_
      rintro ⟨i, room⟩ hi
      simp only at hi ⊢
      refine GC.seq (GC.seq (GC.region (GL.v (.move rfl) rfl (GL.v (.move rfl) rfl (GL.v (.lenSl rfl) rfl (GL.v (.lss rfl rfl) rfl (GL.v (.move rfl) rfl (?_))))))))
      -- part
      refine GL.partD 19 rfl (fun h1 => ?_) (fun h1 => ?_)
      · refine GL.vg rfl rfl (.move rfl) rfl (GL.vg rfl rfl (.geq rfl rfl) rfl (GL.v (.pickT rfl rfl) rfl (GL.nil (GN.seq (?_)))))
        -- if
        refine GC.condD rfl (fun h2 => ?_) (fun h2 => ?_)
        · have hil : i < l.length := by omega
          obtain ⟨a, ha⟩ : ∃ a, l[i]? = some a := ⟨_, List.getElem?_eq_getElem hil⟩
          obtain ⟨cs, g, off, c0, e1, hra, hca⟩ := list_at keyF_len hl ha
          simp only [Value.slice.injEq] at e1
          obtain ⟨rfl, _, rfl⟩ := e1
          obtain ⟨k, has, x, unk⟩ := a
          have hK : KR (Old w) w _ cs := hra
          cases hK with
          | @mk _ _ _ _ c8 hV0 =>
          have hV : (valF x c8).holds (Old w) w := hV0
          have hV8 := valF_len _ _ _ _ hV
          have hx := hc _ (List.mem_of_getElem? ha)
          obtain ⟨d1, d2, d3, d4, d5, d6, d7, d8, rfl⟩ := list8 hV8
          refine GC.skip (GN.seq (GC.seq (GC.block (GC.seq (?_)))))
          -- draw
          refine GC.draw ([]) (m := 16) rfl (by repeat (first | exact Ent.refl _ | exact Ent.nil _ | refine Ent.cons _ ?_ | refine Ent.trans (Ent.tail _ _) ?_)) ?_
          refine GA.take 0 rfl (by kernel_rfl) (by kernel_rfl) (by kernel_rfl) (.move rfl) rfl (GA.take 1 rfl (by kernel_rfl) (by kernel_rfl) (by kernel_rfl) (.move rfl) rfl (GA.take 2 rfl (by kernel_rfl) (by kernel_rfl) (by kernel_rfl) (.move rfl) rfl (GA.take 3 rfl (by kernel_rfl) (by kernel_rfl) (by kernel_rfl) (.indexAddr rfl rfl (by omega) (by omega)) rfl (GA.take 4 rfl (by kernel_rfl) (by kernel_rfl) (by kernel_rfl) (.fieldAddr rfl) rfl (GA.take 5 rfl (by kernel_rfl) (by kernel_rfl) (by kernel_rfl) (.ldO (fun _ h => h) (hca 0 _ rfl) rfl) rfl (GA.take 6 rfl (by kernel_rfl) (by kernel_rfl) (by kernel_rfl) (.lenS rfl) rfl (GA.take 8 rfl (by kernel_rfl) (by kernel_rfl) (by kernel_rfl) (.move rfl) rfl (GA.take 9 rfl (by kernel_rfl) (by kernel_rfl) (by kernel_rfl) (.move rfl) rfl (GA.take 10 rfl (by kernel_rfl) (by kernel_rfl) (by kernel_rfl) (.indexAddr rfl rfl (by omega) (by omega)) rfl (GA.take 11 rfl (by kernel_rfl) (by kernel_rfl) (by kernel_rfl) (.fieldAddr rfl) rfl (GA.take 12 rfl (by kernel_rfl) (by kernel_rfl) (by kernel_rfl) (.ldO (fun _ h => h) (hca 10 _ rfl) rfl) rfl (GA.take 13 rfl (by kernel_rfl) (by kernel_rfl) (by kernel_rfl) (.lenS rfl) rfl (?_)))))))))))))
          refine GA.one 7 (by kernel_rfl) ?_
          -- draw one 7 call
          refine GAi.call (As := []) rfl rfl (fun w hst => take_tri _ _ w) rfl (fun r1 _ => Ent.nil _) (fun r1 _ => ?_)
          refine GA.one 14 (by kernel_rfl) ?_
          -- draw one 14 call
          refine GAi.call (As := []) rfl rfl (fun w hst => take_tri _ _ w) rfl (fun r2 _ => Ent.nil _) (fun r2 _ => ?_)
          refine GA.take 15 rfl (by kernel_rfl) (by kernel_rfl) (by kernel_rfl) (.assign rfl) rfl (GA.done (by kernel_rfl) (?_))
          -- drawn
          refine GN.seq (GC.region (GL.v (.move rfl) rfl (GL.v (.move rfl) rfl (GL.v (.indexAddr rfl rfl (by omega) (by omega)) rfl (GL.v (.fieldAddr rfl) rfl (GL.v (.ldON [d1, d2, d3, d4, d5, d6, d7, d8] (fun _ h => h) (fun j u hj => by have := hca (2 + j) u (by rw [Nat.add_comm]; have hj8 := (List.getElem?_eq_some_iff.1 hj).1; show ([d1, d2, d3, d4, d5, d6, d7, d8] ++ [Value.string (mkS unk)])[j]? = some u; rw [List.getElem?_append_left hj8]; exact hj); rw [Nat.add_assoc]; exact this) rfl rfl) rfl (GL.v (.move rfl) rfl (GL.v (.move rfl) rfl (?_)))))))))
          -- call
          refine GL.call (As := []) rfl (fun w hst => hx deep r2 _ w hd1 hd2 (hst.keep (fun _ h => h) (valF x _) hV)) rfl (fun r3 _ => ?_)
          refine GL.v (.assign rfl) rfl (GL.nil (GN.blk (GN.seq (GC.region (GL.v (.move rfl) rfl (GL.v (.add rfl rfl (i64_in _ (by omega))) rfl (GL.v (.assign rfl) rfl (GL.nil (?_)))))))))
          -- next
          exact GN.loop (i + 1, r3) (by simp only; omega) (by simp only; omega) (Sub.cons rfl (Sub.cons rfl (Sub.cons rfl (Sub.cons rfl (Sub.nil _))))) (Ent.nil _)
        · refine GC.exit (GX.seq (GX.loop (GX.blk (GN.seq (GC.seq (GC.region (GL.v (.move rfl) rfl (GL.v (.assign rfl) rfl (GL.nil (GN.seq (GC.ret (?_))))))))))))
          -- ret
          exact GR.one rfl rfl rfl room rfl (Ent.nil _) trivial
      · refine GL.sg rfl rfl rfl rfl (GL.sg rfl rfl rfl rfl (GL.v (.pickF rfl rfl) rfl (GL.nil (GN.seq (GC.cond rfl (fun h => by first | (have := of_decide_eq_false h; contradiction) | (have := of_decide_eq_true h; contradiction) | (cases h; done)) (fun _ => ?_))))))
        refine GC.exit (GX.seq (GX.loop (GX.blk (GN.seq (GC.seq (GC.region (GL.v (.move rfl) rfl (GL.v (.assign rfl) rfl (GL.nil (GN.seq (GC.ret (?_))))))))))))
        -- ret
        exact GR.one rfl rfl rfl room rfl (Ent.nil _) trivial
  · refine GL.sg rfl rfl rfl rfl (GL.sg rfl rfl rfl rfl (GL.sg rfl rfl rfl rfl (GL.v (.pickF rfl rfl) rfl (GL.nil (GN.seq (GC.cond rfl (fun h => by first | (have := of_decide_eq_false h; contradiction) | (have := of_decide_eq_true h; contradiction) | (cases h; done)) (fun _ => ?_)))))))
    refine GC.skip (GN.seq (GC.seq (GC.seq (GC.region (GL.v (.assign rfl) rfl (GL.nil (GN.seq (GC.block (?_)))))))))
    -- loop
    refine GC.loop (γ := Nat × Int) (fun q => q.1 ≤ l.length) (fun q => [(0, .slice A l.length c), (1, .int .i64 deep), (2, .int .i64 q.2), (7, .int .i64 (q.1 : Int))]) (fun _ => []) (fun q => l.length - q.1) (0, room) (Nat.zero_le _) (Sub.cons rfl (Sub.cons rfl (Sub.cons rfl (Sub.cons rfl (Sub.nil _))))) (Ent.nil _) ?_
    rintro ⟨i, room⟩ hi
    simp only at hi ⊢
    refine GC.seq (GC.seq (GC.region (GL.v (.move rfl) rfl (GL.v (.move rfl) rfl (GL.v (.lenSl rfl) rfl (GL.v (.lss rfl rfl) rfl (GL.v (.move rfl) rfl (?_))))))))
    -- part
    refine GL.partD 19 rfl (fun h1 => ?_) (fun h1 => ?_)
    · refine GL.vg rfl rfl (.move rfl) rfl (GL.vg rfl rfl (.geq rfl rfl) rfl (GL.v (.pickT rfl rfl) rfl (GL.nil (GN.seq (?_)))))
      -- if
      refine GC.condD rfl (fun h2 => ?_) (fun h2 => ?_)
      · have hil : i < l.length := by omega
        obtain ⟨a, ha⟩ : ∃ a, l[i]? = some a := ⟨_, List.getElem?_eq_getElem hil⟩
        obtain ⟨cs, g, off, c0, e1, hra, hca⟩ := list_at keyF_len hl ha
        simp only [Value.slice.injEq] at e1
        obtain ⟨rfl, _, rfl⟩ := e1
        obtain ⟨k, has, x, unk⟩ := a
        have hK : KR (Old w) w _ cs := hra
        cases hK with
        | @mk _ _ _ _ c8 hV0 =>
        have hV : (valF x c8).holds (Old w) w := hV0
        have hV8 := valF_len _ _ _ _ hV
        have hx := hc _ (List.mem_of_getElem? ha)
        obtain ⟨d1, d2, d3, d4, d5, d6, d7, d8, rfl⟩ := list8 hV8
        refine GC.skip (GN.seq (GC.seq (GC.block (GC.seq (?_)))))
        -- draw
        refine GC.draw ([]) (m := 16) rfl (by repeat (first | exact Ent.refl _ | exact Ent.nil _ | refine Ent.cons _ ?_ | refine Ent.trans (Ent.tail _ _) ?_)) ?_
        refine GA.take 0 rfl (by kernel_rfl) (by kernel_rfl) (by kernel_rfl) (.move rfl) rfl (GA.take 1 rfl (by kernel_rfl) (by kernel_rfl) (by kernel_rfl) (.move rfl) rfl (GA.take 2 rfl (by kernel_rfl) (by kernel_rfl) (by kernel_rfl) (.move rfl) rfl (GA.take 3 rfl (by kernel_rfl) (by kernel_rfl) (by kernel_rfl) (.indexAddr rfl rfl (by omega) (by omega)) rfl (GA.take 4 rfl (by kernel_rfl) (by kernel_rfl) (by kernel_rfl) (.fieldAddr rfl) rfl (GA.take 5 rfl (by kernel_rfl) (by kernel_rfl) (by kernel_rfl) (.ldO (fun _ h => h) (hca 0 _ rfl) rfl) rfl (GA.take 6 rfl (by kernel_rfl) (by kernel_rfl) (by kernel_rfl) (.lenS rfl) rfl (GA.take 8 rfl (by kernel_rfl) (by kernel_rfl) (by kernel_rfl) (.move rfl) rfl (GA.take 9 rfl (by kernel_rfl) (by kernel_rfl) (by kernel_rfl) (.move rfl) rfl (GA.take 10 rfl (by kernel_rfl) (by kernel_rfl) (by kernel_rfl) (.indexAddr rfl rfl (by omega) (by omega)) rfl (GA.take 11 rfl (by kernel_rfl) (by kernel_rfl) (by kernel_rfl) (.fieldAddr rfl) rfl (GA.take 12 rfl (by kernel_rfl) (by kernel_rfl) (by kernel_rfl) (.ldO (fun _ h => h) (hca 10 _ rfl) rfl) rfl (GA.take 13 rfl (by kernel_rfl) (by kernel_rfl) (by kernel_rfl) (.lenS rfl) rfl (?_)))))))))))))
        refine GA.one 7 (by kernel_rfl) ?_
        -- draw one 7 call
        refine GAi.call (As := []) rfl rfl (fun w hst => take_tri _ _ w) rfl (fun r1 _ => Ent.nil _) (fun r1 _ => ?_)
        refine GA.one 14 (by kernel_rfl) ?_
        -- draw one 14 call
        refine GAi.call (As := []) rfl rfl (fun w hst => take_tri _ _ w) rfl (fun r2 _ => Ent.nil _) (fun r2 _ => ?_)
        refine GA.take 15 rfl (by kernel_rfl) (by kernel_rfl) (by kernel_rfl) (.assign rfl) rfl (GA.done (by kernel_rfl) (?_))
        -- drawn
        refine GN.seq (GC.region (GL.v (.move rfl) rfl (GL.v (.move rfl) rfl (GL.v (.indexAddr rfl rfl (by omega) (by omega)) rfl (GL.v (.fieldAddr rfl) rfl (GL.v (.ldON [d1, d2, d3, d4, d5, d6, d7, d8] (fun _ h => h) (fun j u hj => by have := hca (2 + j) u (by rw [Nat.add_comm]; have hj8 := (List.getElem?_eq_some_iff.1 hj).1; show ([d1, d2, d3, d4, d5, d6, d7, d8] ++ [Value.string (mkS unk)])[j]? = some u; rw [List.getElem?_append_left hj8]; exact hj); rw [Nat.add_assoc]; exact this) rfl rfl) rfl (GL.v (.move rfl) rfl (GL.v (.move rfl) rfl (?_)))))))))
        -- call
        refine GL.call (As := []) rfl (fun w hst => hx deep r2 _ w hd1 hd2 (hst.keep (fun _ h => h) (valF x _) hV)) rfl (fun r3 _ => ?_)
        refine GL.v (.assign rfl) rfl (GL.nil (GN.blk (GN.seq (GC.region (GL.v (.move rfl) rfl (GL.v (.add rfl rfl (i64_in _ (by omega))) rfl (GL.v (.assign rfl) rfl (GL.nil (?_)))))))))
        -- next
        exact GN.loop (i + 1, r3) (by simp only; omega) (by simp only; omega) (Sub.cons rfl (Sub.cons rfl (Sub.cons rfl (Sub.cons rfl (Sub.nil _))))) (Ent.nil _)
      · refine GC.exit (GX.seq (GX.loop (GX.blk (GN.seq (GC.seq (GC.region (GL.v (.move rfl) rfl (GL.v (.assign rfl) rfl (GL.nil (GN.seq (GC.ret (?_))))))))))))
        -- ret
        exact GR.one rfl rfl rfl room rfl (Ent.nil _) trivial
    · refine GL.sg rfl rfl rfl rfl (GL.sg rfl rfl rfl rfl (GL.v (.pickF rfl rfl) rfl (GL.nil (GN.seq (GC.cond rfl (fun h => by first | (have := of_decide_eq_false h; contradiction) | (have := of_decide_eq_true h; contradiction) | (cases h; done)) (fun _ => ?_))))))
      refine GC.exit (GX.seq (GX.loop (GX.blk (GN.seq (GC.seq (GC.region (GL.v (.move rfl) rfl (GL.v (.assign rfl) rfl (GL.nil (GN.seq (GC.ret (?_))))))))))))
      -- ret
      exact GR.one rfl rfl rfl room rfl (Ent.nil _) trivial
theorem keyVal_lt (a : Key) : SizeOf.sizeOf (keyVal a) < SizeOf.sizeOf a := by
  cases a
  simp only [keyVal, Key.mk.sizeOf_spec]
  omega
theorem room_val : ∀ (n : Nat) (x : Val), SizeOf.sizeOf x ≤ n → RoomVC x := by
  intro n
  induction n with
  | zero => exact fun x h => by cases x; simp at h
  | succ n ih =>
  rintro ⟨kind, s, b, n1, l, m, inner, unk⟩ hsz deep room cs w hd1 hd2 hx
  have hx : VR (Old w) w _ cs := hx
  cases hx with
  | @mk _ _ _ _ _ _ _ _ vl vm cl cm r1 q1 r2 q2 =>
  have hL : (listF valF 8 l vl).holds (Old w) w := ⟨_, r1, LV_allF q1⟩
  have hM : (listF keyF 11 m vm).holds (Old w) w := ⟨_, r2, LK_allF q2⟩
  simp only [Val.mk.sizeOf_spec] at hsz
  clear r1 q1 r2 q2
  have hbl := list_len hL
  obtain ⟨A, c, rfl⟩ := listF.form hL
  refine tri_of_G0 49 Tryz.func150 rfl Tryz.ntmps150 rfl ?_
  refine GC.seq (GC.region (GL.w (.box rfl rfl) rfl (fun b3 _ => GL.v (.assign rfl) rfl (GL.nil (GN.seq (GC.seq (GC.seq (GC.region (GL.v (.move rfl) rfl (GL.v (.lss rfl rfl) rfl (GL.nil (GN.seq (?_)))))))))))))
  -- if
  refine GC.condD rfl (fun g1 => ?_) (fun g1 => ?_)
  · refine GC.seq (GC.region (GL.v (.assign rfl) rfl (GL.nil (GN.seq (GC.ret (?_))))))
    -- ret
    exact GR.one rfl rfl rfl (-1) rfl (Ent.nil _) trivial
  refine GC.skip (GN.seq (GC.seq (?_)))
  -- draw
  refine GC.draw _ (m := 14) rfl (Ent.refl _) ?_
  refine GA.take 0 rfl (by kernel_rfl) (by kernel_rfl) (by kernel_rfl) (.move rfl) rfl (GA.take 1 rfl (by kernel_rfl) (by kernel_rfl) (by kernel_rfl) (.fieldAddr rfl) rfl (GA.take 2 rfl (by kernel_rfl) (by kernel_rfl) (by kernel_rfl) (.ld 0 rfl rfl rfl) rfl (GA.take 3 rfl (by kernel_rfl) (by kernel_rfl) (by kernel_rfl) (.lenS rfl) rfl (GA.take 5 rfl (by kernel_rfl) (by kernel_rfl) (by kernel_rfl) (.fieldAddr rfl) rfl (GA.take 6 rfl (by kernel_rfl) (by kernel_rfl) (by kernel_rfl) (.ld 0 rfl rfl rfl) rfl (GA.take 7 rfl (by kernel_rfl) (by kernel_rfl) (by kernel_rfl) (.lenS rfl) rfl (GA.take 9 rfl (by kernel_rfl) (by kernel_rfl) (by kernel_rfl) (.fieldAddr rfl) rfl (GA.take 10 rfl (by kernel_rfl) (by kernel_rfl) (by kernel_rfl) (.ld 0 rfl rfl rfl) rfl (GA.take 11 rfl (by kernel_rfl) (by kernel_rfl) (by kernel_rfl) (.lenS rfl) rfl (?_))))))))))
  refine GA.one 4 (by kernel_rfl) ?_
  -- draw one 4 call
  refine GAi.call (As := []) rfl rfl (fun w hst => take_tri _ _ w) rfl (fun t1 _ => Ent.refl _) (fun t1 _ => ?_)
  refine GA.one 8 (by kernel_rfl) ?_
  -- draw one 8 call
  refine GAi.call (As := []) rfl rfl (fun w hst => take_tri _ _ w) rfl (fun t2 _ => Ent.refl _) (fun t2 _ => ?_)
  refine GA.one 12 (by kernel_rfl) ?_
  -- draw one 12 call
  refine GAi.call (As := []) rfl rfl (fun w hst => take_tri _ _ w) rfl (fun t3 _ => Ent.refl _) (fun t3 _ => ?_)
  refine GA.take 13 rfl (by kernel_rfl) (by kernel_rfl) (by kernel_rfl) (.assign rfl) rfl (GA.done (by kernel_rfl) (?_))
  -- drawn
  refine GN.seq (GC.seq (GC.seq (GC.region (GL.v (.assign rfl) rfl (GL.nil (GN.seq (GC.block (?_))))))))
  -- loop
  refine GC.loop (γ := Nat × Int) (fun q => q.1 ≤ l.length) (fun q => [(1, .int .i64 deep), (2, .int .i64 q.2), (3, ptr b3), (7, .int .i64 (q.1 : Int))]) (fun _ => [Blk b3 80 8 [(4, .slice A l.length c), (5, vm)]]) (fun q => l.length - q.1) (0, t3) (Nat.zero_le _) (Sub.cons rfl (Sub.cons rfl (Sub.cons rfl (Sub.cons rfl (Sub.nil _))))) ((Ent.blk (by repeat (first | exact Sub.nil _ | refine Sub.cons rfl ?_)) (Ent.nil _))) ?_
  rintro ⟨i, room⟩ hi
  simp only at hi ⊢
  refine GC.seq (GC.seq (GC.region (GL.v (.move rfl) rfl (GL.v (.fieldAddr rfl) rfl (GL.v (.ld 0 rfl rfl rfl) rfl (GL.v (.lenSl rfl) rfl (GL.v (.lss rfl rfl) rfl (GL.v (.move rfl) rfl (?_)))))))))
  -- part
  refine GL.partD 28 rfl (fun h1 => ?_) (fun h1 => ?_)
  · refine GL.vg rfl rfl (.move rfl) rfl (GL.vg rfl rfl (.geq rfl rfl) rfl (GL.v (.pickT rfl rfl) rfl (GL.nil (GN.seq (?_)))))
    -- if
    refine GC.condD rfl (fun h2 => ?_) (fun h2 => ?_)
    · have hil : i < l.length := by omega
      obtain ⟨a, ha⟩ : ∃ a, l[i]? = some a := ⟨_, List.getElem?_eq_getElem hil⟩
      obtain ⟨cs, g, off, c0, e1, hra, hca⟩ := list_at valF_len hL ha
      simp only [Value.slice.injEq] at e1
      obtain ⟨rfl, _, rfl⟩ := e1
      have l1 := valF_len _ _ _ _ hra
      refine GC.skip (GN.seq (GC.seq (GC.block (GC.region (GL.v (.fieldAddr rfl) rfl (GL.v (.ld 0 rfl rfl rfl) rfl (GL.v (.move rfl) rfl (GL.v (.indexAddr rfl rfl (by omega) (by omega)) rfl (?_)))))))))
      -- load
      refine GL.v (.ldON cs (fun _ h => h) hca rfl (by rw [l1]; rfl)) rfl ?_
      refine GL.v (.move rfl) rfl (GL.v (.sub rfl rfl (i64_in _ (by omega))) rfl (GL.v (.move rfl) rfl (?_)))
      -- call
      refine GL.call (As := []) rfl (fun w hst => ih a (by have := List.sizeOf_lt_of_mem (List.mem_of_getElem? ha); omega) (deep - 1) room cs w (by omega) (by omega) (hst.keep (fun _ h => h) (valF a cs) hra)) rfl (fun r3 _ => ?_)
      refine GL.v (.assign rfl) rfl (GL.nil (GN.blk (GN.seq (GC.region (GL.v (.move rfl) rfl (GL.v (.add rfl rfl (i64_in _ (by omega))) rfl (GL.v (.assign rfl) rfl (GL.nil (?_)))))))))
      -- next
      exact GN.loop (i + 1, r3) (by simp only; omega) (by simp only; omega) (Sub.cons rfl (Sub.cons rfl (Sub.cons rfl (Sub.cons rfl (Sub.nil _))))) (Ent.refl _)
    · refine GC.exit (GX.seq (GX.loop (GX.blk (GN.seq (GC.seq (GC.region (GL.v (.fieldAddr rfl) rfl (GL.v (.ld 0 rfl rfl rfl) rfl (GL.v (.move rfl) rfl (GL.v (.sub rfl rfl (i64_in _ (by omega))) rfl (GL.v (.move rfl) rfl (?_))))))))))))
      -- call
      refine GL.call (As := []) rfl (fun w hst => RoomKeys_tri m vm (deep - 1) room w (by omega) (by omega) (hst.keep (fun _ h => h) (listF keyF 11 m vm) hM) (fun a ha => ih _ (by have := List.sizeOf_lt_of_mem ha; have h2 := keyVal_lt a; omega))) rfl (fun r _ => ?_)
      refine GL.v (.assign rfl) rfl (GL.nil (GN.seq (GC.ret (?_))))
      -- ret
      exact GR.one rfl rfl rfl r rfl (Ent.nil _) trivial
  · refine GL.sg rfl rfl rfl rfl (GL.sg rfl rfl rfl rfl (GL.v (.pickF rfl rfl) rfl (GL.nil (GN.seq (GC.cond rfl (fun h => by first | (have := of_decide_eq_false h; contradiction) | (have := of_decide_eq_true h; contradiction) | (cases h; done)) (fun _ => ?_))))))
    refine GC.exit (GX.seq (GX.loop (GX.blk (GN.seq (GC.seq (GC.region (GL.v (.fieldAddr rfl) rfl (GL.v (.ld 0 rfl rfl rfl) rfl (GL.v (.move rfl) rfl (GL.v (.sub rfl rfl (i64_in _ (by omega))) rfl (GL.v (.move rfl) rfl (?_))))))))))))
    -- call
    refine GL.call (As := []) rfl (fun w hst => RoomKeys_tri m vm (deep - 1) room w (by omega) (by omega) (hst.keep (fun _ h => h) (listF keyF 11 m vm) hM) (fun a ha => ih _ (by have := List.sizeOf_lt_of_mem ha; have h2 := keyVal_lt a; omega))) rfl (fun r _ => ?_)
    refine GL.v (.assign rfl) rfl (GL.nil (GN.seq (GC.ret (?_))))
    -- ret
    exact GR.one rfl rfl rfl r rfl (Ent.nil _) trivial
theorem Room_val (x : Val) : RoomVC x := room_val _ x (Nat.le_refl _)
theorem RoomExems_tri (l : List Exem) (v : Value) (room : Int) (w : World) (hl : (listF exemF 7 l v).holds (Old w) w) :
    Tri Tryz.prog 71 [v, .int .i64 room] [] (fun r : Int => .int .i64 r) (fun _ => []) (fun _ => True) w := by
  have hbl := list_len hl
  obtain ⟨A, c, rfl⟩ := listF.form hl
  refine tri_of_G0 39 Tryz.func71 rfl Tryz.ntmps71 rfl ?_
  refine GC.seq (GC.region (GL.v (.assign rfl) rfl (GL.nil (GN.seq (GC.seq (GC.seq (GC.region (GL.v (.assign rfl) rfl (GL.nil (GN.seq (GC.block (?_))))))))))))
  -- loop
  refine GC.loop (γ := Nat × Int) (fun q => q.1 ≤ l.length) (fun q => [(0, .slice A l.length c), (1, .int .i64 q.2), (5, .int .i64 (q.1 : Int))]) (fun _ => []) (fun q => l.length - q.1) (0, room) (Nat.zero_le _) (Sub.cons rfl (Sub.cons rfl (Sub.cons rfl (Sub.nil _)))) (Ent.nil _) ?_
  rintro ⟨i, room⟩ hi
  simp only at hi ⊢
  refine GC.seq (GC.seq (GC.region (GL.v (.move rfl) rfl (GL.v (.move rfl) rfl (GL.v (.lenSl rfl) rfl (GL.v (.lss rfl rfl) rfl (GL.v (.move rfl) rfl (?_))))))))
  -- part
  refine GL.partD 11 rfl (fun h1 => ?_) (fun h1 => ?_)
  · refine GL.vg rfl rfl (.move rfl) rfl (GL.vg rfl rfl (.geq rfl rfl) rfl (GL.v (.pickT rfl rfl) rfl (GL.nil (GN.seq (?_)))))
    -- if
    refine GC.condD rfl (fun h2 => ?_) (fun h2 => ?_)
    · have hil : i < l.length := by omega
      obtain ⟨a, ha⟩ : ∃ a, l[i]? = some a := ⟨_, List.getElem?_eq_getElem hil⟩
      obtain ⟨cs, g, off, c0, e1, hra, hca⟩ := list_at exemF_len hl ha
      simp only [Value.slice.injEq] at e1
      obtain ⟨rfl, _, rfl⟩ := e1
      have o1 := exemF_one _ _ _ _ hra
      obtain ⟨at1, tm, kd, nn, sp, tr, uk⟩ := a
      obtain ⟨va, ex, hA⟩ := hra
      have ex : cs = _ := ex
      subst ex
      simp only at hA
      refine GC.skip (GN.seq (GC.seq (GC.block (GC.seq (GC.region (GL.v (.move rfl) rfl (GL.v (.move rfl) rfl (GL.v (.indexAddr rfl rfl (by omega) (by omega)) rfl (?_)))))))))
      -- load
      refine GL.v (.ldON [va, .int .u64 (tm : Int), .int .i64 kd, .int .u64 (nn : Int), .string (mkS sp), .string (mkS tr), .string (mkS uk)] (fun _ h => h) hca rfl rfl) rfl ?_
      refine GL.w .alloc rfl (fun b6 _ => GL.w0 (.store 0 rfl rfl rfl rfl rfl rfl o1) (fun _ _ => GL.nil (GN.seq (GC.seq (?_)))))
      -- draw
      refine GC.draw _ (m := 14) rfl (Ent.refl _) ?_
      refine GA.take 0 rfl (by kernel_rfl) (by kernel_rfl) (by kernel_rfl) (.move rfl) rfl (GA.take 1 rfl (by kernel_rfl) (by kernel_rfl) (by kernel_rfl) (.fieldAddr rfl) rfl (GA.take 2 rfl (by kernel_rfl) (by kernel_rfl) (by kernel_rfl) (.ld 0 rfl rfl rfl) rfl (GA.take 3 rfl (by kernel_rfl) (by kernel_rfl) (by kernel_rfl) (.lenS rfl) rfl (GA.take 5 rfl (by kernel_rfl) (by kernel_rfl) (by kernel_rfl) (.fieldAddr rfl) rfl (GA.take 6 rfl (by kernel_rfl) (by kernel_rfl) (by kernel_rfl) (.ld 0 rfl rfl rfl) rfl (GA.take 7 rfl (by kernel_rfl) (by kernel_rfl) (by kernel_rfl) (.lenS rfl) rfl (GA.take 9 rfl (by kernel_rfl) (by kernel_rfl) (by kernel_rfl) (.fieldAddr rfl) rfl (GA.take 10 rfl (by kernel_rfl) (by kernel_rfl) (by kernel_rfl) (.ld 0 rfl rfl rfl) rfl (GA.take 11 rfl (by kernel_rfl) (by kernel_rfl) (by kernel_rfl) (.lenS rfl) rfl (?_))))))))))
      refine GA.one 4 (by kernel_rfl) ?_
      -- draw one 4 call
      refine GAi.call (As := []) rfl rfl (fun w hst => take_tri _ _ w) rfl (fun t1 _ => Ent.refl _) (fun t1 _ => ?_)
      refine GA.one 8 (by kernel_rfl) ?_
      -- draw one 8 call
      refine GAi.call (As := []) rfl rfl (fun w hst => take_tri _ _ w) rfl (fun t2 _ => Ent.refl _) (fun t2 _ => ?_)
      refine GA.one 12 (by kernel_rfl) ?_
      -- draw one 12 call
      refine GAi.call (As := []) rfl rfl (fun w hst => take_tri _ _ w) rfl (fun t3 _ => Ent.refl _) (fun t3 _ => ?_)
      refine GA.take 13 rfl (by kernel_rfl) (by kernel_rfl) (by kernel_rfl) (.assign rfl) rfl (GA.done (by kernel_rfl) (?_))
      -- drawn
      refine GN.seq (GC.region (GL.v (.fieldAddr rfl) rfl (GL.v (.ld 0 rfl rfl rfl) rfl (GL.v (.move rfl) rfl (?_)))))
      -- call
      refine GL.call (As := []) rfl (fun w hst => RoomKeys_tri at1 va 40 t3 w (by omega) (by omega) (hst.keep (fun _ h => h) (listF keyF 11 at1 va) hA) (fun a _ => Room_val _)) rfl (fun r _ => ?_)
      refine GL.v (.assign rfl) rfl (GL.nil (GN.blk (GN.seq (GC.region (GL.v (.move rfl) rfl (GL.v (.add rfl rfl (i64_in _ (by omega))) rfl (GL.v (.assign rfl) rfl (GL.nil (?_)))))))))
      -- next
      exact GN.loop (i + 1, r) (by simp only; omega) (by simp only; omega) (Sub.cons rfl (Sub.cons rfl (Sub.cons rfl (Sub.nil _)))) (Ent.nil _)
    · refine GC.exit (GX.seq (GX.loop (GX.blk (GN.seq (GC.seq (GC.region (GL.v (.move rfl) rfl (GL.v (.assign rfl) rfl (GL.nil (GN.seq (GC.ret (?_))))))))))))
      -- ret
      exact GR.one rfl rfl rfl room rfl (Ent.nil _) trivial
  · refine GL.sg rfl rfl rfl rfl (GL.sg rfl rfl rfl rfl (GL.v (.pickF rfl rfl) rfl (GL.nil (GN.seq (GC.cond rfl (fun h => by first | (have := of_decide_eq_false h; contradiction) | (have := of_decide_eq_true h; contradiction) | (cases h; done)) (fun _ => ?_))))))
    refine GC.exit (GX.seq (GX.loop (GX.blk (GN.seq (GC.seq (GC.region (GL.v (.move rfl) rfl (GL.v (.assign rfl) rfl (GL.nil (GN.seq (GC.ret (?_))))))))))))
    -- ret
    exact GR.one rfl rfl rfl room rfl (Ent.nil _) trivial
theorem RoomExp_tri (x : Expo) (cs : List Value) (room : Int) (w : World) (hx : (expF x cs).holds (Old w) w) : Tri Tryz.prog 21 [.agg cs.toArray, .int .i64 room] [] (fun r : Int => .int .i64 r) (fun _ => []) (fun _ => True) w := by
  obtain ⟨⟨v1, v2, v3, v4⟩, e1, k1, k2, k3, k4⟩ := hx
  have e1 : cs = _ := e1
  subst e1
  simp only at k1 k2 k3 k4
  have hP : (buckF x.pos [.int .i32 x.pos.off, v2, .string (mkS x.pos.unk)]).holds (Old w) w := ⟨v2, rfl, k2⟩
  have hN : (buckF x.neg [.int .i32 x.neg.off, v3, .string (mkS x.neg.unk)]).holds (Old w) w := ⟨v3, rfl, k3⟩
  refine tri_of_G0 23 Tryz.func21 rfl Tryz.ntmps21 rfl ?_
  refine GC.seq (GC.region (GL.w (.box rfl rfl) rfl (fun b2 _ => GL.v (.assign rfl) rfl (GL.nil (GN.seq (GC.seq (?_)))))))
  -- draw
  refine GC.draw _ (m := 12) rfl (Ent.refl _) ?_
  refine GA.take 0 rfl (by kernel_rfl) (by kernel_rfl) (by kernel_rfl) (.fieldAddr rfl) rfl (GA.take 1 rfl (by kernel_rfl) (by kernel_rfl) (by kernel_rfl) (.ldN 0 [_, _, _] rfl rfl rfl ⟨rfl, rfl, rfl, trivial⟩) rfl (GA.take 2 rfl (by kernel_rfl) (by kernel_rfl) (by kernel_rfl) (.fieldAddr rfl) rfl (GA.take 3 rfl (by kernel_rfl) (by kernel_rfl) (by kernel_rfl) (.ldN 0 [_, _, _] rfl rfl rfl ⟨rfl, rfl, rfl, trivial⟩) rfl (GA.take 4 rfl (by kernel_rfl) (by kernel_rfl) (by kernel_rfl) (.move rfl) rfl (GA.take 5 rfl (by kernel_rfl) (by kernel_rfl) (by kernel_rfl) (.fieldAddr rfl) rfl (GA.take 6 rfl (by kernel_rfl) (by kernel_rfl) (by kernel_rfl) (.ld 0 rfl rfl rfl) rfl (GA.take 7 rfl (by kernel_rfl) (by kernel_rfl) (by kernel_rfl) (.lenS rfl) rfl (?_))))))))
  refine GA.one 8 (by kernel_rfl) ?_
  -- draw one 8 call
  refine GAi.call (As := []) rfl rfl (fun w hst => take_tri _ _ w) rfl (fun t1 _ => Ent.refl _) (fun t1 _ => ?_)
  refine GA.one 9 (by kernel_rfl) ?_
  -- draw one 9 call
  refine GAi.call (As := []) rfl rfl (fun w hst => RoomBuck_tri x.neg _ t1 w (hst.keep (fun _ h => h) (buckF x.neg _) hN)) rfl (fun t2 _ => Ent.refl _) (fun t2 _ => ?_)
  refine GA.one 10 (by kernel_rfl) ?_
  -- draw one 10 call
  refine GAi.call (As := []) rfl rfl (fun w hst => RoomBuck_tri x.pos _ t2 w (hst.keep (fun _ h => h) (buckF x.pos _) hP)) rfl (fun t3 _ => Ent.refl _) (fun t3 _ => ?_)
  refine GA.take 11 rfl (by kernel_rfl) (by kernel_rfl) (by kernel_rfl) (.assign rfl) rfl (GA.done (by kernel_rfl) (?_))
  -- drawn
  refine GN.seq (GC.seq (?_))
  -- draw
  refine GC.draw _ (m := 8) rfl (Ent.refl _) ?_
  refine GA.take 0 rfl (by kernel_rfl) (by kernel_rfl) (by kernel_rfl) (.fieldAddr rfl) rfl (GA.take 1 rfl (by kernel_rfl) (by kernel_rfl) (by kernel_rfl) (.ld 0 rfl rfl rfl) rfl (GA.take 2 rfl (by kernel_rfl) (by kernel_rfl) (by kernel_rfl) (.fieldAddr rfl) rfl (GA.take 3 rfl (by kernel_rfl) (by kernel_rfl) (by kernel_rfl) (.ld 0 rfl rfl rfl) rfl (GA.take 4 rfl (by kernel_rfl) (by kernel_rfl) (by kernel_rfl) (.move rfl) rfl (?_)))))
  refine GA.one 5 (by kernel_rfl) ?_
  -- draw one 5 call
  refine GAi.call (As := []) rfl rfl (fun w hst => RoomKeys_tri x.attrs v1 40 t3 w (by omega) (by omega) (hst.keep (fun _ h => h) (listF keyF 11 x.attrs v1) k1) (fun a _ => Room_val _)) rfl (fun t4 _ => Ent.refl _) (fun t4 _ => ?_)
  refine GA.one 6 (by kernel_rfl) ?_
  -- draw one 6 call
  refine GAi.call (As := []) rfl rfl (fun w hst => RoomExems_tri x.exs v4 t4 w (hst.keep (fun _ h => h) (listF exemF 7 x.exs v4) k4)) rfl (fun t5 _ => Ent.refl _) (fun t5 _ => ?_)
  refine GA.take 7 rfl (by kernel_rfl) (by kernel_rfl) (by kernel_rfl) (.assign rfl) rfl (GA.done (by kernel_rfl) (?_))
  -- drawn
  refine GN.seq (GC.ret (?_))
  -- ret
  exact GR.one rfl rfl rfl t5 rfl (Ent.nil _) trivial
end Go.Proofs.Gw
/- Any two points, are they alike: the law's function. -/
set_option linter.unusedVariables false
set_option linter.unusedSimpArgs false
namespace Go.Proofs.Gw
open Go Go.RowKit Go.IntWalk Go.Proofs.Gm

set_option maxRecDepth 20000 in
theorem same14_tri (a b : Expo) (cs ds : List Value) (w : World) (ha : (expF a cs).holds (Old w) w) (hb : (expF b ds).holds (Old w) w) : Tri Tryz.prog 6 [.agg cs.toArray, .agg ds.toArray] [] (fun _ : Unit => .bool true) (fun _ => []) (fun _ => True) w := by
  have ha0 := ha
  have hb0 := hb
  obtain ⟨⟨v1, v2, v3, v4⟩, e1, _⟩ := ha
  obtain ⟨⟨u1, u2, u3, u4⟩, e2, _⟩ := hb
  have e1 : cs = _ := e1
  have e2 : ds = _ := e2
  subst e1; subst e2
  refine tri_of_G0 31 Tryz.func6 rfl Tryz.ntmps6 rfl ?_
  refine GC.seq (GC.region (GL.w (.box rfl rfl) rfl (fun b2 _ => GL.w (.box rfl rfl) rfl (fun b3 _ => GL.v (.assign rfl) rfl (GL.nil (GN.seq (GC.seq (GC.seq (GC.region (?_))))))))))
  -- call
  refine GL.call (As := []) rfl (fun w hst => first14_tri w) rfl (fun _ _ => ?_)
  refine GL.v (.not rfl) rfl (GL.nil (GN.seq (?_)))
  -- if
  refine GC.cond rfl (fun h => Bool.noConfusion (h.symm.trans (rfl) : true = false)) (fun _ => ?_)
  refine GC.skip (GN.seq (GC.seq (GC.seq (GC.region (GL.v (.ldN 1 [_, _, _, _, _, _, _, _, _, _, _, _, _, _, _, _, _, _, _, _, _, _, _, _] rfl rfl rfl ⟨rfl, rfl, rfl, rfl, rfl, rfl, rfl, rfl, rfl, rfl, rfl, rfl, rfl, rfl, rfl, rfl, rfl, rfl, rfl, rfl, rfl, rfl, rfl, rfl, trivial⟩) rfl (?_))))))
  -- call
  refine GL.call (As := []) rfl (fun w hst => RoomExp_tri a _ 12000 w (hst.keep (fun _ h => h) (expF a _) ha0)) rfl (fun r1 _ => ?_)
  refine GL.v (.lss rfl rfl) rfl (GL.v (.move rfl) rfl (?_))
  -- part
  refine GL.partD 10 rfl (fun g1 => ?_) (fun g1 => ?_)
  · refine GL.sg rfl rfl rfl rfl (GL.sg rfl rfl rfl rfl (GL.sg rfl rfl rfl rfl (GL.v (.pickT rfl rfl) rfl (GL.nil (GN.seq (GC.cond rfl (fun _ => ?_) (fun h => by first | (have := of_decide_eq_false h; contradiction) | (have := of_decide_eq_true h; contradiction) | (cases h; done))))))))
    refine GC.seq (GC.region (?_))
    -- call
    refine GL.call (As := []) rfl (fun w hst => first14_tri w) rfl (fun _ _ => ?_)
    refine GL.v (.assign rfl) rfl (GL.nil (GN.seq (GC.ret (?_))))
    -- ret
    exact GR.one rfl rfl rfl () rfl (Ent.nil _) trivial
  refine GL.vg rfl rfl (.ldN 0 [_, _, _, _, _, _, _, _, _, _, _, _, _, _, _, _, _, _, _, _, _, _, _, _] rfl rfl rfl ⟨rfl, rfl, rfl, rfl, rfl, rfl, rfl, rfl, rfl, rfl, rfl, rfl, rfl, rfl, rfl, rfl, rfl, rfl, rfl, rfl, rfl, rfl, rfl, rfl, trivial⟩) rfl (GL.gd rfl rfl (?_))
  -- call
  refine GL.call (As := []) rfl (fun w hst => RoomExp_tri b _ 12000 w (hst.keep (fun _ h => h) (expF b _) hb0)) rfl (fun r2 _ => ?_)
  refine GL.vg rfl rfl (.lss rfl rfl) rfl (GL.v (.pickF rfl rfl) rfl (GL.nil (GN.seq (?_))))
  -- if
  refine GC.condD rfl (fun g2 => ?_) (fun g2 => ?_)
  · refine GC.seq (GC.region (?_))
    -- call
    refine GL.call (As := []) rfl (fun w hst => first14_tri w) rfl (fun _ _ => ?_)
    refine GL.v (.assign rfl) rfl (GL.nil (GN.seq (GC.ret (?_))))
    -- ret
    exact GR.one rfl rfl rfl () rfl (Ent.nil _) trivial
  refine GC.skip (GN.seq (GC.seq (?_)))
  -- draw
  refine GC.draw _ (m := 16) rfl (Ent.refl _) ?_
  refine GA.one 0 (by kernel_rfl) ?_
  -- draw one 0 call
  refine GAi.call (As := []) rfl rfl (fun w hst => first14_tri w) rfl (fun _ _ => Ent.refl _) (fun _ _ => ?_)
  refine GA.take 1 rfl (by kernel_rfl) (by kernel_rfl) (by kernel_rfl) (.move rfl) rfl (GA.takeg 2 rfl (by kernel_rfl) (by kernel_rfl) (by kernel_rfl) rfl rfl (.ldN 1 [_, _, _, _, _, _, _, _, _, _, _, _, _, _, _, _, _, _, _, _, _, _, _, _] rfl rfl rfl ⟨rfl, rfl, rfl, rfl, rfl, rfl, rfl, rfl, rfl, rfl, rfl, rfl, rfl, rfl, rfl, rfl, rfl, rfl, rfl, rfl, rfl, rfl, rfl, rfl, trivial⟩) rfl (GA.takeg 3 rfl (by kernel_rfl) (by kernel_rfl) (by kernel_rfl) rfl rfl (.ldN 0 [_, _, _, _, _, _, _, _, _, _, _, _, _, _, _, _, _, _, _, _, _, _, _, _] rfl rfl rfl ⟨rfl, rfl, rfl, rfl, rfl, rfl, rfl, rfl, rfl, rfl, rfl, rfl, rfl, rfl, rfl, rfl, rfl, rfl, rfl, rfl, rfl, rfl, rfl, rfl, trivial⟩) rfl (GA.takeg 5 rfl (by kernel_rfl) (by kernel_rfl) (by kernel_rfl) rfl rfl (.ldN 1 [_, _, _, _, _, _, _, _, _, _, _, _, _, _, _, _, _, _, _, _, _, _, _, _] rfl rfl rfl ⟨rfl, rfl, rfl, rfl, rfl, rfl, rfl, rfl, rfl, rfl, rfl, rfl, rfl, rfl, rfl, rfl, rfl, rfl, rfl, rfl, rfl, rfl, rfl, rfl, trivial⟩) rfl (GA.takeg 6 rfl (by kernel_rfl) (by kernel_rfl) (by kernel_rfl) rfl rfl (.ldN 0 [_, _, _, _, _, _, _, _, _, _, _, _, _, _, _, _, _, _, _, _, _, _, _, _] rfl rfl rfl ⟨rfl, rfl, rfl, rfl, rfl, rfl, rfl, rfl, rfl, rfl, rfl, rfl, rfl, rfl, rfl, rfl, rfl, rfl, rfl, rfl, rfl, rfl, rfl, rfl, trivial⟩) rfl (?_)))))
  refine GA.one 4 (by kernel_rfl) ?_
  -- draw one 4 call
  refine GAi.callg (As := []) rfl rfl rfl rfl (fun w hst => SameExp_tri a b _ _ w (hst.keep (fun _ h => h) (expF a _) ha0) (hst.keep (fun _ h => h) (expF b _) hb0)) rfl (fun _ _ => Ent.refl _) (fun _ _ => ?_)
  refine GA.one 7 (by kernel_rfl) ?_
  -- draw one 7 call
  refine GAi.callg (As := []) rfl rfl rfl rfl (fun w hst => RefExp_tri a b _ _ w (hst.keep (fun _ h => h) (expF a _) ha0) (hst.keep (fun _ h => h) (expF b _) hb0)) rfl (fun _ _ => Ent.refl _) (fun _ _ => ?_)
  refine GA.takeg 8 rfl (by kernel_rfl) (by kernel_rfl) (by kernel_rfl) rfl rfl (.isT (.eqlB rfl rfl) (by simp)) rfl (GA.take 9 rfl (by kernel_rfl) (by kernel_rfl) (by kernel_rfl) (.pickT rfl rfl) rfl (GA.take 10 rfl (by kernel_rfl) (by kernel_rfl) (by kernel_rfl) (.move rfl) rfl (GA.takeg 11 rfl (by kernel_rfl) (by kernel_rfl) (by kernel_rfl) rfl rfl (.ldN 1 [_, _, _, _, _, _, _, _, _, _, _, _, _, _, _, _, _, _, _, _, _, _, _, _] rfl rfl rfl ⟨rfl, rfl, rfl, rfl, rfl, rfl, rfl, rfl, rfl, rfl, rfl, rfl, rfl, rfl, rfl, rfl, rfl, rfl, rfl, rfl, rfl, rfl, rfl, rfl, trivial⟩) rfl (GA.takeg 12 rfl (by kernel_rfl) (by kernel_rfl) (by kernel_rfl) rfl rfl (.ldN 1 [_, _, _, _, _, _, _, _, _, _, _, _, _, _, _, _, _, _, _, _, _, _, _, _] rfl rfl rfl ⟨rfl, rfl, rfl, rfl, rfl, rfl, rfl, rfl, rfl, rfl, rfl, rfl, rfl, rfl, rfl, rfl, rfl, rfl, rfl, rfl, rfl, rfl, rfl, rfl, trivial⟩) rfl (?_)))))
  refine GA.one 13 (by kernel_rfl) ?_
  -- draw one 13 call
  refine GAi.callg (As := []) rfl rfl rfl rfl (fun w hst => SameExp_tri a a _ _ w (hst.keep (fun _ h => h) (expF a _) ha0) (hst.keep (fun _ h => h) (expF a _) ha0)) rfl (fun _ _ => Ent.refl _) (fun _ _ => ?_)
  rw [sameE_self]
  refine GA.take 14 rfl (by kernel_rfl) (by kernel_rfl) (by kernel_rfl) (.pickT rfl rfl) rfl (GA.take 15 rfl (by kernel_rfl) (by kernel_rfl) (by kernel_rfl) (.assign rfl) rfl (GA.done (by kernel_rfl) (?_)))
  -- drawn
  refine GN.seq (GC.ret (?_))
  -- ret
  exact GR.one rfl rfl rfl () rfl (Ent.nil _) trivial
end Go.Proofs.Gw
