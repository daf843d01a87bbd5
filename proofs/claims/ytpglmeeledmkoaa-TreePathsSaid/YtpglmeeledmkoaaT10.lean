import Derived.Test.YtpglmeeledmkoaaProg
import Derived.Test.YtpglmeeledmkoaaVc
import Derived.Test.YtpglmeeledmkoaaT8
namespace Go.Proofs.Ytpglmeeledmkoaa
open Go.Vc

def isLeaf (q : Int × Tr) : Bool := q.2.kd == 1

set_option maxHeartbeats 1000000 in
theorem Leaves1_any {bx sb : Nat} {t : Tr} {w : World} (hbx : Blk w bx 47 #[pv t.b]) (ht : t.Ok w sb) : SeqOk Try.prog 57 [pv bx] encW ((walk t 0).filter isLeaf) (fun x => x = bx ∨ t.Foot x) w := by
  intro l J Jx C hJ hJx hCT hCl h0 hY
  show Calls Try.prog 57 #[.func (.yield l) #[] #[], .pointer (some ⟨bx, 0, none⟩)] w fun e w' => (∃ v, e = .returned v) ∧ ∃ C', Ext C w w' ∧ Fresh w.heap.size C C' ∧ Lie w' C' ∧ (J ((walk t 0).filter isLeaf) C' w' ∨ ∃ pre, pre <+: (walk t 0).filter isLeaf ∧ Jx pre C' w')
  refine calls_bodyM 21 [(0, .func (.yield l) #[] #[]), (1, .pointer (some ⟨bx, 0, none⟩))] Try.func57 rfl (by kernel_rfl) (by kernel_rfl) (by kernel_rfl) fun a hS => ?_
  have hE0 : Ext [] w w := Ext.refl _ _
  refine wpIn_seq_k fun K1 hK1 => ?_
  refine region 1 (by kernel_rfl) ?_
  refine eff_box wide_wide (r := 0) (cs := #[.func (.yield l) #[] #[]]) (T := 108) (d := (some 2)) hS (by kernel_rfl) fun a w2 hw3 hS => ?_
  have hn4 : bx ≠ w.heap.size := Nat.ne_of_lt hbx.lt
  have hB5 := Blk.at' hw3 (hbx.alloc _)
  have hB6 : Blk w2 (w.heap.size) 108 #[.func (.yield l) #[] #[]] := by rw [hw3]; exact Blk.new _ _ _
  have hs7 : w.heap.size ≤ w.heap.size := hE0.size
  have hE8 : Ext [] w w2 := by rw [hw3]; exact hE0.alloc _
  refine seg_end ?_
  refine hK1 _ _ ?_
  refine wpIn_seq_k fun K9 hK9 => ?_
  refine region 2 (by kernel_rfl) ?_
  refine seg wide_wide [.ld (.pointer (some ⟨t.b, 0, none⟩))] [0, 1, 2, 5] [w2.cell? ⟨bx, 0, none⟩ = some (.pointer (some ⟨t.b, 0, none⟩))] [(0, .func (.yield l) #[] #[]), (1, .pointer (some ⟨bx, 0, none⟩)), (2, .pointer (some ⟨w.heap.size, 0, none⟩)), (5, .pointer (some ⟨t.b, 0, none⟩))] 1 1 hS (by kernel_rfl) (by kernel_rfl) (by kernel_rfl) (.cons (hB5.cell 0 rfl) .nil) fun a hS => ?_
  refine eff_call wide_wide (r := 0) (f := 29) (vs := [.pointer (some ⟨t.b, 0, none⟩)]) (cap := #[]) (d := (some 6)) hS (by kernel_rfl) Try.call29 #[.pointer (some ⟨t.b, 0, none⟩)] (by kernel_rfl) (Walk_any t.b w2) ?_
  rintro _ ww ⟨rfl, hw10⟩
  refine ⟨_, rfl, fun a hS => ?_⟩
  have hbx2 : Blk ww w2.heap.size 47 #[pv t.b] := by rw [hw10]; exact Blk.new _ _ _
  have hEw : Ext [] w2 ww := by rw [hw10]; exact (Ext.refl _ _).alloc _
  have hE2 := hE8.trans0 hEw
  have hB11 := hB5.ext hEw (by simp)
  have hB12 := hB6.ext hEw (by simp)
  refine seg_end ?_
  refine hK9 _ _ ?_
  refine wpIn_block ?_
  replace hS := hS.keepTo [2, 6] (m' := [(2, .pointer (some ⟨w.heap.size, 0, none⟩)), (6, .func (.func 55) #[] #[.pointer (some ⟨w2.heap.size, 0, none⟩)])]) (by kernel_rfl)
  have hyb := hB12
  have hybn := hs7
  have htw := ht.ext hE2 t (by simp)
  have hJw : J [] C ww := hJ _ _ _ _ _ h0 hE2 (by simp)
  have hybC : w.heap.size ∉ C := fun h => by have := hCl _ h; omega
  refine range_out (gf := 55) (lb := #[pv w2.heap.size]) (enc := encW) (xs := walk t 0) (T := fun x => x = w2.heap.size ∨ t.Foot x)
    (fun pre Cx W => J (pre.filter isLeaf) Cx W) (fun c pre Cx W => c = .ret ∧ Jx (pre.filter isLeaf) Cx W) C (fun q => [(2, .pointer (some ⟨w.heap.size, 0, none⟩)), (3, .int .i64 q.1), (4, .pointer (some ⟨q.2.b, 0, none⟩))]) hS rfl Try.call55 ?_ ?_ ?_ ?_ (fun _ => rfl) rfl ?_ ?_ ?_ ?_ ?_ ?_ ?_
  · intro W hEW _
    exact Walk1_any (hbx2.ext hEW (by simp)) (htw.ext hEW t (by simp))
  · rintro b (rfl | hb)
    · exact hbx2.lt
    · exact htw.foot_lt hb
  · intro b hb hT
    rcases hT with hT | hT
    · have h1 := hCl b hb
      have h2 : w.heap.size ≤ w2.heap.size := hE8.size
      omega
    · exact hCT b hb (.inr hT)
  · exact hCl.ext hE2
  · exact fun s Cx M W W' h hE hM => hJ _ _ _ _ _ h hE (fun b hb => ⟨Nat.le_trans hE2.size (hM b hb).1, (hM b hb).2⟩)
  · exact fun c s Cx M W W' h hE hM => ⟨h.1, hJx _ _ _ _ _ h.2 hE (fun b hb => ⟨Nat.le_trans hE2.size (hM b hb).1, (hM b hb).2⟩)⟩
  · exact hJw
  · intro l2 x a' W K hS hK
    refine wpIn_seq_k fun K13 hK13 => ?_
    refine region 1 (by kernel_rfl) ?_
    refine seg (wide_wide.inRound l2) [.p] [2, 7, 8, 3] [] [(2, .pointer (some ⟨w.heap.size, 0, none⟩)), (7, .int .i64 x.1), (8, x.2.ptr), (3, .int .i64 x.1)] 1 0 hS (by kernel_rfl) (by kernel_rfl) (by kernel_rfl) .nil fun a hS => ?_
    refine seg_end ?_
    refine hK13 _ _ ?_
    refine region 1 (by kernel_rfl) ?_
    refine seg (wide_wide.inRound l2) [.p] [2, 7, 8, 3, 4] [] [(2, .pointer (some ⟨w.heap.size, 0, none⟩)), (7, .int .i64 x.1), (8, x.2.ptr), (3, .int .i64 x.1), (4, x.2.ptr)] 1 0 hS (by kernel_rfl) (by kernel_rfl) (by kernel_rfl) .nil fun a hS => ?_
    refine seg_end ?_
    exact hK _ (hS.keepTo [2, 3, 4] (by kernel_rfl))
  · rintro l2 pre x post Cx W a hxs hj hlieW hfrW hnl hrec hEW hS
    replace hS : St 21 [] [(2, .pointer (some ⟨w.heap.size, 0, none⟩)), (3, .int .i64 x.1), (4, .pointer (some ⟨x.2.b, 0, none⟩))] a := hS
    obtain ⟨hxok, hxf⟩ := walk_ok t ht 0 x (by rw [hxs]; simp)
    have hxW : x.2.Ok W sb := (hxok.ext hE2 _ (by simp)).ext hEW _ (fun b hb hf => hCT b hb (.inr (hxf b hf)))
    have hybW := hyb.ext hEW hybC
    have hfr0 : Fresh w.heap.size C Cx := hfrW.mono hE2.size
    have hxN : Blk W x.2.b 106 #[.pointer (some ⟨sb, 0, none⟩), .int .i64 x.2.num, .int .i64 x.2.kd, .int .i64 x.2.nn, .int .i64 x.2.lk, .int .i64 x.2.ls, .int .i64 x.2.ll, .int .i64 x.2.lr, x.2.ks, .int .i64 x.2.wd, .int .i64 x.2.lf, .int .i64 x.2.tt, .bool x.2.fl] := hxW.blk
    refine wpIn_block ?_
    refine wpIn_seq_k fun K14 hK14 => ?_
    by_cases hk : x.2.kd = 1
    · -- an alternative
      have hlf : isLeaf x = true := by simp [isLeaf, hk]
      have hfx : (pre ++ [x]).filter isLeaf = pre.filter isLeaf ++ [x] := by rw [List.filter_append, List.filter_cons_of_pos hlf]; rfl
      refine region 12 (by kernel_rfl) ?_
      refine seg (wide_wide.inRound l2) [.p, .p, .p, .ld (.int .i64 x.2.kd), .as (.bool true), .p, .ld (.func (.yield l) #[] #[]), .p, .p] [2, 3, 4, 14, 15, 16, 17] [W.cell? ⟨x.2.b, 2, none⟩ = some (.int .i64 x.2.kd), Value.bool (((x.2.kd : Int) == 1)) = .bool true, W.cell? ⟨w.heap.size, 0, none⟩ = some (.func (.yield l) #[] #[])] [(2, .pointer (some ⟨w.heap.size, 0, none⟩)), (3, .int .i64 x.1), (4, .pointer (some ⟨x.2.b, 0, none⟩)), (14, .bool true), (15, .func (.yield l) #[] #[]), (16, .int .i64 x.1), (17, .pointer (some ⟨x.2.b, 0, none⟩))] 9 3 hS (by kernel_rfl) (by kernel_rfl) (by kernel_rfl) (.cons (hxN.cell 2 rfl) (.cons (as_eq_t (hk)) (.cons (hybW.cell 0 rfl) .nil))) fun a hS => ?_
      refine eff_yield (wide_wide.inRound l2) (r := 2) (l := l) (vs := encW x) (cap := #[]) (d := (some 18)) hS (by kernel_rfl) (hY (pre.filter isLeaf) x (post.filter isLeaf) Cx W (by rw [hxs, List.filter_append, List.filter_cons_of_pos hlf]) hj hlieW hfr0) fun b w2 a hR hS => ?_
      refine seg (wide_wide.inRound l2) [.p, .p] [2, 3, 4, 20] [] [(2, .pointer (some ⟨w.heap.size, 0, none⟩)), (3, .int .i64 x.1), (4, .pointer (some ⟨x.2.b, 0, none⟩)), (20, .bool (!b))] 12 0 hS (by kernel_rfl) (by kernel_rfl) (by kernel_rfl) .nil fun a hS => ?_
      refine seg_end ?_
      refine hK14 _ _ ?_
      refine cond_b hS rfl (fun hb15 => ?_) (fun hb15 => ?_)
      · -- !b is true
        replace hb15 := hb15
        obtain rfl : b = false := by simpa using hb15
        obtain ⟨C2, hE3, hf3, hl3, hx3⟩ := hR
        refine wpIn_ret ?_
        refine inBlock_ret ?_
        exact left_ret hE3 hf3 hl3 ⟨rfl, by rw [hfx]; exact hx3⟩
      · -- !b is false
        replace hb15 := hb15
        obtain rfl : b = true := by simpa using hb15
        obtain ⟨C2, hE3, hf3, hl3, hx3⟩ := hR
        refine wpIn_skip ?_
        refine inBlock_normal ?_
        exact left_normal hE3 hf3 hl3 (by rw [hfx]; exact hx3)
    · -- an alternative
      have hlf : ¬isLeaf x = true := by simp [isLeaf, hk]
      have hfx : (pre ++ [x]).filter isLeaf = pre.filter isLeaf := by rw [List.filter_append, List.filter_cons_of_neg hlf]; simp
      refine region 12 (by kernel_rfl) ?_
      refine seg (wide_wide.inRound l2) [.p, .p, .p, .ld (.int .i64 x.2.kd), .as (.bool false), .p, .no, .no, .no, .no, .no, .p] [2, 3, 4, 20] [W.cell? ⟨x.2.b, 2, none⟩ = some (.int .i64 x.2.kd), Value.bool (((x.2.kd : Int) == 1)) = .bool false] [(2, .pointer (some ⟨w.heap.size, 0, none⟩)), (3, .int .i64 x.1), (4, .pointer (some ⟨x.2.b, 0, none⟩)), (20, .bool false)] 12 0 hS (by kernel_rfl) (by kernel_rfl) (by kernel_rfl) (.cons (hxN.cell 2 rfl) (.cons (as_eq_f (hk)) .nil)) fun a hS => ?_
      refine seg_end ?_
      refine hK14 _ _ ?_
      refine cond_f hS rfl ?_
      refine wpIn_skip ?_
      refine inBlock_normal ?_
      exact left_normal (Ext.refl _ _) (Fresh.refl _ _) hlieW (by rw [hfx]; exact hj)
  · intro Cx W a hE7 hfr7 hlie7 hD7 hj7 hS
    replace hS : St 21 ([ww.heap.size].map dmark) [(2, .pointer (some ⟨w.heap.size, 0, none⟩))] a := hS.keepTo [2] (by kernel_rfl)
    refine inBlock_normal ?_
    refine endM0 [ww.heap.size] hS Try.results57 (by intro D hD; simp at hD; subst hD; exact hD7) (by simp) fun w9 hE9 => ?_
    have hDC : ww.heap.size ∉ Cx := fun h => by
      rcases hfr7 _ h with h | h
      · have := (hCl.ext hE2) _ h; omega
      · omega
    refine ⟨⟨_, rfl⟩, Cx, (hE2.of0.trans hE7 (fun b hb => .inl hb)).trans hE9 (by intro b hb; simp at hb; subst hb; exact .inr hE2.size), hfr7.mono (by have := hE2.size; omega), hlie7.ext hE9, .inl (hJ _ _ _ _ _ hj7 hE9 (by intro b hb; simp at hb; subst hb; exact ⟨hE2.size, hDC⟩))⟩
  · rintro c pre Cx W a hE7 hfr7 hlie7 hD7 hpre ⟨rfl, hj7⟩ hS
    replace hS : St 21 ([ww.heap.size].map dmark) [(2, .pointer (some ⟨w.heap.size, 0, none⟩))] a := hS.keepTo [2] (by kernel_rfl)
    refine wpIn_ret ?_
    refine retM0 [ww.heap.size] hS Try.results57 (by intro D hD; simp at hD; subst hD; exact hD7) (by simp) fun w9 hE9 => ?_
    have hDC : ww.heap.size ∉ Cx := fun h => by
      rcases hfr7 _ h with h | h
      · have := (hCl.ext hE2) _ h; omega
      · omega
    refine ⟨⟨_, rfl⟩, Cx, (hE2.of0.trans hE7 (fun b hb => .inl hb)).trans hE9 (by intro b hb; simp at hb; subst hb; exact .inr hE2.size), hfr7.mono (by have := hE2.size; omega), hlie7.ext hE9, .inr ⟨pre.filter isLeaf, hpre.filter _, hJx _ _ _ _ _ hj7 hE9 (by intro b hb; simp at hb; subst hb; exact ⟨hE2.size, hDC⟩)⟩⟩

end Go.Proofs.Ytpglmeeledmkoaa
