import Derived.Test.YtpglmeeledmkoaaProg
import Derived.Test.YtpglmeeledmkoaaVc
import Derived.Test.YtpglmeeledmkoaaT34
import Derived.Test.YtpglmeeledmkoaaCw
namespace Go.Proofs.Ytpglmeeledmkoaa
open Go.Vc

theorem Mv_1 {cb rc : Nat} {wh ai : Int} {b : Bool} {MM : List Nat} {X Y : World → Prop} {w : World} (hM : ∀ x ∈ MM, x < w.heap.size) (hP : ∀ w1, Ext [] w w1 → Calls Try.prog 43 #[(Pv cb), I6 ai] w1 fun e w' => e = .returned (.bool b) ∧ X w' ∧ Ext MM w1 w') (hR : ∀ w1, X w1 → Calls Try.prog 71 #[(Pv rc), I6 ai] w1 fun e w' => e = .returned (.bool b) ∧ Y w') :
  Calls Try.prog 47 #[(Pv cb), (Pv rc), .agg #[I6 wh, I6 1, I6 ai]] w fun e w' => e = .returned (.bool true) ∧ Y w' := by
 refine calls_body 52 [(0, (Pv cb)), (1, (Pv rc)), (2, .agg #[I6 wh, I6 1, I6 ai])] Try.func47 rfl (by kernel_rfl) (by kernel_rfl) (by kernel_rfl) fun a hS => ?_
 have hE0 : Ext [] w w := Ext.refl _ _
 refine sq fun K1 hK1 => ?_
 refine rgn 2 ?_
 refine eff_box wide_wide (r := 1) (cs := #[I6 wh, I6 1, I6 ai]) (T := 88) (d := (some 5)) hS (by kernel_rfl) fun a w2 hw3 hS => ?_
 have hB4 : Blk w2 (w.heap.size) 88 #[I6 wh, I6 1, I6 ai] := by rw [hw3]; exact Blk.new _ _ _
 have hs5 : w.heap.size ≤ w.heap.size := hE0.size
 have hE6 : Ext [] w w2 := by rw [hw3]; exact hE0.alloc _
 refine sg wide_wide [.p] [] [(0, (Pv cb)), (1, (Pv rc)), (2, .agg #[I6 wh, I6 1, I6 ai]), (5, (Pv w.heap.size)), (6, .bool false)] 2 0 hS .nil fun a hS => ?_
 refine seg_end ?_
 refine hK1 _ _ ?_
 refine sq fun K7 hK7 => ?_
 refine sq fun K8 hK8 => ?_
 refine rgn 2 ?_
 refine sg wide_wide [.p, .ld (I6 1)] [_] [(0, (Pv cb)), (1, (Pv rc)), (2, .agg #[I6 wh, I6 1, I6 ai]), (5, (Pv w.heap.size)), (6, .bool false), (8, I6 1)] 2 0 hS (.cons (hB4.cell 1 rfl) .nil) fun a hS => ?_
 refine seg_end ?_
 refine hK8 _ _ ?_
 refine wpIn_block ?_
 refine sq fun K9 hK9 => ?_
 refine rgn 2 ?_
 refine sg wide_wide [.p, .p] [] [(0, (Pv cb)), (1, (Pv rc)), (2, .agg #[I6 wh, I6 1, I6 ai]), (5, (Pv w.heap.size)), (6, .bool false), (8, I6 1), (9, .bool true)] 2 0 hS .nil fun a hS => ?_
 refine seg_end ?_
 refine hK9 _ _ ?_
 refine cond_t hS rfl ?_
 refine sq fun K10 hK10 => ?_
 have hEq : Ext [] w w2.drew := by
  have h : Ext [] w w2 := hE6
  exact h.drew
 refine region_gh2 (G := World × World) wide_wide [.q .p, .q .p, .q (.ld (I6 ai)), .e, .q .p, .q .p, .q (.ld (I6 ai)), .e, .q (.as (.bool true)), .q .p] [0, 0, 0, 0, 0, 0, 0, 1, 2, 2] [0, 0, 0, 0, 1, 1, 1, 1, 2, 2] [0, 0, 2, 7, 0, 0, 32, 127, 255, 511] [3, 7] [(3, 0), (7, 1)] 2 (fun ⟨wp, wr⟩ => ([(0, (Pv cb)), (1, (Pv rc)), (2, .agg #[I6 wh, I6 1, I6 ai]), (5, (Pv w.heap.size)), (8, I6 1), (9, .bool true), (6, .bool true), (11, (Pv cb)), (12, (Po w.heap.size 2)), (13, I6 ai), (14, .bool b), (15, (Pv rc)), (16, (Po w.heap.size 2)), (17, I6 ai), (18, .bool b), (19, .bool true)] : Fm)) (fun ⟨wp, wr⟩ => [w2.drew, wp, wr]) (w2.drew) (fun e ⟨wp, wr⟩ => hAt [True, (X wp) ∧ (Ext MM (w2.drew) wp) ∧ True, (X wp) ∧ (Ext MM (w2.drew) wp) ∧ (Y wr) ∧ True] e) (fun ⟨wp, wr⟩ w' => [(2, [w'.cell? ⟨w.heap.size, 2, none⟩ = some (I6 ai)]), (6, [w'.cell? ⟨w.heap.size, 2, none⟩ = some (I6 ai)]), (8, [Value.bool ((b == b)) = .bool true])]) (w, w) [0, 1, 2, 5, 8, 9] [] hS (by kernel_rfl) (by kernel_rfl) (by kernel_rfl) (by kernel_rfl) (fun ⟨wp, wr⟩ _ => by kernel_rfl) (by kernel_rfl) (by kernel_rfl) (by kernel_rfl) trivial ?_ (by kernel_rfl) ?_ ?_
 ·rintro e ⟨wp, wr⟩ w' hw hH
  refine (.cons ?_ (.cons ?_ (.cons ?_ .nil)))
  ·intro h1 h2
   obtain rfl : e = 0 := Nat.le_antisymm h2 h1
   have hwe : w2.drew = w' := (hw.trans (by kernel_rfl)).symm
   subst hwe
   clear hH
   exact (.cons ((hB4.drew : Blk w2.drew w.heap.size 88 (#[I6 wh, I6 1, I6 ai])).cell 2 rfl) .nil)
  ·intro h1 h2
   replace h1 : 0 ≤ e := h1
   replace h2 : e ≤ 1 := h2
   have he : e = 0 ∨ e = 1 := by omega
   rcases he with rfl | rfl
   ·have hwe : w2.drew = w' := (hw.trans (by kernel_rfl)).symm
    subst hwe
    clear hH
    exact (.cons ((hB4.drew : Blk w2.drew w.heap.size 88 (#[I6 wh, I6 1, I6 ai])).cell 2 rfl) .nil)
   ·have hwe : wp = w' := (hw.trans (by kernel_rfl)).symm
    subst hwe
    obtain ⟨hx, hEp, _⟩ := hH
    exact (.cons (((hB4.drew : Blk w2.drew w.heap.size 88 (#[I6 wh, I6 1, I6 ai])).ext hEp (fun hm => Nat.lt_irrefl _ (hM _ hm)) : Blk wp w.heap.size 88 (#[I6 wh, I6 1, I6 ai])).cell 2 rfl) .nil)
  ·intro h1 h2
   obtain rfl : e = 2 := Nat.le_antisymm h2 h1
   have hwe : wr = w' := (hw.trans (by kernel_rfl)).symm
   subst hwe
   obtain ⟨hx, hEp, hy, _⟩ := hH
   exact (.cons ((by simp)) .nil)
 ·refine (.cons ?eq11_3 (.cons ?eq11_7 .nil))
  ·rintro ⟨wp, wr⟩ hH
   clear hH
   refine eff_gh (w2.drew) (by kernel_rfl) ?_
   refine upon_call (f := 43) (vs := [(Pv cb), I6 ai]) (cap := #[]) (d := (some 14)) (by kernel_rfl) Try.call43 #[(Pv cb), I6 ai] (by kernel_rfl) (hP _ hEq) ?_
   rintro _ wp ⟨rfl, hx, hEp⟩
   exact ⟨_, rfl, ⟨(wp, wr), by kernel_rfl, by kernel_rfl, by kernel_rfl, ⟨hx, hEp, trivial⟩⟩⟩
  ·rintro ⟨wp, wr⟩ hH
   obtain ⟨hx, hEp, _⟩ := hH
   refine eff_gh (wp) (by kernel_rfl) ?_
   refine upon_call (f := 71) (vs := [(Pv rc), I6 ai]) (cap := #[]) (d := (some 18)) (by kernel_rfl) Try.call71 #[(Pv rc), I6 ai] (by kernel_rfl) (hR _ hx) ?_
   rintro _ wr ⟨rfl, hy⟩
   exact ⟨_, rfl, ⟨(wp, wr), by kernel_rfl, by kernel_rfl, by kernel_rfl, ⟨hx, hEp, hy, trivial⟩⟩⟩
 rintro ⟨wp, wr⟩ a w12 hS hw13 hH
 obtain ⟨hx, hEp, hy, _⟩ := hH
 replace hw13 : w12 = wr := hw13.trans (by kernel_rfl)
 replace hS := hS.kp [(0, (Pv cb)), (1, (Pv rc)), (2, .agg #[I6 wh, I6 1, I6 ai]), (5, (Pv w.heap.size)), (8, I6 1), (9, .bool true), (6, .bool true)]
 refine hK10 _ _ ?_
 refine wpIn_ret ?_
 refine inBlock_ret ?_
 refine then_ret ?_
 refine ret1 hS Try.results47 rfl ?_
 exact ⟨rfl, by rw [hw13]; exact hy⟩

theorem Mv_2 {cb rc : Nat} {wh ai : Int} {b : Bool} {MM : List Nat} {X Y : World → Prop} {w : World} (hM : ∀ x ∈ MM, x < w.heap.size) (hP : ∀ w1, Ext [] w w1 → Calls Try.prog 42 #[(Pv cb)] w1 fun e w' => e = .returned (.bool b) ∧ X w' ∧ Ext MM w1 w') (hR : ∀ w1, X w1 → Calls Try.prog 72 #[(Pv rc)] w1 fun e w' => e = .returned (.bool b) ∧ Y w') :
  Calls Try.prog 47 #[(Pv cb), (Pv rc), .agg #[I6 wh, I6 2, I6 ai]] w fun e w' => e = .returned (.bool true) ∧ Y w' := by
 refine calls_body 52 [(0, (Pv cb)), (1, (Pv rc)), (2, .agg #[I6 wh, I6 2, I6 ai])] Try.func47 rfl (by kernel_rfl) (by kernel_rfl) (by kernel_rfl) fun a hS => ?_
 have hE0 : Ext [] w w := Ext.refl _ _
 refine sq fun K1 hK1 => ?_
 refine rgn 2 ?_
 refine eff_box wide_wide (r := 1) (cs := #[I6 wh, I6 2, I6 ai]) (T := 88) (d := (some 5)) hS (by kernel_rfl) fun a w2 hw3 hS => ?_
 have hB4 : Blk w2 (w.heap.size) 88 #[I6 wh, I6 2, I6 ai] := by rw [hw3]; exact Blk.new _ _ _
 have hs5 : w.heap.size ≤ w.heap.size := hE0.size
 have hE6 : Ext [] w w2 := by rw [hw3]; exact hE0.alloc _
 refine sg wide_wide [.p] [] [(0, (Pv cb)), (1, (Pv rc)), (2, .agg #[I6 wh, I6 2, I6 ai]), (5, (Pv w.heap.size)), (6, .bool false)] 2 0 hS .nil fun a hS => ?_
 refine seg_end ?_
 refine hK1 _ _ ?_
 refine sq fun K7 hK7 => ?_
 refine sq fun K8 hK8 => ?_
 refine rgn 2 ?_
 refine sg wide_wide [.p, .ld (I6 2)] [_] [(0, (Pv cb)), (1, (Pv rc)), (2, .agg #[I6 wh, I6 2, I6 ai]), (5, (Pv w.heap.size)), (6, .bool false), (8, I6 2)] 2 0 hS (.cons (hB4.cell 1 rfl) .nil) fun a hS => ?_
 refine seg_end ?_
 refine hK8 _ _ ?_
 refine wpIn_block ?_
 refine sq fun K9 hK9 => ?_
 refine rgn 2 ?_
 refine sg wide_wide [.p, .p] [] [(0, (Pv cb)), (1, (Pv rc)), (2, .agg #[I6 wh, I6 2, I6 ai]), (5, (Pv w.heap.size)), (6, .bool false), (8, I6 2), (9, .bool false)] 2 0 hS .nil fun a hS => ?_
 refine seg_end ?_
 refine hK9 _ _ ?_
 refine cond_f hS rfl ?_
 refine sq fun K10 hK10 => ?_
 refine rgn 2 ?_
 refine sg wide_wide [.p, .p] [] [(0, (Pv cb)), (1, (Pv rc)), (2, .agg #[I6 wh, I6 2, I6 ai]), (5, (Pv w.heap.size)), (6, .bool false), (8, I6 2), (9, .bool false), (20, .bool true)] 2 0 hS .nil fun a hS => ?_
 refine seg_end ?_
 refine hK10 _ _ ?_
 refine cond_t hS rfl ?_
 refine sq fun K11 hK11 => ?_
 refine rgn 6 ?_
 refine sg wide_wide [.p] [] [(0, (Pv cb)), (1, (Pv rc)), (2, .agg #[I6 wh, I6 2, I6 ai]), (5, (Pv w.heap.size)), (6, .bool false), (8, I6 2), (9, .bool false), (20, .bool true), (22, (Pv cb))] 1 5 hS .nil fun a hS => ?_
 refine eff_call wide_wide (r := 4) (f := 42) (vs := [(Pv cb)]) (cap := #[]) (d := (some 23)) hS (by kernel_rfl) Try.call42 #[(Pv cb)] (by kernel_rfl) (hP _ hE6) ?_
 rintro _ wp ⟨rfl, hx, hEp⟩
 refine ⟨_, rfl, fun a hS => ?_⟩
 refine sg wide_wide [.p] [] [(0, (Pv cb)), (1, (Pv rc)), (2, .agg #[I6 wh, I6 2, I6 ai]), (5, (Pv w.heap.size)), (6, .bool false), (8, I6 2), (9, .bool false), (20, .bool true), (23, .bool b), (24, (Pv rc))] 3 3 hS .nil fun a hS => ?_
 refine eff_call wide_wide (r := 2) (f := 72) (vs := [(Pv rc)]) (cap := #[]) (d := (some 25)) hS (by kernel_rfl) Try.call72 #[(Pv rc)] (by kernel_rfl) (hR _ hx) ?_
 rintro _ wr ⟨rfl, hy⟩
 refine ⟨_, rfl, fun a hS => ?_⟩
 refine sg wide_wide [.as (.bool true), .p] [Value.bool ((b == b)) = .bool true] [(0, (Pv cb)), (1, (Pv rc)), (2, .agg #[I6 wh, I6 2, I6 ai]), (5, (Pv w.heap.size)), (6, .bool true), (8, I6 2), (9, .bool false), (20, .bool true)] 6 0 hS (.cons ((by simp)) .nil) fun a hS => ?_
 refine seg_end ?_
 refine hK11 _ _ ?_
 refine wpIn_ret ?_
 refine inBlock_ret ?_
 refine then_ret ?_
 refine ret1 hS Try.results47 rfl ?_
 exact ⟨rfl, hy⟩

theorem Mv_3 {cb rc : Nat} {wh ai : Int} {b : Bool} {MM : List Nat} {X Y : World → Prop} {w : World} (hM : ∀ x ∈ MM, x < w.heap.size) (hP : ∀ w1, Ext [] w w1 → Calls Try.prog 45 #[(Pv cb)] w1 fun e w' => e = .returned (.bool b) ∧ X w' ∧ Ext MM w1 w') (hR : ∀ w1, X w1 → Calls Try.prog 73 #[(Pv rc), I6 1] w1 fun e w' => e = .returned (.bool b) ∧ Y w') :
  Calls Try.prog 47 #[(Pv cb), (Pv rc), .agg #[I6 wh, I6 3, I6 ai]] w fun e w' => e = .returned (.bool true) ∧ Y w' := by
 refine calls_body 52 [(0, (Pv cb)), (1, (Pv rc)), (2, .agg #[I6 wh, I6 3, I6 ai])] Try.func47 rfl (by kernel_rfl) (by kernel_rfl) (by kernel_rfl) fun a hS => ?_
 have hE0 : Ext [] w w := Ext.refl _ _
 refine sq fun K1 hK1 => ?_
 refine rgn 2 ?_
 refine eff_box wide_wide (r := 1) (cs := #[I6 wh, I6 3, I6 ai]) (T := 88) (d := (some 5)) hS (by kernel_rfl) fun a w2 hw3 hS => ?_
 have hB4 : Blk w2 (w.heap.size) 88 #[I6 wh, I6 3, I6 ai] := by rw [hw3]; exact Blk.new _ _ _
 have hs5 : w.heap.size ≤ w.heap.size := hE0.size
 have hE6 : Ext [] w w2 := by rw [hw3]; exact hE0.alloc _
 refine sg wide_wide [.p] [] [(0, (Pv cb)), (1, (Pv rc)), (2, .agg #[I6 wh, I6 3, I6 ai]), (5, (Pv w.heap.size)), (6, .bool false)] 2 0 hS .nil fun a hS => ?_
 refine seg_end ?_
 refine hK1 _ _ ?_
 refine sq fun K7 hK7 => ?_
 refine sq fun K8 hK8 => ?_
 refine rgn 2 ?_
 refine sg wide_wide [.p, .ld (I6 3)] [_] [(0, (Pv cb)), (1, (Pv rc)), (2, .agg #[I6 wh, I6 3, I6 ai]), (5, (Pv w.heap.size)), (6, .bool false), (8, I6 3)] 2 0 hS (.cons (hB4.cell 1 rfl) .nil) fun a hS => ?_
 refine seg_end ?_
 refine hK8 _ _ ?_
 refine wpIn_block ?_
 refine sq fun K9 hK9 => ?_
 refine rgn 2 ?_
 refine sg wide_wide [.p, .p] [] [(0, (Pv cb)), (1, (Pv rc)), (2, .agg #[I6 wh, I6 3, I6 ai]), (5, (Pv w.heap.size)), (6, .bool false), (8, I6 3), (9, .bool false)] 2 0 hS .nil fun a hS => ?_
 refine seg_end ?_
 refine hK9 _ _ ?_
 refine cond_f hS rfl ?_
 refine sq fun K10 hK10 => ?_
 refine rgn 2 ?_
 refine sg wide_wide [.p, .p] [] [(0, (Pv cb)), (1, (Pv rc)), (2, .agg #[I6 wh, I6 3, I6 ai]), (5, (Pv w.heap.size)), (6, .bool false), (8, I6 3), (9, .bool false), (20, .bool false)] 2 0 hS .nil fun a hS => ?_
 refine seg_end ?_
 refine hK10 _ _ ?_
 refine cond_f hS rfl ?_
 refine sq fun K11 hK11 => ?_
 refine rgn 2 ?_
 refine sg wide_wide [.p, .p] [] [(0, (Pv cb)), (1, (Pv rc)), (2, .agg #[I6 wh, I6 3, I6 ai]), (5, (Pv w.heap.size)), (6, .bool false), (8, I6 3), (9, .bool false), (20, .bool false), (27, .bool true)] 2 0 hS .nil fun a hS => ?_
 refine seg_end ?_
 refine hK11 _ _ ?_
 refine cond_t hS rfl ?_
 refine sq fun K12 hK12 => ?_
 refine rgn 6 ?_
 refine sg wide_wide [.p] [] [(0, (Pv cb)), (1, (Pv rc)), (2, .agg #[I6 wh, I6 3, I6 ai]), (5, (Pv w.heap.size)), (6, .bool false), (8, I6 3), (9, .bool false), (20, .bool false), (27, .bool true), (29, (Pv cb))] 1 5 hS .nil fun a hS => ?_
 refine eff_call wide_wide (r := 4) (f := 45) (vs := [(Pv cb)]) (cap := #[]) (d := (some 30)) hS (by kernel_rfl) Try.call45 #[(Pv cb)] (by kernel_rfl) (hP _ hE6) ?_
 rintro _ wp ⟨rfl, hx, hEp⟩
 refine ⟨_, rfl, fun a hS => ?_⟩
 refine sg wide_wide [.p] [] [(0, (Pv cb)), (1, (Pv rc)), (2, .agg #[I6 wh, I6 3, I6 ai]), (5, (Pv w.heap.size)), (6, .bool false), (8, I6 3), (9, .bool false), (20, .bool false), (27, .bool true), (30, .bool b), (31, (Pv rc))] 3 3 hS .nil fun a hS => ?_
 refine eff_call wide_wide (r := 2) (f := 73) (vs := [(Pv rc), I6 1]) (cap := #[]) (d := (some 32)) hS (by kernel_rfl) Try.call73 #[(Pv rc), I6 1] (by kernel_rfl) (hR _ hx) ?_
 rintro _ wr ⟨rfl, hy⟩
 refine ⟨_, rfl, fun a hS => ?_⟩
 refine sg wide_wide [.as (.bool true), .p] [Value.bool ((b == b)) = .bool true] [(0, (Pv cb)), (1, (Pv rc)), (2, .agg #[I6 wh, I6 3, I6 ai]), (5, (Pv w.heap.size)), (6, .bool true), (8, I6 3), (9, .bool false), (20, .bool false), (27, .bool true)] 6 0 hS (.cons ((by simp)) .nil) fun a hS => ?_
 refine seg_end ?_
 refine hK12 _ _ ?_
 refine wpIn_ret ?_
 refine inBlock_ret ?_
 refine then_ret ?_
 refine ret1 hS Try.results47 rfl ?_
 exact ⟨rfl, hy⟩

theorem Mv_4 {cb rc : Nat} {wh ai : Int} {b : Bool} {MM : List Nat} {X Y : World → Prop} {w : World} (hM : ∀ x ∈ MM, x < w.heap.size) (hP : ∀ w1, Ext [] w w1 → Calls Try.prog 46 #[(Pv cb)] w1 fun e w' => e = .returned (.bool b) ∧ X w' ∧ Ext MM w1 w') (hR : ∀ w1, X w1 → Calls Try.prog 73 #[(Pv rc), I6 (-1)] w1 fun e w' => e = .returned (.bool b) ∧ Y w') :
  Calls Try.prog 47 #[(Pv cb), (Pv rc), .agg #[I6 wh, I6 4, I6 ai]] w fun e w' => e = .returned (.bool true) ∧ Y w' := by
 refine calls_body 52 [(0, (Pv cb)), (1, (Pv rc)), (2, .agg #[I6 wh, I6 4, I6 ai])] Try.func47 rfl (by kernel_rfl) (by kernel_rfl) (by kernel_rfl) fun a hS => ?_
 have hE0 : Ext [] w w := Ext.refl _ _
 refine sq fun K1 hK1 => ?_
 refine rgn 2 ?_
 refine eff_box wide_wide (r := 1) (cs := #[I6 wh, I6 4, I6 ai]) (T := 88) (d := (some 5)) hS (by kernel_rfl) fun a w2 hw3 hS => ?_
 have hB4 : Blk w2 (w.heap.size) 88 #[I6 wh, I6 4, I6 ai] := by rw [hw3]; exact Blk.new _ _ _
 have hs5 : w.heap.size ≤ w.heap.size := hE0.size
 have hE6 : Ext [] w w2 := by rw [hw3]; exact hE0.alloc _
 refine sg wide_wide [.p] [] [(0, (Pv cb)), (1, (Pv rc)), (2, .agg #[I6 wh, I6 4, I6 ai]), (5, (Pv w.heap.size)), (6, .bool false)] 2 0 hS .nil fun a hS => ?_
 refine seg_end ?_
 refine hK1 _ _ ?_
 refine sq fun K7 hK7 => ?_
 refine sq fun K8 hK8 => ?_
 refine rgn 2 ?_
 refine sg wide_wide [.p, .ld (I6 4)] [_] [(0, (Pv cb)), (1, (Pv rc)), (2, .agg #[I6 wh, I6 4, I6 ai]), (5, (Pv w.heap.size)), (6, .bool false), (8, I6 4)] 2 0 hS (.cons (hB4.cell 1 rfl) .nil) fun a hS => ?_
 refine seg_end ?_
 refine hK8 _ _ ?_
 refine wpIn_block ?_
 refine sq fun K9 hK9 => ?_
 refine rgn 2 ?_
 refine sg wide_wide [.p, .p] [] [(0, (Pv cb)), (1, (Pv rc)), (2, .agg #[I6 wh, I6 4, I6 ai]), (5, (Pv w.heap.size)), (6, .bool false), (8, I6 4), (9, .bool false)] 2 0 hS .nil fun a hS => ?_
 refine seg_end ?_
 refine hK9 _ _ ?_
 refine cond_f hS rfl ?_
 refine sq fun K10 hK10 => ?_
 refine rgn 2 ?_
 refine sg wide_wide [.p, .p] [] [(0, (Pv cb)), (1, (Pv rc)), (2, .agg #[I6 wh, I6 4, I6 ai]), (5, (Pv w.heap.size)), (6, .bool false), (8, I6 4), (9, .bool false), (20, .bool false)] 2 0 hS .nil fun a hS => ?_
 refine seg_end ?_
 refine hK10 _ _ ?_
 refine cond_f hS rfl ?_
 refine sq fun K11 hK11 => ?_
 refine rgn 2 ?_
 refine sg wide_wide [.p, .p] [] [(0, (Pv cb)), (1, (Pv rc)), (2, .agg #[I6 wh, I6 4, I6 ai]), (5, (Pv w.heap.size)), (6, .bool false), (8, I6 4), (9, .bool false), (20, .bool false), (27, .bool false)] 2 0 hS .nil fun a hS => ?_
 refine seg_end ?_
 refine hK11 _ _ ?_
 refine cond_f hS rfl ?_
 refine sq fun K12 hK12 => ?_
 refine rgn 2 ?_
 refine sg wide_wide [.p, .p] [] [(0, (Pv cb)), (1, (Pv rc)), (2, .agg #[I6 wh, I6 4, I6 ai]), (5, (Pv w.heap.size)), (6, .bool false), (8, I6 4), (9, .bool false), (20, .bool false), (27, .bool false), (34, .bool true)] 2 0 hS .nil fun a hS => ?_
 refine seg_end ?_
 refine hK12 _ _ ?_
 refine cond_t hS rfl ?_
 refine sq fun K13 hK13 => ?_
 refine rgn 6 ?_
 refine sg wide_wide [.p] [] [(0, (Pv cb)), (1, (Pv rc)), (2, .agg #[I6 wh, I6 4, I6 ai]), (5, (Pv w.heap.size)), (6, .bool false), (8, I6 4), (9, .bool false), (20, .bool false), (27, .bool false), (34, .bool true), (36, (Pv cb))] 1 5 hS .nil fun a hS => ?_
 refine eff_call wide_wide (r := 4) (f := 46) (vs := [(Pv cb)]) (cap := #[]) (d := (some 37)) hS (by kernel_rfl) Try.call46 #[(Pv cb)] (by kernel_rfl) (hP _ hE6) ?_
 rintro _ wp ⟨rfl, hx, hEp⟩
 refine ⟨_, rfl, fun a hS => ?_⟩
 refine sg wide_wide [.p] [] [(0, (Pv cb)), (1, (Pv rc)), (2, .agg #[I6 wh, I6 4, I6 ai]), (5, (Pv w.heap.size)), (6, .bool false), (8, I6 4), (9, .bool false), (20, .bool false), (27, .bool false), (34, .bool true), (37, .bool b), (38, (Pv rc))] 3 3 hS .nil fun a hS => ?_
 refine eff_call wide_wide (r := 2) (f := 73) (vs := [(Pv rc), I6 (-1)]) (cap := #[]) (d := (some 39)) hS (by kernel_rfl) Try.call73 #[(Pv rc), I6 (-1)] (by kernel_rfl) (hR _ hx) ?_
 rintro _ wr ⟨rfl, hy⟩
 refine ⟨_, rfl, fun a hS => ?_⟩
 refine sg wide_wide [.as (.bool true), .p] [Value.bool ((b == b)) = .bool true] [(0, (Pv cb)), (1, (Pv rc)), (2, .agg #[I6 wh, I6 4, I6 ai]), (5, (Pv w.heap.size)), (6, .bool true), (8, I6 4), (9, .bool false), (20, .bool false), (27, .bool false), (34, .bool true)] 6 0 hS (.cons ((by simp)) .nil) fun a hS => ?_
 refine seg_end ?_
 refine hK13 _ _ ?_
 refine wpIn_ret ?_
 refine inBlock_ret ?_
 refine then_ret ?_
 refine ret1 hS Try.results47 rfl ?_
 exact ⟨rfl, hy⟩

theorem Mv_5 {cb rc : Nat} {wh ai : Int} {b : Bool} {MM : List Nat} {X Y : World → Prop} {w : World} (hM : ∀ x ∈ MM, x < w.heap.size) (hP : ∀ w1, Ext [] w w1 → Calls Try.prog 38 #[(Pv cb), I6 ai] w1 fun e w' => e = .returned (.bool b) ∧ X w' ∧ Ext MM w1 w') (hR : ∀ w1, X w1 → Calls Try.prog 74 #[(Pv rc), I6 ai] w1 fun e w' => e = .returned (.bool b) ∧ Y w') :
  Calls Try.prog 47 #[(Pv cb), (Pv rc), .agg #[I6 wh, I6 5, I6 ai]] w fun e w' => e = .returned (.bool true) ∧ Y w' := by
 refine calls_body 52 [(0, (Pv cb)), (1, (Pv rc)), (2, .agg #[I6 wh, I6 5, I6 ai])] Try.func47 rfl (by kernel_rfl) (by kernel_rfl) (by kernel_rfl) fun a hS => ?_
 have hE0 : Ext [] w w := Ext.refl _ _
 refine sq fun K1 hK1 => ?_
 refine rgn 2 ?_
 refine eff_box wide_wide (r := 1) (cs := #[I6 wh, I6 5, I6 ai]) (T := 88) (d := (some 5)) hS (by kernel_rfl) fun a w2 hw3 hS => ?_
 have hB4 : Blk w2 (w.heap.size) 88 #[I6 wh, I6 5, I6 ai] := by rw [hw3]; exact Blk.new _ _ _
 have hs5 : w.heap.size ≤ w.heap.size := hE0.size
 have hE6 : Ext [] w w2 := by rw [hw3]; exact hE0.alloc _
 refine sg wide_wide [.p] [] [(0, (Pv cb)), (1, (Pv rc)), (2, .agg #[I6 wh, I6 5, I6 ai]), (5, (Pv w.heap.size)), (6, .bool false)] 2 0 hS .nil fun a hS => ?_
 refine seg_end ?_
 refine hK1 _ _ ?_
 refine sq fun K7 hK7 => ?_
 refine sq fun K8 hK8 => ?_
 refine rgn 2 ?_
 refine sg wide_wide [.p, .ld (I6 5)] [_] [(0, (Pv cb)), (1, (Pv rc)), (2, .agg #[I6 wh, I6 5, I6 ai]), (5, (Pv w.heap.size)), (6, .bool false), (8, I6 5)] 2 0 hS (.cons (hB4.cell 1 rfl) .nil) fun a hS => ?_
 refine seg_end ?_
 refine hK8 _ _ ?_
 refine wpIn_block ?_
 refine sq fun K9 hK9 => ?_
 refine rgn 2 ?_
 refine sg wide_wide [.p, .p] [] [(0, (Pv cb)), (1, (Pv rc)), (2, .agg #[I6 wh, I6 5, I6 ai]), (5, (Pv w.heap.size)), (6, .bool false), (8, I6 5), (9, .bool false)] 2 0 hS .nil fun a hS => ?_
 refine seg_end ?_
 refine hK9 _ _ ?_
 refine cond_f hS rfl ?_
 refine sq fun K10 hK10 => ?_
 refine rgn 2 ?_
 refine sg wide_wide [.p, .p] [] [(0, (Pv cb)), (1, (Pv rc)), (2, .agg #[I6 wh, I6 5, I6 ai]), (5, (Pv w.heap.size)), (6, .bool false), (8, I6 5), (9, .bool false), (20, .bool false)] 2 0 hS .nil fun a hS => ?_
 refine seg_end ?_
 refine hK10 _ _ ?_
 refine cond_f hS rfl ?_
 refine sq fun K11 hK11 => ?_
 refine rgn 2 ?_
 refine sg wide_wide [.p, .p] [] [(0, (Pv cb)), (1, (Pv rc)), (2, .agg #[I6 wh, I6 5, I6 ai]), (5, (Pv w.heap.size)), (6, .bool false), (8, I6 5), (9, .bool false), (20, .bool false), (27, .bool false)] 2 0 hS .nil fun a hS => ?_
 refine seg_end ?_
 refine hK11 _ _ ?_
 refine cond_f hS rfl ?_
 refine sq fun K12 hK12 => ?_
 refine rgn 2 ?_
 refine sg wide_wide [.p, .p] [] [(0, (Pv cb)), (1, (Pv rc)), (2, .agg #[I6 wh, I6 5, I6 ai]), (5, (Pv w.heap.size)), (6, .bool false), (8, I6 5), (9, .bool false), (20, .bool false), (27, .bool false), (34, .bool false)] 2 0 hS .nil fun a hS => ?_
 refine seg_end ?_
 refine hK12 _ _ ?_
 refine cond_f hS rfl ?_
 refine sq fun K13 hK13 => ?_
 refine rgn 2 ?_
 refine sg wide_wide [.p, .p] [] [(0, (Pv cb)), (1, (Pv rc)), (2, .agg #[I6 wh, I6 5, I6 ai]), (5, (Pv w.heap.size)), (6, .bool false), (8, I6 5), (9, .bool false), (20, .bool false), (27, .bool false), (34, .bool false), (41, .bool true)] 2 0 hS .nil fun a hS => ?_
 refine seg_end ?_
 refine hK13 _ _ ?_
 refine cond_t hS rfl ?_
 refine sq fun K14 hK14 => ?_
 have hEq : Ext [] w w2.drew := by
  have h : Ext [] w w2 := hE6
  exact h.drew
 refine region_gh2 (G := World × World) wide_wide [.q .p, .q .p, .q (.ld (I6 ai)), .e, .q .p, .q .p, .q (.ld (I6 ai)), .e, .q (.as (.bool true)), .q .p] [0, 0, 0, 0, 0, 0, 0, 1, 2, 2] [0, 0, 0, 0, 1, 1, 1, 1, 2, 2] [0, 0, 2, 7, 0, 0, 32, 127, 255, 511] [3, 7] [(3, 0), (7, 1)] 2 (fun ⟨wp, wr⟩ => ([(0, (Pv cb)), (1, (Pv rc)), (2, .agg #[I6 wh, I6 5, I6 ai]), (5, (Pv w.heap.size)), (8, I6 5), (9, .bool false), (20, .bool false), (27, .bool false), (34, .bool false), (41, .bool true), (6, .bool true), (43, (Pv cb)), (44, (Po w.heap.size 2)), (45, I6 ai), (46, .bool b), (47, (Pv rc)), (48, (Po w.heap.size 2)), (49, I6 ai), (50, .bool b), (51, .bool true)] : Fm)) (fun ⟨wp, wr⟩ => [w2.drew, wp, wr]) (w2.drew) (fun e ⟨wp, wr⟩ => hAt [True, (X wp) ∧ (Ext MM (w2.drew) wp) ∧ True, (X wp) ∧ (Ext MM (w2.drew) wp) ∧ (Y wr) ∧ True] e) (fun ⟨wp, wr⟩ w' => [(2, [w'.cell? ⟨w.heap.size, 2, none⟩ = some (I6 ai)]), (6, [w'.cell? ⟨w.heap.size, 2, none⟩ = some (I6 ai)]), (8, [Value.bool ((b == b)) = .bool true])]) (w, w) [0, 1, 2, 5, 8, 9, 20, 27, 34, 41] [] hS (by kernel_rfl) (by kernel_rfl) (by kernel_rfl) (by kernel_rfl) (fun ⟨wp, wr⟩ _ => by kernel_rfl) (by kernel_rfl) (by kernel_rfl) (by kernel_rfl) trivial ?_ (by kernel_rfl) ?_ ?_
 ·rintro e ⟨wp, wr⟩ w' hw hH
  refine (.cons ?_ (.cons ?_ (.cons ?_ .nil)))
  ·intro h1 h2
   obtain rfl : e = 0 := Nat.le_antisymm h2 h1
   have hwe : w2.drew = w' := (hw.trans (by kernel_rfl)).symm
   subst hwe
   clear hH
   exact (.cons ((hB4.drew : Blk w2.drew w.heap.size 88 (#[I6 wh, I6 5, I6 ai])).cell 2 rfl) .nil)
  ·intro h1 h2
   replace h1 : 0 ≤ e := h1
   replace h2 : e ≤ 1 := h2
   have he : e = 0 ∨ e = 1 := by omega
   rcases he with rfl | rfl
   ·have hwe : w2.drew = w' := (hw.trans (by kernel_rfl)).symm
    subst hwe
    clear hH
    exact (.cons ((hB4.drew : Blk w2.drew w.heap.size 88 (#[I6 wh, I6 5, I6 ai])).cell 2 rfl) .nil)
   ·have hwe : wp = w' := (hw.trans (by kernel_rfl)).symm
    subst hwe
    obtain ⟨hx, hEp, _⟩ := hH
    exact (.cons (((hB4.drew : Blk w2.drew w.heap.size 88 (#[I6 wh, I6 5, I6 ai])).ext hEp (fun hm => Nat.lt_irrefl _ (hM _ hm)) : Blk wp w.heap.size 88 (#[I6 wh, I6 5, I6 ai])).cell 2 rfl) .nil)
  ·intro h1 h2
   obtain rfl : e = 2 := Nat.le_antisymm h2 h1
   have hwe : wr = w' := (hw.trans (by kernel_rfl)).symm
   subst hwe
   obtain ⟨hx, hEp, hy, _⟩ := hH
   exact (.cons ((by simp)) .nil)
 ·refine (.cons ?eq15_3 (.cons ?eq15_7 .nil))
  ·rintro ⟨wp, wr⟩ hH
   clear hH
   refine eff_gh (w2.drew) (by kernel_rfl) ?_
   refine upon_call (f := 38) (vs := [(Pv cb), I6 ai]) (cap := #[]) (d := (some 46)) (by kernel_rfl) Try.call38 #[(Pv cb), I6 ai] (by kernel_rfl) (hP _ hEq) ?_
   rintro _ wp ⟨rfl, hx, hEp⟩
   exact ⟨_, rfl, ⟨(wp, wr), by kernel_rfl, by kernel_rfl, by kernel_rfl, ⟨hx, hEp, trivial⟩⟩⟩
  ·rintro ⟨wp, wr⟩ hH
   obtain ⟨hx, hEp, _⟩ := hH
   refine eff_gh (wp) (by kernel_rfl) ?_
   refine upon_call (f := 74) (vs := [(Pv rc), I6 ai]) (cap := #[]) (d := (some 50)) (by kernel_rfl) Try.call74 #[(Pv rc), I6 ai] (by kernel_rfl) (hR _ hx) ?_
   rintro _ wr ⟨rfl, hy⟩
   exact ⟨_, rfl, ⟨(wp, wr), by kernel_rfl, by kernel_rfl, by kernel_rfl, ⟨hx, hEp, hy, trivial⟩⟩⟩
 rintro ⟨wp, wr⟩ a w16 hS hw17 hH
 obtain ⟨hx, hEp, hy, _⟩ := hH
 replace hw17 : w16 = wr := hw17.trans (by kernel_rfl)
 replace hS := hS.kp [(0, (Pv cb)), (1, (Pv rc)), (2, .agg #[I6 wh, I6 5, I6 ai]), (5, (Pv w.heap.size)), (8, I6 5), (9, .bool false), (20, .bool false), (27, .bool false), (34, .bool false), (41, .bool true), (6, .bool true)]
 refine hK14 _ _ ?_
 refine wpIn_ret ?_
 refine inBlock_ret ?_
 refine then_ret ?_
 refine ret1 hS Try.results47 rfl ?_
 exact ⟨rfl, by rw [hw17]; exact hy⟩

theorem Mv_0 {cb rc : Nat} {wh kd ai : Int} {w : World} (hk : kd ≠ 1 ∧ kd ≠ 2 ∧ kd ≠ 3 ∧ kd ≠ 4 ∧ kd ≠ 5) :
  Calls Try.prog 47 #[(Pv cb), (Pv rc), .agg #[I6 wh, I6 kd, I6 ai]] w fun e w' => e = .returned (.bool true) ∧ Ext [] w w' := by
 refine calls_body 52 [(0, (Pv cb)), (1, (Pv rc)), (2, .agg #[I6 wh, I6 kd, I6 ai])] Try.func47 rfl (by kernel_rfl) (by kernel_rfl) (by kernel_rfl) fun a hS => ?_
 have hE0 : Ext [] w w := Ext.refl _ _
 refine sq fun K1 hK1 => ?_
 refine rgn 2 ?_
 refine eff_box wide_wide (r := 1) (cs := #[I6 wh, I6 kd, I6 ai]) (T := 88) (d := (some 5)) hS (by kernel_rfl) fun a w2 hw3 hS => ?_
 have hB4 : Blk w2 (w.heap.size) 88 #[I6 wh, I6 kd, I6 ai] := by rw [hw3]; exact Blk.new _ _ _
 have hs5 : w.heap.size ≤ w.heap.size := hE0.size
 have hE6 : Ext [] w w2 := by rw [hw3]; exact hE0.alloc _
 refine sg wide_wide [.p] [] [(0, (Pv cb)), (1, (Pv rc)), (2, .agg #[I6 wh, I6 kd, I6 ai]), (5, (Pv w.heap.size)), (6, .bool false)] 2 0 hS .nil fun a hS => ?_
 refine seg_end ?_
 refine hK1 _ _ ?_
 refine sq fun K7 hK7 => ?_
 refine sq fun K8 hK8 => ?_
 refine rgn 2 ?_
 refine sg wide_wide [.p, .ld (I6 kd)] [_] [(0, (Pv cb)), (1, (Pv rc)), (2, .agg #[I6 wh, I6 kd, I6 ai]), (5, (Pv w.heap.size)), (6, .bool false), (8, I6 kd)] 2 0 hS (.cons (hB4.cell 1 rfl) .nil) fun a hS => ?_
 refine seg_end ?_
 refine hK8 _ _ ?_
 refine wpIn_block ?_
 refine sq fun K9 hK9 => ?_
 refine rgn 2 ?_
 refine sg wide_wide [.as (.bool false), .p] [Value.bool (((kd : Int) == 1)) = .bool false] [(0, (Pv cb)), (1, (Pv rc)), (2, .agg #[I6 wh, I6 kd, I6 ai]), (5, (Pv w.heap.size)), (6, .bool false), (8, I6 kd), (9, .bool false)] 2 0 hS (.cons (as_eq_f (by omega)) .nil) fun a hS => ?_
 refine seg_end ?_
 refine hK9 _ _ ?_
 refine cond_f hS rfl ?_
 refine sq fun K10 hK10 => ?_
 refine rgn 2 ?_
 refine sg wide_wide [.as (.bool false), .p] [Value.bool (((kd : Int) == 2)) = .bool false] [(0, (Pv cb)), (1, (Pv rc)), (2, .agg #[I6 wh, I6 kd, I6 ai]), (5, (Pv w.heap.size)), (6, .bool false), (8, I6 kd), (9, .bool false), (20, .bool false)] 2 0 hS (.cons (as_eq_f (by omega)) .nil) fun a hS => ?_
 refine seg_end ?_
 refine hK10 _ _ ?_
 refine cond_f hS rfl ?_
 refine sq fun K11 hK11 => ?_
 refine rgn 2 ?_
 refine sg wide_wide [.as (.bool false), .p] [Value.bool (((kd : Int) == 3)) = .bool false] [(0, (Pv cb)), (1, (Pv rc)), (2, .agg #[I6 wh, I6 kd, I6 ai]), (5, (Pv w.heap.size)), (6, .bool false), (8, I6 kd), (9, .bool false), (20, .bool false), (27, .bool false)] 2 0 hS (.cons (as_eq_f (by omega)) .nil) fun a hS => ?_
 refine seg_end ?_
 refine hK11 _ _ ?_
 refine cond_f hS rfl ?_
 refine sq fun K12 hK12 => ?_
 refine rgn 2 ?_
 refine sg wide_wide [.as (.bool false), .p] [Value.bool (((kd : Int) == 4)) = .bool false] [(0, (Pv cb)), (1, (Pv rc)), (2, .agg #[I6 wh, I6 kd, I6 ai]), (5, (Pv w.heap.size)), (6, .bool false), (8, I6 kd), (9, .bool false), (20, .bool false), (27, .bool false), (34, .bool false)] 2 0 hS (.cons (as_eq_f (by omega)) .nil) fun a hS => ?_
 refine seg_end ?_
 refine hK12 _ _ ?_
 refine cond_f hS rfl ?_
 refine sq fun K13 hK13 => ?_
 refine rgn 2 ?_
 refine sg wide_wide [.as (.bool false), .p] [Value.bool (((kd : Int) == 5)) = .bool false] [(0, (Pv cb)), (1, (Pv rc)), (2, .agg #[I6 wh, I6 kd, I6 ai]), (5, (Pv w.heap.size)), (6, .bool false), (8, I6 kd), (9, .bool false), (20, .bool false), (27, .bool false), (34, .bool false), (41, .bool false)] 2 0 hS (.cons (as_eq_f (by omega)) .nil) fun a hS => ?_
 refine seg_end ?_
 refine hK13 _ _ ?_
 refine cond_f hS rfl ?_
 refine wpIn_skip ?_
 refine inBlock_normal ?_
 refine hK7 _ _ ?_
 refine sq fun K14 hK14 => ?_
 refine rgn 1 ?_
 refine sg wide_wide [.p] [] [(0, (Pv cb)), (1, (Pv rc)), (2, .agg #[I6 wh, I6 kd, I6 ai]), (5, (Pv w.heap.size)), (6, .bool true), (8, I6 kd), (9, .bool false), (20, .bool false), (27, .bool false), (34, .bool false), (41, .bool false)] 1 0 hS .nil fun a hS => ?_
 refine seg_end ?_
 refine hK14 _ _ ?_
 refine wpIn_ret ?_
 refine ret1 hS Try.results47 rfl ?_
 exact ⟨rfl, hE6⟩

end Go.Proofs.Ytpglmeeledmkoaa
