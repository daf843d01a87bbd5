import Derived.Test.YtpglmeeledmkoaaProg
import Derived.Test.YtpglmeeledmkoaaVc
import Derived.Test.YtpglmeeledmkoaaT8
namespace Go.Proofs.Ytpglmeeledmkoaa
open Go.Vc

theorem rbytes_lt (n : Int) (w : World) (h : n < 0) :
  Calls Try.prog 79 #[I6 n] w fun e w' => e = .returned (I6 0) ∧ w' = w := by
 refine calls_body 10 [(0, I6 n)] Try.func79 rfl (by kernel_rfl) (by kernel_rfl) (by kernel_rfl) fun a hS => ?_
 refine sq fun K1 hK1 => ?_
 refine rgn 1 ?_
 refine sg wide_wide [.p] [] [(0, I6 n), (2, I6 0)] 1 0 hS .nil fun a hS => ?_
 refine seg_end ?_
 refine hK1 _ _ ?_
 refine sq fun K2 hK2 => ?_
 refine sq fun K3 hK3 => ?_
 refine rgn 6 ?_
 refine sg wide_wide [.p, .as (.bool true), .p, .no, .no, .p] [Value.bool (decide ((n : Int) < 0)) = .bool true] [(0, I6 n), (2, I6 0), (8, .bool true)] 6 0 hS (.cons (as_t (by omega)) .nil) fun a hS => ?_
 refine seg_end ?_
 refine hK3 _ _ ?_
 refine cond_t hS rfl ?_
 refine sq fun K4 hK4 => ?_
 refine rgn 1 ?_
 refine sg wide_wide [.p] [] [(0, I6 n), (2, I6 0), (8, .bool true)] 1 0 hS .nil fun a hS => ?_
 refine seg_end ?_
 refine hK4 _ _ ?_
 refine wpIn_ret ?_
 refine then_ret ?_
 refine ret1 hS Try.results79 rfl ?_
 exact ⟨rfl, rfl⟩

theorem rbytes_gt (n : Int) (w : World) (h : 262144 < n) :
  Calls Try.prog 79 #[I6 n] w fun e w' => e = .returned (I6 0) ∧ w' = w := by
 refine calls_body 10 [(0, I6 n)] Try.func79 rfl (by kernel_rfl) (by kernel_rfl) (by kernel_rfl) fun a hS => ?_
 refine sq fun K1 hK1 => ?_
 refine rgn 1 ?_
 refine sg wide_wide [.p] [] [(0, I6 n), (2, I6 0)] 1 0 hS .nil fun a hS => ?_
 refine seg_end ?_
 refine hK1 _ _ ?_
 refine sq fun K2 hK2 => ?_
 refine sq fun K3 hK3 => ?_
 refine rgn 6 ?_
 refine sg wide_wide [.p, .as (.bool false), .p, .p, .as (.bool true), .p] [Value.bool (decide ((n : Int) < 0)) = .bool false, Value.bool (decide ((n : Int) > 262144)) = .bool true] [(0, I6 n), (2, I6 0), (8, .bool true)] 6 0 hS (.cons (as_f (by omega)) (.cons (as_t (by omega)) .nil)) fun a hS => ?_
 refine seg_end ?_
 refine hK3 _ _ ?_
 refine cond_t hS rfl ?_
 refine sq fun K4 hK4 => ?_
 refine rgn 1 ?_
 refine sg wide_wide [.p] [] [(0, I6 n), (2, I6 0), (8, .bool true)] 1 0 hS .nil fun a hS => ?_
 refine seg_end ?_
 refine hK4 _ _ ?_
 refine wpIn_ret ?_
 refine then_ret ?_
 refine ret1 hS Try.results79 rfl ?_
 exact ⟨rfl, rfl⟩

theorem rbytes_in (n : Int) (w : World) (h : 0 ≤ n ∧ n ≤ 262144) :
  Calls Try.prog 79 #[I6 n] w fun e w' => e = .returned (I6 n) ∧ w' = w := by
 refine calls_body 10 [(0, I6 n)] Try.func79 rfl (by kernel_rfl) (by kernel_rfl) (by kernel_rfl) fun a hS => ?_
 refine sq fun K1 hK1 => ?_
 refine rgn 1 ?_
 refine sg wide_wide [.p] [] [(0, I6 n), (2, I6 0)] 1 0 hS .nil fun a hS => ?_
 refine seg_end ?_
 refine hK1 _ _ ?_
 refine sq fun K2 hK2 => ?_
 refine sq fun K3 hK3 => ?_
 refine rgn 6 ?_
 refine sg wide_wide [.p, .as (.bool false), .p, .p, .as (.bool false), .p] [Value.bool (decide ((n : Int) < 0)) = .bool false, Value.bool (decide ((n : Int) > 262144)) = .bool false] [(0, I6 n), (2, I6 0), (8, .bool false)] 6 0 hS (.cons (as_f (by omega)) (.cons (as_f (by omega)) .nil)) fun a hS => ?_
 refine seg_end ?_
 refine hK3 _ _ ?_
 refine cond_f hS rfl ?_
 refine wpIn_skip ?_
 refine hK2 _ _ ?_
 refine sq fun K4 hK4 => ?_
 refine rgn 2 ?_
 refine sg wide_wide [.p, .p] [] [(0, I6 n), (2, I6 n), (8, .bool false)] 2 0 hS .nil fun a hS => ?_
 refine seg_end ?_
 refine hK4 _ _ ?_
 refine wpIn_ret ?_
 refine ret1 hS Try.results79 rfl ?_
 exact ⟨rfl, rfl⟩

theorem Rbytes_any (n : Int) (w : World) : Calls Try.prog 79 #[I6 n] w fun e w' => e = .returned (I6 (bt n)) ∧ w' = w := by
 unfold bt
 by_cases h1 : n < 0
 ·rw [if_pos (.inl h1)]; exact rbytes_lt n w h1
 ·by_cases h2 : 262144 < n
  ·rw [if_pos (.inr h2)]; exact rbytes_gt n w h2
  ·rw [if_neg (by omega)]; exact rbytes_in n w (by omega)

theorem Rleaf_any (k lk ls ll lr : Int) (w : World) :
  Calls Try.prog 59 #[I6 k, .agg #[I6 lk, I6 ls, I6 ll, I6 lr]] w fun e w' => ∃ nb, e = .returned ((Pv nb)) ∧ w.heap.size ≤ nb ∧ Blk w' nb 40 #[I6 k, I6 0, I6 1, I6 lk, I6 lk, I6 ls, I6 ll, I6 lr, .slice none 0 0, I6 1] ∧ Ext [] w w' := by
 refine calls_body 11 [(0, I6 k), (1, .agg #[I6 lk, I6 ls, I6 ll, I6 lr])] Try.func59 rfl (by kernel_rfl) (by kernel_rfl) (by kernel_rfl) fun a hS => ?_
 have hE0 : Ext [] w w := Ext.refl _ _
 refine sq fun K1 hK1 => ?_
 refine rgn 2 ?_
 refine eff_box wide_wide (r := 1) (cs := #[I6 lk, I6 ls, I6 ll, I6 lr]) (T := 38) (d := (some 3)) hS (by kernel_rfl) fun a w2 hw3 hS => ?_
 have hB4 : Blk w2 (w.heap.size) 38 #[I6 lk, I6 ls, I6 ll, I6 lr] := by rw [hw3]; exact Blk.new _ _ _
 have hs5 : w.heap.size ≤ w.heap.size := hE0.size
 have hE6 : Ext [] w w2 := by rw [hw3]; exact hE0.alloc _
 refine sg wide_wide [.p] [] [(0, I6 k), (1, .agg #[I6 lk, I6 ls, I6 ll, I6 lr]), (3, (Pv w.heap.size)), (4, .pointer none)] 2 0 hS .nil fun a hS => ?_
 refine seg_end ?_
 refine hK1 _ _ ?_
 refine sq fun K7 hK7 => ?_
 refine rgn 7 ?_
 refine sg wide_wide [.p, .p, .ld (I6 lk), .lds [I6 lk, I6 ls, I6 ll, I6 lr], .p] [_, _, _, _, _] [(0, I6 k), (1, .agg #[I6 lk, I6 ls, I6 ll, I6 lr]), (3, (Pv w.heap.size)), (4, .pointer none), (9, .agg #[I6 k, I6 0, I6 1, I6 lk, I6 lk, I6 ls, I6 ll, I6 lr, .slice none 0 0, I6 1])] 5 2 hS (.cons (hB4.cell 0 rfl) (.cons (hB4.cell 0 rfl) (.cons (hB4.cell 1 rfl) (.cons (hB4.cell 2 rfl) (.cons (hB4.cell 3 rfl) .nil))))) fun a hS => ?_
 refine eff_box wide_wide (r := 1) (cs := #[I6 k, I6 0, I6 1, I6 lk, I6 lk, I6 ls, I6 ll, I6 lr, .slice none 0 0, I6 1]) (T := 40) (d := (some 10)) hS (by kernel_rfl) fun a w8 hw9 hS => ?_
 have hB12 : Blk w8 (w2.heap.size) 40 #[I6 k, I6 0, I6 1, I6 lk, I6 lk, I6 ls, I6 ll, I6 lr, .slice none 0 0, I6 1] := by rw [hw9]; exact Blk.new _ _ _
 have hs13 : w.heap.size ≤ w2.heap.size := hE6.size
 have hE14 : Ext [] w w8 := by rw [hw9]; exact hE6.alloc _
 refine sg wide_wide [.p] [] [(0, I6 k), (1, .agg #[I6 lk, I6 ls, I6 ll, I6 lr]), (3, (Pv w.heap.size)), (4, (Pv w2.heap.size))] 7 0 hS .nil fun a hS => ?_
 refine seg_end ?_
 refine hK7 _ _ ?_
 refine wpIn_ret ?_
 refine ret1 hS Try.results59 rfl ?_
 exact ⟨_, rfl, hs13, hB12, hE14⟩

end Go.Proofs.Ytpglmeeledmkoaa
