import Derived.Test.YtpglmeeledmkoaaProg
import Derived.Test.YtpglmeeledmkoaaVc
import Derived.Test.YtpglmeeledmkoaaT8
namespace Go.Proofs.Ytpglmeeledmkoaa
open Go.Vc

theorem rbytes_lt (n : Int) (w : World) (h : n < 0) :
    Calls Try.prog 79 #[.int .i64 n] w fun e w' => e = .returned (.int .i64 0) ∧ w' = w := by
  refine calls_body 10 [(0, .int .i64 n)] Try.func79 rfl (by kernel_rfl) (by kernel_rfl) (by kernel_rfl) fun a hS => ?_
  refine wpIn_seq_k fun K1 hK1 => ?_
  refine region 1 (by kernel_rfl) ?_
  refine seg wide_wide [.p] [0, 2] [] [(0, .int .i64 n), (2, .int .i64 0)] 1 0 hS (by kernel_rfl) (by kernel_rfl) (by kernel_rfl) .nil fun a hS => ?_
  refine seg_end ?_
  refine hK1 _ _ ?_
  refine wpIn_seq_k fun K2 hK2 => ?_
  refine wpIn_seq_k fun K3 hK3 => ?_
  refine region 6 (by kernel_rfl) ?_
  refine seg wide_wide [.p, .as (.bool true), .p, .no, .no, .p] [0, 2, 8] [Value.bool (decide ((n : Int) < 0)) = .bool true] [(0, .int .i64 n), (2, .int .i64 0), (8, .bool true)] 6 0 hS (by kernel_rfl) (by kernel_rfl) (by kernel_rfl) (.cons (as_t (by omega)) .nil) fun a hS => ?_
  refine seg_end ?_
  refine hK3 _ _ ?_
  refine cond_t hS rfl ?_
  refine wpIn_seq_k fun K4 hK4 => ?_
  refine region 1 (by kernel_rfl) ?_
  refine seg wide_wide [.p] [0, 2, 8] [] [(0, .int .i64 n), (2, .int .i64 0), (8, .bool true)] 1 0 hS (by kernel_rfl) (by kernel_rfl) (by kernel_rfl) .nil fun a hS => ?_
  refine seg_end ?_
  refine hK4 _ _ ?_
  refine wpIn_ret ?_
  refine then_ret ?_
  refine ret1 hS Try.results79 rfl ?_
  exact ⟨rfl, rfl⟩

theorem rbytes_gt (n : Int) (w : World) (h : 262144 < n) :
    Calls Try.prog 79 #[.int .i64 n] w fun e w' => e = .returned (.int .i64 0) ∧ w' = w := by
  refine calls_body 10 [(0, .int .i64 n)] Try.func79 rfl (by kernel_rfl) (by kernel_rfl) (by kernel_rfl) fun a hS => ?_
  refine wpIn_seq_k fun K1 hK1 => ?_
  refine region 1 (by kernel_rfl) ?_
  refine seg wide_wide [.p] [0, 2] [] [(0, .int .i64 n), (2, .int .i64 0)] 1 0 hS (by kernel_rfl) (by kernel_rfl) (by kernel_rfl) .nil fun a hS => ?_
  refine seg_end ?_
  refine hK1 _ _ ?_
  refine wpIn_seq_k fun K2 hK2 => ?_
  refine wpIn_seq_k fun K3 hK3 => ?_
  refine region 6 (by kernel_rfl) ?_
  refine seg wide_wide [.p, .as (.bool false), .p, .p, .as (.bool true), .p] [0, 2, 8] [Value.bool (decide ((n : Int) < 0)) = .bool false, Value.bool (decide ((n : Int) > 262144)) = .bool true] [(0, .int .i64 n), (2, .int .i64 0), (8, .bool true)] 6 0 hS (by kernel_rfl) (by kernel_rfl) (by kernel_rfl) (.cons (as_f (by omega)) (.cons (as_t (by omega)) .nil)) fun a hS => ?_
  refine seg_end ?_
  refine hK3 _ _ ?_
  refine cond_t hS rfl ?_
  refine wpIn_seq_k fun K4 hK4 => ?_
  refine region 1 (by kernel_rfl) ?_
  refine seg wide_wide [.p] [0, 2, 8] [] [(0, .int .i64 n), (2, .int .i64 0), (8, .bool true)] 1 0 hS (by kernel_rfl) (by kernel_rfl) (by kernel_rfl) .nil fun a hS => ?_
  refine seg_end ?_
  refine hK4 _ _ ?_
  refine wpIn_ret ?_
  refine then_ret ?_
  refine ret1 hS Try.results79 rfl ?_
  exact ⟨rfl, rfl⟩

theorem rbytes_in (n : Int) (w : World) (h : 0 ≤ n ∧ n ≤ 262144) :
    Calls Try.prog 79 #[.int .i64 n] w fun e w' => e = .returned (.int .i64 n) ∧ w' = w := by
  refine calls_body 10 [(0, .int .i64 n)] Try.func79 rfl (by kernel_rfl) (by kernel_rfl) (by kernel_rfl) fun a hS => ?_
  refine wpIn_seq_k fun K1 hK1 => ?_
  refine region 1 (by kernel_rfl) ?_
  refine seg wide_wide [.p] [0, 2] [] [(0, .int .i64 n), (2, .int .i64 0)] 1 0 hS (by kernel_rfl) (by kernel_rfl) (by kernel_rfl) .nil fun a hS => ?_
  refine seg_end ?_
  refine hK1 _ _ ?_
  refine wpIn_seq_k fun K2 hK2 => ?_
  refine wpIn_seq_k fun K3 hK3 => ?_
  refine region 6 (by kernel_rfl) ?_
  refine seg wide_wide [.p, .as (.bool false), .p, .p, .as (.bool false), .p] [0, 2, 8] [Value.bool (decide ((n : Int) < 0)) = .bool false, Value.bool (decide ((n : Int) > 262144)) = .bool false] [(0, .int .i64 n), (2, .int .i64 0), (8, .bool false)] 6 0 hS (by kernel_rfl) (by kernel_rfl) (by kernel_rfl) (.cons (as_f (by omega)) (.cons (as_f (by omega)) .nil)) fun a hS => ?_
  refine seg_end ?_
  refine hK3 _ _ ?_
  refine cond_f hS rfl ?_
  refine wpIn_skip ?_
  refine hK2 _ _ ?_
  refine wpIn_seq_k fun K4 hK4 => ?_
  refine region 2 (by kernel_rfl) ?_
  refine seg wide_wide [.p, .p] [0, 2, 8] [] [(0, .int .i64 n), (2, .int .i64 n), (8, .bool false)] 2 0 hS (by kernel_rfl) (by kernel_rfl) (by kernel_rfl) .nil fun a hS => ?_
  refine seg_end ?_
  refine hK4 _ _ ?_
  refine wpIn_ret ?_
  refine ret1 hS Try.results79 rfl ?_
  exact ⟨rfl, rfl⟩

theorem Rbytes_any (n : Int) (w : World) : Calls Try.prog 79 #[.int .i64 n] w fun e w' => e = .returned (.int .i64 (bt n)) ∧ w' = w := by
  unfold bt
  by_cases h1 : n < 0
  · rw [if_pos (.inl h1)]; exact rbytes_lt n w h1
  · by_cases h2 : 262144 < n
    · rw [if_pos (.inr h2)]; exact rbytes_gt n w h2
    · rw [if_neg (by omega)]; exact rbytes_in n w (by omega)

theorem Rleaf_any (k lk ls ll lr : Int) (w : World) :
    Calls Try.prog 59 #[.int .i64 k, .agg #[.int .i64 lk, .int .i64 ls, .int .i64 ll, .int .i64 lr]] w fun e w' => ∃ nb, e = .returned (.pointer (some ⟨nb, 0, none⟩)) ∧ w.heap.size ≤ nb ∧ Blk w' nb 40 #[.int .i64 k, .int .i64 0, .int .i64 1, .int .i64 lk, .int .i64 lk, .int .i64 ls, .int .i64 ll, .int .i64 lr, .slice none 0 0, .int .i64 1] ∧ Ext [] w w' := by
  refine calls_body 11 [(0, .int .i64 k), (1, .agg #[.int .i64 lk, .int .i64 ls, .int .i64 ll, .int .i64 lr])] Try.func59 rfl (by kernel_rfl) (by kernel_rfl) (by kernel_rfl) fun a hS => ?_
  have hE0 : Ext [] w w := Ext.refl _ _
  refine wpIn_seq_k fun K1 hK1 => ?_
  refine region 2 (by kernel_rfl) ?_
  refine eff_box wide_wide (r := 1) (cs := #[.int .i64 lk, .int .i64 ls, .int .i64 ll, .int .i64 lr]) (T := 38) (d := (some 3)) hS (by kernel_rfl) fun a w2 hw3 hS => ?_
  have hB4 : Blk w2 (w.heap.size) 38 #[.int .i64 lk, .int .i64 ls, .int .i64 ll, .int .i64 lr] := by rw [hw3]; exact Blk.new _ _ _
  have hs5 : w.heap.size ≤ w.heap.size := hE0.size
  have hE6 : Ext [] w w2 := by rw [hw3]; exact hE0.alloc _
  refine seg wide_wide [.p] [0, 1, 3, 4] [] [(0, .int .i64 k), (1, .agg #[.int .i64 lk, .int .i64 ls, .int .i64 ll, .int .i64 lr]), (3, .pointer (some ⟨w.heap.size, 0, none⟩)), (4, .pointer none)] 2 0 hS (by kernel_rfl) (by kernel_rfl) (by kernel_rfl) .nil fun a hS => ?_
  refine seg_end ?_
  refine hK1 _ _ ?_
  refine wpIn_seq_k fun K7 hK7 => ?_
  refine region 7 (by kernel_rfl) ?_
  refine seg wide_wide [.p, .p, .ld (.int .i64 lk), .lds [.int .i64 lk, .int .i64 ls, .int .i64 ll, .int .i64 lr], .p] [0, 1, 3, 4, 9] [w2.cell? ⟨w.heap.size, 0, none⟩ = some (.int .i64 lk), w2.cell? ⟨w.heap.size, 0, none⟩ = some (.int .i64 lk), w2.cell? ⟨w.heap.size, 1, none⟩ = some (.int .i64 ls), w2.cell? ⟨w.heap.size, 2, none⟩ = some (.int .i64 ll), w2.cell? ⟨w.heap.size, 3, none⟩ = some (.int .i64 lr)] [(0, .int .i64 k), (1, .agg #[.int .i64 lk, .int .i64 ls, .int .i64 ll, .int .i64 lr]), (3, .pointer (some ⟨w.heap.size, 0, none⟩)), (4, .pointer none), (9, .agg #[.int .i64 k, .int .i64 0, .int .i64 1, .int .i64 lk, .int .i64 lk, .int .i64 ls, .int .i64 ll, .int .i64 lr, .slice none 0 0, .int .i64 1])] 5 2 hS (by kernel_rfl) (by kernel_rfl) (by kernel_rfl) (.cons (hB4.cell 0 rfl) (.cons (hB4.cell 0 rfl) (.cons (hB4.cell 1 rfl) (.cons (hB4.cell 2 rfl) (.cons (hB4.cell 3 rfl) .nil))))) fun a hS => ?_
  refine eff_box wide_wide (r := 1) (cs := #[.int .i64 k, .int .i64 0, .int .i64 1, .int .i64 lk, .int .i64 lk, .int .i64 ls, .int .i64 ll, .int .i64 lr, .slice none 0 0, .int .i64 1]) (T := 40) (d := (some 10)) hS (by kernel_rfl) fun a w8 hw9 hS => ?_
  have hn10 : w.heap.size ≠ w2.heap.size := Nat.ne_of_lt hB4.lt
  have hB11 := Blk.at' hw9 (hB4.alloc _)
  have hB12 : Blk w8 (w2.heap.size) 40 #[.int .i64 k, .int .i64 0, .int .i64 1, .int .i64 lk, .int .i64 lk, .int .i64 ls, .int .i64 ll, .int .i64 lr, .slice none 0 0, .int .i64 1] := by rw [hw9]; exact Blk.new _ _ _
  have hs13 : w.heap.size ≤ w2.heap.size := hE6.size
  have hE14 : Ext [] w w8 := by rw [hw9]; exact hE6.alloc _
  refine seg wide_wide [.p] [0, 1, 3, 4] [] [(0, .int .i64 k), (1, .agg #[.int .i64 lk, .int .i64 ls, .int .i64 ll, .int .i64 lr]), (3, .pointer (some ⟨w.heap.size, 0, none⟩)), (4, .pointer (some ⟨w2.heap.size, 0, none⟩))] 7 0 hS (by kernel_rfl) (by kernel_rfl) (by kernel_rfl) .nil fun a hS => ?_
  refine seg_end ?_
  refine hK7 _ _ ?_
  refine wpIn_ret ?_
  refine ret1 hS Try.results59 rfl ?_
  exact ⟨_, rfl, hs13, hB12, hE14⟩

end Go.Proofs.Ytpglmeeledmkoaa
