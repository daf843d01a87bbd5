import Derived.Test.YtpglmeeledmkoaaProg
import Derived.Test.YtpglmeeledmkoaaVc
import Derived.Test.YtpglmeeledmkoaaT8
namespace Go.Proofs.Ytpglmeeledmkoaa
open Go.Vc

theorem MakeBad_lt (sb : Nat) (k n : Int) (v : Value) (w : World) (h : k < 2) :
  Calls Try.prog 20 #[(Pv sb), I6 k, I6 n, v] w fun e w' => e = .returned (.tuple #[.pointer none, I6 101]) ∧ w' = w := by
 refine calls_body 118 [(0, (Pv sb)), (1, I6 k), (2, I6 n), (3, v)] Try.func20 rfl (by kernel_rfl) (by kernel_rfl) (by kernel_rfl) fun a hS => ?_
 refine sq fun K1 hK1 => ?_
 refine rgn 2 ?_
 refine sg wide_wide [.p, .p] [] [(0, (Pv sb)), (1, I6 k), (2, I6 n), (3, v), (8, .pointer none), (9, I6 0)] 2 0 hS .nil fun a hS => ?_
 refine seg_end ?_
 refine hK1 _ _ ?_
 refine sq fun K2 hK2 => ?_
 refine sq fun K3 hK3 => ?_
 refine rgn 18 ?_
 refine sg wide_wide [.p, .as (.bool true), .p, .no, .no, .p, .p, .no, .no, .p, .p, .no, .no, .no, .no, .no, .no, .p] [Value.bool (decide ((k : Int) < 2)) = .bool true] [(0, (Pv sb)), (1, I6 k), (2, I6 n), (3, v), (8, .pointer none), (9, I6 0), (30, .bool true)] 18 0 hS (.cons (as_t (by omega)) .nil) fun a hS => ?_
 refine seg_end ?_
 refine hK3 _ _ ?_
 refine cond_t hS rfl ?_
 refine sq fun K4 hK4 => ?_
 refine rgn 2 ?_
 refine sg wide_wide [.p, .p] [] [(0, (Pv sb)), (1, I6 k), (2, I6 n), (3, v), (8, .pointer none), (9, I6 101), (30, .bool true)] 2 0 hS .nil fun a hS => ?_
 refine seg_end ?_
 refine hK4 _ _ ?_
 refine wpIn_ret ?_
 refine then_ret ?_
 refine ret2 hS Try.results20 rfl rfl ?_
 exact ⟨rfl, rfl⟩

theorem MakeBad_gt (sb : Nat) (k n : Int) (v : Value) (w : World) (h : 2 ≤ k ∧ 5 < k) :
  Calls Try.prog 20 #[(Pv sb), I6 k, I6 n, v] w fun e w' => e = .returned (.tuple #[.pointer none, I6 101]) ∧ w' = w := by
 refine calls_body 118 [(0, (Pv sb)), (1, I6 k), (2, I6 n), (3, v)] Try.func20 rfl (by kernel_rfl) (by kernel_rfl) (by kernel_rfl) fun a hS => ?_
 refine sq fun K1 hK1 => ?_
 refine rgn 2 ?_
 refine sg wide_wide [.p, .p] [] [(0, (Pv sb)), (1, I6 k), (2, I6 n), (3, v), (8, .pointer none), (9, I6 0)] 2 0 hS .nil fun a hS => ?_
 refine seg_end ?_
 refine hK1 _ _ ?_
 refine sq fun K2 hK2 => ?_
 refine sq fun K3 hK3 => ?_
 refine rgn 18 ?_
 refine sg wide_wide [.p, .as (.bool false), .p, .p, .as (.bool true), .p, .p, .no, .no, .p, .p, .no, .no, .no, .no, .no, .no, .p] [Value.bool (decide ((k : Int) < 2)) = .bool false, Value.bool (decide ((k : Int) > 5)) = .bool true] [(0, (Pv sb)), (1, I6 k), (2, I6 n), (3, v), (8, .pointer none), (9, I6 0), (30, .bool true)] 18 0 hS (.cons (as_f (by omega)) (.cons (as_t (by omega)) .nil)) fun a hS => ?_
 refine seg_end ?_
 refine hK3 _ _ ?_
 refine cond_t hS rfl ?_
 refine sq fun K4 hK4 => ?_
 refine rgn 2 ?_
 refine sg wide_wide [.p, .p] [] [(0, (Pv sb)), (1, I6 k), (2, I6 n), (3, v), (8, .pointer none), (9, I6 101), (30, .bool true)] 2 0 hS .nil fun a hS => ?_
 refine seg_end ?_
 refine hK4 _ _ ?_
 refine wpIn_ret ?_
 refine then_ret ?_
 refine ret2 hS Try.results20 rfl rfl ?_
 exact ⟨rfl, rfl⟩

theorem MakeBad_n (sb : Nat) (k n : Int) (v : Value) (w : World) (h : 2 ≤ k ∧ k ≤ 5 ∧ n < 0) :
  Calls Try.prog 20 #[(Pv sb), I6 k, I6 n, v] w fun e w' => e = .returned (.tuple #[.pointer none, I6 101]) ∧ w' = w := by
 refine calls_body 118 [(0, (Pv sb)), (1, I6 k), (2, I6 n), (3, v)] Try.func20 rfl (by kernel_rfl) (by kernel_rfl) (by kernel_rfl) fun a hS => ?_
 refine sq fun K1 hK1 => ?_
 refine rgn 2 ?_
 refine sg wide_wide [.p, .p] [] [(0, (Pv sb)), (1, I6 k), (2, I6 n), (3, v), (8, .pointer none), (9, I6 0)] 2 0 hS .nil fun a hS => ?_
 refine seg_end ?_
 refine hK1 _ _ ?_
 refine sq fun K2 hK2 => ?_
 refine sq fun K3 hK3 => ?_
 refine rgn 18 ?_
 refine sg wide_wide [.p, .as (.bool false), .p, .p, .as (.bool false), .p, .p, .p, .as (.bool true), .p, .p, .no, .no, .no, .no, .no, .no, .p] [Value.bool (decide ((k : Int) < 2)) = .bool false, Value.bool (decide ((k : Int) > 5)) = .bool false, Value.bool (decide ((n : Int) < 0)) = .bool true] [(0, (Pv sb)), (1, I6 k), (2, I6 n), (3, v), (8, .pointer none), (9, I6 0), (30, .bool true)] 18 0 hS (.cons (as_f (by omega)) (.cons (as_f (by omega)) (.cons (as_t (by omega)) .nil))) fun a hS => ?_
 refine seg_end ?_
 refine hK3 _ _ ?_
 refine cond_t hS rfl ?_
 refine sq fun K4 hK4 => ?_
 refine rgn 2 ?_
 refine sg wide_wide [.p, .p] [] [(0, (Pv sb)), (1, I6 k), (2, I6 n), (3, v), (8, .pointer none), (9, I6 101), (30, .bool true)] 2 0 hS .nil fun a hS => ?_
 refine seg_end ?_
 refine hK4 _ _ ?_
 refine wpIn_ret ?_
 refine then_ret ?_
 refine ret2 hS Try.results20 rfl rfl ?_
 exact ⟨rfl, rfl⟩

theorem MakeBad_k (sb : Nat) (k n : Int) (v : Value) (w : World) (h : 2 ≤ k ∧ k ≤ 5 ∧ 0 < n ∧ k ≠ 2) :
  Calls Try.prog 20 #[(Pv sb), I6 k, I6 n, v] w fun e w' => e = .returned (.tuple #[.pointer none, I6 101]) ∧ w' = w := by
 refine calls_body 118 [(0, (Pv sb)), (1, I6 k), (2, I6 n), (3, v)] Try.func20 rfl (by kernel_rfl) (by kernel_rfl) (by kernel_rfl) fun a hS => ?_
 refine sq fun K1 hK1 => ?_
 refine rgn 2 ?_
 refine sg wide_wide [.p, .p] [] [(0, (Pv sb)), (1, I6 k), (2, I6 n), (3, v), (8, .pointer none), (9, I6 0)] 2 0 hS .nil fun a hS => ?_
 refine seg_end ?_
 refine hK1 _ _ ?_
 refine sq fun K2 hK2 => ?_
 refine sq fun K3 hK3 => ?_
 refine rgn 18 ?_
 refine sg wide_wide [.p, .as (.bool false), .p, .p, .as (.bool false), .p, .p, .p, .as (.bool false), .p, .p, .p, .as (.bool true), .p, .p, .as (.bool true), .p, .p] [Value.bool (decide ((k : Int) < 2)) = .bool false, Value.bool (decide ((k : Int) > 5)) = .bool false, Value.bool (decide ((n : Int) < 0)) = .bool false, Value.bool (((n : Int) != 0)) = .bool true, Value.bool (((k : Int) != 2)) = .bool true] [(0, (Pv sb)), (1, I6 k), (2, I6 n), (3, v), (8, .pointer none), (9, I6 0), (30, .bool true)] 18 0 hS (.cons (as_f (by omega)) (.cons (as_f (by omega)) (.cons (as_f (by omega)) (.cons (as_ne_t (by omega)) (.cons (as_ne_t (by omega)) .nil))))) fun a hS => ?_
 refine seg_end ?_
 refine hK3 _ _ ?_
 refine cond_t hS rfl ?_
 refine sq fun K4 hK4 => ?_
 refine rgn 2 ?_
 refine sg wide_wide [.p, .p] [] [(0, (Pv sb)), (1, I6 k), (2, I6 n), (3, v), (8, .pointer none), (9, I6 101), (30, .bool true)] 2 0 hS .nil fun a hS => ?_
 refine seg_end ?_
 refine hK4 _ _ ?_
 refine wpIn_ret ?_
 refine then_ret ?_
 refine ret2 hS Try.results20 rfl rfl ?_
 exact ⟨rfl, rfl⟩

/-- a kind or a number that no node has -/
theorem MakeBad_any (sb : Nat) (k n : Int) (v : Value) (w : World) (h : k < 2 ∨ 5 < k ∨ n < 0 ∨ (n ≠ 0 ∧ k ≠ 2)) :
  Calls Try.prog 20 #[(Pv sb), I6 k, I6 n, v] w fun e w' => e = .returned (.tuple #[.pointer none, I6 101]) ∧ w' = w := by
 by_cases h1 : k < 2
 ·exact MakeBad_lt sb k n v w h1
 ·by_cases h2 : 5 < k
  ·exact MakeBad_gt sb k n v w ⟨by omega, h2⟩
  ·by_cases h3 : n < 0
   ·exact MakeBad_n sb k n v w ⟨by omega, by omega, h3⟩
   ·exact MakeBad_k sb k n v w (by omega)

end Go.Proofs.Ytpglmeeledmkoaa
