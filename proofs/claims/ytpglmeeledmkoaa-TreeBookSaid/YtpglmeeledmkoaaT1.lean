import Derived.Test.YtpglmeeledmkoaaProg
import Derived.Test.YtpglmeeledmkoaaVc
namespace Go.Proofs.Ytpglmeeledmkoaa
open Go.Vc

theorem Width_any {b : Nat} {st : Option Addr} {num kd nn lk ls ll lr wd lf tt : Int} {ks : Value} {fl : Bool} {w : World} (hN : Blk w b 106 #[.pointer st, .int .i64 num, .int .i64 kd, .int .i64 nn, .int .i64 lk, .int .i64 ls, .int .i64 ll, .int .i64 lr, ks, .int .i64 wd, .int .i64 lf, .int .i64 tt, .bool fl]) :
    Calls Try.prog 19 #[.pointer (some ⟨b, 0, none⟩)] w fun e w' => e = .returned (.int .i64 wd) ∧ w' = w := by
  refine calls_body 7 [(0, .pointer (some ⟨b, 0, none⟩))] Try.func19 rfl (by kernel_rfl) (by kernel_rfl) (by kernel_rfl) fun a hS => ?_
  refine sq fun K1 hK1 => ?_
  refine rgn 1 ?_
  refine sg wide_wide [.p] [] [(0, .pointer (some ⟨b, 0, none⟩)), (2, .int .i64 0)] 1 0 hS .nil fun a hS => ?_
  refine seg_end ?_
  refine hK1 _ _ ?_
  refine sq fun K2 hK2 => ?_
  refine rgn 5 ?_
  refine sg wide_wide [.p, .p, .p, .ld (.int .i64 wd), .p] [_] [(0, .pointer (some ⟨b, 0, none⟩)), (2, .int .i64 wd)] 5 0 hS (.cons (hN.cell 9 rfl) .nil) fun a hS => ?_
  refine seg_end ?_
  refine hK2 _ _ ?_
  refine wpIn_ret ?_
  refine ret1 hS Try.results19 rfl ?_
  exact ⟨rfl, rfl⟩

theorem Leafs_any {b : Nat} {st : Option Addr} {num kd nn lk ls ll lr wd lf tt : Int} {ks : Value} {fl : Bool} {w : World} (hN : Blk w b 106 #[.pointer st, .int .i64 num, .int .i64 kd, .int .i64 nn, .int .i64 lk, .int .i64 ls, .int .i64 ll, .int .i64 lr, ks, .int .i64 wd, .int .i64 lf, .int .i64 tt, .bool fl]) :
    Calls Try.prog 21 #[.pointer (some ⟨b, 0, none⟩)] w fun e w' => e = .returned (.int .i64 lf) ∧ w' = w := by
  refine calls_body 7 [(0, .pointer (some ⟨b, 0, none⟩))] Try.func21 rfl (by kernel_rfl) (by kernel_rfl) (by kernel_rfl) fun a hS => ?_
  refine sq fun K1 hK1 => ?_
  refine rgn 1 ?_
  refine sg wide_wide [.p] [] [(0, .pointer (some ⟨b, 0, none⟩)), (2, .int .i64 0)] 1 0 hS .nil fun a hS => ?_
  refine seg_end ?_
  refine hK1 _ _ ?_
  refine sq fun K2 hK2 => ?_
  refine rgn 5 ?_
  refine sg wide_wide [.p, .p, .p, .ld (.int .i64 lf), .p] [_] [(0, .pointer (some ⟨b, 0, none⟩)), (2, .int .i64 lf)] 5 0 hS (.cons (hN.cell 10 rfl) .nil) fun a hS => ?_
  refine seg_end ?_
  refine hK2 _ _ ?_
  refine wpIn_ret ?_
  refine ret1 hS Try.results21 rfl ?_
  exact ⟨rfl, rfl⟩

theorem Number_any {b : Nat} {st : Option Addr} {num kd nn lk ls ll lr wd lf tt : Int} {ks : Value} {fl : Bool} {w : World} (hN : Blk w b 106 #[.pointer st, .int .i64 num, .int .i64 kd, .int .i64 nn, .int .i64 lk, .int .i64 ls, .int .i64 ll, .int .i64 lr, ks, .int .i64 wd, .int .i64 lf, .int .i64 tt, .bool fl]) :
    Calls Try.prog 31 #[.pointer (some ⟨b, 0, none⟩)] w fun e w' => e = .returned (.int .i64 num) ∧ w' = w := by
  refine calls_body 7 [(0, .pointer (some ⟨b, 0, none⟩))] Try.func31 rfl (by kernel_rfl) (by kernel_rfl) (by kernel_rfl) fun a hS => ?_
  refine sq fun K1 hK1 => ?_
  refine rgn 1 ?_
  refine sg wide_wide [.p] [] [(0, .pointer (some ⟨b, 0, none⟩)), (2, .int .i64 0)] 1 0 hS .nil fun a hS => ?_
  refine seg_end ?_
  refine hK1 _ _ ?_
  refine sq fun K2 hK2 => ?_
  refine rgn 5 ?_
  refine sg wide_wide [.p, .p, .p, .ld (.int .i64 num), .p] [_] [(0, .pointer (some ⟨b, 0, none⟩)), (2, .int .i64 num)] 5 0 hS (.cons (hN.cell 1 rfl) .nil) fun a hS => ?_
  refine seg_end ?_
  refine hK2 _ _ ?_
  refine wpIn_ret ?_
  refine ret1 hS Try.results31 rfl ?_
  exact ⟨rfl, rfl⟩

def bt (n : Int) : Int := if n < 0 ∨ 262144 < n then 0 else n

theorem bytes_lt (n : Int) (w : World) (h : n < 0) :
    Calls Try.prog 53 #[.int .i64 n] w fun e w' => e = .returned (.int .i64 0) ∧ w' = w := by
  refine calls_body 10 [(0, .int .i64 n)] Try.func53 rfl (by kernel_rfl) (by kernel_rfl) (by kernel_rfl) fun a hS => ?_
  refine sq fun K1 hK1 => ?_
  refine rgn 1 ?_
  refine sg wide_wide [.p] [] [(0, .int .i64 n), (2, .int .i64 0)] 1 0 hS .nil fun a hS => ?_
  refine seg_end ?_
  refine hK1 _ _ ?_
  refine sq fun K2 hK2 => ?_
  refine sq fun K3 hK3 => ?_
  refine rgn 6 ?_
  refine sg wide_wide [.p, .as (.bool true), .p, .no, .no, .p] [Value.bool (decide ((n : Int) < 0)) = .bool true] [(0, .int .i64 n), (2, .int .i64 0), (8, .bool true)] 6 0 hS (.cons (as_t (by omega)) .nil) fun a hS => ?_
  refine seg_end ?_
  refine hK3 _ _ ?_
  refine cond_t hS rfl ?_
  refine sq fun K4 hK4 => ?_
  refine rgn 1 ?_
  refine sg wide_wide [.p] [] [(0, .int .i64 n), (2, .int .i64 0), (8, .bool true)] 1 0 hS .nil fun a hS => ?_
  refine seg_end ?_
  refine hK4 _ _ ?_
  refine wpIn_ret ?_
  refine then_ret ?_
  refine ret1 hS Try.results53 rfl ?_
  exact ⟨rfl, rfl⟩

theorem bytes_gt (n : Int) (w : World) (h : 262144 < n) :
    Calls Try.prog 53 #[.int .i64 n] w fun e w' => e = .returned (.int .i64 0) ∧ w' = w := by
  refine calls_body 10 [(0, .int .i64 n)] Try.func53 rfl (by kernel_rfl) (by kernel_rfl) (by kernel_rfl) fun a hS => ?_
  refine sq fun K1 hK1 => ?_
  refine rgn 1 ?_
  refine sg wide_wide [.p] [] [(0, .int .i64 n), (2, .int .i64 0)] 1 0 hS .nil fun a hS => ?_
  refine seg_end ?_
  refine hK1 _ _ ?_
  refine sq fun K2 hK2 => ?_
  refine sq fun K3 hK3 => ?_
  refine rgn 6 ?_
  refine sg wide_wide [.p, .as (.bool false), .p, .p, .as (.bool true), .p] [Value.bool (decide ((n : Int) < 0)) = .bool false, Value.bool (decide ((n : Int) > 262144)) = .bool true] [(0, .int .i64 n), (2, .int .i64 0), (8, .bool true)] 6 0 hS (.cons (as_f (by omega)) (.cons (as_t (by omega)) .nil)) fun a hS => ?_
  refine seg_end ?_
  refine hK3 _ _ ?_
  refine cond_t hS rfl ?_
  refine sq fun K4 hK4 => ?_
  refine rgn 1 ?_
  refine sg wide_wide [.p] [] [(0, .int .i64 n), (2, .int .i64 0), (8, .bool true)] 1 0 hS .nil fun a hS => ?_
  refine seg_end ?_
  refine hK4 _ _ ?_
  refine wpIn_ret ?_
  refine then_ret ?_
  refine ret1 hS Try.results53 rfl ?_
  exact ⟨rfl, rfl⟩

theorem bytes_in (n : Int) (w : World) (h : 0 ≤ n ∧ n ≤ 262144) :
    Calls Try.prog 53 #[.int .i64 n] w fun e w' => e = .returned (.int .i64 n) ∧ w' = w := by
  refine calls_body 10 [(0, .int .i64 n)] Try.func53 rfl (by kernel_rfl) (by kernel_rfl) (by kernel_rfl) fun a hS => ?_
  refine sq fun K1 hK1 => ?_
  refine rgn 1 ?_
  refine sg wide_wide [.p] [] [(0, .int .i64 n), (2, .int .i64 0)] 1 0 hS .nil fun a hS => ?_
  refine seg_end ?_
  refine hK1 _ _ ?_
  refine sq fun K2 hK2 => ?_
  refine sq fun K3 hK3 => ?_
  refine rgn 6 ?_
  refine sg wide_wide [.p, .as (.bool false), .p, .p, .as (.bool false), .p] [Value.bool (decide ((n : Int) < 0)) = .bool false, Value.bool (decide ((n : Int) > 262144)) = .bool false] [(0, .int .i64 n), (2, .int .i64 0), (8, .bool false)] 6 0 hS (.cons (as_f (by omega)) (.cons (as_f (by omega)) .nil)) fun a hS => ?_
  refine seg_end ?_
  refine hK3 _ _ ?_
  refine cond_f hS rfl ?_
  refine wpIn_skip ?_
  refine hK2 _ _ ?_
  refine sq fun K4 hK4 => ?_
  refine rgn 2 ?_
  refine sg wide_wide [.p, .p] [] [(0, .int .i64 n), (2, .int .i64 n), (8, .bool false)] 2 0 hS .nil fun a hS => ?_
  refine seg_end ?_
  refine hK4 _ _ ?_
  refine wpIn_ret ?_
  refine ret1 hS Try.results53 rfl ?_
  exact ⟨rfl, rfl⟩

theorem bytes_any (n : Int) (w : World) : Calls Try.prog 53 #[.int .i64 n] w fun e w' => e = .returned (.int .i64 (bt n)) ∧ w' = w := by
  unfold bt
  by_cases h1 : n < 0
  · rw [if_pos (.inl h1)]; exact bytes_lt n w h1
  · by_cases h2 : 262144 < n
    · rw [if_pos (.inr h2)]; exact bytes_gt n w h2
    · rw [if_neg (by omega)]; exact bytes_in n w (by omega)

theorem New_any (w : World) :
    Calls Try.prog 16 #[] w fun e w' => e = .returned (.pointer (some ⟨w.heap.size, 0, none⟩)) ∧ w' = w.alloc (.cells #[.int .i64 0] 102) := by
  refine calls_body 3 [] Try.func16 rfl (by kernel_rfl) (by kernel_rfl) (by kernel_rfl) fun a hS => ?_
  refine sq fun K1 hK1 => ?_
  refine rgn 1 ?_
  refine sg wide_wide [.p] [] [(0, .pointer none)] 1 0 hS .nil fun a hS => ?_
  refine seg_end ?_
  refine hK1 _ _ ?_
  refine sq fun K2 hK2 => ?_
  refine rgn 3 ?_
  refine sg wide_wide [.p] [] [(0, .pointer none), (1, .agg #[.int .i64 0])] 1 2 hS .nil fun a hS => ?_
  refine eff_box wide_wide (r := 1) (cs := #[.int .i64 0]) (T := 102) (d := (some 2)) hS (by kernel_rfl) fun a w3 hw4 hS => ?_
  have hB5 : Blk w3 (w.heap.size) 102 #[.int .i64 0] := by rw [hw4]; exact Blk.new _ _ _
  refine sg wide_wide [.p] [] [(0, .pointer (some ⟨w.heap.size, 0, none⟩))] 3 0 hS .nil fun a hS => ?_
  refine seg_end ?_
  refine hK2 _ _ ?_
  refine wpIn_ret ?_
  refine ret1 hS Try.results16 rfl ?_
  exact ⟨rfl, hw4⟩

end Go.Proofs.Ytpglmeeledmkoaa
