import Derived.Test.YtpglmeeledmkoaaProg
import Derived.Test.YtpglmeeledmkoaaVc
import Derived.Test.YtpglmeeledmkoaaT8
namespace Go.Proofs.Ytpglmeeledmkoaa
open Go.Vc

def rnd (k n : Int) : Int := if k.tmod n < 0 then k.tmod n + n else k.tmod n
theorem rnd_bd (k : Int) {n : Int} (hn : 0 < n) : 0 ≤ rnd k n ∧ rnd k n < n := by
 have := tmod_bd k hn
 unfold rnd; split <;> omega

theorem Round_any {k n : Int} {w : World} (hn : 0 < n ∧ n ≤ 9223372036854775807) :
  Calls Try.prog 24 #[I6 k, I6 n] w fun e w' => e = .returned (I6 (rnd k n)) ∧ w' = w := by
 have hb := tmod_bd k hn.1
 have hr : rnd k n = if k.tmod n < 0 then k.tmod n + n else k.tmod n := rfl
 have hrem := fun (a b : Operand) (w : World) => bin_rem (P := Try.prog) (w := w) (T := 3) (a := a) (b := b) (x := k) (y := n) (by omega)
 rw [hr]
 generalize k.tmod n = m at hb hrem
 refine calls_body 14 [(0, I6 k), (1, I6 n)] Try.func24 rfl (by kernel_rfl) (by kernel_rfl) (by kernel_rfl) fun a hS => ?_
 refine sq fun K1 hK1 => ?_
 refine rgn 1 ?_
 refine sg wide_wide [.p] [] [(0, I6 k), (1, I6 n), (4, I6 0)] 1 0 hS .nil fun a hS => ?_
 refine seg_end ?_
 refine hK1 _ _ ?_
 refine sq fun K2 hK2 => ?_
 refine rgn 4 ?_
 refine sg wide_wide [.p, .p, .run (I6 m), .p] [Ru Try.prog (vS (do eqGuard .rem 3 (.tmp 5) (.tmp 6) (I6 k) (I6 n); binOp .rem 3 (I6 k) (I6 n))) (I6 m) w] [(0, I6 m), (1, I6 n), (4, I6 0)] 4 0 hS (.cons (hrem _ _ _) .nil) fun a hS => ?_
 refine seg_end ?_
 refine hK2 _ _ ?_
 refine sq fun K3 hK3 => ?_
 refine sq fun K4 hK4 => ?_
 refine rgn 2 ?_
 refine sg wide_wide [.p, .p] [] [(0, I6 m), (1, I6 n), (4, I6 0), (9, .bool (decide ((m : Int) < 0)))] 2 0 hS .nil fun a hS => ?_
 refine seg_end ?_
 refine hK4 _ _ ?_
 refine cond_b hS rfl (fun hb5 => ?_) (fun hb5 => ?_)
 ·
  replace hb5 := of_decide_eq_true hb5
  refine rgn 4 ?_
  refine sg wide_wide [.p, .p, .as (I6 (m + n)), .p] [Value.int .i64 (IntKind.i64.wrap (m + n)) = I6 (m + n)] [(0, I6 (m + n)), (1, I6 n), (4, I6 0)] 4 0 hS (.cons (as_i64 (by omega)) .nil) fun a hS => ?_
  refine seg_end ?_
  refine hK3 _ _ ?_
  refine sq fun K6 hK6 => ?_
  refine rgn 2 ?_
  refine sg wide_wide [.p, .p] [] [(0, I6 (m + n)), (1, I6 n), (4, I6 (m + n))] 2 0 hS .nil fun a hS => ?_
  refine seg_end ?_
  refine hK6 _ _ ?_
  refine wpIn_ret ?_
  refine ret1 hS Try.results24 rfl ?_
  exact ⟨by rw [if_pos hb5], rfl⟩
 ·
  replace hb5 := of_decide_eq_false hb5
  refine wpIn_skip ?_
  refine hK3 _ _ ?_
  refine sq fun K7 hK7 => ?_
  refine rgn 2 ?_
  refine sg wide_wide [.p, .p] [] [(0, I6 m), (1, I6 n), (4, I6 m)] 2 0 hS .nil fun a hS => ?_
  refine seg_end ?_
  refine hK7 _ _ ?_
  refine wpIn_ret ?_
  refine ret1 hS Try.results24 rfl ?_
  exact ⟨by rw [if_neg (by omega)], rfl⟩

end Go.Proofs.Ytpglmeeledmkoaa
