import Derived.Test.YtpglmeeledmkoaaProg
import Derived.Test.YtpglmeeledmkoaaVc
import Derived.Test.YtpglmeeledmkoaaT36
namespace Go.Proofs.Ytpglmeeledmkoaa
open Go.Vc

theorem SameRows_T {ab bb : Option Addr} {n ac bc : Nat} {l : List Tr} {w : World} (hA : OwnV w 64 6 (.slice ab n ac) n (rowsT l)) (hB : OwnV w 64 6 (.slice bb n bc) n (rowsT l)) (hn : n = l.length) (hm : n ≤ 1000000000) :
  Calls Try.prog 27 #[.slice ab n ac, .slice bb n bc] w fun e w' => e = .returned (.bool true) ∧ Ext [] w w' := by
 refine calls_body 26 [(0, .slice ab n ac), (1, .slice bb n bc)] Try.func27 rfl (by kernel_rfl) (by kernel_rfl) (by kernel_rfl) fun a hS => ?_
 have hE0 : Ext [] w w := Ext.refl _ _
 refine sq fun K1 hK1 => ?_
 refine rgn 1 ?_
 refine sg wide_wide [.p] [] [(0, .slice ab n ac), (1, .slice bb n bc), (4, .bool false)] 1 0 hS .nil fun a hS => ?_
 refine seg_end ?_
 refine hK1 _ _ ?_
 refine sq fun K2 hK2 => ?_
 refine sq fun K3 hK3 => ?_
 refine rgn 5 ?_
 refine sg wide_wide [.p, .p, .p, .p, .as (.bool false)] [Value.bool (((↑n : Int) != ↑n)) = .bool false] [(0, .slice ab n ac), (1, .slice bb n bc), (4, .bool false), (10, .bool false)] 5 0 hS (.cons (as_ne_f (rfl)) .nil) fun a hS => ?_
 refine seg_end ?_
 refine hK3 _ _ ?_
 refine cond_f hS rfl ?_
 refine wpIn_skip ?_
 refine hK2 _ _ ?_
 refine sq fun K4 hK4 => ?_
 refine sq fun K5 hK5 => ?_
 refine rgn 1 ?_
 refine sg wide_wide [.p] [] [(0, .slice ab n ac), (1, .slice bb n bc), (4, .bool false), (10, .bool false), (5, I6 0)] 1 0 hS .nil fun a hS => ?_
 refine seg_end ?_
 refine hK5 _ _ ?_
 refine wpIn_block ?_
 refine loop_ghost (fun (i : Nat) a' w' => St 26 [] [(0, .slice ab n ac), (1, .slice bb n bc), (5, I6 ↑i)] a' ∧ i ≤ n ∧ Ext [] w w') (fun (i : Nat) => n - i) 0 ⟨hS.keepTo [0, 1, 5] (by kernel_rfl), Nat.zero_le _, hE0⟩ ?_
 rintro i a w3 ⟨hS, hil, hEx⟩
 have hA3 := hA.ext hEx (by simp)
 have hB3 := hB.ext hEx (by simp)
 refine sq fun K6 hK6 => ?_
 refine sq fun K7 hK7 => ?_
 refine rgn 4 ?_
 refine sg wide_wide [.p, .p, .p, .p] [] [(0, .slice ab n ac), (1, .slice bb n bc), (5, I6 ↑i), (14, .bool (decide ((↑i : Int) < ↑n)))] 4 0 hS .nil fun a hS => ?_
 refine seg_end ?_
 refine hK7 _ _ ?_
 refine cond_b hS rfl (fun hb8 => ?_) (fun hb8 => ?_)
 ·
  replace hb8 := of_decide_eq_true hb8
  have hi : i < n := by omega
  obtain ⟨t, ht⟩ : ∃ t, l[i]? = some t := ⟨_, List.getElem?_eq_getElem (by omega)⟩
  refine wpIn_skip ?_
  refine hK6 _ _ ?_
  refine sq fun K9 hK9 => ?_
  refine wpIn_block ?_
  refine sq fun K10 hK10 => ?_
  refine region_fn2 wide_wide [.q .p, .q .p, .q (.run ((Po (bof (.slice ab n ac)) (0 + i * 6)))), .q (.lds [I6 t.kd, I6 t.nn, I6 t.ls, I6 t.ll, I6 ↑t.kids.length, I6 t.num]), .q .p, .q .p, .q (.run ((Po (bof (.slice bb n bc)) (0 + i * 6)))), .q (.lds [I6 t.kd, I6 t.nn, I6 t.ls, I6 t.ll, I6 ↑t.kids.length, I6 t.num]), .q (.run (.bool false))] [0, 0, 0, 0, 0, 0, 0, 0, 0] [0, 0, 0, 0, 0, 0, 0, 0, 0] [0, 0, 3, 7, 0, 0, 48, 112, 255] [] 0 ([(0, .slice ab n ac), (1, .slice bb n bc), (5, I6 ↑i), (17, .slice ab n ac), (18, I6 ↑i), (19, (Po (bof (.slice ab n ac)) (0 + i * 6))), (20, .agg #[I6 t.kd, I6 t.nn, I6 t.ls, I6 t.ll, I6 ↑t.kids.length, I6 t.num]), (21, .slice bb n bc), (22, I6 ↑i), (23, (Po (bof (.slice bb n bc)) (0 + i * 6))), (24, .agg #[I6 t.kd, I6 t.nn, I6 t.ls, I6 t.ll, I6 ↑t.kids.length, I6 t.num]), (25, .bool false)]) [w3.drew] w3.drew (fun w' => [(2, [Ru Try.prog (vS (Instr.indexAt 54 (.slice ab n ac) (I6 ↑i))) ((Po (bof (.slice ab n ac)) (0 + i * 6))) w']), (3, [w'.cell? ⟨bof (.slice ab n ac), 0 + i * 6, none⟩ = some (I6 t.kd), w'.cell? ⟨bof (.slice ab n ac), 0 + i * 6 + 1, none⟩ = some (I6 t.nn), w'.cell? ⟨bof (.slice ab n ac), 0 + i * 6 + 2, none⟩ = some (I6 t.ls), w'.cell? ⟨bof (.slice ab n ac), 0 + i * 6 + 3, none⟩ = some (I6 t.ll), w'.cell? ⟨bof (.slice ab n ac), 0 + i * 6 + 4, none⟩ = some (I6 ↑t.kids.length), w'.cell? ⟨bof (.slice ab n ac), 0 + i * 6 + 5, none⟩ = some (I6 t.num)]), (6, [Ru Try.prog (vS (Instr.indexAt 54 (.slice bb n bc) (I6 ↑i))) ((Po (bof (.slice bb n bc)) (0 + i * 6))) w']), (7, [w'.cell? ⟨bof (.slice bb n bc), 0 + i * 6, none⟩ = some (I6 t.kd), w'.cell? ⟨bof (.slice bb n bc), 0 + i * 6 + 1, none⟩ = some (I6 t.nn), w'.cell? ⟨bof (.slice bb n bc), 0 + i * 6 + 2, none⟩ = some (I6 t.ls), w'.cell? ⟨bof (.slice bb n bc), 0 + i * 6 + 3, none⟩ = some (I6 t.ll), w'.cell? ⟨bof (.slice bb n bc), 0 + i * 6 + 4, none⟩ = some (I6 ↑t.kids.length), w'.cell? ⟨bof (.slice bb n bc), 0 + i * 6 + 5, none⟩ = some (I6 t.num)]), (8, [Ru Try.prog (vS (do eqGuard .neq 64 (.tmp 20) (.tmp 24) (.agg #[I6 t.kd, I6 t.nn, I6 t.ls, I6 t.ll, I6 ↑t.kids.length, I6 t.num]) (.agg #[I6 t.kd, I6 t.nn, I6 t.ls, I6 t.ll, I6 ↑t.kids.length, I6 t.num]); binOp .neq 64 (.agg #[I6 t.kd, I6 t.nn, I6 t.ls, I6 t.ll, I6 ↑t.kids.length, I6 t.num]) (.agg #[I6 t.kd, I6 t.nn, I6 t.ls, I6 t.ll, I6 ↑t.kids.length, I6 t.num]))) (.bool false) w'])]) [0, 1, 5] [] hS (by kernel_rfl) (by kernel_rfl) (by kernel_rfl) (by kernel_rfl) (fun _ => by kernel_rfl) (by kernel_rfl) (by kernel_rfl) (by kernel_rfl) ?_ ?_ ?_
  ·intro e w' hw
   refine (.cons ?_ (.cons ?_ (.cons ?_ (.cons ?_ (.cons ?_ .nil)))))
   ·exact fun _ _ => (.cons (ix_own (j := i) (hA3) (by kernel_rfl) (by kernel_rfl) rfl hi) .nil)
   ·intro h1 h2
    obtain rfl : e = 0 := Nat.le_antisymm h2 h1
    obtain rfl : w' = w3.drew := hw.trans (by kernel_rfl)
    exact (.cons ((hA3.drew : OwnV w3.drew 64 6 (.slice ab n ac) n (rowsT l)).cellAt _ (by rw [show 0 + i * 6 = 0 + i * 6 + 0 from rfl, rowsT_at l i 0 t ht (by omega)]; rfl)) (.cons ((hA3.drew : OwnV w3.drew 64 6 (.slice ab n ac) n (rowsT l)).cellAt _ (by rw [show 0 + i * 6 + 1 = 0 + i * 6 + 1 from rfl, rowsT_at l i 1 t ht (by omega)]; rfl)) (.cons ((hA3.drew : OwnV w3.drew 64 6 (.slice ab n ac) n (rowsT l)).cellAt _ (by rw [show 0 + i * 6 + 2 = 0 + i * 6 + 2 from rfl, rowsT_at l i 2 t ht (by omega)]; rfl)) (.cons ((hA3.drew : OwnV w3.drew 64 6 (.slice ab n ac) n (rowsT l)).cellAt _ (by rw [show 0 + i * 6 + 3 = 0 + i * 6 + 3 from rfl, rowsT_at l i 3 t ht (by omega)]; rfl)) (.cons ((hA3.drew : OwnV w3.drew 64 6 (.slice ab n ac) n (rowsT l)).cellAt _ (by rw [show 0 + i * 6 + 4 = 0 + i * 6 + 4 from rfl, rowsT_at l i 4 t ht (by omega)]; rfl)) (.cons ((hA3.drew : OwnV w3.drew 64 6 (.slice ab n ac) n (rowsT l)).cellAt _ (by rw [show 0 + i * 6 + 5 = 0 + i * 6 + 5 from rfl, rowsT_at l i 5 t ht (by omega)]; rfl)) .nil))))))
   ·exact fun _ _ => (.cons (ix_own (j := i) (hB3) (by kernel_rfl) (by kernel_rfl) rfl hi) .nil)
   ·intro h1 h2
    obtain rfl : e = 0 := Nat.le_antisymm h2 h1
    obtain rfl : w' = w3.drew := hw.trans (by kernel_rfl)
    exact (.cons ((hB3.drew : OwnV w3.drew 64 6 (.slice bb n bc) n (rowsT l)).cellAt _ (by rw [show 0 + i * 6 = 0 + i * 6 + 0 from rfl, rowsT_at l i 0 t ht (by omega)]; rfl)) (.cons ((hB3.drew : OwnV w3.drew 64 6 (.slice bb n bc) n (rowsT l)).cellAt _ (by rw [show 0 + i * 6 + 1 = 0 + i * 6 + 1 from rfl, rowsT_at l i 1 t ht (by omega)]; rfl)) (.cons ((hB3.drew : OwnV w3.drew 64 6 (.slice bb n bc) n (rowsT l)).cellAt _ (by rw [show 0 + i * 6 + 2 = 0 + i * 6 + 2 from rfl, rowsT_at l i 2 t ht (by omega)]; rfl)) (.cons ((hB3.drew : OwnV w3.drew 64 6 (.slice bb n bc) n (rowsT l)).cellAt _ (by rw [show 0 + i * 6 + 3 = 0 + i * 6 + 3 from rfl, rowsT_at l i 3 t ht (by omega)]; rfl)) (.cons ((hB3.drew : OwnV w3.drew 64 6 (.slice bb n bc) n (rowsT l)).cellAt _ (by rw [show 0 + i * 6 + 4 = 0 + i * 6 + 4 from rfl, rowsT_at l i 4 t ht (by omega)]; rfl)) (.cons ((hB3.drew : OwnV w3.drew 64 6 (.slice bb n bc) n (rowsT l)).cellAt _ (by rw [show 0 + i * 6 + 5 = 0 + i * 6 + 5 from rfl, rowsT_at l i 5 t ht (by omega)]; rfl)) .nil))))))
   ·exact fun _ _ => (.cons ((bin_agg_self (by kernel_rfl) (by kernel_rfl)).2) .nil)
  ·refine .nil
  rintro a w12 hS hw13
  replace hw13 : w12 = w3.drew := hw13.trans (by kernel_rfl)
  have hE16 : Ext [] w w12 := by rw [hw13]; exact hEx.drew
  replace hS := hS.kp [(0, .slice ab n ac), (1, .slice bb n bc), (5, I6 ↑i), (25, .bool false)]
  refine hK10 _ _ ?_
  refine cond_f hS rfl ?_
  refine wpIn_skip ?_
  refine inBlock_normal ?_
  refine hK9 _ _ ?_
  refine rgn 3 ?_
  refine sg wide_wide [.p, .as (I6 (↑i + 1)), .p] [Value.int .i64 (IntKind.i64.wrap (↑i + 1)) = I6 (↑i + 1)] [(0, .slice ab n ac), (1, .slice bb n bc), (5, I6 (↑i + 1)), (25, .bool false)] 3 0 hS (.cons (as_i64 (by omega)) .nil) fun a hS => ?_
  refine seg_end ?_
  exact ⟨i + 1, ⟨hS.keepTo [0, 1, 5] (by kernel_rfl), by omega, hE16⟩, by omega⟩
 ·
  replace hb8 := of_decide_eq_false hb8
  refine wpIn_exit ?_
  refine then_exit ?_
  refine then_exit ?_
  refine inBlock_hit ?_
  refine hK4 _ _ ?_
  refine sq fun K17 hK17 => ?_
  refine rgn 1 ?_
  refine sg wide_wide [.p] [] [(0, .slice ab n ac), (1, .slice bb n bc), (5, I6 ↑i), (4, .bool true)] 1 0 hS .nil fun a hS => ?_
  refine seg_end ?_
  refine hK17 _ _ ?_
  refine wpIn_ret ?_
  refine ret1 hS Try.results27 rfl ?_
  exact ⟨rfl, hEx⟩

end Go.Proofs.Ytpglmeeledmkoaa
