import Derived.Test.YtpglmeeledmkoaaProg
import Derived.Test.YtpglmeeledmkoaaVc
import Derived.Test.YtpglmeeledmkoaaT1
namespace Go.Proofs.Ytpglmeeledmkoaa
open Go.Vc

theorem run_add64 {P : Program} {w : World} {x y : Int} (h : -9223372036854775808 ≤ x + y ∧ x + y ≤ 9223372036854775807) : (Op.intArith .add .i64 x y).run P w = .ok (I6 (x + y)) w := by
 have := as_i64 h
 simp only [Op.intArith, Sem.run_pure, this]

theorem bt_bd (n : Int) : 0 ≤ bt n ∧ bt n ≤ 262144 := by unfold bt; split <;> omega

theorem Add_any {b : Nat} {x : Int} {w : World} (hB : Blk w b 102 #[I6 x]) (hx : 0 ≤ x ∧ x < 4611686018427387904) :
  Calls Try.prog 52 #[(Pv b), I6 1] w fun e w' => e = .returned (I6 (x + 1)) ∧ w' = upd w b 102 #[I6 (x + 1)] := by
 refine calls_body 10 [(0, (Pv b)), (1, I6 1)] Try.func52 rfl (by kernel_rfl) (by kernel_rfl) (by kernel_rfl) fun a hS => ?_
 refine sq fun K1 hK1 => ?_
 refine rgn 1 ?_
 refine sg wide_wide [.p] [] [(0, (Pv b)), (1, I6 1), (4, I6 0)] 1 0 hS .nil fun a hS => ?_
 refine seg_end ?_
 refine hK1 _ _ ?_
 refine sq fun K2 hK2 => ?_
 refine rgn 6 ?_
 refine sg wide_wide [.p, .p, .p, .p] [] [(0, (Pv b)), (1, I6 1), (4, I6 0), (7, (Pv b)), (8, I6 1)] 4 2 hS .nil fun a hS => ?_
 refine eff_run wide_wide (r := 1) (s := callFunc 77 #[(Pv b), I6 1]) (d := (some 9)) (v := I6 (x + 1)) hS (by kernel_rfl) (run_call_add Try.func77 (by kernel_rfl) (by kernel_rfl) (by kernel_rfl) .i64 (by kernel_rfl) (hB.cell 0 rfl) (hB.frozen 0) (run_add64 (by omega))) fun a hS => ?_
 rw [setCell_upd hB]
 obtain ⟨w1, hw1⟩ : ∃ w1, w1 = upd w b 102 #[I6 (x + 1)] := ⟨_, rfl⟩
 replace hw1 : w1 = upd w b 102 ((#[Value.int .i64 x] : Array Value).setIfInBounds 0 (I6 (x + 1))) := hw1
 rw [← hw1]
 refine sg wide_wide [.p] [] [(0, (Pv b)), (1, I6 1), (4, I6 (x + 1))] 6 0 hS .nil fun a hS => ?_
 refine seg_end ?_
 refine hK2 _ _ ?_
 refine wpIn_ret ?_
 refine ret1 hS Try.results52 rfl ?_
 exact ⟨rfl, hw1⟩

theorem Leaf_any {sb : Nat} {x lk ls ll lr : Int} {w : World} (hB : Blk w sb 102 #[I6 x]) (hx : 0 ≤ x ∧ x < 4611686018427387904) :
  Calls Try.prog 18 #[(Pv sb), .agg #[I6 lk, I6 ls, I6 ll, I6 lr]] w fun e w' => ∃ nb, e = .returned ((Pv nb)) ∧ w.heap.size ≤ nb ∧ Blk w' nb 106 #[(Pv sb), I6 (x + 1), I6 1, I6 lk, I6 lk, I6 ls, I6 ll, I6 lr, .slice none 0 0, I6 (bt ls + bt ll), I6 1, I6 1, .bool (lk == -1)] ∧ Blk w' sb 102 #[I6 (x + 1)] ∧ Ext [sb] w w' := by
 have hb1 := bt_bd ls
 have hb2 := bt_bd ll
 refine calls_body 25 [(0, (Pv sb)), (1, .agg #[I6 lk, I6 ls, I6 ll, I6 lr])] Try.func18 rfl (by kernel_rfl) (by kernel_rfl) (by kernel_rfl) fun a hS => ?_
 have hE0 : Ext [sb] w w := Ext.refl _ _
 refine sq fun K1 hK1 => ?_
 refine rgn 2 ?_
 refine eff_box wide_wide (r := 1) (cs := #[I6 lk, I6 ls, I6 ll, I6 lr]) (T := 38) (d := (some 3)) hS (by kernel_rfl) fun a w2 hw3 hS => ?_
 have hn4 : sb ≠ w.heap.size := Nat.ne_of_lt hB.lt
 have hB5 := Blk.at' hw3 (hB.alloc _)
 have hB6 : Blk w2 (w.heap.size) 38 #[I6 lk, I6 ls, I6 ll, I6 lr] := by rw [hw3]; exact Blk.new _ _ _
 have hs7 : w.heap.size ≤ w.heap.size := hE0.size
 have hE8 : Ext [sb] w w2 := by rw [hw3]; exact hE0.alloc _
 refine sg wide_wide [.p] [] [(0, (Pv sb)), (1, .agg #[I6 lk, I6 ls, I6 ll, I6 lr]), (3, (Pv w.heap.size)), (4, .pointer none)] 2 0 hS .nil fun a hS => ?_
 refine seg_end ?_
 refine hK1 _ _ ?_
 refine sq fun K9 hK9 => ?_
 refine region_fn2 wide_wide [.q .p, .q .p, .q .p, .q .p, .e, .q .p, .q (.ld (I6 lk)), .q (.lds [I6 lk, I6 ls, I6 ll, I6 lr]), .q .p, .q (.ld (I6 ls)), .e, .q .p, .q (.ld (I6 ll)), .e, .q (.as (I6 ((bt ls) + (bt ll)))), .q .p, .q (.ld (I6 lk)), .q .p, .q .p, .e, .q .p] [0, 0, 0, 0, 0, 0, 0, 0, 0, 0, 1, 0, 0, 2, 3, 0, 0, 0, 3, 3, 4] [3, 0, 0, 0, 0, 3, 3, 3, 1, 1, 1, 2, 2, 2, 3, 3, 3, 3, 3, 3, 4] [0, 0, 2, 6, 14, 0, 32, 0, 0, 256, 798, 0, 2048, 7966, 16158, 0, 32768, 98304, 262143, 524287, 1048575] [4, 10, 13, 19] 4 ([(0, (Pv sb)), (1, .agg #[I6 lk, I6 ls, I6 ll, I6 lr]), (3, (Pv w.heap.size)), (4, (Pv w2.heap.size)), (5, (Pv sb)), (6, (Pv sb)), (7, (Pv sb)), (8, (Pv sb)), (9, I6 (x + 1)), (10, (Pv w.heap.size)), (11, I6 lk), (12, .agg #[I6 lk, I6 ls, I6 ll, I6 lr]), (13, (Po w.heap.size 1)), (14, I6 ls), (15, I6 (bt ls)), (16, (Po w.heap.size 2)), (17, I6 ll), (18, I6 (bt ll)), (19, I6 ((bt ls) + (bt ll))), (20, (Pv w.heap.size)), (21, I6 lk), (22, .bool ((lk : Int) == (-1))), (23, .agg #[(Pv sb), I6 (x + 1), I6 1, I6 lk, I6 lk, I6 ls, I6 ll, I6 lr, .slice none 0 0, I6 ((bt ls) + (bt ll)), I6 1, I6 1, .bool ((lk : Int) == (-1))]), (24, (Pv w2.heap.size))]) [w2.drew, upd (w2.drew) sb 102 #[I6 (x + 1)], upd (w2.drew) sb 102 #[I6 (x + 1)], upd (w2.drew) sb 102 #[I6 (x + 1)], (upd (w2.drew) sb 102 #[I6 (x + 1)]).alloc (.cells #[(Pv sb), I6 (x + 1), I6 1, I6 lk, I6 lk, I6 ls, I6 ll, I6 lr, .slice none 0 0, I6 ((bt ls) + (bt ll)), I6 1, I6 1, .bool ((lk : Int) == (-1))] 106)] w2.drew (fun w' => [(6, [w'.cell? ⟨w.heap.size, 0, none⟩ = some (I6 lk)]), (7, [w'.cell? ⟨w.heap.size, 0, none⟩ = some (I6 lk), w'.cell? ⟨w.heap.size, 1, none⟩ = some (I6 ls), w'.cell? ⟨w.heap.size, 2, none⟩ = some (I6 ll), w'.cell? ⟨w.heap.size, 3, none⟩ = some (I6 lr)]), (9, [w'.cell? ⟨w.heap.size, 1, none⟩ = some (I6 ls)]), (12, [w'.cell? ⟨w.heap.size, 2, none⟩ = some (I6 ll)]), (14, [Value.int .i64 (IntKind.i64.wrap ((bt ls) + (bt ll))) = I6 ((bt ls) + (bt ll))]), (16, [w'.cell? ⟨w.heap.size, 0, none⟩ = some (I6 lk)])]) [0, 1, 3] [] hS (by kernel_rfl) (by kernel_rfl) (by kernel_rfl) (by kernel_rfl) (fun _ => by kernel_rfl) (by kernel_rfl) (by kernel_rfl) (by kernel_rfl) ?_ ?_ ?_
 ·intro e w' hw
  refine (.cons ?_ (.cons ?_ (.cons ?_ (.cons ?_ (.cons ?_ (.cons ?_ .nil))))))
  ·intro h1 h2
   replace h1 : 0 ≤ e := h1
   replace h2 : e ≤ 3 := h2
   have he : e = 0 ∨ e = 1 ∨ e = 2 ∨ e = 3 := by omega
   rcases he with rfl | rfl | rfl | rfl
   ·obtain rfl : w' = w2.drew := hw.trans (by kernel_rfl)
    exact (.cons ((hB6.drew : Blk w2.drew w.heap.size 38 (#[I6 lk, I6 ls, I6 ll, I6 lr])).cell 0 rfl) .nil)
   ·obtain rfl : w' = upd (w2.drew) sb 102 #[I6 (x + 1)] := hw.trans (by kernel_rfl)
    exact (.cons (((hB6.drew).updNe hn4 _ _ : Blk (upd (w2.drew) sb 102 #[I6 (x + 1)]) w.heap.size 38 (#[I6 lk, I6 ls, I6 ll, I6 lr])).cell 0 rfl) .nil)
   ·obtain rfl : w' = upd (w2.drew) sb 102 #[I6 (x + 1)] := hw.trans (by kernel_rfl)
    exact (.cons (((hB6.drew).updNe hn4 _ _ : Blk (upd (w2.drew) sb 102 #[I6 (x + 1)]) w.heap.size 38 (#[I6 lk, I6 ls, I6 ll, I6 lr])).cell 0 rfl) .nil)
   ·obtain rfl : w' = upd (w2.drew) sb 102 #[I6 (x + 1)] := hw.trans (by kernel_rfl)
    exact (.cons (((hB6.drew).updNe hn4 _ _ : Blk (upd (w2.drew) sb 102 #[I6 (x + 1)]) w.heap.size 38 (#[I6 lk, I6 ls, I6 ll, I6 lr])).cell 0 rfl) .nil)
  ·intro h1 h2
   replace h1 : 0 ≤ e := h1
   replace h2 : e ≤ 3 := h2
   have he : e = 0 ∨ e = 1 ∨ e = 2 ∨ e = 3 := by omega
   rcases he with rfl | rfl | rfl | rfl
   ·obtain rfl : w' = w2.drew := hw.trans (by kernel_rfl)
    exact (.cons ((hB6.drew : Blk w2.drew w.heap.size 38 (#[I6 lk, I6 ls, I6 ll, I6 lr])).cell 0 rfl) (.cons ((hB6.drew : Blk w2.drew w.heap.size 38 (#[I6 lk, I6 ls, I6 ll, I6 lr])).cell 1 rfl) (.cons ((hB6.drew : Blk w2.drew w.heap.size 38 (#[I6 lk, I6 ls, I6 ll, I6 lr])).cell 2 rfl) (.cons ((hB6.drew : Blk w2.drew w.heap.size 38 (#[I6 lk, I6 ls, I6 ll, I6 lr])).cell 3 rfl) .nil))))
   ·obtain rfl : w' = upd (w2.drew) sb 102 #[I6 (x + 1)] := hw.trans (by kernel_rfl)
    exact (.cons (((hB6.drew).updNe hn4 _ _ : Blk (upd (w2.drew) sb 102 #[I6 (x + 1)]) w.heap.size 38 (#[I6 lk, I6 ls, I6 ll, I6 lr])).cell 0 rfl) (.cons (((hB6.drew).updNe hn4 _ _ : Blk (upd (w2.drew) sb 102 #[I6 (x + 1)]) w.heap.size 38 (#[I6 lk, I6 ls, I6 ll, I6 lr])).cell 1 rfl) (.cons (((hB6.drew).updNe hn4 _ _ : Blk (upd (w2.drew) sb 102 #[I6 (x + 1)]) w.heap.size 38 (#[I6 lk, I6 ls, I6 ll, I6 lr])).cell 2 rfl) (.cons (((hB6.drew).updNe hn4 _ _ : Blk (upd (w2.drew) sb 102 #[I6 (x + 1)]) w.heap.size 38 (#[I6 lk, I6 ls, I6 ll, I6 lr])).cell 3 rfl) .nil))))
   ·obtain rfl : w' = upd (w2.drew) sb 102 #[I6 (x + 1)] := hw.trans (by kernel_rfl)
    exact (.cons (((hB6.drew).updNe hn4 _ _ : Blk (upd (w2.drew) sb 102 #[I6 (x + 1)]) w.heap.size 38 (#[I6 lk, I6 ls, I6 ll, I6 lr])).cell 0 rfl) (.cons (((hB6.drew).updNe hn4 _ _ : Blk (upd (w2.drew) sb 102 #[I6 (x + 1)]) w.heap.size 38 (#[I6 lk, I6 ls, I6 ll, I6 lr])).cell 1 rfl) (.cons (((hB6.drew).updNe hn4 _ _ : Blk (upd (w2.drew) sb 102 #[I6 (x + 1)]) w.heap.size 38 (#[I6 lk, I6 ls, I6 ll, I6 lr])).cell 2 rfl) (.cons (((hB6.drew).updNe hn4 _ _ : Blk (upd (w2.drew) sb 102 #[I6 (x + 1)]) w.heap.size 38 (#[I6 lk, I6 ls, I6 ll, I6 lr])).cell 3 rfl) .nil))))
   ·obtain rfl : w' = upd (w2.drew) sb 102 #[I6 (x + 1)] := hw.trans (by kernel_rfl)
    exact (.cons (((hB6.drew).updNe hn4 _ _ : Blk (upd (w2.drew) sb 102 #[I6 (x + 1)]) w.heap.size 38 (#[I6 lk, I6 ls, I6 ll, I6 lr])).cell 0 rfl) (.cons (((hB6.drew).updNe hn4 _ _ : Blk (upd (w2.drew) sb 102 #[I6 (x + 1)]) w.heap.size 38 (#[I6 lk, I6 ls, I6 ll, I6 lr])).cell 1 rfl) (.cons (((hB6.drew).updNe hn4 _ _ : Blk (upd (w2.drew) sb 102 #[I6 (x + 1)]) w.heap.size 38 (#[I6 lk, I6 ls, I6 ll, I6 lr])).cell 2 rfl) (.cons (((hB6.drew).updNe hn4 _ _ : Blk (upd (w2.drew) sb 102 #[I6 (x + 1)]) w.heap.size 38 (#[I6 lk, I6 ls, I6 ll, I6 lr])).cell 3 rfl) .nil))))
  ·intro h1 h2
   replace h1 : 0 ≤ e := h1
   replace h2 : e ≤ 1 := h2
   have he : e = 0 ∨ e = 1 := by omega
   rcases he with rfl | rfl
   ·obtain rfl : w' = w2.drew := hw.trans (by kernel_rfl)
    exact (.cons ((hB6.drew : Blk w2.drew w.heap.size 38 (#[I6 lk, I6 ls, I6 ll, I6 lr])).cell 1 rfl) .nil)
   ·obtain rfl : w' = upd (w2.drew) sb 102 #[I6 (x + 1)] := hw.trans (by kernel_rfl)
    exact (.cons (((hB6.drew).updNe hn4 _ _ : Blk (upd (w2.drew) sb 102 #[I6 (x + 1)]) w.heap.size 38 (#[I6 lk, I6 ls, I6 ll, I6 lr])).cell 1 rfl) .nil)
  ·intro h1 h2
   replace h1 : 0 ≤ e := h1
   replace h2 : e ≤ 2 := h2
   have he : e = 0 ∨ e = 1 ∨ e = 2 := by omega
   rcases he with rfl | rfl | rfl
   ·obtain rfl : w' = w2.drew := hw.trans (by kernel_rfl)
    exact (.cons ((hB6.drew : Blk w2.drew w.heap.size 38 (#[I6 lk, I6 ls, I6 ll, I6 lr])).cell 2 rfl) .nil)
   ·obtain rfl : w' = upd (w2.drew) sb 102 #[I6 (x + 1)] := hw.trans (by kernel_rfl)
    exact (.cons (((hB6.drew).updNe hn4 _ _ : Blk (upd (w2.drew) sb 102 #[I6 (x + 1)]) w.heap.size 38 (#[I6 lk, I6 ls, I6 ll, I6 lr])).cell 2 rfl) .nil)
   ·obtain rfl : w' = upd (w2.drew) sb 102 #[I6 (x + 1)] := hw.trans (by kernel_rfl)
    exact (.cons (((hB6.drew).updNe hn4 _ _ : Blk (upd (w2.drew) sb 102 #[I6 (x + 1)]) w.heap.size 38 (#[I6 lk, I6 ls, I6 ll, I6 lr])).cell 2 rfl) .nil)
  ·exact fun _ _ => (.cons (as_i64 (by omega)) .nil)
  ·intro h1 h2
   replace h1 : 0 ≤ e := h1
   replace h2 : e ≤ 3 := h2
   have he : e = 0 ∨ e = 1 ∨ e = 2 ∨ e = 3 := by omega
   rcases he with rfl | rfl | rfl | rfl
   ·obtain rfl : w' = w2.drew := hw.trans (by kernel_rfl)
    exact (.cons ((hB6.drew : Blk w2.drew w.heap.size 38 (#[I6 lk, I6 ls, I6 ll, I6 lr])).cell 0 rfl) .nil)
   ·obtain rfl : w' = upd (w2.drew) sb 102 #[I6 (x + 1)] := hw.trans (by kernel_rfl)
    exact (.cons (((hB6.drew).updNe hn4 _ _ : Blk (upd (w2.drew) sb 102 #[I6 (x + 1)]) w.heap.size 38 (#[I6 lk, I6 ls, I6 ll, I6 lr])).cell 0 rfl) .nil)
   ·obtain rfl : w' = upd (w2.drew) sb 102 #[I6 (x + 1)] := hw.trans (by kernel_rfl)
    exact (.cons (((hB6.drew).updNe hn4 _ _ : Blk (upd (w2.drew) sb 102 #[I6 (x + 1)]) w.heap.size 38 (#[I6 lk, I6 ls, I6 ll, I6 lr])).cell 0 rfl) .nil)
   ·obtain rfl : w' = upd (w2.drew) sb 102 #[I6 (x + 1)] := hw.trans (by kernel_rfl)
    exact (.cons (((hB6.drew).updNe hn4 _ _ : Blk (upd (w2.drew) sb 102 #[I6 (x + 1)]) w.heap.size 38 (#[I6 lk, I6 ls, I6 ll, I6 lr])).cell 0 rfl) .nil)
 ·refine (.cons ?eq10_4 (.cons ?eq10_10 (.cons ?eq10_13 (.cons ?eq10_19 .nil))))
  ·refine eff_at (w2.drew) (upd (w2.drew) sb 102 #[I6 (x + 1)]) (by kernel_rfl) (by kernel_rfl) ?_
   refine upon_call (f := 52) (vs := [(Pv sb), I6 1]) (cap := #[]) (d := (some 9)) (by kernel_rfl) Try.call52 #[(Pv sb), I6 1] (by kernel_rfl) (Add_any (hB5.drew : Blk (w2.drew) sb 102 #[I6 x]) hx) ?_
   rintro _ _ ⟨rfl, rfl⟩
   exact ⟨_, rfl, ⟨by kernel_rfl, by kernel_rfl⟩⟩
  ·refine eff_at (upd (w2.drew) sb 102 #[I6 (x + 1)]) (upd (w2.drew) sb 102 #[I6 (x + 1)]) (by kernel_rfl) (by kernel_rfl) ?_
   refine upon_call (f := 53) (vs := [I6 ls]) (cap := #[]) (d := (some 15)) (by kernel_rfl) Try.call53 #[I6 ls] (by kernel_rfl) (bytes_any ls _) ?_
   rintro _ _ ⟨rfl, rfl⟩
   exact ⟨_, rfl, ⟨by kernel_rfl, by kernel_rfl⟩⟩
  ·refine eff_at (upd (w2.drew) sb 102 #[I6 (x + 1)]) (upd (w2.drew) sb 102 #[I6 (x + 1)]) (by kernel_rfl) (by kernel_rfl) ?_
   refine upon_call (f := 53) (vs := [I6 ll]) (cap := #[]) (d := (some 18)) (by kernel_rfl) Try.call53 #[I6 ll] (by kernel_rfl) (bytes_any ll _) ?_
   rintro _ _ ⟨rfl, rfl⟩
   exact ⟨_, rfl, ⟨by kernel_rfl, by kernel_rfl⟩⟩
  ·refine eff_at (upd (w2.drew) sb 102 #[I6 (x + 1)]) ((upd (w2.drew) sb 102 #[I6 (x + 1)]).alloc (.cells #[(Pv sb), I6 (x + 1), I6 1, I6 lk, I6 lk, I6 ls, I6 ll, I6 lr, .slice none 0 0, I6 ((bt ls) + (bt ll)), I6 1, I6 1, .bool ((lk : Int) == (-1))] 106)) (by kernel_rfl) (by kernel_rfl) ?_
   exact upon_box (nb := w2.heap.size) (cs := #[(Pv sb), I6 (x + 1), I6 1, I6 lk, I6 lk, I6 ls, I6 ll, I6 lr, .slice none 0 0, I6 ((bt ls) + (bt ll)), I6 1, I6 1, .bool ((lk : Int) == (-1))]) (T := 106) (d := (some 24)) (by kernel_rfl) (by first | rfl | simp [upd_size]) ⟨by kernel_rfl, by kernel_rfl⟩
 rintro a w11 hS hw12
 replace hw12 : w11 = (upd (w2.drew) sb 102 #[I6 (x + 1)]).alloc (.cells #[(Pv sb), I6 (x + 1), I6 1, I6 lk, I6 lk, I6 ls, I6 ll, I6 lr, .slice none 0 0, I6 ((bt ls) + (bt ll)), I6 1, I6 1, .bool ((lk : Int) == (-1))] 106) := hw12.trans (by kernel_rfl)
 have hB13 : Blk w11 sb 102 (#[I6 (x + 1)]) := by rw [hw12]; exact ((hB5.drew).upd _ _).alloc _
 have hB15 : Blk w11 w2.heap.size 106 (#[(Pv sb), I6 (x + 1), I6 1, I6 lk, I6 lk, I6 ls, I6 ll, I6 lr, .slice none 0 0, I6 ((bt ls) + (bt ll)), I6 1, I6 1, .bool ((lk : Int) == (-1))]) := by rw [hw12]; exact Blk.new' _ _ _ (by first | rfl | simp [upd_size])
 have hE16 : Ext [sb] w w11 := by rw [hw12]; exact ((hE8.drew).updIn (.inl (by simp)) _ _).alloc _
 replace hS := hS.kp [(0, (Pv sb)), (1, .agg #[I6 lk, I6 ls, I6 ll, I6 lr]), (3, (Pv w.heap.size)), (4, (Pv w2.heap.size))]
 refine hK9 _ _ ?_
 refine wpIn_ret ?_
 refine ret1 hS Try.results18 rfl ?_
 exact ⟨_, rfl, hE8.size, hB15, hB13, hE16⟩

end Go.Proofs.Ytpglmeeledmkoaa
