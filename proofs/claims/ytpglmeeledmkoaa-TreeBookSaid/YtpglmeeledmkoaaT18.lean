import Derived.Test.YtpglmeeledmkoaaProg
import Derived.Test.YtpglmeeledmkoaaVc
import Derived.Test.YtpglmeeledmkoaaT17
namespace Go.Proofs.Ytpglmeeledmkoaa
open Go.Vc

theorem Beside_0 {cb cap : Nat} {p0 p1 bs : Option Addr} {z by_ : Int} {w : World} (hC : Blk w cb 77 #[.pointer p0, .slice bs 0 cap, .pointer p1, I6 z]) :
  Calls Try.prog 70 #[(Pv cb), I6 by_] w fun e w' => e = .returned (.bool false) ∧ w' = w := by
 refine calls_body 53 [(0, (Pv cb)), (1, I6 by_)] Try.func70 rfl (by kernel_rfl) (by kernel_rfl) (by kernel_rfl) fun a hS => ?_
 refine sq fun K1 hK1 => ?_
 refine rgn 1 ?_
 refine sg wide_wide [.p] [] [(0, (Pv cb)), (1, I6 by_), (4, .bool false)] 1 0 hS .nil fun a hS => ?_
 refine seg_end ?_
 refine hK1 _ _ ?_
 refine sq fun K2 hK2 => ?_
 refine sq fun K3 hK3 => ?_
 refine rgn 7 ?_
 refine sg wide_wide [.p, .p, .p, .p, .ld (.slice bs 0 cap), .p, .p] [_] [(0, (Pv cb)), (1, I6 by_), (4, .bool false), (12, .bool true)] 7 0 hS (.cons (hC.cell 1 rfl) .nil) fun a hS => ?_
 refine seg_end ?_
 refine hK3 _ _ ?_
 refine cond_t hS rfl ?_
 refine sq fun K4 hK4 => ?_
 refine rgn 1 ?_
 refine sg wide_wide [.p] [] [(0, (Pv cb)), (1, I6 by_), (4, .bool false), (12, .bool true)] 1 0 hS .nil fun a hS => ?_
 refine seg_end ?_
 refine hK4 _ _ ?_
 refine wpIn_ret ?_
 refine then_ret ?_
 refine ret1 hS Try.results70 rfl ?_
 exact ⟨rfl, rfl⟩

set_option maxHeartbeats 1000000 in
theorem Beside_lt {sb cb cap : Nat} {st : List Stp} {s : Stp} {p0 p1 bs : Option Addr} {z by_ : Int} {w : World} (hC : Blk w cb 77 #[.pointer p0, .slice bs (st.length + 1) cap, .pointer p1, I6 z]) (hv : OwnV w 122 3 (.slice bs (st.length + 1) cap) (st.length + 1) (ways st ++ stepc s)) (hlen : st.length ≤ 1000000000) (hc : s.1.Ok w sb) (hs0 : 0 ≤ s.2.1 ∧ s.2.1 ≤ 1000000000) (hby : -10 ≤ by_ ∧ by_ ≤ 10) (hr : s.2.1 + by_ < 0) :
  Calls Try.prog 70 #[(Pv cb), I6 by_] w fun e w' => e = .returned (.bool false) ∧ Ext [] w w' := by
 have hc0 : (ways st ++ stepc s)[0 + st.length * 3]? = some ((Pv s.1.b)) := by rw [Nat.zero_add, ← ways_len st]; simp [stepc, Tr.ptr]
 have hc1 : (ways st ++ stepc s)[0 + st.length * 3 + 1]? = some (I6 s.2.1) := by rw [Nat.zero_add, ← ways_len st, List.getElem?_append_right (by omega)]; simp [stepc]
 have hc2 : (ways st ++ stepc s)[0 + st.length * 3 + 2]? = some (I6 s.2.2) := by rw [Nat.zero_add, ← ways_len st, List.getElem?_append_right (by omega)]; simp [stepc]
 have hca := hc.arr
 have hN : Blk w s.1.b 106 #[(Pv sb), I6 s.1.num, I6 s.1.kd, I6 s.1.nn, I6 s.1.lk, I6 s.1.ls, I6 s.1.ll, I6 s.1.lr, s.1.ks, I6 s.1.wd, I6 s.1.lf, I6 s.1.tt, .bool s.1.fl] := hc.blk
 have hkl0 := Oks.len hc.oks
 have htt := Tr.Ok.tt_pos s.1 hc
 have hmax := hc.nums.max
 refine calls_body 53 [(0, (Pv cb)), (1, I6 by_)] Try.func70 rfl (by kernel_rfl) (by kernel_rfl) (by kernel_rfl) fun a hS => ?_
 have hE0 : Ext [] w w := Ext.refl _ _
 refine sq fun K1 hK1 => ?_
 refine rgn 1 ?_
 refine sg wide_wide [.p] [] [(0, (Pv cb)), (1, I6 by_), (4, .bool false)] 1 0 hS .nil fun a hS => ?_
 refine seg_end ?_
 refine hK1 _ _ ?_
 refine sq fun K2 hK2 => ?_
 refine sq fun K3 hK3 => ?_
 refine rgn 7 ?_
 refine sg wide_wide [.p, .p, .p, .p, .ld (.slice bs (st.length + 1) cap), .p, .as (.bool false)] [_, Value.bool (((((st.length + 1 : Nat) : Int) : Int) == 0)) = .bool false] [(0, (Pv cb)), (1, I6 by_), (4, .bool false), (12, .bool false)] 7 0 hS (.cons (hC.cell 1 rfl) (.cons (as_eq_f (by omega)) .nil)) fun a hS => ?_
 refine seg_end ?_
 refine hK3 _ _ ?_
 refine cond_f hS rfl ?_
 refine wpIn_skip ?_
 refine hK2 _ _ ?_
 refine sq fun K4 hK4 => ?_
 refine region_fn2 wide_wide [.q .p, .q .p, .q .p, .q .p, .q (.ld (.slice bs (st.length + 1) cap)), .q .p, .q .p, .q .p, .q .p, .q (.ld (.slice bs (st.length + 1) cap)), .q .p, .q (.as (I6 ↑st.length)), .q (.run ((Po (bof (.slice bs (st.length + 1) cap)) (0 + st.length * 3)))), .q (.lds [(Pv s.1.b), I6 s.2.1, I6 s.2.2]), .e, .e] [0, 0, 0, 0, 0, 0, 0, 0, 0, 0, 0, 0, 0, 0, 0, 1] [1, 1, 1, 1, 1, 1, 1, 1, 1, 1, 1, 1, 1, 1, 0, 1] [0, 1, 3, 7, 15, 0, 32, 96, 224, 480, 992, 2016, 4095, 8191, 0, 32767] [14, 15] 2 ([(0, (Pv cb)), (1, I6 by_), (4, .bool false), (12, .bool false), (13, (Pv cb)), (14, (Pv cb)), (15, (Pv cb)), (16, (Po cb 1)), (17, .slice bs (st.length + 1) cap), (18, (Pv cb)), (19, (Pv cb)), (20, (Pv cb)), (21, (Po cb 1)), (22, .slice bs (st.length + 1) cap), (23, I6 ((st.length + 1 : Nat) : Int)), (24, I6 ↑st.length), (25, (Po (bof (.slice bs (st.length + 1) cap)) (0 + st.length * 3))), (26, .agg #[(Pv s.1.b), I6 s.2.1, I6 s.2.2]), (5, (Pv w.heap.size))]) [w.drew, (w.drew).alloc (.cells #[.pointer none, I6 0, I6 0] 122), upd ((w.drew).alloc (.cells #[.pointer none, I6 0, I6 0] 122)) (w.heap.size) 122 #[(Pv s.1.b), I6 s.2.1, I6 s.2.2]] w.drew (fun w' => [(4, [w'.cell? ⟨cb, 1, none⟩ = some (.slice bs (st.length + 1) cap)]), (9, [w'.cell? ⟨cb, 1, none⟩ = some (.slice bs (st.length + 1) cap)]), (11, [Value.int .i64 (IntKind.i64.wrap (((st.length + 1 : Nat) : Int) - 1)) = I6 ↑st.length]), (12, [Ru Try.prog (vS (Instr.indexAt 73 (.slice bs (st.length + 1) cap) (I6 ↑st.length))) ((Po (bof (.slice bs (st.length + 1) cap)) (0 + st.length * 3))) w']), (13, [w'.cell? ⟨bof (.slice bs (st.length + 1) cap), 0 + st.length * 3, none⟩ = some ((Pv s.1.b)), w'.cell? ⟨bof (.slice bs (st.length + 1) cap), 0 + st.length * 3 + 1, none⟩ = some (I6 s.2.1), w'.cell? ⟨bof (.slice bs (st.length + 1) cap), 0 + st.length * 3 + 2, none⟩ = some (I6 s.2.2)])]) [0, 1, 4, 12] [] hS (by kernel_rfl) (by kernel_rfl) (by kernel_rfl) (by kernel_rfl) (fun _ => by kernel_rfl) (by kernel_rfl) (by kernel_rfl) (by kernel_rfl) ?_ ?_ ?_
 ·intro e w' hw
  refine (.cons ?_ (.cons ?_ (.cons ?_ (.cons ?_ (.cons ?_ .nil)))))
  ·intro h1 h2
   replace h1 : 0 ≤ e := h1
   replace h2 : e ≤ 1 := h2
   have he : e = 0 ∨ e = 1 := by omega
   rcases he with rfl | rfl
   ·obtain rfl : w' = w.drew := hw.trans (by kernel_rfl)
    exact (.cons ((hC.drew : Blk w.drew cb 77 (#[.pointer p0, .slice bs (st.length + 1) cap, .pointer p1, I6 z])).cell 1 rfl) .nil)
   ·obtain rfl : w' = (w.drew).alloc (.cells #[.pointer none, I6 0, I6 0] 122) := hw.trans (by kernel_rfl)
    exact (.cons (((hC.drew).alloc _ : Blk ((w.drew).alloc (.cells #[.pointer none, I6 0, I6 0] 122)) cb 77 (#[.pointer p0, .slice bs (st.length + 1) cap, .pointer p1, I6 z])).cell 1 rfl) .nil)
  ·intro h1 h2
   replace h1 : 0 ≤ e := h1
   replace h2 : e ≤ 1 := h2
   have he : e = 0 ∨ e = 1 := by omega
   rcases he with rfl | rfl
   ·obtain rfl : w' = w.drew := hw.trans (by kernel_rfl)
    exact (.cons ((hC.drew : Blk w.drew cb 77 (#[.pointer p0, .slice bs (st.length + 1) cap, .pointer p1, I6 z])).cell 1 rfl) .nil)
   ·obtain rfl : w' = (w.drew).alloc (.cells #[.pointer none, I6 0, I6 0] 122) := hw.trans (by kernel_rfl)
    exact (.cons (((hC.drew).alloc _ : Blk ((w.drew).alloc (.cells #[.pointer none, I6 0, I6 0] 122)) cb 77 (#[.pointer p0, .slice bs (st.length + 1) cap, .pointer p1, I6 z])).cell 1 rfl) .nil)
  ·exact fun _ _ => (.cons ((by rw [show (((st.length + 1 : Nat) : Int) - 1 : Int) = ↑st.length from by omega]; exact as_i64 (by omega))) .nil)
  ·exact fun _ _ => (.cons (ix_own (j := st.length) (hv) (by kernel_rfl) (by kernel_rfl) rfl (by omega)) .nil)
  ·intro h1 h2
   replace h1 : 0 ≤ e := h1
   replace h2 : e ≤ 1 := h2
   have he : e = 0 ∨ e = 1 := by omega
   rcases he with rfl | rfl
   ·obtain rfl : w' = w.drew := hw.trans (by kernel_rfl)
    exact (.cons ((hv.drew : OwnV w.drew 122 3 (.slice bs (st.length + 1) cap) (st.length + 1) (ways st ++ stepc s)).cellAt _ hc0) (.cons ((hv.drew : OwnV w.drew 122 3 (.slice bs (st.length + 1) cap) (st.length + 1) (ways st ++ stepc s)).cellAt _ hc1) (.cons ((hv.drew : OwnV w.drew 122 3 (.slice bs (st.length + 1) cap) (st.length + 1) (ways st ++ stepc s)).cellAt _ hc2) .nil)))
   ·obtain rfl : w' = (w.drew).alloc (.cells #[.pointer none, I6 0, I6 0] 122) := hw.trans (by kernel_rfl)
    exact (.cons (((hv.drew).alloc _ : OwnV ((w.drew).alloc (.cells #[.pointer none, I6 0, I6 0] 122)) 122 3 (.slice bs (st.length + 1) cap) (st.length + 1) (ways st ++ stepc s)).cellAt _ hc0) (.cons (((hv.drew).alloc _ : OwnV ((w.drew).alloc (.cells #[.pointer none, I6 0, I6 0] 122)) 122 3 (.slice bs (st.length + 1) cap) (st.length + 1) (ways st ++ stepc s)).cellAt _ hc1) (.cons (((hv.drew).alloc _ : OwnV ((w.drew).alloc (.cells #[.pointer none, I6 0, I6 0] 122)) 122 3 (.slice bs (st.length + 1) cap) (st.length + 1) (ways st ++ stepc s)).cellAt _ hc2) .nil)))
 ·refine (.cons ?eq5_14 (.cons ?eq5_15 .nil))
  ·refine eff_at (w.drew) ((w.drew).alloc (.cells #[.pointer none, I6 0, I6 0] 122)) (by kernel_rfl) (by kernel_rfl) ?_
   exact upon_box (nb := w.heap.size) (cs := #[.pointer none, I6 0, I6 0]) (T := 122) (d := (some 5)) (by kernel_rfl) (by first | rfl | simp [upd_size]) ⟨by kernel_rfl, by kernel_rfl⟩
  ·refine eff_at ((w.drew).alloc (.cells #[.pointer none, I6 0, I6 0] 122)) (upd ((w.drew).alloc (.cells #[.pointer none, I6 0, I6 0] 122)) (w.heap.size) 122 #[(Pv s.1.b), I6 s.2.1, I6 s.2.2]) (by kernel_rfl) (by kernel_rfl) ?_
   exact upon_store (b := w.heap.size) (off := 0) (vs := [(Pv s.1.b), I6 s.2.1, I6 s.2.2]) (by kernel_rfl) (Blk.new' _ _ _ (by first | rfl | simp [upd_size]) : Blk ((w.drew).alloc (.cells #[.pointer none, I6 0, I6 0] 122)) w.heap.size 122 (#[.pointer none, I6 0, I6 0])) (by simp) ⟨by kernel_rfl, by kernel_rfl⟩
 rintro a w6 hS hw7
 replace hw7 : w6 = upd ((w.drew).alloc (.cells #[.pointer none, I6 0, I6 0] 122)) (w.heap.size) 122 #[(Pv s.1.b), I6 s.2.1, I6 s.2.2] := hw7.trans (by kernel_rfl)
 have hB11 : Blk w6 w.heap.size 122 (#[(Pv s.1.b), I6 s.2.1, I6 s.2.2]) := by rw [hw7]; exact (Blk.new' _ _ _ (by first | rfl | simp [upd_size])).upd _ _
 have hE12 : Ext [] w w6 := by rw [hw7]; exact ((hE0.drew).alloc _).updIn (.inr hE0.size) _ _
 replace hS := hS.kp [(0, (Pv cb)), (1, I6 by_), (4, .bool false), (12, .bool false), (5, (Pv w.heap.size))]
 refine hK4 _ _ ?_
 refine sq fun K13 hK13 => ?_
 refine sq fun K14 hK14 => ?_
 refine region_fn2 wide_wide [.q .p, .q (.ld (I6 s.2.1)), .q .p, .q (.as (I6 (s.2.1 + by_))), .q (.as (.bool true)), .q .p, .q .no, .q .no, .q .no, .q .no, .q .no, .q .no, .q .no, .q .no, .q .no, .q .no, .q .no, .q .p] [0, 0, 0, 0, 0, 0, 0, 0, 0, 0, 0, 0, 0, 0, 0, 0, 0, 0] [0, 0, 0, 0, 0, 0, 0, 0, 0, 0, 0, 0, 0, 0, 0, 0, 0, 0] [0, 1, 0, 7, 15, 31, 63, 127, 63, 511, 63, 1087, 3135, 7231, 15423, 31807, 65535, 131071] [] 0 ([(0, (Pv cb)), (1, I6 by_), (4, .bool false), (12, .bool false), (5, (Pv w.heap.size)), (27, (Po w.heap.size 1)), (28, I6 s.2.1), (29, I6 by_), (30, I6 (s.2.1 + by_)), (31, .bool true), (32, .bool true), (33, undef), (34, undef), (35, undef), (36, undef), (37, undef), (38, undef), (39, undef), (40, undef), (41, undef), (42, undef), (43, undef), (44, .bool true)]) [w6.drew] w6.drew (fun w' => [(1, [w'.cell? ⟨w.heap.size, 1, none⟩ = some (I6 s.2.1)]), (3, [Value.int .i64 (IntKind.i64.wrap (s.2.1 + by_)) = I6 (s.2.1 + by_)]), (4, [Value.bool (decide ((s.2.1 + by_ : Int) < 0)) = .bool true])]) [0, 1, 4, 12, 5] [] hS (by kernel_rfl) (by kernel_rfl) (by kernel_rfl) (by kernel_rfl) (fun _ => by kernel_rfl) (by kernel_rfl) (by kernel_rfl) (by kernel_rfl) ?_ ?_ ?_
 ·intro e w' hw
  refine (.cons ?_ (.cons ?_ (.cons ?_ .nil)))
  ·intro h1 h2
   obtain rfl : e = 0 := Nat.le_antisymm h2 h1
   obtain rfl : w' = w6.drew := hw.trans (by kernel_rfl)
   exact (.cons ((hB11.drew : Blk w6.drew w.heap.size 122 (#[(Pv s.1.b), I6 s.2.1, I6 s.2.2])).cell 1 rfl) .nil)
  ·exact fun _ _ => (.cons (as_i64 (by omega)) .nil)
  ·exact fun _ _ => (.cons (as_t (by omega)) .nil)
 ·refine .nil
 rintro a w16 hS hw17
 replace hw17 : w16 = w6.drew := hw17.trans (by kernel_rfl)
 have hE22 : Ext [] w w16 := by rw [hw17]; exact hE12.drew
 replace hS := hS.kp [(0, (Pv cb)), (1, I6 by_), (4, .bool false), (12, .bool false), (5, (Pv w.heap.size)), (44, .bool true)]
 refine hK14 _ _ ?_
 refine cond_t hS rfl ?_
 refine sq fun K23 hK23 => ?_
 refine rgn 1 ?_
 refine sg wide_wide [.p] [] [(0, (Pv cb)), (1, I6 by_), (4, .bool false), (12, .bool false), (5, (Pv w.heap.size)), (44, .bool true)] 1 0 hS .nil fun a hS => ?_
 refine seg_end ?_
 refine hK23 _ _ ?_
 refine wpIn_ret ?_
 refine then_ret ?_
 refine ret1 hS Try.results70 rfl ?_
 exact ⟨rfl, hE22⟩

set_option maxHeartbeats 1000000 in
theorem Beside_ge {sb cb cap : Nat} {st : List Stp} {s : Stp} {p0 p1 bs : Option Addr} {z by_ : Int} {w : World} (hC : Blk w cb 77 #[.pointer p0, .slice bs (st.length + 1) cap, .pointer p1, I6 z]) (hv : OwnV w 122 3 (.slice bs (st.length + 1) cap) (st.length + 1) (ways st ++ stepc s)) (hlen : st.length ≤ 1000000000) (hc : s.1.Ok w sb) (hs0 : 0 ≤ s.2.1 ∧ s.2.1 ≤ 1000000000) (hby : -10 ≤ by_ ∧ by_ ≤ 10) (hr : 0 ≤ s.2.1 + by_ ∧ s.1.kids.length ≤ s.2.1 + by_) :
  Calls Try.prog 70 #[(Pv cb), I6 by_] w fun e w' => e = .returned (.bool false) ∧ Ext [] w w' := by
 have hc0 : (ways st ++ stepc s)[0 + st.length * 3]? = some ((Pv s.1.b)) := by rw [Nat.zero_add, ← ways_len st]; simp [stepc, Tr.ptr]
 have hc1 : (ways st ++ stepc s)[0 + st.length * 3 + 1]? = some (I6 s.2.1) := by rw [Nat.zero_add, ← ways_len st, List.getElem?_append_right (by omega)]; simp [stepc]
 have hc2 : (ways st ++ stepc s)[0 + st.length * 3 + 2]? = some (I6 s.2.2) := by rw [Nat.zero_add, ← ways_len st, List.getElem?_append_right (by omega)]; simp [stepc]
 have hca := hc.arr
 have hN : Blk w s.1.b 106 #[(Pv sb), I6 s.1.num, I6 s.1.kd, I6 s.1.nn, I6 s.1.lk, I6 s.1.ls, I6 s.1.ll, I6 s.1.lr, s.1.ks, I6 s.1.wd, I6 s.1.lf, I6 s.1.tt, .bool s.1.fl] := hc.blk
 have hkl0 := Oks.len hc.oks
 have htt := Tr.Ok.tt_pos s.1 hc
 have hmax := hc.nums.max
 refine calls_body 53 [(0, (Pv cb)), (1, I6 by_)] Try.func70 rfl (by kernel_rfl) (by kernel_rfl) (by kernel_rfl) fun a hS => ?_
 have hE0 : Ext [] w w := Ext.refl _ _
 refine sq fun K1 hK1 => ?_
 refine rgn 1 ?_
 refine sg wide_wide [.p] [] [(0, (Pv cb)), (1, I6 by_), (4, .bool false)] 1 0 hS .nil fun a hS => ?_
 refine seg_end ?_
 refine hK1 _ _ ?_
 refine sq fun K2 hK2 => ?_
 refine sq fun K3 hK3 => ?_
 refine rgn 7 ?_
 refine sg wide_wide [.p, .p, .p, .p, .ld (.slice bs (st.length + 1) cap), .p, .as (.bool false)] [_, Value.bool (((((st.length + 1 : Nat) : Int) : Int) == 0)) = .bool false] [(0, (Pv cb)), (1, I6 by_), (4, .bool false), (12, .bool false)] 7 0 hS (.cons (hC.cell 1 rfl) (.cons (as_eq_f (by omega)) .nil)) fun a hS => ?_
 refine seg_end ?_
 refine hK3 _ _ ?_
 refine cond_f hS rfl ?_
 refine wpIn_skip ?_
 refine hK2 _ _ ?_
 refine sq fun K4 hK4 => ?_
 refine region_fn2 wide_wide [.q .p, .q .p, .q .p, .q .p, .q (.ld (.slice bs (st.length + 1) cap)), .q .p, .q .p, .q .p, .q .p, .q (.ld (.slice bs (st.length + 1) cap)), .q .p, .q (.as (I6 ↑st.length)), .q (.run ((Po (bof (.slice bs (st.length + 1) cap)) (0 + st.length * 3)))), .q (.lds [(Pv s.1.b), I6 s.2.1, I6 s.2.2]), .e, .e] [0, 0, 0, 0, 0, 0, 0, 0, 0, 0, 0, 0, 0, 0, 0, 1] [1, 1, 1, 1, 1, 1, 1, 1, 1, 1, 1, 1, 1, 1, 0, 1] [0, 1, 3, 7, 15, 0, 32, 96, 224, 480, 992, 2016, 4095, 8191, 0, 32767] [14, 15] 2 ([(0, (Pv cb)), (1, I6 by_), (4, .bool false), (12, .bool false), (13, (Pv cb)), (14, (Pv cb)), (15, (Pv cb)), (16, (Po cb 1)), (17, .slice bs (st.length + 1) cap), (18, (Pv cb)), (19, (Pv cb)), (20, (Pv cb)), (21, (Po cb 1)), (22, .slice bs (st.length + 1) cap), (23, I6 ((st.length + 1 : Nat) : Int)), (24, I6 ↑st.length), (25, (Po (bof (.slice bs (st.length + 1) cap)) (0 + st.length * 3))), (26, .agg #[(Pv s.1.b), I6 s.2.1, I6 s.2.2]), (5, (Pv w.heap.size))]) [w.drew, (w.drew).alloc (.cells #[.pointer none, I6 0, I6 0] 122), upd ((w.drew).alloc (.cells #[.pointer none, I6 0, I6 0] 122)) (w.heap.size) 122 #[(Pv s.1.b), I6 s.2.1, I6 s.2.2]] w.drew (fun w' => [(4, [w'.cell? ⟨cb, 1, none⟩ = some (.slice bs (st.length + 1) cap)]), (9, [w'.cell? ⟨cb, 1, none⟩ = some (.slice bs (st.length + 1) cap)]), (11, [Value.int .i64 (IntKind.i64.wrap (((st.length + 1 : Nat) : Int) - 1)) = I6 ↑st.length]), (12, [Ru Try.prog (vS (Instr.indexAt 73 (.slice bs (st.length + 1) cap) (I6 ↑st.length))) ((Po (bof (.slice bs (st.length + 1) cap)) (0 + st.length * 3))) w']), (13, [w'.cell? ⟨bof (.slice bs (st.length + 1) cap), 0 + st.length * 3, none⟩ = some ((Pv s.1.b)), w'.cell? ⟨bof (.slice bs (st.length + 1) cap), 0 + st.length * 3 + 1, none⟩ = some (I6 s.2.1), w'.cell? ⟨bof (.slice bs (st.length + 1) cap), 0 + st.length * 3 + 2, none⟩ = some (I6 s.2.2)])]) [0, 1, 4, 12] [] hS (by kernel_rfl) (by kernel_rfl) (by kernel_rfl) (by kernel_rfl) (fun _ => by kernel_rfl) (by kernel_rfl) (by kernel_rfl) (by kernel_rfl) ?_ ?_ ?_
 ·intro e w' hw
  refine (.cons ?_ (.cons ?_ (.cons ?_ (.cons ?_ (.cons ?_ .nil)))))
  ·intro h1 h2
   replace h1 : 0 ≤ e := h1
   replace h2 : e ≤ 1 := h2
   have he : e = 0 ∨ e = 1 := by omega
   rcases he with rfl | rfl
   ·obtain rfl : w' = w.drew := hw.trans (by kernel_rfl)
    exact (.cons ((hC.drew : Blk w.drew cb 77 (#[.pointer p0, .slice bs (st.length + 1) cap, .pointer p1, I6 z])).cell 1 rfl) .nil)
   ·obtain rfl : w' = (w.drew).alloc (.cells #[.pointer none, I6 0, I6 0] 122) := hw.trans (by kernel_rfl)
    exact (.cons (((hC.drew).alloc _ : Blk ((w.drew).alloc (.cells #[.pointer none, I6 0, I6 0] 122)) cb 77 (#[.pointer p0, .slice bs (st.length + 1) cap, .pointer p1, I6 z])).cell 1 rfl) .nil)
  ·intro h1 h2
   replace h1 : 0 ≤ e := h1
   replace h2 : e ≤ 1 := h2
   have he : e = 0 ∨ e = 1 := by omega
   rcases he with rfl | rfl
   ·obtain rfl : w' = w.drew := hw.trans (by kernel_rfl)
    exact (.cons ((hC.drew : Blk w.drew cb 77 (#[.pointer p0, .slice bs (st.length + 1) cap, .pointer p1, I6 z])).cell 1 rfl) .nil)
   ·obtain rfl : w' = (w.drew).alloc (.cells #[.pointer none, I6 0, I6 0] 122) := hw.trans (by kernel_rfl)
    exact (.cons (((hC.drew).alloc _ : Blk ((w.drew).alloc (.cells #[.pointer none, I6 0, I6 0] 122)) cb 77 (#[.pointer p0, .slice bs (st.length + 1) cap, .pointer p1, I6 z])).cell 1 rfl) .nil)
  ·exact fun _ _ => (.cons ((by rw [show (((st.length + 1 : Nat) : Int) - 1 : Int) = ↑st.length from by omega]; exact as_i64 (by omega))) .nil)
  ·exact fun _ _ => (.cons (ix_own (j := st.length) (hv) (by kernel_rfl) (by kernel_rfl) rfl (by omega)) .nil)
  ·intro h1 h2
   replace h1 : 0 ≤ e := h1
   replace h2 : e ≤ 1 := h2
   have he : e = 0 ∨ e = 1 := by omega
   rcases he with rfl | rfl
   ·obtain rfl : w' = w.drew := hw.trans (by kernel_rfl)
    exact (.cons ((hv.drew : OwnV w.drew 122 3 (.slice bs (st.length + 1) cap) (st.length + 1) (ways st ++ stepc s)).cellAt _ hc0) (.cons ((hv.drew : OwnV w.drew 122 3 (.slice bs (st.length + 1) cap) (st.length + 1) (ways st ++ stepc s)).cellAt _ hc1) (.cons ((hv.drew : OwnV w.drew 122 3 (.slice bs (st.length + 1) cap) (st.length + 1) (ways st ++ stepc s)).cellAt _ hc2) .nil)))
   ·obtain rfl : w' = (w.drew).alloc (.cells #[.pointer none, I6 0, I6 0] 122) := hw.trans (by kernel_rfl)
    exact (.cons (((hv.drew).alloc _ : OwnV ((w.drew).alloc (.cells #[.pointer none, I6 0, I6 0] 122)) 122 3 (.slice bs (st.length + 1) cap) (st.length + 1) (ways st ++ stepc s)).cellAt _ hc0) (.cons (((hv.drew).alloc _ : OwnV ((w.drew).alloc (.cells #[.pointer none, I6 0, I6 0] 122)) 122 3 (.slice bs (st.length + 1) cap) (st.length + 1) (ways st ++ stepc s)).cellAt _ hc1) (.cons (((hv.drew).alloc _ : OwnV ((w.drew).alloc (.cells #[.pointer none, I6 0, I6 0] 122)) 122 3 (.slice bs (st.length + 1) cap) (st.length + 1) (ways st ++ stepc s)).cellAt _ hc2) .nil)))
 ·refine (.cons ?eq5_14 (.cons ?eq5_15 .nil))
  ·refine eff_at (w.drew) ((w.drew).alloc (.cells #[.pointer none, I6 0, I6 0] 122)) (by kernel_rfl) (by kernel_rfl) ?_
   exact upon_box (nb := w.heap.size) (cs := #[.pointer none, I6 0, I6 0]) (T := 122) (d := (some 5)) (by kernel_rfl) (by first | rfl | simp [upd_size]) ⟨by kernel_rfl, by kernel_rfl⟩
  ·refine eff_at ((w.drew).alloc (.cells #[.pointer none, I6 0, I6 0] 122)) (upd ((w.drew).alloc (.cells #[.pointer none, I6 0, I6 0] 122)) (w.heap.size) 122 #[(Pv s.1.b), I6 s.2.1, I6 s.2.2]) (by kernel_rfl) (by kernel_rfl) ?_
   exact upon_store (b := w.heap.size) (off := 0) (vs := [(Pv s.1.b), I6 s.2.1, I6 s.2.2]) (by kernel_rfl) (Blk.new' _ _ _ (by first | rfl | simp [upd_size]) : Blk ((w.drew).alloc (.cells #[.pointer none, I6 0, I6 0] 122)) w.heap.size 122 (#[.pointer none, I6 0, I6 0])) (by simp) ⟨by kernel_rfl, by kernel_rfl⟩
 rintro a w6 hS hw7
 replace hw7 : w6 = upd ((w.drew).alloc (.cells #[.pointer none, I6 0, I6 0] 122)) (w.heap.size) 122 #[(Pv s.1.b), I6 s.2.1, I6 s.2.2] := hw7.trans (by kernel_rfl)
 have hB10 := Blk.at' hw7 (((hN.drew).alloc _).updNe (Ne.symm (Nat.ne_of_lt hN.lt)) _ _)
 have hB11 : Blk w6 w.heap.size 122 (#[(Pv s.1.b), I6 s.2.1, I6 s.2.2]) := by rw [hw7]; exact (Blk.new' _ _ _ (by first | rfl | simp [upd_size])).upd _ _
 have hE12 : Ext [] w w6 := by rw [hw7]; exact ((hE0.drew).alloc _).updIn (.inr hE0.size) _ _
 replace hS := hS.kp [(0, (Pv cb)), (1, I6 by_), (4, .bool false), (12, .bool false), (5, (Pv w.heap.size))]
 refine hK4 _ _ ?_
 refine sq fun K13 hK13 => ?_
 refine sq fun K14 hK14 => ?_
 refine region_fn2 wide_wide [.q .p, .q (.ld (I6 s.2.1)), .q .p, .q (.as (I6 (s.2.1 + by_))), .q (.as (.bool false)), .q .p, .q .p, .q (.ld (I6 s.2.1)), .q .p, .q (.as (I6 (s.2.1 + by_))), .q .p, .q (.ld ((Pv s.1.b))), .q .p, .q .p, .q (.ld (s.1.ks)), .q (.run (I6 ↑s.1.kids.length)), .q (.as (.bool true)), .q .p] [0, 0, 0, 0, 0, 0, 0, 0, 0, 0, 0, 0, 0, 0, 0, 0, 0, 0] [0, 0, 0, 0, 0, 0, 0, 0, 0, 0, 0, 0, 0, 0, 0, 0, 0, 0] [0, 1, 0, 7, 15, 31, 63, 127, 63, 511, 63, 1087, 3135, 7231, 15423, 31807, 65535, 131071] [] 0 ([(0, (Pv cb)), (1, I6 by_), (4, .bool false), (12, .bool false), (5, (Pv w.heap.size)), (27, (Po w.heap.size 1)), (28, I6 s.2.1), (29, I6 by_), (30, I6 (s.2.1 + by_)), (31, .bool false), (32, .bool false), (33, (Po w.heap.size 1)), (34, I6 s.2.1), (35, I6 by_), (36, I6 (s.2.1 + by_)), (37, (Pv w.heap.size)), (38, (Pv s.1.b)), (39, (Pv s.1.b)), (40, (Po s.1.b 8)), (41, s.1.ks), (42, I6 ↑s.1.kids.length), (43, .bool true), (44, .bool true)]) [w6.drew] w6.drew (fun w' => [(1, [w'.cell? ⟨w.heap.size, 1, none⟩ = some (I6 s.2.1)]), (3, [Value.int .i64 (IntKind.i64.wrap (s.2.1 + by_)) = I6 (s.2.1 + by_)]), (4, [Value.bool (decide ((s.2.1 + by_ : Int) < 0)) = .bool false]), (7, [w'.cell? ⟨w.heap.size, 1, none⟩ = some (I6 s.2.1)]), (9, [Value.int .i64 (IntKind.i64.wrap (s.2.1 + by_)) = I6 (s.2.1 + by_)]), (11, [w'.cell? ⟨w.heap.size, 0, none⟩ = some ((Pv s.1.b))]), (14, [w'.cell? ⟨s.1.b, 8, none⟩ = some (s.1.ks)]), (15, [Ru Try.prog (vS (Builtin.len_ #[32] 3 #[s.1.ks])) (I6 ↑s.1.kids.length) w']), (16, [Value.bool (decide ((s.2.1 + by_ : Int) ≥ ↑s.1.kids.length)) = .bool true])]) [0, 1, 4, 12, 5] [] hS (by kernel_rfl) (by kernel_rfl) (by kernel_rfl) (by kernel_rfl) (fun _ => by kernel_rfl) (by kernel_rfl) (by kernel_rfl) (by kernel_rfl) ?_ ?_ ?_
 ·intro e w' hw
  refine (.cons ?_ (.cons ?_ (.cons ?_ (.cons ?_ (.cons ?_ (.cons ?_ (.cons ?_ (.cons ?_ (.cons ?_ .nil)))))))))
  ·intro h1 h2
   obtain rfl : e = 0 := Nat.le_antisymm h2 h1
   obtain rfl : w' = w6.drew := hw.trans (by kernel_rfl)
   exact (.cons ((hB11.drew : Blk w6.drew w.heap.size 122 (#[(Pv s.1.b), I6 s.2.1, I6 s.2.2])).cell 1 rfl) .nil)
  ·exact fun _ _ => (.cons (as_i64 (by omega)) .nil)
  ·exact fun _ _ => (.cons (as_f (by omega)) .nil)
  ·intro h1 h2
   obtain rfl : e = 0 := Nat.le_antisymm h2 h1
   obtain rfl : w' = w6.drew := hw.trans (by kernel_rfl)
   exact (.cons ((hB11.drew : Blk w6.drew w.heap.size 122 (#[(Pv s.1.b), I6 s.2.1, I6 s.2.2])).cell 1 rfl) .nil)
  ·exact fun _ _ => (.cons (as_i64 (by omega)) .nil)
  ·intro h1 h2
   obtain rfl : e = 0 := Nat.le_antisymm h2 h1
   obtain rfl : w' = w6.drew := hw.trans (by kernel_rfl)
   exact (.cons ((hB11.drew : Blk w6.drew w.heap.size 122 (#[(Pv s.1.b), I6 s.2.1, I6 s.2.2])).cell 0 rfl) .nil)
  ·intro h1 h2
   obtain rfl : e = 0 := Nat.le_antisymm h2 h1
   obtain rfl : w' = w6.drew := hw.trans (by kernel_rfl)
   exact (.cons ((hB10.drew : Blk w6.drew s.1.b 106 (#[(Pv sb), I6 s.1.num, I6 s.1.kd, I6 s.1.nn, I6 s.1.lk, I6 s.1.ls, I6 s.1.ll, I6 s.1.lr, s.1.ks, I6 s.1.wd, I6 s.1.lf, I6 s.1.tt, .bool s.1.fl])).cell 8 rfl) .nil)
  ·exact fun _ _ => (.cons (run_len_own hca (by kernel_rfl)) .nil)
  ·exact fun _ _ => (.cons (as_t (by omega)) .nil)
 ·refine .nil
 rintro a w16 hS hw17
 replace hw17 : w16 = w6.drew := hw17.trans (by kernel_rfl)
 have hE22 : Ext [] w w16 := by rw [hw17]; exact hE12.drew
 replace hS := hS.kp [(0, (Pv cb)), (1, I6 by_), (4, .bool false), (12, .bool false), (5, (Pv w.heap.size)), (44, .bool true)]
 refine hK14 _ _ ?_
 refine cond_t hS rfl ?_
 refine sq fun K23 hK23 => ?_
 refine rgn 1 ?_
 refine sg wide_wide [.p] [] [(0, (Pv cb)), (1, I6 by_), (4, .bool false), (12, .bool false), (5, (Pv w.heap.size)), (44, .bool true)] 1 0 hS .nil fun a hS => ?_
 refine seg_end ?_
 refine hK23 _ _ ?_
 refine wpIn_ret ?_
 refine then_ret ?_
 refine ret1 hS Try.results70 rfl ?_
 exact ⟨rfl, hE22⟩

set_option maxHeartbeats 1000000 in
theorem Beside_in {sb cb cap : Nat} {st : List Stp} {s : Stp} {p0 p1 bs : Option Addr} {z by_ : Int} {k : Nat} {kid : Tr} {w : World} (hC : Blk w cb 77 #[.pointer p0, .slice bs (st.length + 1) cap, .pointer p1, I6 z]) (hv : OwnV w 122 3 (.slice bs (st.length + 1) cap) (st.length + 1) (ways st ++ stepc s)) (hlen : st.length ≤ 1000000000) (hc : s.1.Ok w sb) (hs0 : 0 ≤ s.2.1 ∧ s.2.1 ≤ 1000000000) (hby : -10 ≤ by_ ∧ by_ ≤ 10) (hr : s.2.1 + by_ = k) (hk : s.1.kids[k]? = some kid) (hp : 0 ≤ lastB st ∧ lastB st ≤ 4611686018427387904) :
  Calls Try.prog 70 #[(Pv cb), I6 by_] w fun e w' => ∃ bs2 cap2, e = .returned (.bool true) ∧ Blk w' cb 77 #[.pointer p0, .slice bs2 (st.length + 1) cap2, (Pv kid.b), I6 (lastB st + sumW (s.1.kids.take k))] ∧ OwnV w' 122 3 (.slice bs2 (st.length + 1) cap2) (st.length + 1) (ways (st ++ [(s.1, (k : Int), lastB st + sumW (s.1.kids.take k))])) ∧ Ext (cb :: ob (.slice bs (st.length + 1) cap)) w w' ∧ (∀ b ∈ ob (.slice bs2 (st.length + 1) cap2), b ∈ ob (.slice bs (st.length + 1) cap) ∨ w.heap.size ≤ b) := by
 have hc0 : (ways st ++ stepc s)[0 + st.length * 3]? = some ((Pv s.1.b)) := by rw [Nat.zero_add, ← ways_len st]; simp [stepc, Tr.ptr]
 have hc1 : (ways st ++ stepc s)[0 + st.length * 3 + 1]? = some (I6 s.2.1) := by rw [Nat.zero_add, ← ways_len st, List.getElem?_append_right (by omega)]; simp [stepc]
 have hc2 : (ways st ++ stepc s)[0 + st.length * 3 + 2]? = some (I6 s.2.2) := by rw [Nat.zero_add, ← ways_len st, List.getElem?_append_right (by omega)]; simp [stepc]
 have hca := hc.arr
 have hN : Blk w s.1.b 106 #[(Pv sb), I6 s.1.num, I6 s.1.kd, I6 s.1.nn, I6 s.1.lk, I6 s.1.ls, I6 s.1.ll, I6 s.1.lr, s.1.ks, I6 s.1.wd, I6 s.1.lf, I6 s.1.tt, .bool s.1.fl] := hc.blk
 have hkl0 := Oks.len hc.oks
 have htt := Tr.Ok.tt_pos s.1 hc
 have hmax := hc.nums.max
 have hklt : k < s.1.kids.length := (List.getElem?_eq_some_iff.1 hk).1
 refine calls_body 53 [(0, (Pv cb)), (1, I6 by_)] Try.func70 rfl (by kernel_rfl) (by kernel_rfl) (by kernel_rfl) fun a hS => ?_
 have hE0 : Ext [] w w := Ext.refl _ _
 refine sq fun K1 hK1 => ?_
 refine rgn 1 ?_
 refine sg wide_wide [.p] [] [(0, (Pv cb)), (1, I6 by_), (4, .bool false)] 1 0 hS .nil fun a hS => ?_
 refine seg_end ?_
 refine hK1 _ _ ?_
 refine sq fun K2 hK2 => ?_
 refine sq fun K3 hK3 => ?_
 refine rgn 7 ?_
 refine sg wide_wide [.p, .p, .p, .p, .ld (.slice bs (st.length + 1) cap), .p, .as (.bool false)] [_, Value.bool (((((st.length + 1 : Nat) : Int) : Int) == 0)) = .bool false] [(0, (Pv cb)), (1, I6 by_), (4, .bool false), (12, .bool false)] 7 0 hS (.cons (hC.cell 1 rfl) (.cons (as_eq_f (by omega)) .nil)) fun a hS => ?_
 refine seg_end ?_
 refine hK3 _ _ ?_
 refine cond_f hS rfl ?_
 refine wpIn_skip ?_
 refine hK2 _ _ ?_
 refine sq fun K4 hK4 => ?_
 refine region_fn2 wide_wide [.q .p, .q .p, .q .p, .q .p, .q (.ld (.slice bs (st.length + 1) cap)), .q .p, .q .p, .q .p, .q .p, .q (.ld (.slice bs (st.length + 1) cap)), .q .p, .q (.as (I6 ↑st.length)), .q (.run ((Po (bof (.slice bs (st.length + 1) cap)) (0 + st.length * 3)))), .q (.lds [(Pv s.1.b), I6 s.2.1, I6 s.2.2]), .e, .e] [0, 0, 0, 0, 0, 0, 0, 0, 0, 0, 0, 0, 0, 0, 0, 1] [1, 1, 1, 1, 1, 1, 1, 1, 1, 1, 1, 1, 1, 1, 0, 1] [0, 1, 3, 7, 15, 0, 32, 96, 224, 480, 992, 2016, 4095, 8191, 0, 32767] [14, 15] 2 ([(0, (Pv cb)), (1, I6 by_), (4, .bool false), (12, .bool false), (13, (Pv cb)), (14, (Pv cb)), (15, (Pv cb)), (16, (Po cb 1)), (17, .slice bs (st.length + 1) cap), (18, (Pv cb)), (19, (Pv cb)), (20, (Pv cb)), (21, (Po cb 1)), (22, .slice bs (st.length + 1) cap), (23, I6 ((st.length + 1 : Nat) : Int)), (24, I6 ↑st.length), (25, (Po (bof (.slice bs (st.length + 1) cap)) (0 + st.length * 3))), (26, .agg #[(Pv s.1.b), I6 s.2.1, I6 s.2.2]), (5, (Pv w.heap.size))]) [w.drew, (w.drew).alloc (.cells #[.pointer none, I6 0, I6 0] 122), upd ((w.drew).alloc (.cells #[.pointer none, I6 0, I6 0] 122)) (w.heap.size) 122 #[(Pv s.1.b), I6 s.2.1, I6 s.2.2]] w.drew (fun w' => [(4, [w'.cell? ⟨cb, 1, none⟩ = some (.slice bs (st.length + 1) cap)]), (9, [w'.cell? ⟨cb, 1, none⟩ = some (.slice bs (st.length + 1) cap)]), (11, [Value.int .i64 (IntKind.i64.wrap (((st.length + 1 : Nat) : Int) - 1)) = I6 ↑st.length]), (12, [Ru Try.prog (vS (Instr.indexAt 73 (.slice bs (st.length + 1) cap) (I6 ↑st.length))) ((Po (bof (.slice bs (st.length + 1) cap)) (0 + st.length * 3))) w']), (13, [w'.cell? ⟨bof (.slice bs (st.length + 1) cap), 0 + st.length * 3, none⟩ = some ((Pv s.1.b)), w'.cell? ⟨bof (.slice bs (st.length + 1) cap), 0 + st.length * 3 + 1, none⟩ = some (I6 s.2.1), w'.cell? ⟨bof (.slice bs (st.length + 1) cap), 0 + st.length * 3 + 2, none⟩ = some (I6 s.2.2)])]) [0, 1, 4, 12] [] hS (by kernel_rfl) (by kernel_rfl) (by kernel_rfl) (by kernel_rfl) (fun _ => by kernel_rfl) (by kernel_rfl) (by kernel_rfl) (by kernel_rfl) ?_ ?_ ?_
 ·intro e w' hw
  refine (.cons ?_ (.cons ?_ (.cons ?_ (.cons ?_ (.cons ?_ .nil)))))
  ·intro h1 h2
   replace h1 : 0 ≤ e := h1
   replace h2 : e ≤ 1 := h2
   have he : e = 0 ∨ e = 1 := by omega
   rcases he with rfl | rfl
   ·obtain rfl : w' = w.drew := hw.trans (by kernel_rfl)
    exact (.cons ((hC.drew : Blk w.drew cb 77 (#[.pointer p0, .slice bs (st.length + 1) cap, .pointer p1, I6 z])).cell 1 rfl) .nil)
   ·obtain rfl : w' = (w.drew).alloc (.cells #[.pointer none, I6 0, I6 0] 122) := hw.trans (by kernel_rfl)
    exact (.cons (((hC.drew).alloc _ : Blk ((w.drew).alloc (.cells #[.pointer none, I6 0, I6 0] 122)) cb 77 (#[.pointer p0, .slice bs (st.length + 1) cap, .pointer p1, I6 z])).cell 1 rfl) .nil)
  ·intro h1 h2
   replace h1 : 0 ≤ e := h1
   replace h2 : e ≤ 1 := h2
   have he : e = 0 ∨ e = 1 := by omega
   rcases he with rfl | rfl
   ·obtain rfl : w' = w.drew := hw.trans (by kernel_rfl)
    exact (.cons ((hC.drew : Blk w.drew cb 77 (#[.pointer p0, .slice bs (st.length + 1) cap, .pointer p1, I6 z])).cell 1 rfl) .nil)
   ·obtain rfl : w' = (w.drew).alloc (.cells #[.pointer none, I6 0, I6 0] 122) := hw.trans (by kernel_rfl)
    exact (.cons (((hC.drew).alloc _ : Blk ((w.drew).alloc (.cells #[.pointer none, I6 0, I6 0] 122)) cb 77 (#[.pointer p0, .slice bs (st.length + 1) cap, .pointer p1, I6 z])).cell 1 rfl) .nil)
  ·exact fun _ _ => (.cons ((by rw [show (((st.length + 1 : Nat) : Int) - 1 : Int) = ↑st.length from by omega]; exact as_i64 (by omega))) .nil)
  ·exact fun _ _ => (.cons (ix_own (j := st.length) (hv) (by kernel_rfl) (by kernel_rfl) rfl (by omega)) .nil)
  ·intro h1 h2
   replace h1 : 0 ≤ e := h1
   replace h2 : e ≤ 1 := h2
   have he : e = 0 ∨ e = 1 := by omega
   rcases he with rfl | rfl
   ·obtain rfl : w' = w.drew := hw.trans (by kernel_rfl)
    exact (.cons ((hv.drew : OwnV w.drew 122 3 (.slice bs (st.length + 1) cap) (st.length + 1) (ways st ++ stepc s)).cellAt _ hc0) (.cons ((hv.drew : OwnV w.drew 122 3 (.slice bs (st.length + 1) cap) (st.length + 1) (ways st ++ stepc s)).cellAt _ hc1) (.cons ((hv.drew : OwnV w.drew 122 3 (.slice bs (st.length + 1) cap) (st.length + 1) (ways st ++ stepc s)).cellAt _ hc2) .nil)))
   ·obtain rfl : w' = (w.drew).alloc (.cells #[.pointer none, I6 0, I6 0] 122) := hw.trans (by kernel_rfl)
    exact (.cons (((hv.drew).alloc _ : OwnV ((w.drew).alloc (.cells #[.pointer none, I6 0, I6 0] 122)) 122 3 (.slice bs (st.length + 1) cap) (st.length + 1) (ways st ++ stepc s)).cellAt _ hc0) (.cons (((hv.drew).alloc _ : OwnV ((w.drew).alloc (.cells #[.pointer none, I6 0, I6 0] 122)) 122 3 (.slice bs (st.length + 1) cap) (st.length + 1) (ways st ++ stepc s)).cellAt _ hc1) (.cons (((hv.drew).alloc _ : OwnV ((w.drew).alloc (.cells #[.pointer none, I6 0, I6 0] 122)) 122 3 (.slice bs (st.length + 1) cap) (st.length + 1) (ways st ++ stepc s)).cellAt _ hc2) .nil)))
 ·refine (.cons ?eq5_14 (.cons ?eq5_15 .nil))
  ·refine eff_at (w.drew) ((w.drew).alloc (.cells #[.pointer none, I6 0, I6 0] 122)) (by kernel_rfl) (by kernel_rfl) ?_
   exact upon_box (nb := w.heap.size) (cs := #[.pointer none, I6 0, I6 0]) (T := 122) (d := (some 5)) (by kernel_rfl) (by first | rfl | simp [upd_size]) ⟨by kernel_rfl, by kernel_rfl⟩
  ·refine eff_at ((w.drew).alloc (.cells #[.pointer none, I6 0, I6 0] 122)) (upd ((w.drew).alloc (.cells #[.pointer none, I6 0, I6 0] 122)) (w.heap.size) 122 #[(Pv s.1.b), I6 s.2.1, I6 s.2.2]) (by kernel_rfl) (by kernel_rfl) ?_
   exact upon_store (b := w.heap.size) (off := 0) (vs := [(Pv s.1.b), I6 s.2.1, I6 s.2.2]) (by kernel_rfl) (Blk.new' _ _ _ (by first | rfl | simp [upd_size]) : Blk ((w.drew).alloc (.cells #[.pointer none, I6 0, I6 0] 122)) w.heap.size 122 (#[.pointer none, I6 0, I6 0])) (by simp) ⟨by kernel_rfl, by kernel_rfl⟩
 rintro a w6 hS hw7
 replace hw7 : w6 = upd ((w.drew).alloc (.cells #[.pointer none, I6 0, I6 0] 122)) (w.heap.size) 122 #[(Pv s.1.b), I6 s.2.1, I6 s.2.2] := hw7.trans (by kernel_rfl)
 have hB8 := Blk.at' hw7 (((hC.drew).alloc _).updNe (Ne.symm (Nat.ne_of_lt hC.lt)) _ _)
 have hB9 := OwnV.at' hw7 (((hv.drew).alloc _).updNe (fun x hx => Nat.ne_of_gt (hv.lie x hx)) _ _)
 have hB10 := Blk.at' hw7 (((hN.drew).alloc _).updNe (Ne.symm (Nat.ne_of_lt hN.lt)) _ _)
 have hB11 : Blk w6 w.heap.size 122 (#[(Pv s.1.b), I6 s.2.1, I6 s.2.2]) := by rw [hw7]; exact (Blk.new' _ _ _ (by first | rfl | simp [upd_size])).upd _ _
 have hE12 : Ext [] w w6 := by rw [hw7]; exact ((hE0.drew).alloc _).updIn (.inr hE0.size) _ _
 replace hS := hS.kp [(0, (Pv cb)), (1, I6 by_), (4, .bool false), (12, .bool false), (5, (Pv w.heap.size))]
 refine hK4 _ _ ?_
 refine sq fun K13 hK13 => ?_
 refine sq fun K14 hK14 => ?_
 refine region_fn2 wide_wide [.q .p, .q (.ld (I6 s.2.1)), .q .p, .q (.as (I6 ↑k)), .q (.as (.bool false)), .q .p, .q .p, .q (.ld (I6 s.2.1)), .q .p, .q (.as (I6 ↑k)), .q .p, .q (.ld ((Pv s.1.b))), .q .p, .q .p, .q (.ld (s.1.ks)), .q (.run (I6 ↑s.1.kids.length)), .q (.as (.bool false)), .q .p] [0, 0, 0, 0, 0, 0, 0, 0, 0, 0, 0, 0, 0, 0, 0, 0, 0, 0] [0, 0, 0, 0, 0, 0, 0, 0, 0, 0, 0, 0, 0, 0, 0, 0, 0, 0] [0, 1, 0, 7, 15, 31, 63, 127, 63, 511, 63, 1087, 3135, 7231, 15423, 31807, 65535, 131071] [] 0 ([(0, (Pv cb)), (1, I6 by_), (4, .bool false), (12, .bool false), (5, (Pv w.heap.size)), (27, (Po w.heap.size 1)), (28, I6 s.2.1), (29, I6 by_), (30, I6 ↑k), (31, .bool false), (32, .bool false), (33, (Po w.heap.size 1)), (34, I6 s.2.1), (35, I6 by_), (36, I6 ↑k), (37, (Pv w.heap.size)), (38, (Pv s.1.b)), (39, (Pv s.1.b)), (40, (Po s.1.b 8)), (41, s.1.ks), (42, I6 ↑s.1.kids.length), (43, .bool false), (44, .bool false)]) [w6.drew] w6.drew (fun w' => [(1, [w'.cell? ⟨w.heap.size, 1, none⟩ = some (I6 s.2.1)]), (3, [Value.int .i64 (IntKind.i64.wrap (s.2.1 + by_)) = I6 ↑k]), (4, [Value.bool (decide ((↑k : Int) < 0)) = .bool false]), (7, [w'.cell? ⟨w.heap.size, 1, none⟩ = some (I6 s.2.1)]), (9, [Value.int .i64 (IntKind.i64.wrap (s.2.1 + by_)) = I6 ↑k]), (11, [w'.cell? ⟨w.heap.size, 0, none⟩ = some ((Pv s.1.b))]), (14, [w'.cell? ⟨s.1.b, 8, none⟩ = some (s.1.ks)]), (15, [Ru Try.prog (vS (Builtin.len_ #[32] 3 #[s.1.ks])) (I6 ↑s.1.kids.length) w']), (16, [Value.bool (decide ((↑k : Int) ≥ ↑s.1.kids.length)) = .bool false])]) [0, 1, 4, 12, 5] [] hS (by kernel_rfl) (by kernel_rfl) (by kernel_rfl) (by kernel_rfl) (fun _ => by kernel_rfl) (by kernel_rfl) (by kernel_rfl) (by kernel_rfl) ?_ ?_ ?_
 ·intro e w' hw
  refine (.cons ?_ (.cons ?_ (.cons ?_ (.cons ?_ (.cons ?_ (.cons ?_ (.cons ?_ (.cons ?_ (.cons ?_ .nil)))))))))
  ·intro h1 h2
   obtain rfl : e = 0 := Nat.le_antisymm h2 h1
   obtain rfl : w' = w6.drew := hw.trans (by kernel_rfl)
   exact (.cons ((hB11.drew : Blk w6.drew w.heap.size 122 (#[(Pv s.1.b), I6 s.2.1, I6 s.2.2])).cell 1 rfl) .nil)
  ·exact fun _ _ => (.cons ((by rw [show (s.2.1 + by_ : Int) = ↑k from by omega]; exact as_i64 (by omega))) .nil)
  ·exact fun _ _ => (.cons (as_f (by omega)) .nil)
  ·intro h1 h2
   obtain rfl : e = 0 := Nat.le_antisymm h2 h1
   obtain rfl : w' = w6.drew := hw.trans (by kernel_rfl)
   exact (.cons ((hB11.drew : Blk w6.drew w.heap.size 122 (#[(Pv s.1.b), I6 s.2.1, I6 s.2.2])).cell 1 rfl) .nil)
  ·exact fun _ _ => (.cons ((by rw [show (s.2.1 + by_ : Int) = ↑k from by omega]; exact as_i64 (by omega))) .nil)
  ·intro h1 h2
   obtain rfl : e = 0 := Nat.le_antisymm h2 h1
   obtain rfl : w' = w6.drew := hw.trans (by kernel_rfl)
   exact (.cons ((hB11.drew : Blk w6.drew w.heap.size 122 (#[(Pv s.1.b), I6 s.2.1, I6 s.2.2])).cell 0 rfl) .nil)
  ·intro h1 h2
   obtain rfl : e = 0 := Nat.le_antisymm h2 h1
   obtain rfl : w' = w6.drew := hw.trans (by kernel_rfl)
   exact (.cons ((hB10.drew : Blk w6.drew s.1.b 106 (#[(Pv sb), I6 s.1.num, I6 s.1.kd, I6 s.1.nn, I6 s.1.lk, I6 s.1.ls, I6 s.1.ll, I6 s.1.lr, s.1.ks, I6 s.1.wd, I6 s.1.lf, I6 s.1.tt, .bool s.1.fl])).cell 8 rfl) .nil)
  ·exact fun _ _ => (.cons (run_len_own hca (by kernel_rfl)) .nil)
  ·exact fun _ _ => (.cons (as_f (by omega)) .nil)
 ·refine .nil
 rintro a w16 hS hw17
 replace hw17 : w16 = w6.drew := hw17.trans (by kernel_rfl)
 have hB18 := Blk.at' hw17 (hB8.drew)
 have hB19 := OwnV.at' hw17 (hB9.drew)
 have hB20 := Blk.at' hw17 (hB10.drew)
 have hB21 := Blk.at' hw17 (hB11.drew)
 have hE22 : Ext [] w w16 := by rw [hw17]; exact hE12.drew
 replace hS := hS.kp [(0, (Pv cb)), (1, I6 by_), (4, .bool false), (12, .bool false), (5, (Pv w.heap.size)), (44, .bool false)]
 refine hK14 _ _ ?_
 refine cond_f hS rfl ?_
 refine wpIn_skip ?_
 refine hK13 _ _ ?_
 refine sq fun K23 hK23 => ?_
 refine rgn 2 ?_
 refine sg wide_wide [.p] [] [(0, (Pv cb)), (1, I6 by_), (4, .bool false), (12, .bool false), (5, (Pv w.heap.size)), (44, .bool false), (45, (Pv cb))] 1 1 hS .nil fun a hS => ?_
 have hEp := hE22
 have hN2 := hB20
 have hsp2 := hB21
 have hcb2 := hB18
 refine eff_call wide_wide (r := 0) (f := 42) (vs := [(Pv cb)]) (cap := #[]) (d := (some 46)) hS (by kernel_rfl) Try.call42 #[(Pv cb)] (by kernel_rfl) (Up_1 hB18 hB19 hlen) ?_
 rintro _ w3 ⟨rfl, hC3, hv3, hE23⟩
 refine ⟨_, rfl, fun a hS => ?_⟩
 have hsp3 := hsp2.ext hE23 (by simpa using hsp2.ne_type hcb2 (by decide))
 have hcx2 : s.1.Ok w16 sb := hc.ext hEp s.1 (by simp)
 have hcx3 : s.1.Ok w3 sb := hcx2.ext hE23 s.1 (by intro b hb; obtain rfl := (by simpa using hb : b = cb); exact hcx2.not_foot hcb2 (by decide) (by decide))
 have hN3 := hcx3.blk
 have hE3 : Ext [cb] w w3 := (hEp.of0 : Ext [cb] w w16).trans hE23 (by simp)
 refine seg_end ?_
 refine hK23 _ _ ?_
 refine sq fun K24 hK24 => ?_
 refine rgn 7 ?_
 refine sg wide_wide [.p, .p, .ld (I6 s.2.1), .p, .as (I6 ↑k)] [_, Value.int .i64 (IntKind.i64.wrap (s.2.1 + by_)) = I6 ↑k] [(0, (Pv cb)), (1, I6 by_), (4, .bool false), (12, .bool false), (5, (Pv w.heap.size)), (44, .bool false), (47, (Pv cb)), (51, I6 ↑k)] 5 2 hS (.cons (hsp3.cell 1 rfl) (.cons ((by rw [show (s.2.1 + by_ : Int) = ↑k from by omega]; exact as_i64 (by omega))) .nil)) fun a hS => ?_
 have hsl := hv.len
 refine eff_call wide_wide (r := 1) (f := 43) (vs := [(Pv cb), I6 ↑k]) (cap := #[]) (d := (some 52)) hS (by kernel_rfl) Try.call43 #[(Pv cb), I6 ↑k] (by kernel_rfl) (Down_in (k := k) hcx3 hC3 hv3 hlen hp hk) ?_
 rintro _ w4 ⟨bs2, cap2, rfl, hC4, hv4, hE34, hf4⟩
 refine ⟨_, rfl, fun a hS => ?_⟩
 refine sg wide_wide [.p] [] [(0, (Pv cb)), (1, I6 by_), (4, .bool true), (12, .bool false), (5, (Pv w.heap.size)), (44, .bool false)] 7 0 hS .nil fun a hS => ?_
 refine seg_end ?_
 refine hK24 _ _ ?_
 refine wpIn_ret ?_
 refine ret1 hS Try.results70 rfl ?_
 exact ⟨bs2, cap2, rfl, hC4, hv4, (hE3.mono (by simp)).trans hE34 (fun b hb => .inl (by simpa [ob_oa] using hb)), fun b hb => (hf4 b hb).imp (fun h => by simpa [ob_oa] using h) (Nat.le_trans hE3.size)⟩

end Go.Proofs.Ytpglmeeledmkoaa
