import Derived.Test.YtpglmeeledmkoaaProg
import Derived.Test.YtpglmeeledmkoaaVc
import Derived.Test.YtpglmeeledmkoaaT11
namespace Go.Proofs.Ytpglmeeledmkoaa
open Go.Vc

theorem lastB_at (l : List Stp) (j : Nat) (hj : l.length = j + 1) : (ways l)[0 + j * 3 + 2]? = some (I6 (lastB l)) := by
 have hlt : j < l.length := by omega
 rw [ways_at l j 2 hlt (by omega)]
 have : l.getLast? = some l[j] := by rw [List.getLast?_eq_getElem?, hj]; simp [hlt]
 simp [lastB, this, stepc]
theorem lastB_snoc (l : List Stp) (s : Stp) : lastB (l ++ [s]) = s.2.2 := by simp [lastB]

theorem Up_0 {cb cap : Nat} {p0 p1 bs : Option Addr} {z : Int} {w : World} (hC : Blk w cb 77 #[.pointer p0, .slice bs 0 cap, .pointer p1, I6 z]) :
  Calls Try.prog 42 #[(Pv cb)] w fun e w' => e = .returned (.bool false) ∧ w' = w := by
 refine calls_body 75 [(0, (Pv cb))] Try.func42 rfl (by kernel_rfl) (by kernel_rfl) (by kernel_rfl) fun a hS => ?_
 refine sq fun K1 hK1 => ?_
 refine rgn 1 ?_
 refine sg wide_wide [.p] [] [(0, (Pv cb)), (2, .bool false)] 1 0 hS .nil fun a hS => ?_
 refine seg_end ?_
 refine hK1 _ _ ?_
 refine sq fun K2 hK2 => ?_
 refine sq fun K3 hK3 => ?_
 refine rgn 7 ?_
 refine sg wide_wide [.p, .p, .p, .p, .ld (.slice bs 0 cap), .p, .p] [_] [(0, (Pv cb)), (2, .bool false), (11, .bool true)] 7 0 hS (.cons (hC.cell 1 rfl) .nil) fun a hS => ?_
 refine seg_end ?_
 refine hK3 _ _ ?_
 refine cond_t hS rfl ?_
 refine sq fun K4 hK4 => ?_
 refine rgn 1 ?_
 refine sg wide_wide [.p] [] [(0, (Pv cb)), (2, .bool false), (11, .bool true)] 1 0 hS .nil fun a hS => ?_
 refine seg_end ?_
 refine hK4 _ _ ?_
 refine wpIn_ret ?_
 refine then_ret ?_
 refine ret1 hS Try.results42 rfl ?_
 exact ⟨rfl, rfl⟩

set_option maxHeartbeats 1000000 in
theorem Up_1 {cb cap : Nat} {st : List Stp} {s : Stp} {p0 p1 bs : Option Addr} {z : Int} {w : World} (hC : Blk w cb 77 #[.pointer p0, .slice bs (st.length + 1) cap, .pointer p1, I6 z]) (hv : OwnV w 122 3 (.slice bs (st.length + 1) cap) (st.length + 1) (ways st ++ stepc s)) (hlen : st.length ≤ 1000000000) :
  Calls Try.prog 42 #[(Pv cb)] w fun e w' => e = .returned (.bool true) ∧ Blk w' cb 77 #[.pointer p0, .slice bs st.length cap, (Pv s.1.b), I6 (lastB st)] ∧ OwnV w' 122 3 (.slice bs st.length cap) st.length (ways st) ∧ Ext [cb] w w' := by
 have hc0 : (ways st ++ stepc s)[0 + st.length * 3]? = some ((Pv s.1.b)) := by rw [Nat.zero_add, ← ways_len st]; simp [stepc, Tr.ptr]
 have hc1 : (ways st ++ stepc s)[0 + st.length * 3 + 1]? = some (I6 s.2.1) := by rw [Nat.zero_add, ← ways_len st, List.getElem?_append_right (by omega)]; simp [stepc]
 have hc2 : (ways st ++ stepc s)[0 + st.length * 3 + 2]? = some (I6 s.2.2) := by rw [Nat.zero_add, ← ways_len st, List.getElem?_append_right (by omega)]; simp [stepc]
 refine calls_body 75 [(0, (Pv cb))] Try.func42 rfl (by kernel_rfl) (by kernel_rfl) (by kernel_rfl) fun a hS => ?_
 have hE0 : Ext [cb] w w := Ext.refl _ _
 refine sq fun K1 hK1 => ?_
 refine rgn 1 ?_
 refine sg wide_wide [.p] [] [(0, (Pv cb)), (2, .bool false)] 1 0 hS .nil fun a hS => ?_
 refine seg_end ?_
 refine hK1 _ _ ?_
 refine sq fun K2 hK2 => ?_
 refine sq fun K3 hK3 => ?_
 refine rgn 7 ?_
 refine sg wide_wide [.p, .p, .p, .p, .ld (.slice bs (st.length + 1) cap), .p, .as (.bool false)] [_, Value.bool (((((st.length + 1 : Nat) : Int) : Int) == 0)) = .bool false] [(0, (Pv cb)), (2, .bool false), (11, .bool false)] 7 0 hS (.cons (hC.cell 1 rfl) (.cons (as_eq_f (by omega)) .nil)) fun a hS => ?_
 refine seg_end ?_
 refine hK3 _ _ ?_
 refine cond_f hS rfl ?_
 refine wpIn_skip ?_
 refine hK2 _ _ ?_
 refine sq fun K4 hK4 => ?_
 refine region_fn2 wide_wide [.q .p, .q .p, .q .p, .q .p, .q (.ld (.slice bs (st.length + 1) cap)), .q .p, .q .p, .q .p, .q .p, .q (.ld (.slice bs (st.length + 1) cap)), .q .p, .q (.as (I6 ↑st.length)), .q (.run ((Po (bof (.slice bs (st.length + 1) cap)) (0 + st.length * 3)))), .q (.lds [(Pv s.1.b), I6 s.2.1, I6 s.2.2]), .e, .e] [0, 0, 0, 0, 0, 0, 0, 0, 0, 0, 0, 0, 0, 0, 0, 1] [1, 1, 1, 1, 1, 1, 1, 1, 1, 1, 1, 1, 1, 1, 0, 1] [0, 1, 3, 7, 15, 0, 32, 96, 224, 480, 992, 2016, 4095, 8191, 0, 32767] [14, 15] 2 ([(0, (Pv cb)), (2, .bool false), (11, .bool false), (12, (Pv cb)), (13, (Pv cb)), (14, (Pv cb)), (15, (Po cb 1)), (16, .slice bs (st.length + 1) cap), (17, (Pv cb)), (18, (Pv cb)), (19, (Pv cb)), (20, (Po cb 1)), (21, .slice bs (st.length + 1) cap), (22, I6 ((st.length + 1 : Nat) : Int)), (23, I6 ↑st.length), (24, (Po (bof (.slice bs (st.length + 1) cap)) (0 + st.length * 3))), (25, .agg #[(Pv s.1.b), I6 s.2.1, I6 s.2.2]), (3, (Pv w.heap.size))]) [w.drew, (w.drew).alloc (.cells #[.pointer none, I6 0, I6 0] 122), upd ((w.drew).alloc (.cells #[.pointer none, I6 0, I6 0] 122)) (w.heap.size) 122 #[(Pv s.1.b), I6 s.2.1, I6 s.2.2]] w.drew (fun w' => [(4, [w'.cell? ⟨cb, 1, none⟩ = some (.slice bs (st.length + 1) cap)]), (9, [w'.cell? ⟨cb, 1, none⟩ = some (.slice bs (st.length + 1) cap)]), (11, [Value.int .i64 (IntKind.i64.wrap (((st.length + 1 : Nat) : Int) - 1)) = I6 ↑st.length]), (12, [Ru Try.prog (vS (Instr.indexAt 73 (.slice bs (st.length + 1) cap) (I6 ↑st.length))) ((Po (bof (.slice bs (st.length + 1) cap)) (0 + st.length * 3))) w']), (13, [w'.cell? ⟨bof (.slice bs (st.length + 1) cap), 0 + st.length * 3, none⟩ = some ((Pv s.1.b)), w'.cell? ⟨bof (.slice bs (st.length + 1) cap), 0 + st.length * 3 + 1, none⟩ = some (I6 s.2.1), w'.cell? ⟨bof (.slice bs (st.length + 1) cap), 0 + st.length * 3 + 2, none⟩ = some (I6 s.2.2)])]) [0, 2, 11] [] hS (by kernel_rfl) (by kernel_rfl) (by kernel_rfl) (by kernel_rfl) (fun _ => by kernel_rfl) (by kernel_rfl) (by kernel_rfl) (by kernel_rfl) ?_ ?_ ?_
 ·intro e w' hw
  refine (.cons ?_ (.cons ?_ (.cons ?_ (.cons ?_ (.cons ?_ .nil)))))
  ·intro h1 h2
   replace h1 : 0 ≤ e := h1
   replace h2 : e ≤ 1 := h2
   have he : e = 0 ∨ e = 1 := by omega
   rcases he with rfl | rfl
   ·obtain rfl : w' = w.drew := hw.trans (by kernel_rfl)
    exact (.cons ((hC.drew : Blk w.drew cb 77 (#[.pointer p0, .slice bs (st.length + 1) cap, .pointer p1, I6 z])).cell 1 rfl) .nil)
   ·obtain rfl : w' = (w.drew).alloc (.cells #[.pointer none, I6 0, I6 0] 122) := hw.trans (by kernel_rfl)
    exact (.cons (((hC.drew).alloc _ : Blk ((w.drew).alloc (.cells #[.pointer none, I6 0, I6 0] 122)) cb 77 (#[.pointer p0, .slice bs (st.length + 1) cap, .pointer p1, I6 z])).cell 1 rfl) .nil)
  ·intro h1 h2
   replace h1 : 0 ≤ e := h1
   replace h2 : e ≤ 1 := h2
   have he : e = 0 ∨ e = 1 := by omega
   rcases he with rfl | rfl
   ·obtain rfl : w' = w.drew := hw.trans (by kernel_rfl)
    exact (.cons ((hC.drew : Blk w.drew cb 77 (#[.pointer p0, .slice bs (st.length + 1) cap, .pointer p1, I6 z])).cell 1 rfl) .nil)
   ·obtain rfl : w' = (w.drew).alloc (.cells #[.pointer none, I6 0, I6 0] 122) := hw.trans (by kernel_rfl)
    exact (.cons (((hC.drew).alloc _ : Blk ((w.drew).alloc (.cells #[.pointer none, I6 0, I6 0] 122)) cb 77 (#[.pointer p0, .slice bs (st.length + 1) cap, .pointer p1, I6 z])).cell 1 rfl) .nil)
  ·exact fun _ _ => (.cons ((by rw [show (((st.length + 1 : Nat) : Int) - 1 : Int) = ↑st.length from by omega]; exact as_i64 (by omega))) .nil)
  ·exact fun _ _ => (.cons (ix_own (j := st.length) (hv) (by kernel_rfl) (by kernel_rfl) rfl (by omega)) .nil)
  ·intro h1 h2
   replace h1 : 0 ≤ e := h1
   replace h2 : e ≤ 1 := h2
   have he : e = 0 ∨ e = 1 := by omega
   rcases he with rfl | rfl
   ·obtain rfl : w' = w.drew := hw.trans (by kernel_rfl)
    exact (.cons ((hv.drew : OwnV w.drew 122 3 (.slice bs (st.length + 1) cap) (st.length + 1) (ways st ++ stepc s)).cellAt _ hc0) (.cons ((hv.drew : OwnV w.drew 122 3 (.slice bs (st.length + 1) cap) (st.length + 1) (ways st ++ stepc s)).cellAt _ hc1) (.cons ((hv.drew : OwnV w.drew 122 3 (.slice bs (st.length + 1) cap) (st.length + 1) (ways st ++ stepc s)).cellAt _ hc2) .nil)))
   ·obtain rfl : w' = (w.drew).alloc (.cells #[.pointer none, I6 0, I6 0] 122) := hw.trans (by kernel_rfl)
    exact (.cons (((hv.drew).alloc _ : OwnV ((w.drew).alloc (.cells #[.pointer none, I6 0, I6 0] 122)) 122 3 (.slice bs (st.length + 1) cap) (st.length + 1) (ways st ++ stepc s)).cellAt _ hc0) (.cons (((hv.drew).alloc _ : OwnV ((w.drew).alloc (.cells #[.pointer none, I6 0, I6 0] 122)) 122 3 (.slice bs (st.length + 1) cap) (st.length + 1) (ways st ++ stepc s)).cellAt _ hc1) (.cons (((hv.drew).alloc _ : OwnV ((w.drew).alloc (.cells #[.pointer none, I6 0, I6 0] 122)) 122 3 (.slice bs (st.length + 1) cap) (st.length + 1) (ways st ++ stepc s)).cellAt _ hc2) .nil)))
 ·refine (.cons ?eq5_14 (.cons ?eq5_15 .nil))
  ·refine eff_at (w.drew) ((w.drew).alloc (.cells #[.pointer none, I6 0, I6 0] 122)) (by kernel_rfl) (by kernel_rfl) ?_
   exact upon_box (nb := w.heap.size) (cs := #[.pointer none, I6 0, I6 0]) (T := 122) (d := (some 3)) (by kernel_rfl) (by first | rfl | simp [upd_size]) ⟨by kernel_rfl, by kernel_rfl⟩
  ·refine eff_at ((w.drew).alloc (.cells #[.pointer none, I6 0, I6 0] 122)) (upd ((w.drew).alloc (.cells #[.pointer none, I6 0, I6 0] 122)) (w.heap.size) 122 #[(Pv s.1.b), I6 s.2.1, I6 s.2.2]) (by kernel_rfl) (by kernel_rfl) ?_
   exact upon_store (b := w.heap.size) (off := 0) (vs := [(Pv s.1.b), I6 s.2.1, I6 s.2.2]) (by kernel_rfl) (Blk.new' _ _ _ (by first | rfl | simp [upd_size]) : Blk ((w.drew).alloc (.cells #[.pointer none, I6 0, I6 0] 122)) w.heap.size 122 (#[.pointer none, I6 0, I6 0])) (by simp) ⟨by kernel_rfl, by kernel_rfl⟩
 rintro a w6 hS hw7
 replace hw7 : w6 = upd ((w.drew).alloc (.cells #[.pointer none, I6 0, I6 0] 122)) (w.heap.size) 122 #[(Pv s.1.b), I6 s.2.1, I6 s.2.2] := hw7.trans (by kernel_rfl)
 have hB8 := Blk.at' hw7 (((hC.drew).alloc _).updNe (Ne.symm (Nat.ne_of_lt hC.lt)) _ _)
 have hB9 := OwnV.at' hw7 (((hv.drew).alloc _).updNe (fun x hx => Nat.ne_of_gt (hv.lie x hx)) _ _)
 have hB10 : Blk w6 w.heap.size 122 (#[(Pv s.1.b), I6 s.2.1, I6 s.2.2]) := by rw [hw7]; exact (Blk.new' _ _ _ (by first | rfl | simp [upd_size])).upd _ _
 have hE11 : Ext [cb] w w6 := by rw [hw7]; exact ((hE0.drew).alloc _).updIn (.inr hE0.size) _ _
 replace hS := hS.kp [(0, (Pv cb)), (2, .bool false), (11, .bool false), (3, (Pv w.heap.size))]
 refine hK4 _ _ ?_
 refine sq fun K12 hK12 => ?_
 refine region_fn2 wide_wide [.q .p, .q .p, .q .p, .q .p, .q .p, .q (.ld (.slice bs (st.length + 1) cap)), .q .p, .q .p, .q .p, .q .p, .q (.ld (.slice bs (st.length + 1) cap)), .q .p, .q (.as (I6 ↑st.length)), .q (.run (.slice bs st.length cap)), .q .p, .q .p, .q .p, .e] [0, 0, 0, 0, 0, 0, 0, 0, 0, 0, 0, 0, 0, 0, 0, 0, 0, 0] [0, 0, 0, 0, 0, 0, 0, 0, 0, 0, 0, 0, 0, 0, 0, 0, 0, 0] [0, 0, 2, 6, 14, 30, 0, 64, 192, 448, 960, 1984, 4032, 8190, 16383, 32767, 65535, 131071] [17] 1 ([(0, (Pv cb)), (2, .bool false), (11, .bool false), (3, (Pv w.heap.size)), (26, (Pv cb)), (27, (Pv cb)), (28, (Pv cb)), (29, (Pv cb)), (30, (Po cb 1)), (31, .slice bs (st.length + 1) cap), (32, (Pv cb)), (33, (Pv cb)), (34, (Pv cb)), (35, (Po cb 1)), (36, .slice bs (st.length + 1) cap), (37, I6 ((st.length + 1 : Nat) : Int)), (38, I6 ↑st.length), (39, .slice bs st.length cap), (40, (Pv cb)), (41, (Pv cb)), (42, (Po cb 1))]) [w6.drew, upd (w6.drew) (cb) 77 #[.pointer p0, .slice bs st.length cap, .pointer p1, I6 z]] w6.drew (fun w' => [(5, [w'.cell? ⟨cb, 1, none⟩ = some (.slice bs (st.length + 1) cap)]), (10, [w'.cell? ⟨cb, 1, none⟩ = some (.slice bs (st.length + 1) cap)]), (12, [Value.int .i64 (IntKind.i64.wrap (((st.length + 1 : Nat) : Int) - 1)) = I6 ↑st.length]), (13, [Ru Try.prog (vS (Instr.sliceAt 73 (.slice bs (st.length + 1) cap) none (some (I6 ↑st.length)) none)) (.slice bs st.length cap) w'])]) [0, 2, 11, 3] [] hS (by kernel_rfl) (by kernel_rfl) (by kernel_rfl) (by kernel_rfl) (fun _ => by kernel_rfl) (by kernel_rfl) (by kernel_rfl) (by kernel_rfl) ?_ ?_ ?_
 ·intro e w' hw
  refine (.cons ?_ (.cons ?_ (.cons ?_ (.cons ?_ .nil))))
  ·intro h1 h2
   obtain rfl : e = 0 := Nat.le_antisymm h2 h1
   obtain rfl : w' = w6.drew := hw.trans (by kernel_rfl)
   exact (.cons ((hB8.drew : Blk w6.drew cb 77 (#[.pointer p0, .slice bs (st.length + 1) cap, .pointer p1, I6 z])).cell 1 rfl) .nil)
  ·intro h1 h2
   obtain rfl : e = 0 := Nat.le_antisymm h2 h1
   obtain rfl : w' = w6.drew := hw.trans (by kernel_rfl)
   exact (.cons ((hB8.drew : Blk w6.drew cb 77 (#[.pointer p0, .slice bs (st.length + 1) cap, .pointer p1, I6 z])).cell 1 rfl) .nil)
  ·exact fun _ _ => (.cons ((by rw [show (((st.length + 1 : Nat) : Int) - 1 : Int) = ↑st.length from by omega]; exact as_i64 (by omega))) .nil)
  ·exact fun _ _ => (.cons (sl_own (k := st.length) (hB9) (by kernel_rfl) (by kernel_rfl) rfl (by omega)) .nil)
 ·refine (.cons ?eq13_17 .nil)
  ·refine eff_at (w6.drew) (upd (w6.drew) (cb) 77 #[.pointer p0, .slice bs st.length cap, .pointer p1, I6 z]) (by kernel_rfl) (by kernel_rfl) ?_
   exact upon_store (b := cb) (off := 1) (vs := [.slice bs st.length cap]) (by kernel_rfl) (hB8.drew : Blk w6.drew cb 77 (#[.pointer p0, .slice bs (st.length + 1) cap, .pointer p1, I6 z])) (by simp) ⟨by kernel_rfl, by kernel_rfl⟩
 rintro a w14 hS hw15
 replace hw15 : w14 = upd (w6.drew) (cb) 77 #[.pointer p0, .slice bs st.length cap, .pointer p1, I6 z] := hw15.trans (by kernel_rfl)
 have hB16 : Blk w14 cb 77 (#[.pointer p0, .slice bs st.length cap, .pointer p1, I6 z]) := by rw [hw15]; exact (hB8.drew).upd _ _
 have hB17 := OwnV.at' hw15 ((hB9.drew).updNe (OwnV.ne hB9 hB8 (by decide)) _ _)
 have hB18 := Blk.at' hw15 ((hB10.drew).updNe (Nat.ne_of_lt hC.lt) _ _)
 have hE19 : Ext [cb] w w14 := by rw [hw15]; exact (hE11.drew).updIn (.inl (by simp)) _ _
 replace hS := hS.kp [(0, (Pv cb)), (2, .bool false), (11, .bool false), (3, (Pv w.heap.size))]
 refine hK12 _ _ ?_
 refine sq fun K20 hK20 => ?_
 have hv2 : OwnV w14 122 3 (.slice bs st.length cap) st.length (ways st) := by
  have h := OwnV.take hB17 (k := st.length) (by omega)
  rw [← ways_len st, List.take_left] at h
  exact h
 refine rgn 12 ?_
 refine sg wide_wide [.p, .p, .p, .ld ((Pv s.1.b)), .p, .p, .p] [_] [(0, (Pv cb)), (2, .bool false), (11, .bool false), (3, (Pv w.heap.size)), (44, (Pv cb)), (46, (Pv s.1.b)), (49, (Po cb 2))] 7 5 hS (.cons (hB18.cell 0 rfl) .nil) fun a hS => ?_
 refine eff_store wide_wide (r := 4) (b := cb) (off := 2) (vs := [(Pv s.1.b)]) hS (by kernel_rfl) hB16 (by simp) fun a w21 hw22 hS => ?_
 have hB23 : Blk w21 cb 77 (#[.pointer p0, .slice bs st.length cap, (Pv s.1.b), I6 z]) := by rw [hw22]; exact hB16.upd _ _
 have hB24 := OwnV.at' hw22 (hv2.updNe (OwnV.ne hv2 hB16 (by decide)) _ _)
 have hE26 : Ext [cb] w w21 := by rw [hw22]; exact hE19.updIn (.inl (by simp)) _ _
 refine sg wide_wide [.p, .p, .p] [] [(0, (Pv cb)), (2, .bool false), (11, .bool false), (3, (Pv w.heap.size)), (52, (Po cb 3))] 11 1 hS .nil fun a hS => ?_
 refine eff_store wide_wide (r := 0) (b := cb) (off := 3) (vs := [I6 0]) hS (by kernel_rfl) hB23 (by simp) fun a w27 hw28 hS => ?_
 have hB29 : Blk w27 cb 77 (#[.pointer p0, .slice bs st.length cap, (Pv s.1.b), I6 0]) := by rw [hw28]; exact hB23.upd _ _
 have hB30 := OwnV.at' hw28 (hB24.updNe (OwnV.ne hB24 hB23 (by decide)) _ _)
 have hE32 : Ext [cb] w w27 := by rw [hw28]; exact hE26.updIn (.inl (by simp)) _ _
 refine seg_end ?_
 refine hK20 _ _ ?_
 refine sq fun K33 hK33 => ?_
 refine sq fun K34 hK34 => ?_
 refine rgn 7 ?_
 refine sg wide_wide [.p, .p, .p, .p, .ld (.slice bs st.length cap), .p, .p] [_] [(0, (Pv cb)), (2, .bool false), (11, .bool false), (3, (Pv w.heap.size)), (4, I6 ↑st.length)] 7 0 hS (.cons (hB29.cell 1 rfl) .nil) fun a hS => ?_
 refine seg_end ?_
 refine hK34 _ _ ?_
 refine sq fun K35 hK35 => ?_
 refine rgn 2 ?_
 refine sg wide_wide [.p, .p] [] [(0, (Pv cb)), (2, .bool false), (11, .bool false), (3, (Pv w.heap.size)), (4, I6 ↑st.length), (60, .bool (decide ((↑st.length : Int) > 0)))] 2 0 hS .nil fun a hS => ?_
 refine seg_end ?_
 refine hK35 _ _ ?_
 refine cond_b hS rfl (fun hb36 => ?_) (fun hb36 => ?_)
 ·
  replace hb36 := of_decide_eq_true hb36
  obtain ⟨j, hj⟩ : ∃ j, st.length = j + 1 := ⟨st.length - 1, by omega⟩
  have hc3 := lastB_at st j hj
  refine rgn 15 ?_
  refine sg wide_wide [.p, .p, .p, .p, .p, .ld (.slice bs st.length cap), .p, .as (I6 (↑st.length - 1)), .run ((Po (bof (.slice bs st.length cap)) (0 + j * 3))), .p, .ld (I6 (lastB st)), .p, .p, .p] [_, Value.int .i64 (IntKind.i64.wrap (↑st.length - 1)) = I6 (↑st.length - 1), Ru Try.prog (vS (Instr.indexAt 73 (.slice bs st.length cap) (I6 (↑st.length - 1)))) ((Po (bof (.slice bs st.length cap)) (0 + j * 3))) w27, w27.cell? ⟨bof (.slice bs st.length cap), 0 + j * 3 + 2, none⟩ = some (I6 (lastB st))] [(0, (Pv cb)), (2, .bool false), (11, .bool false), (3, (Pv w.heap.size)), (4, I6 ↑st.length), (60, .bool (decide ((↑st.length : Int) > 0))), (71, I6 (lastB st)), (74, (Po cb 3))] 14 1 hS (.cons (hB29.cell 1 rfl) (.cons (as_i64 (by omega)) (.cons (ix_own (j := j) (hB30) (by kernel_rfl) (by kernel_rfl) (by omega) (by omega)) (.cons ((hB30).cellAt _ hc3) .nil)))) fun a hS => ?_
  refine eff_store wide_wide (r := 0) (b := cb) (off := 3) (vs := [I6 (lastB st)]) hS (by kernel_rfl) hB29 (by simp) fun a w37 hw38 hS => ?_
  have hB39 : Blk w37 cb 77 (#[.pointer p0, .slice bs st.length cap, (Pv s.1.b), I6 (lastB st)]) := by rw [hw38]; exact hB29.upd _ _
  have hB40 := OwnV.at' hw38 (hB30.updNe (OwnV.ne hB30 hB29 (by decide)) _ _)
  have hE42 : Ext [cb] w w37 := by rw [hw38]; exact hE32.updIn (.inl (by simp)) _ _
  refine seg_end ?_
  refine hK33 _ _ ?_
  refine sq fun K43 hK43 => ?_
  refine rgn 1 ?_
  refine sg wide_wide [.p] [] [(0, (Pv cb)), (2, .bool true), (11, .bool false), (3, (Pv w.heap.size)), (4, I6 ↑st.length), (60, .bool (decide ((↑st.length : Int) > 0)))] 1 0 hS .nil fun a hS => ?_
  refine seg_end ?_
  refine hK43 _ _ ?_
  refine wpIn_ret ?_
  refine ret1 hS Try.results42 rfl ?_
  exact ⟨rfl, hB39, hB40, hE42⟩
 ·
  replace hb36 := of_decide_eq_false hb36
  have hst0 : st = [] := List.eq_nil_of_length_eq_zero (by omega)
  refine wpIn_skip ?_
  refine hK33 _ _ ?_
  refine sq fun K44 hK44 => ?_
  refine rgn 1 ?_
  refine sg wide_wide [.p] [] [(0, (Pv cb)), (2, .bool true), (11, .bool false), (3, (Pv w.heap.size)), (4, I6 ↑st.length), (60, .bool (decide ((↑st.length : Int) > 0)))] 1 0 hS .nil fun a hS => ?_
  refine seg_end ?_
  refine hK44 _ _ ?_
  refine wpIn_ret ?_
  refine ret1 hS Try.results42 rfl ?_
  exact ⟨rfl, by subst hst0; exact hB29, hB30, hE32⟩

/-- the way to the leaf that holds a -/
inductive ToR (a : Int) : Tr → Int → List Stp → Tr → Int → Prop
 | leaf {t : Tr} {p : Int} : t.kd = 1 → ToR a t p [] t p
 | step {t c : Tr} {p q : Int} {st : List Stp} {k : Nat} {kid : Tr} : t.kd ≠ 1 → t.kids[k]? = some kid → p + sumW (t.kids.take k) ≤ a → a < p + sumW (t.kids.take k) + kid.wd →
   ToR a kid (p + sumW (t.kids.take k)) st c q → ToR a t p ((t, (k : Int), p + sumW (t.kids.take k)) :: st) c q
theorem sumW_take_succ {l : List Tr} {k : Nat} {kid : Tr} (h : l[k]? = some kid) : sumW (l.take (k + 1)) = sumW (l.take k) + kid.wd := by
 have hk : k < l.length := (List.getElem?_eq_some_iff.1 h).1
 have hv : l[k] = kid := (List.getElem?_eq_some_iff.1 h).2
 rw [List.take_succ_eq_append_getElem hk, sumW_append, hv]
 simp [sumW]
theorem sumT_mem {w : World} {sb : Nat} : ∀ {l : List Tr}, Oks w sb l → ∀ k ∈ l, k.tt ≤ sumT l
 | [], _, k, hk => by cases hk
 | t :: l, h, k, hk => by
  have h1 := (Tr.Ok.tt_pos t h.1).1
  have h2 := Oks.len h.2
  simp only [sumT]
  rcases List.mem_cons.1 hk with rfl | hk
  ·omega
  ·have := sumT_mem h.2 k hk
   omega

theorem To_lt {sb cb n cap : Nat} {top : Tr} {p1 bs : Option Addr} {z q : Int} {w : World} (ht : top.Ok w sb) (hC : Blk w cb 77 #[(Pv top.b), .slice bs n cap, .pointer p1, I6 z]) (hq : q < 0) :
  Calls Try.prog 38 #[(Pv cb), I6 q] w fun e w' => e = .returned (.bool false) ∧ w' = w := by
 have hN : Blk w top.b 106 #[(Pv sb), I6 top.num, I6 top.kd, I6 top.nn, I6 top.lk, I6 top.ls, I6 top.ll, I6 top.lr, top.ks, I6 top.wd, I6 top.lf, I6 top.tt, .bool top.fl] := ht.blk
 have htt := Tr.Ok.tt_pos top ht
 have hmax := ht.nums.max
 refine calls_body 108 [(0, (Pv cb)), (1, I6 q)] Try.func38 rfl (by kernel_rfl) (by kernel_rfl) (by kernel_rfl) fun a hS => ?_
 refine sq fun K1 hK1 => ?_
 refine rgn 1 ?_
 refine sg wide_wide [.p] [] [(0, (Pv cb)), (1, I6 q), (4, .bool false)] 1 0 hS .nil fun a hS => ?_
 refine seg_end ?_
 refine hK1 _ _ ?_
 refine sq fun K2 hK2 => ?_
 refine sq fun K3 hK3 => ?_
 refine rgn 14 ?_
 refine sg wide_wide [.p, .as (.bool true), .p, .no, .no, .no, .no, .no, .no, .no, .no, .no, .no, .p] [Value.bool (decide ((q : Int) < 0)) = .bool true] [(0, (Pv cb)), (1, I6 q), (4, .bool false), (21, .bool true)] 14 0 hS (.cons (as_t (by omega)) .nil) fun a hS => ?_
 refine seg_end ?_
 refine hK3 _ _ ?_
 refine cond_t hS rfl ?_
 refine sq fun K4 hK4 => ?_
 refine rgn 1 ?_
 refine sg wide_wide [.p] [] [(0, (Pv cb)), (1, I6 q), (4, .bool false), (21, .bool true)] 1 0 hS .nil fun a hS => ?_
 refine seg_end ?_
 refine hK4 _ _ ?_
 refine wpIn_ret ?_
 refine then_ret ?_
 refine ret1 hS Try.results38 rfl ?_
 exact ⟨rfl, rfl⟩

theorem To_ge {sb cb n cap : Nat} {top : Tr} {p1 bs : Option Addr} {z q : Int} {w : World} (ht : top.Ok w sb) (hC : Blk w cb 77 #[(Pv top.b), .slice bs n cap, .pointer p1, I6 z]) (hq : 0 ≤ q ∧ top.wd ≤ q) :
  Calls Try.prog 38 #[(Pv cb), I6 q] w fun e w' => e = .returned (.bool false) ∧ w' = w := by
 have hN : Blk w top.b 106 #[(Pv sb), I6 top.num, I6 top.kd, I6 top.nn, I6 top.lk, I6 top.ls, I6 top.ll, I6 top.lr, top.ks, I6 top.wd, I6 top.lf, I6 top.tt, .bool top.fl] := ht.blk
 have htt := Tr.Ok.tt_pos top ht
 have hmax := ht.nums.max
 refine calls_body 108 [(0, (Pv cb)), (1, I6 q)] Try.func38 rfl (by kernel_rfl) (by kernel_rfl) (by kernel_rfl) fun a hS => ?_
 refine sq fun K1 hK1 => ?_
 refine rgn 1 ?_
 refine sg wide_wide [.p] [] [(0, (Pv cb)), (1, I6 q), (4, .bool false)] 1 0 hS .nil fun a hS => ?_
 refine seg_end ?_
 refine hK1 _ _ ?_
 refine sq fun K2 hK2 => ?_
 refine sq fun K3 hK3 => ?_
 refine rgn 14 ?_
 refine sg wide_wide [.p, .as (.bool false), .p, .p, .p, .p, .p, .p, .ld ((Pv top.b)), .p, .p, .ld (I6 top.wd), .as (.bool true), .p] [Value.bool (decide ((q : Int) < 0)) = .bool false, _, _, Value.bool (decide ((q : Int) ≥ top.wd)) = .bool true] [(0, (Pv cb)), (1, I6 q), (4, .bool false), (21, .bool true)] 14 0 hS (.cons (as_f (by omega)) (.cons (hC.cell 0 rfl) (.cons (hN.cell 9 rfl) (.cons (as_t (by omega)) .nil)))) fun a hS => ?_
 refine seg_end ?_
 refine hK3 _ _ ?_
 refine cond_t hS rfl ?_
 refine sq fun K4 hK4 => ?_
 refine rgn 1 ?_
 refine sg wide_wide [.p] [] [(0, (Pv cb)), (1, I6 q), (4, .bool false), (21, .bool true)] 1 0 hS .nil fun a hS => ?_
 refine seg_end ?_
 refine hK4 _ _ ?_
 refine wpIn_ret ?_
 refine then_ret ?_
 refine ret1 hS Try.results38 rfl ?_
 exact ⟨rfl, rfl⟩

set_option maxHeartbeats 2000000 in
theorem To_in {sb cb n cap : Nat} {top : Tr} {p1 bs : Option Addr} {z q : Int} {w : World} (ht : top.Ok w sb) (hC : Blk w cb 77 #[(Pv top.b), .slice bs n cap, .pointer p1, I6 z]) (hq : 0 ≤ q ∧ q < top.wd) :
  Calls Try.prog 38 #[(Pv cb), I6 q] w fun e w' => ∃ st c p bs cap, e = .returned (.bool true) ∧ ToR q top 0 st c p ∧ Blk w' cb 77 #[(Pv top.b), .slice bs st.length cap, (Pv c.b), I6 p] ∧ OwnV w' 122 3 (.slice bs st.length cap) st.length (ways st) ∧ Ext [cb] w w' ∧ (∀ b ∈ ob (.slice bs st.length cap), w.heap.size ≤ b) ∧ st.length ≤ 4194304 := by
 have hN : Blk w top.b 106 #[(Pv sb), I6 top.num, I6 top.kd, I6 top.nn, I6 top.lk, I6 top.ls, I6 top.ll, I6 top.lr, top.ks, I6 top.wd, I6 top.lf, I6 top.tt, .bool top.fl] := ht.blk
 have htt := Tr.Ok.tt_pos top ht
 have hmax := ht.nums.max
 refine calls_body 108 [(0, (Pv cb)), (1, I6 q)] Try.func38 rfl (by kernel_rfl) (by kernel_rfl) (by kernel_rfl) fun a hS => ?_
 have hE0 : Ext [cb] w w := Ext.refl _ _
 refine sq fun K1 hK1 => ?_
 refine rgn 1 ?_
 refine sg wide_wide [.p] [] [(0, (Pv cb)), (1, I6 q), (4, .bool false)] 1 0 hS .nil fun a hS => ?_
 refine seg_end ?_
 refine hK1 _ _ ?_
 refine sq fun K2 hK2 => ?_
 refine sq fun K3 hK3 => ?_
 refine rgn 14 ?_
 refine sg wide_wide [.p, .as (.bool false), .p, .p, .p, .p, .p, .p, .ld ((Pv top.b)), .p, .p, .ld (I6 top.wd), .as (.bool false), .p] [Value.bool (decide ((q : Int) < 0)) = .bool false, _, _, Value.bool (decide ((q : Int) ≥ top.wd)) = .bool false] [(0, (Pv cb)), (1, I6 q), (4, .bool false), (21, .bool false)] 14 0 hS (.cons (as_f (by omega)) (.cons (hC.cell 0 rfl) (.cons (hN.cell 9 rfl) (.cons (as_f (by omega)) .nil)))) fun a hS => ?_
 refine seg_end ?_
 refine hK3 _ _ ?_
 refine cond_f hS rfl ?_
 refine wpIn_skip ?_
 refine hK2 _ _ ?_
 refine sq fun K4 hK4 => ?_
 refine region_fn2 wide_wide [.q .p, .q .p, .q .p, .q .p, .q .p, .q (.ld ((Pv top.b))), .q .p, .q .p, .q .p, .q .p, .q (.ld ((Pv top.b))), .q .p, .q .p, .q .p, .e] [0, 0, 0, 0, 0, 0, 0, 0, 0, 0, 0, 0, 0, 0, 0] [0, 0, 0, 0, 0, 0, 0, 0, 0, 0, 0, 0, 0, 0, 0] [0, 0, 2, 6, 14, 30, 0, 64, 192, 448, 960, 2046, 4095, 8191, 16383] [14] 1 ([(0, (Pv cb)), (1, I6 q), (4, .bool false), (21, .bool false), (22, (Pv cb)), (23, (Pv cb)), (24, (Pv cb)), (25, (Pv cb)), (26, (Pv cb)), (27, (Pv top.b)), (28, (Pv cb)), (29, (Pv cb)), (30, (Pv cb)), (31, (Pv cb)), (32, (Pv top.b)), (33, .agg #[(Pv top.b), .slice none 0 0, (Pv top.b), I6 0]), (34, (Pv cb)), (35, (Pv cb))]) [w.drew, upd (w.drew) (cb) 77 #[(Pv top.b), .slice none 0 0, (Pv top.b), I6 0]] w.drew (fun w' => [(5, [w'.cell? ⟨cb, 0, none⟩ = some ((Pv top.b))]), (10, [w'.cell? ⟨cb, 0, none⟩ = some ((Pv top.b))])]) [0, 1, 4, 21] [] hS (by kernel_rfl) (by kernel_rfl) (by kernel_rfl) (by kernel_rfl) (fun _ => by kernel_rfl) (by kernel_rfl) (by kernel_rfl) (by kernel_rfl) ?_ ?_ ?_
 ·intro e w' hw
  refine (.cons ?_ (.cons ?_ .nil))
  ·intro h1 h2
   obtain rfl : e = 0 := Nat.le_antisymm h2 h1
   obtain rfl : w' = w.drew := hw.trans (by kernel_rfl)
   exact (.cons ((hC.drew : Blk w.drew cb 77 (#[(Pv top.b), .slice bs n cap, .pointer p1, I6 z])).cell 0 rfl) .nil)
  ·intro h1 h2
   obtain rfl : e = 0 := Nat.le_antisymm h2 h1
   obtain rfl : w' = w.drew := hw.trans (by kernel_rfl)
   exact (.cons ((hC.drew : Blk w.drew cb 77 (#[(Pv top.b), .slice bs n cap, .pointer p1, I6 z])).cell 0 rfl) .nil)
 ·refine (.cons ?eq5_14 .nil)
  ·refine eff_at (w.drew) (upd (w.drew) (cb) 77 #[(Pv top.b), .slice none 0 0, (Pv top.b), I6 0]) (by kernel_rfl) (by kernel_rfl) ?_
   exact upon_store (b := cb) (off := 0) (vs := [(Pv top.b), .slice none 0 0, (Pv top.b), I6 0]) (by kernel_rfl) (hC.drew : Blk w.drew cb 77 (#[(Pv top.b), .slice bs n cap, .pointer p1, I6 z])) (by simp) ⟨by kernel_rfl, by kernel_rfl⟩
 rintro a w6 hS hw7
 replace hw7 : w6 = upd (w.drew) (cb) 77 #[(Pv top.b), .slice none 0 0, (Pv top.b), I6 0] := hw7.trans (by kernel_rfl)
 have hB8 : Blk w6 cb 77 (#[(Pv top.b), .slice none 0 0, (Pv top.b), I6 0]) := by rw [hw7]; exact (hC.drew).upd _ _
 have hE10 : Ext [cb] w w6 := by rw [hw7]; exact (hE0.drew).updIn (.inl (by simp)) _ _
 replace hS := hS.kp [(0, (Pv cb)), (1, I6 q), (4, .bool false), (21, .bool false)]
 refine hK4 _ _ ?_
 refine sq fun K11 hK11 => ?_
 refine wpIn_block ?_
 have hE1 := hE10
 have hC1 := hB8
 refine loop_ghost (fun ((st, c, p, bs, cap) : List Stp × Tr × Int × Option Addr × Nat) a' w' => St 108 [] [(0, (Pv cb)), (1, I6 q)] a' ∧ c.Ok w sb ∧ Blk w' cb 77 #[(Pv top.b), .slice bs st.length cap, (Pv c.b), I6 p] ∧ OwnV w' 122 3 (.slice bs st.length cap) st.length (ways st) ∧ Ext [cb] w w' ∧ (∀ b ∈ ob (.slice bs st.length cap), w.heap.size ≤ b) ∧ (0 ≤ p ∧ p ≤ q ∧ q < p + c.wd ∧ p + c.wd ≤ top.wd) ∧ (st.length : Int) + c.tt ≤ 4194304 ∧ (∀ st' c' p', ToR q c p st' c' p' → ToR q top 0 (st ++ st') c' p')) (fun ((st, c, p, bs, cap) : List Stp × Tr × Int × Option Addr × Nat) => c.tt.toNat) ([], top, 0, none, 0) ⟨hS.keepTo [0, 1] (by kernel_rfl), ht, hC1, .inl ⟨rfl, rfl, rfl⟩, hE1, fun b hb => (by have hb : b ∈ ([] : List Nat) := hb; cases hb), by omega, by simp; omega, fun st' c' p' h => h⟩ ?_
 rintro ⟨st, c, p, bs, cap⟩ a w1 ⟨hS, hcok, hCc, hv, hEx, hfr, hpq, hsl, hR⟩
 have hcok1 : c.Ok w1 sb := hcok.ext hEx c (by intro b hb; simp at hb; subst hb; exact hcok.not_foot hC (by decide) (by decide))
 have hNc : Blk w1 c.b 106 #[(Pv sb), I6 c.num, I6 c.kd, I6 c.nn, I6 c.lk, I6 c.ls, I6 c.ll, I6 c.lr, c.ks, I6 c.wd, I6 c.lf, I6 c.tt, .bool c.fl] := hcok1.blk
 have hca := hcok1.arr
 have hctt := Tr.Ok.tt_pos c hcok
 have hcw := hcok.nums.max
 refine sq fun K12 hK12 => ?_
 refine sq fun K13 hK13 => ?_
 refine rgn 9 ?_
 refine sg wide_wide [.p, .p, .p, .p, .ld ((Pv c.b)), .p, .p, .ld (I6 c.kd), .p] [_, _] [(0, (Pv cb)), (1, I6 q), (44, .bool ((c.kd : Int) != 1))] 9 0 hS (.cons (hCc.cell 2 rfl) (.cons (hNc.cell 2 rfl) .nil)) fun a hS => ?_
 refine seg_end ?_
 refine hK13 _ _ ?_
 refine cond_b hS rfl (fun hb14 => ?_) (fun hb14 => ?_)
 ·
  replace hb14 := test_ne_t hb14
  have hkd : c.kd ≠ 1 := hb14
  refine wpIn_skip ?_
  refine hK12 _ _ ?_
  refine wpIn_block ?_
  refine sq fun K15 hK15 => ?_
  refine rgn 6 ?_
  refine sg wide_wide [.p, .p, .p, .p, .ld (I6 p), .p] [_] [(0, (Pv cb)), (1, I6 q), (5, I6 p)] 6 0 hS (.cons (hCc.cell 3 rfl) .nil) fun a hS => ?_
  refine seg_end ?_
  refine hK15 _ _ ?_
  refine sq fun K16 hK16 => ?_
  refine rgn 10 ?_
  refine sg wide_wide [.p, .p, .p, .p, .ld ((Pv c.b)), .p, .p, .ld (c.ks), .run (I6 ↑c.kids.length), .p] [_, _, Ru Try.prog (vS (Builtin.len_ #[32] 3 #[c.ks])) (I6 ↑c.kids.length) w1] [(0, (Pv cb)), (1, I6 q), (5, I6 p), (57, c.ks), (58, I6 ↑c.kids.length), (59, I6 0)] 10 0 hS (.cons (hCc.cell 2 rfl) (.cons (hNc.cell 8 rfl) (.cons (run_len_own hca (by kernel_rfl)) .nil))) fun a hS => ?_
  refine seg_end ?_
  refine hK16 _ _ ?_
  refine wpIn_block ?_
  refine loop_ghost (fun ((i, bg) : Nat × Int) a' w' => St 108 [] [(0, (Pv cb)), (1, I6 q), (5, I6 bg), (57, c.ks), (58, I6 ↑c.kids.length), (59, I6 ↑i)] a' ∧ w' = w1 ∧ i ≤ c.kids.length ∧ bg = p + sumW (c.kids.take i) ∧ bg ≤ q) (fun ((i, bg) : Nat × Int) => c.kids.length - i) (0, p) ⟨hS.keepTo [0, 1, 5, 57, 58, 59] (by kernel_rfl), rfl, Nat.zero_le _, by simp [sumW], by omega⟩ ?_
  rintro ⟨i, bg⟩ a w2 ⟨hS, hw2, hil, hbg, hbq⟩
  rw [hw2]
  refine sq fun K17 hK17 => ?_
  refine rgn 1 ?_
  refine sg wide_wide [.p] [] [(0, (Pv cb)), (1, I6 q), (5, I6 bg), (57, c.ks), (58, I6 ↑c.kids.length), (59, I6 ↑i), (60, .bool (decide ((↑i : Int) < ↑c.kids.length)))] 1 0 hS .nil fun a hS => ?_
  refine seg_end ?_
  refine hK17 _ _ ?_
  refine sq fun K18 hK18 => ?_
  refine cond_b hS rfl (fun hb19 => ?_) (fun hb19 => ?_)
  ·
   replace hb19 := of_decide_eq_true hb19
   have hi : i < c.kids.length := by omega
   obtain ⟨ck, hck⟩ : ∃ ck, c.kids[i] = ck := ⟨_, rfl⟩
   have hck2 : c.kids[i]? = some ck := by rw [List.getElem?_eq_getElem hi, hck]
   have hmem : ck ∈ c.kids := hck ▸ List.getElem_mem hi
   have hkok0 := hcok.oks.at hmem
   have hkok := hcok1.oks.at hmem
   have hNk : Blk w1 ck.b 106 #[(Pv sb), I6 ck.num, I6 ck.kd, I6 ck.nn, I6 ck.lk, I6 ck.ls, I6 ck.ll, I6 ck.lr, ck.ks, I6 ck.wd, I6 ck.lf, I6 ck.tt, .bool ck.fl] := hkok.blk
   have hsw := sumW_take_succ hck2
   have hktt := Tr.Ok.tt_pos ck hkok0
   have hkm := hkok0.nums.max
   have hctt2 := (hcok.nums.inner hkd).2.2.2.2.2.2.2.2.2.1
   have hst := sumT_mem hcok.oks ck hmem
   have hkl0 := Oks.len hcok.oks
   have hsp0 : 0 ≤ sumW (c.kids.take i) := Oks.sumW_pos (oks_iff.2 fun t ht => hcok.oks.at (List.mem_of_mem_take ht))
   have hle : sumW (c.kids.take (i + 1)) ≤ c.wd := by
    have h1 := (hcok.nums.inner hkd).2.2.2.2.2.2.2.1
    have h2 := sumW_append (c.kids.take (i + 1)) (c.kids.drop (i + 1))
    rw [List.take_append_drop] at h2
    have h3 : 0 ≤ sumW (c.kids.drop (i + 1)) := Oks.sumW_pos (oks_iff.2 fun t ht => hcok.oks.at (List.mem_of_mem_drop ht))
    omega
   have hcell : w1.cell? ⟨bof c.ks, 0 + i * 1, none⟩ = some ck.ptr := by
    rw [show 0 + i * 1 = i by omega]
    exact hca.cellAt i (by simp [hck2])
   refine wpIn_skip ?_
   refine hK18 _ _ ?_
   refine sq fun K20 hK20 => ?_
   refine wpIn_block ?_
   refine sq fun K21 hK21 => ?_
   refine rgn 5 ?_
   refine sg wide_wide [.p, .run ((Po (bof c.ks) (0 + i * 1))), .ld ((Pv ck.b)), .p, .p] [Ru Try.prog (vS (Instr.indexAt 32 (c.ks) (I6 ↑i))) ((Po (bof c.ks) (0 + i * 1))) w1, w1.cell? ⟨bof c.ks, 0 + i * 1, none⟩ = some ((Pv ck.b))] [(0, (Pv cb)), (1, I6 q), (5, I6 bg), (57, c.ks), (58, I6 ↑c.kids.length), (59, I6 ↑i), (6, I6 ↑i), (7, (Pv ck.b))] 5 0 hS (.cons (ix_own (j := i) hca (by kernel_rfl) (by kernel_rfl) rfl hi) (.cons (hcell) .nil)) fun a hS => ?_
   refine seg_end ?_
   refine hK21 _ _ ?_
   refine sq fun K22 hK22 => ?_
   refine sq fun K23 hK23 => ?_
   refine rgn 8 ?_
   refine sg wide_wide [.p, .p, .p, .p, .p, .ld (I6 ck.wd), .as (I6 (bg + ck.wd)), .p] [_, Value.int .i64 (IntKind.i64.wrap (bg + ck.wd)) = I6 (bg + ck.wd)] [(0, (Pv cb)), (1, I6 q), (5, I6 bg), (57, c.ks), (58, I6 ↑c.kids.length), (59, I6 ↑i), (6, I6 ↑i), (7, (Pv ck.b)), (71, .bool (decide ((q : Int) < bg + ck.wd)))] 8 0 hS (.cons (hNk.cell 9 rfl) (.cons (as_i64 (by omega)) .nil)) fun a hS => ?_
   refine seg_end ?_
   refine hK23 _ _ ?_
   refine cond_b hS rfl (fun hb24 => ?_) (fun hb24 => ?_)
   ·
    replace hb24 := of_decide_eq_true hb24
    refine sq fun K25 hK25 => ?_
    obtain ⟨ga26, ca26, wa26, hra26, hOa26, hEa26, hFa26⟩ := append_any (P := Try.prog) (w := (w1.drew).alloc (.cells #[(Pv c.b), I6 ↑i, I6 bg] 122)) (t := 73) (ty := 73) (e := 122) (size := 3) (bytes := 24) (n := st.length) (b := w1.heap.size) (off := 0) (k := 1) (c := 1) (z := #[.pointer none, I6 0, I6 0]) (v := Value.slice bs st.length cap) (xs := (ways st)) (news := [(Pv c.b), I6 ↑i, I6 bg]) (by kernel_rfl) (by kernel_rfl) rfl (by decide) ((hv.drew).alloc _ : OwnV ((w1.drew).alloc (.cells #[(Pv c.b), I6 ↑i, I6 bg] 122)) 122 3 (.slice bs st.length cap) st.length (ways st)) (by simp) (fun j u hu => by rw [Nat.zero_add]; exact (Blk.new' _ _ _ (by first | rfl | simp [upd_size]) : Blk ((w1.drew).alloc (.cells #[(Pv c.b), I6 ↑i, I6 bg] 122)) w1.heap.size 122 (#[(Pv c.b), I6 ↑i, I6 bg])).cell j (by simpa using hu)) rfl (by omega) (by simp only [maxLen]; omega) (by omega)
    refine region_fn2 wide_wide [.q .p, .q .p, .q .p, .q .p, .q .p, .q (.ld (.slice bs st.length cap)), .q .p, .q .p, .q .p, .q .p, .q (.ld ((Pv c.b))), .q .p, .q .p, .q .p, .e, .e, .q .p, .q .p, .q .p, .e] [0, 0, 0, 0, 0, 0, 0, 0, 0, 0, 0, 0, 0, 0, 0, 1, 2, 2, 2, 2] [2, 1, 1, 1, 1, 1, 0, 0, 0, 0, 0, 0, 0, 0, 0, 1, 2, 2, 2, 2] [0, 0, 2, 6, 14, 30, 0, 64, 192, 448, 960, 0, 0, 8128, 16320, 32766, 65535, 131071, 262143, 524287] [14, 15, 19] 3 ([(0, (Pv cb)), (1, I6 q), (5, I6 bg), (57, c.ks), (58, I6 ↑c.kids.length), (59, I6 ↑i), (6, I6 ↑i), (7, (Pv ck.b)), (72, (Pv cb)), (73, (Pv cb)), (74, (Pv cb)), (75, (Pv cb)), (76, (Po cb 1)), (77, .slice bs st.length cap), (78, (Pv cb)), (79, (Pv cb)), (80, (Pv cb)), (81, (Po cb 2)), (82, (Pv c.b)), (83, I6 ↑i), (84, I6 bg), (85, .agg #[(Pv c.b), I6 ↑i, I6 bg]), (86, .slice (some ⟨w1.heap.size, 0, none⟩) 1 1), (87, .slice (some ⟨ga26, 0, none⟩) (st.length + 1) ca26), (88, (Pv cb)), (89, (Pv cb)), (90, (Po cb 1))]) [w1.drew, (w1.drew).alloc (.cells #[(Pv c.b), I6 ↑i, I6 bg] 122), wa26, upd (wa26) (cb) 77 #[(Pv top.b), .slice (some ⟨ga26, 0, none⟩) (st.length + 1) ca26, (Pv c.b), I6 p]] w1.drew (fun w' => [(5, [w'.cell? ⟨cb, 1, none⟩ = some (.slice bs st.length cap)]), (10, [w'.cell? ⟨cb, 2, none⟩ = some ((Pv c.b))])]) [0, 1, 5, 57, 58, 59, 6, 7] [] hS (by kernel_rfl) (by kernel_rfl) (by kernel_rfl) (by kernel_rfl) (fun _ => by kernel_rfl) (by kernel_rfl) (by kernel_rfl) (by kernel_rfl) ?_ ?_ ?_
    ·intro e w' hw
     refine (.cons ?_ (.cons ?_ .nil))
     ·intro h1 h2
      replace h1 : 0 ≤ e := h1
      replace h2 : e ≤ 1 := h2
      have he : e = 0 ∨ e = 1 := by omega
      rcases he with rfl | rfl
      ·obtain rfl : w' = w1.drew := hw.trans (by kernel_rfl)
       exact (.cons ((hCc.drew : Blk w1.drew cb 77 (#[(Pv top.b), .slice bs st.length cap, (Pv c.b), I6 p])).cell 1 rfl) .nil)
      ·obtain rfl : w' = (w1.drew).alloc (.cells #[(Pv c.b), I6 ↑i, I6 bg] 122) := hw.trans (by kernel_rfl)
       exact (.cons (((hCc.drew).alloc _ : Blk ((w1.drew).alloc (.cells #[(Pv c.b), I6 ↑i, I6 bg] 122)) cb 77 (#[(Pv top.b), .slice bs st.length cap, (Pv c.b), I6 p])).cell 1 rfl) .nil)
     ·intro h1 h2
      obtain rfl : e = 0 := Nat.le_antisymm h2 h1
      obtain rfl : w' = w1.drew := hw.trans (by kernel_rfl)
      exact (.cons ((hCc.drew : Blk w1.drew cb 77 (#[(Pv top.b), .slice bs st.length cap, (Pv c.b), I6 p])).cell 2 rfl) .nil)
    ·refine (.cons ?eq27_14 (.cons ?eq27_15 (.cons ?eq27_19 .nil)))
     ·refine eff_at (w1.drew) ((w1.drew).alloc (.cells #[(Pv c.b), I6 ↑i, I6 bg] 122)) (by kernel_rfl) (by kernel_rfl) ?_
      exact upon_new (nb := w1.heap.size) (cs := #[(Pv c.b), I6 ↑i, I6 bg]) (T := 122) (v := Value.slice (some ⟨w1.heap.size, 0, none⟩) 1 1) (d := (some 86)) (by kernel_rfl) (by first | rfl | simp [upd_size]) ⟨by kernel_rfl, by kernel_rfl⟩
     ·refine eff_at ((w1.drew).alloc (.cells #[(Pv c.b), I6 ↑i, I6 bg] 122)) (wa26) (by kernel_rfl) (by kernel_rfl) ?_
      exact upon_run (s := vS (Builtin.append_ #[73, 73] 73 #[Value.slice bs st.length cap, Value.slice (some ⟨w1.heap.size, 0, none⟩) 1 1])) (d := (some 87)) (v := Value.slice (some ⟨ga26, 0, none⟩) (st.length + 1) ca26) (by kernel_rfl) (vS_run hra26) ⟨by kernel_rfl, by kernel_rfl⟩
     ·refine eff_at (wa26) (upd (wa26) (cb) 77 #[(Pv top.b), .slice (some ⟨ga26, 0, none⟩) (st.length + 1) ca26, (Pv c.b), I6 p]) (by kernel_rfl) (by kernel_rfl) ?_
      exact upon_store (b := cb) (off := 1) (vs := [.slice (some ⟨ga26, 0, none⟩) (st.length + 1) ca26]) (by kernel_rfl) ((((hCc.drew).alloc _ : Blk ((w1.drew).alloc (.cells #[(Pv c.b), I6 ↑i, I6 bg] 122)) cb 77 (#[(Pv top.b), .slice bs st.length cap, (Pv c.b), I6 p]))).ext hEa26 (OwnV.notin ((hv.drew).alloc _ : OwnV ((w1.drew).alloc (.cells #[(Pv c.b), I6 ↑i, I6 bg] 122)) 122 3 (.slice bs st.length cap) st.length (ways st)) ((hCc.drew).alloc _ : Blk ((w1.drew).alloc (.cells #[(Pv c.b), I6 ↑i, I6 bg] 122)) cb 77 (#[(Pv top.b), .slice bs st.length cap, (Pv c.b), I6 p])) (by decide)) : Blk wa26 cb 77 (#[(Pv top.b), .slice bs st.length cap, (Pv c.b), I6 p])) (by simp) ⟨by kernel_rfl, by kernel_rfl⟩
    rintro a w28 hS hw29
    replace hw29 : w28 = upd (wa26) (cb) 77 #[(Pv top.b), .slice (some ⟨ga26, 0, none⟩) (st.length + 1) ca26, (Pv c.b), I6 p] := hw29.trans (by kernel_rfl)
    have hB30 : Blk w28 cb 77 (#[(Pv top.b), .slice (some ⟨ga26, 0, none⟩) (st.length + 1) ca26, (Pv c.b), I6 p]) := by rw [hw29]; exact ((((hCc.drew).alloc _ : Blk ((w1.drew).alloc (.cells #[(Pv c.b), I6 ↑i, I6 bg] 122)) cb 77 (#[(Pv top.b), .slice bs st.length cap, (Pv c.b), I6 p]))).ext hEa26 (OwnV.notin ((hv.drew).alloc _ : OwnV ((w1.drew).alloc (.cells #[(Pv c.b), I6 ↑i, I6 bg] 122)) 122 3 (.slice bs st.length cap) st.length (ways st)) ((hCc.drew).alloc _ : Blk ((w1.drew).alloc (.cells #[(Pv c.b), I6 ↑i, I6 bg] 122)) cb 77 (#[(Pv top.b), .slice bs st.length cap, (Pv c.b), I6 p])) (by decide))).upd _ _
    have hB33 : OwnR w28 122 3 ga26 ca26 (st.length + 1) ((ways st) ++ [(Pv c.b), I6 ↑i, I6 bg]) := by rw [hw29]; exact (hOa26).updNe ((OwnR.ne_type hOa26 ((((hCc.drew).alloc _ : Blk ((w1.drew).alloc (.cells #[(Pv c.b), I6 ↑i, I6 bg] 122)) cb 77 (#[(Pv top.b), .slice bs st.length cap, (Pv c.b), I6 p]))).ext hEa26 (OwnV.notin ((hv.drew).alloc _ : OwnV ((w1.drew).alloc (.cells #[(Pv c.b), I6 ↑i, I6 bg] 122)) 122 3 (.slice bs st.length cap) st.length (ways st)) ((hCc.drew).alloc _ : Blk ((w1.drew).alloc (.cells #[(Pv c.b), I6 ↑i, I6 bg] 122)) cb 77 (#[(Pv top.b), .slice bs st.length cap, (Pv c.b), I6 p])) (by decide))) (by decide)).symm) _ _
    have hE34 : Ext [cb] w w28 := by rw [hw29]; exact (((hEx.drew).alloc _).trans hEa26 (fun b hb => .inr (hfr b hb))).updIn (.inl (by simp)) _ _
    replace hS := hS.kp [(0, (Pv cb)), (1, I6 q), (5, I6 bg), (57, c.ks), (58, I6 ↑c.kids.length), (59, I6 ↑i), (6, I6 ↑i), (7, (Pv ck.b))]
    refine hK25 _ _ ?_
    refine sq fun K35 hK35 => ?_
    refine rgn 12 ?_
    refine sg wide_wide [.p, .p, .p, .p, .p, .p, .p] [] [(0, (Pv cb)), (1, I6 q), (5, I6 bg), (57, c.ks), (58, I6 ↑c.kids.length), (59, I6 ↑i), (6, I6 ↑i), (7, (Pv ck.b)), (92, (Pv cb)), (93, (Pv ck.b)), (94, I6 bg), (97, (Po cb 2))] 7 5 hS .nil fun a hS => ?_
    refine eff_store wide_wide (r := 4) (b := cb) (off := 2) (vs := [(Pv ck.b)]) hS (by kernel_rfl) hB30 (by simp) fun a w36 hw37 hS => ?_
    have hB38 : Blk w36 cb 77 (#[(Pv top.b), .slice (some ⟨ga26, 0, none⟩) (st.length + 1) ca26, (Pv ck.b), I6 p]) := by rw [hw37]; exact hB30.upd _ _
    have hB41 := OwnR.at' hw37 (hB33.updNe ((OwnR.ne_type hOa26 ((((hCc.drew).alloc _ : Blk ((w1.drew).alloc (.cells #[(Pv c.b), I6 ↑i, I6 bg] 122)) cb 77 (#[(Pv top.b), .slice bs st.length cap, (Pv c.b), I6 p]))).ext hEa26 (OwnV.notin ((hv.drew).alloc _ : OwnV ((w1.drew).alloc (.cells #[(Pv c.b), I6 ↑i, I6 bg] 122)) 122 3 (.slice bs st.length cap) st.length (ways st)) ((hCc.drew).alloc _ : Blk ((w1.drew).alloc (.cells #[(Pv c.b), I6 ↑i, I6 bg] 122)) cb 77 (#[(Pv top.b), .slice bs st.length cap, (Pv c.b), I6 p])) (by decide))) (by decide)).symm) _ _)
    have hE42 : Ext [cb] w w36 := by rw [hw37]; exact hE34.updIn (.inl (by simp)) _ _
    refine sg wide_wide [.p, .p, .p] [] [(0, (Pv cb)), (1, I6 q), (5, I6 bg), (57, c.ks), (58, I6 ↑c.kids.length), (59, I6 ↑i), (6, I6 ↑i), (7, (Pv ck.b)), (94, I6 bg), (100, (Po cb 3))] 11 1 hS .nil fun a hS => ?_
    refine eff_store wide_wide (r := 0) (b := cb) (off := 3) (vs := [I6 bg]) hS (by kernel_rfl) hB38 (by simp) fun a w43 hw44 hS => ?_
    have hB45 : Blk w43 cb 77 (#[(Pv top.b), .slice (some ⟨ga26, 0, none⟩) (st.length + 1) ca26, (Pv ck.b), I6 bg]) := by rw [hw44]; exact hB38.upd _ _
    have hB48 := OwnR.at' hw44 (hB41.updNe ((OwnR.ne_type hOa26 ((((hCc.drew).alloc _ : Blk ((w1.drew).alloc (.cells #[(Pv c.b), I6 ↑i, I6 bg] 122)) cb 77 (#[(Pv top.b), .slice bs st.length cap, (Pv c.b), I6 p]))).ext hEa26 (OwnV.notin ((hv.drew).alloc _ : OwnV ((w1.drew).alloc (.cells #[(Pv c.b), I6 ↑i, I6 bg] 122)) 122 3 (.slice bs st.length cap) st.length (ways st)) ((hCc.drew).alloc _ : Blk ((w1.drew).alloc (.cells #[(Pv c.b), I6 ↑i, I6 bg] 122)) cb 77 (#[(Pv top.b), .slice bs st.length cap, (Pv c.b), I6 p])) (by decide))) (by decide)).symm) _ _)
    have hE49 : Ext [cb] w w43 := by rw [hw44]; exact hE42.updIn (.inl (by simp)) _ _
    refine seg_end ?_
    refine hK35 _ _ ?_
    refine wpIn_exit ?_
    refine then_exit ?_
    refine inBlock_miss rfl ?_
    refine then_exit ?_
    refine then_exit ?_
    refine inBlock_hit ?_
    refine inBlock_normal ?_
    refine ⟨(st ++ [(c, (i : Int), bg)], ck, bg, some ⟨ga26, 0, none⟩, ca26), ⟨hS.keepTo [0, 1] (by kernel_rfl), hkok0, by simpa using hB45, ?_, hE49, ?_, by omega, by simp; omega, ?_⟩, ?_⟩
    ·rw [ways_append]
     simpa [ways, stepc, Tr.ptr] using (hB48 : OwnR _ _ _ _ _ _ _).v
    ·intro b hb
     have hb : b = ga26 := by simpa [ob] using hb
     subst hb
     rcases hFa26 b (by simp) with h | h
     ·exact hfr _ h
     ·exact Nat.le_trans hEx.size (Nat.le_trans (by simp) h)
    ·intro st' c' p' h
     have h2 := hR _ c' p' (.step hkd hck2 (by omega) (by omega) (by rw [← hbg]; exact h))
     rw [← hbg] at h2
     simpa using h2
    ·simp only
     omega
   ·
    replace hb24 := of_decide_eq_false hb24
    refine wpIn_skip ?_
    refine hK22 _ _ ?_
    refine rgn 7 ?_
    refine sg wide_wide [.p, .p, .p, .p, .ld (I6 ck.wd), .as (I6 (bg + ck.wd)), .p] [_, Value.int .i64 (IntKind.i64.wrap (bg + ck.wd)) = I6 (bg + ck.wd)] [(0, (Pv cb)), (1, I6 q), (5, I6 (bg + ck.wd)), (57, c.ks), (58, I6 ↑c.kids.length), (59, I6 ↑i), (6, I6 ↑i), (7, (Pv ck.b))] 7 0 hS (.cons (hNk.cell 9 rfl) (.cons (as_i64 (by omega)) .nil)) fun a hS => ?_
    refine seg_end ?_
    refine inBlock_normal ?_
    refine hK20 _ _ ?_
    refine rgn 2 ?_
    refine sg wide_wide [.as (I6 (↑i + 1)), .p] [Value.int .i64 (IntKind.i64.wrap (↑i + 1)) = I6 (↑i + 1)] [(0, (Pv cb)), (1, I6 q), (5, I6 (bg + ck.wd)), (57, c.ks), (58, I6 ↑c.kids.length), (59, I6 (↑i + 1)), (6, I6 ↑i), (7, (Pv ck.b))] 2 0 hS (.cons (as_i64 (by omega)) .nil) fun a hS => ?_
    refine seg_end ?_
    exact ⟨(i + 1, bg + ck.wd), ⟨hS.keepTo [0, 1, 5, 57, 58, 59] (by kernel_rfl), rfl, hi, by rw [hsw]; omega, by omega⟩, by simp; omega⟩
  ·
   replace hb19 := of_decide_eq_false hb19
   obtain rfl : i = c.kids.length := by omega
   rw [List.take_length] at hbg
   have := (hcok.nums.inner hkd).2.2.2.2.2.2.2.1
   omega
 ·
  replace hb14 := test_ne_f hb14
  have hkd : c.kd = 1 := hb14
  refine wpIn_exit ?_
  refine then_exit ?_
  refine then_exit ?_
  refine inBlock_hit ?_
  refine hK11 _ _ ?_
  refine sq fun K50 hK50 => ?_
  refine rgn 1 ?_
  refine sg wide_wide [.p] [] [(0, (Pv cb)), (1, I6 q), (4, .bool true)] 1 0 hS .nil fun a hS => ?_
  refine seg_end ?_
  refine hK50 _ _ ?_
  refine wpIn_ret ?_
  refine ret1 hS Try.results38 rfl ?_
  exact ⟨st, c, p, bs, cap, rfl, by have := hR [] c p (.leaf hkd); simpa using this, hCc, hv, hEx, hfr, by omega⟩

end Go.Proofs.Ytpglmeeledmkoaa
