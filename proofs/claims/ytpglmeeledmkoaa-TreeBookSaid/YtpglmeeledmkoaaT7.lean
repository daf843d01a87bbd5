import Derived.Test.YtpglmeeledmkoaaProg
import Derived.Test.YtpglmeeledmkoaaVc
import Derived.Test.YtpglmeeledmkoaaT6
import Derived.Test.YtpglmeeledmkoaaT4
namespace Go.Proofs.Ytpglmeeledmkoaa
open Go.Vc

/-- a node as a row -/
def rowc (t : Tr) : List Value := [I6 t.kd, I6 t.nn, I6 t.ls, I6 t.ll, I6 (t.kids.length : Int), I6 t.num]
def rowsOf : List (Int × Tr) → List Value
 | [] => []
 | q :: l => rowc q.2 ++ rowsOf l
theorem rowsOf_append : ∀ (l l' : List (Int × Tr)), rowsOf (l ++ l') = rowsOf l ++ rowsOf l'
 | [], l' => rfl
 | q :: l, l' => by simp [rowsOf, rowsOf_append l l']

set_option maxHeartbeats 1000000 in
theorem Rows_any {sb : Nat} {t : Tr} {w : World} (ht : t.Ok w sb) :
  Calls Try.prog 25 #[(Pv t.b)] w fun e w' => ∃ g cap, e = .returned (.slice (some ⟨g, 0, none⟩) (walk t 0).length cap) ∧ OwnR w' 64 6 g cap (walk t 0).length (rowsOf (walk t 0)) ∧ Ext [] w w' ∧ w.heap.size ≤ g := by
 have hN : Blk w t.b 106 #[(Pv sb), I6 t.num, I6 t.kd, I6 t.nn, I6 t.lk, I6 t.ls, I6 t.ll, I6 t.lr, t.ks, I6 t.wd, I6 t.lf, I6 t.tt, .bool t.fl] := ht.blk
 have htt := Tr.Ok.tt_pos t ht
 have hmax := ht.nums.max
 refine calls_bodyM 47 [(0, (Pv t.b))] Try.func25 rfl (by kernel_rfl) (by kernel_rfl) (by kernel_rfl) fun a hS => ?_
 have hE0 : Ext [] w w := Ext.refl _ _
 refine sq fun K1 hK1 => ?_
 refine rgn 1 ?_
 refine sg wide_wide [.p] [] [(0, (Pv t.b)), (2, .slice none 0 0)] 1 0 hS .nil fun a hS => ?_
 refine seg_end ?_
 refine hK1 _ _ ?_
 refine sq fun K2 hK2 => ?_
 refine rgn 7 ?_
 refine sg wide_wide [.p, .p, .p, .ld (I6 t.tt)] [_] [(0, (Pv t.b)), (2, .slice none 0 0), (9, I6 t.tt)] 4 3 hS (.cons (hN.cell 11 rfl) .nil) fun a hS => ?_
 obtain ⟨wm, hrm, hOm, hEm, hsm⟩ := make_any (P := Try.prog) (w := w) (T := 54) (E := 64) (size := 6) (bytes := 48) (z := #[I6 0, I6 0, I6 0, I6 0, I6 0, I6 0]) (c := t.tt) (by kernel_rfl) (by kernel_rfl) (by kernel_rfl) (by omega)
 refine eff_run wide_wide (r := 2) (s := vS (Instr.makeSlice 54 (I6 0) (I6 t.tt))) (d := (some 10)) (v := .slice (some ⟨w.heap.size, 0, none⟩) 0 t.tt.toNat) hS (by kernel_rfl) hrm fun a hS => ?_
 have hE1 := hE0.trans0 hEm
 refine eff_box wide_wide (r := 1) (cs := #[.slice none 0 0]) (T := 54) (d := (some 3)) hS (by kernel_rfl) fun a w4 hw5 hS => ?_
 have hn7 : w.heap.size ≠ wm.heap.size := Nat.ne_of_lt hOm.lt
 have hB9 := OwnR.at' hw5 (hOm.alloc _)
 have hB10 : Blk w4 (wm.heap.size) 54 #[.slice none 0 0] := by rw [hw5]; exact Blk.new _ _ _
 have hs11 : w.heap.size ≤ wm.heap.size := hE1.size
 have hE12 : Ext [] w w4 := by rw [hw5]; exact hE1.alloc _
 refine eff_store wide_wide (r := 0) (b := wm.heap.size) (off := 0) (vs := [.slice (some ⟨w.heap.size, 0, none⟩) 0 t.tt.toNat]) hS (by kernel_rfl) hB10 (by simp) fun a w13 hw14 hS => ?_
 have hB16 := OwnR.at' hw14 (hB9.updNe (Ne.symm hn7) _ _)
 have hB17 : Blk w13 wm.heap.size 54 (#[.slice (some ⟨w.heap.size, 0, none⟩) 0 t.tt.toNat]) := by rw [hw14]; exact hB10.upd _ _
 have hE18 : Ext [] w w13 := by rw [hw14]; exact hE12.updIn (.inr hs11) _ _
 refine seg_end ?_
 refine hK2 _ _ ?_
 refine sq fun K19 hK19 => ?_
 refine sq fun K20 hK20 => ?_
 refine rgn 2 ?_
 refine sg wide_wide [.p] [] [(0, (Pv t.b)), (2, .slice none 0 0), (3, (Pv wm.heap.size)), (11, (Pv t.b))] 1 1 hS .nil fun a hS => ?_
 refine eff_call wide_wide (r := 0) (f := 29) (vs := [(Pv t.b)]) (cap := #[]) (d := (some 12)) hS (by kernel_rfl) Try.call29 #[(Pv t.b)] (by kernel_rfl) (Walk_any t.b w13) ?_
 rintro _ ww ⟨rfl, hw21⟩
 refine ⟨_, rfl, fun a hS => ?_⟩
 have hbx : Blk ww w13.heap.size 47 #[pv t.b] := by rw [hw21]; exact Blk.new _ _ _
 have hEw : Ext [] w13 ww := by rw [hw21]; exact (Ext.refl _ _).alloc _
 have hsw : ww.heap.size = w13.heap.size + 1 := by rw [hw21]; simp
 have hE2 := hE18.trans0 hEw
 have hB23 := hB16.ext hEw (by simp)
 have hB24 := hB17.ext hEw (by simp)
 refine seg_end ?_
 refine hK20 _ _ ?_
 refine wpIn_block ?_
 replace hS := hS.keepTo [3, 12] (m' := [(3, (Pv wm.heap.size)), (12, .func (.func 55) #[] #[(Pv w13.heap.size)])]) (by kernel_rfl)
 have hrb0 := hB24
 have hO0 := hB23
 have hrbn := hs11
 have hrlt := hrb0.lt
 have hglt := hO0.lt
 have htw := ht.ext hE2 t (by simp)
 have hCn : ∀ b ∈ [wm.heap.size, w.heap.size], w.heap.size ≤ b := fun b hb => by
  have hb : b = wm.heap.size ∨ b = w.heap.size := by simpa using hb
  rcases hb with rfl | rfl
  ·exact hrbn
  ·exact Nat.le_refl _
 refine range_out (gf := 55) (lb := #[pv w13.heap.size]) (enc := encW) (xs := walk t 0) (T := fun x => x = w13.heap.size ∨ t.Foot x)
  (fun pre Cx W => ∃ g cap, Cx = [wm.heap.size, g] ∧ Blk W wm.heap.size 54 #[.slice (some ⟨g, 0, none⟩) pre.length cap] ∧ OwnR W 64 6 g cap pre.length (rowsOf pre) ∧ w.heap.size ≤ g)
  (fun _ _ _ _ => False) [wm.heap.size, w.heap.size] (fun q => [(3, (Pv wm.heap.size)), (5, (Pv q.2.b))]) hS rfl Try.call55 ?_ ?_ ?_ ?_ (fun _ => rfl) rfl ?_ ?_ ?_ ?_ ?_ ?_ ?_
 ·intro W hEW _
  exact Walk1_any (hbx.ext hEW (by simp)) (htw.ext hEW t (by simp))
 ·rintro b (rfl | hb)
  ·exact hbx.lt
  ·exact htw.foot_lt hb
 ·intro b hb hT
  have hbn := hCn b hb
  rcases hT with hT | hT
  ·have hb : b = wm.heap.size ∨ b = w.heap.size := by simpa using hb
   rcases hb with rfl | rfl
   ·exact absurd (hrb0.same (hT ▸ hbx)).1 (by decide)
   ·exact hO0.ne_type hbx (by decide) hT
  ·have := ht.foot_lt hT
   omega
 ·intro b hb
  have hb : b = wm.heap.size ∨ b = w.heap.size := by simpa using hb
  rcases hb with rfl | rfl
  ·exact hrlt
  ·exact hglt
 ·rintro s Cx M W W' ⟨g, cap, rfl, h1, h2, h3⟩ hE hM
  exact ⟨g, cap, rfl, h1.ext hE (fun hm => (hM _ hm).2 (by simp)), h2.ext hE (fun hm => (hM _ hm).2 (by simp)), h3⟩
 ·intro c s Cx M W W' h; exact h.elim
 ·exact ⟨w.heap.size, t.tt.toNat, rfl, by simpa using hrb0, hO0, Nat.le_refl _⟩
 ·intro l2 x a' W K hS hK
  refine rgn 1 ?_
  refine sg (wide_wide.inRound l2) [.p] [] [(3, (Pv wm.heap.size)), (14, x.2.ptr), (5, x.2.ptr)] 1 0 hS .nil fun a hS => ?_
  refine seg_end ?_
  exact hK _ (hS.keepTo [3, 5] (by kernel_rfl))
 ·rintro l2 pre x post Cx W a hxs ⟨g, cap, rfl, hrb, hO, hgn⟩ hlieW hfrW hnl hrec hEW hS
  replace hS : St 47 [] [(3, (Pv wm.heap.size)), (5, (Pv x.2.b))] a := hS
  obtain ⟨hxok, hxf⟩ := walk_ok t ht 0 x (by rw [hxs]; simp)
  have hwl := walk_len t ht 0
  have hpl : pre.length < (walk t 0).length := by rw [hxs]; simp
  have hxW : x.2.Ok W sb := (hxok.ext hE2 _ (by simp)).ext hEW _ (fun b hb hf => by have := hxok.foot_lt hf; have := hCn b hb; omega)
  have hxk := hxW.arr
  have hxN : Blk W x.2.b 106 #[(Pv sb), I6 x.2.num, I6 x.2.kd, I6 x.2.nn, I6 x.2.lk, I6 x.2.ls, I6 x.2.ll, I6 x.2.lr, x.2.ks, I6 x.2.wd, I6 x.2.lf, I6 x.2.tt, .bool x.2.fl] := hxW.blk
  have hEW0 : Ext [wm.heap.size, g] W W := Ext.refl _ _
  refine wpIn_block ?_
  obtain ⟨ga25, ca25, wa25, hra25, hOa25, hEa25, hFa25⟩ := append_any (P := Try.prog) (w := (W.drew).alloc (.cells #[I6 x.2.kd, I6 x.2.nn, I6 x.2.ls, I6 x.2.ll, I6 ↑x.2.kids.length, I6 x.2.num] 64)) (t := 54) (ty := 54) (e := 64) (size := 6) (bytes := 48) (n := pre.length) (b := W.heap.size) (off := 0) (k := 1) (c := 1) (z := #[I6 0, I6 0, I6 0, I6 0, I6 0, I6 0]) (v := Value.slice (some ⟨g, 0, none⟩) pre.length cap) (xs := (rowsOf pre)) (news := [I6 x.2.kd, I6 x.2.nn, I6 x.2.ls, I6 x.2.ll, I6 ↑x.2.kids.length, I6 x.2.num]) (by kernel_rfl) (by kernel_rfl) rfl (by decide) ((hO.drew).alloc _ : OwnR ((W.drew).alloc (.cells #[I6 x.2.kd, I6 x.2.nn, I6 x.2.ls, I6 x.2.ll, I6 ↑x.2.kids.length, I6 x.2.num] 64)) 64 6 g cap pre.length (rowsOf pre)).v (by simp) (fun j u hu => by rw [Nat.zero_add]; exact (Blk.new' _ _ _ (by first | rfl | simp [upd_size]) : Blk ((W.drew).alloc (.cells #[I6 x.2.kd, I6 x.2.nn, I6 x.2.ls, I6 x.2.ll, I6 ↑x.2.kids.length, I6 x.2.num] 64)) W.heap.size 64 (#[I6 x.2.kd, I6 x.2.nn, I6 x.2.ls, I6 x.2.ll, I6 ↑x.2.kids.length, I6 x.2.num])).cell j (by simpa using hu)) rfl (by omega) (by simp only [maxLen]; omega) (by omega)
  replace hEa25 : Ext [g] ((W.drew).alloc (.cells #[I6 x.2.kd, I6 x.2.nn, I6 x.2.ls, I6 x.2.ll, I6 ↑x.2.kids.length, I6 x.2.num] 64)) wa25 := hEa25
  refine region_fn2 (wide_wide.inRound l2) [.q (.ld (.slice (some ⟨g, 0, none⟩) pre.length cap)), .q .p, .q .p, .q .p, .q (.ld (I6 x.2.kd)), .q .p, .q .p, .q .p, .q (.ld (I6 x.2.nn)), .q .p, .q .p, .q .p, .q .p, .q (.ld (I6 x.2.ls)), .q .p, .q .p, .q .p, .q .p, .q (.ld (I6 x.2.ll)), .q .p, .q .p, .q .p, .q (.ld (x.2.ks)), .q (.run (I6 ↑x.2.kids.length)), .q .p, .q .p, .q .p, .q (.ld (I6 x.2.num)), .q .p, .e, .e, .e] [0, 0, 0, 0, 0, 0, 0, 0, 0, 0, 0, 0, 0, 0, 0, 0, 0, 0, 0, 0, 0, 0, 0, 0, 0, 0, 0, 0, 0, 0, 1, 2] [1, 0, 0, 0, 0, 0, 0, 0, 0, 0, 0, 0, 0, 0, 0, 0, 0, 0, 0, 0, 0, 0, 0, 0, 0, 0, 0, 0, 0, 0, 1, 2] [0, 0, 2, 6, 14, 0, 32, 96, 224, 0, 512, 1536, 3584, 7680, 0, 16384, 49152, 114688, 245760, 0, 524288, 1572864, 3670016, 7864320, 0, 16777216, 50331648, 117440512, 268435454, 536870910, 1073741823, 2147483647] [29, 30, 31] 3 ([(3, (Pv wm.heap.size)), (5, (Pv x.2.b)), (15, .slice (some ⟨g, 0, none⟩) pre.length cap), (16, (Pv x.2.b)), (17, (Pv x.2.b)), (18, (Po x.2.b 2)), (19, I6 x.2.kd), (20, (Pv x.2.b)), (21, (Pv x.2.b)), (22, (Po x.2.b 3)), (23, I6 x.2.nn), (24, (Pv x.2.b)), (25, (Pv x.2.b)), (26, (Po x.2.b 4)), (27, (Po x.2.b 5)), (28, I6 x.2.ls), (29, (Pv x.2.b)), (30, (Pv x.2.b)), (31, (Po x.2.b 4)), (32, (Po x.2.b 6)), (33, I6 x.2.ll), (34, (Pv x.2.b)), (35, (Pv x.2.b)), (36, (Po x.2.b 8)), (37, x.2.ks), (38, I6 ↑x.2.kids.length), (39, (Pv x.2.b)), (40, (Pv x.2.b)), (41, (Po x.2.b 1)), (42, I6 x.2.num), (43, .agg #[I6 x.2.kd, I6 x.2.nn, I6 x.2.ls, I6 x.2.ll, I6 ↑x.2.kids.length, I6 x.2.num]), (44, .slice (some ⟨W.heap.size, 0, none⟩) 1 1), (45, .slice (some ⟨ga25, 0, none⟩) (pre.length + 1) ca25)]) [W.drew, (W.drew).alloc (.cells #[I6 x.2.kd, I6 x.2.nn, I6 x.2.ls, I6 x.2.ll, I6 ↑x.2.kids.length, I6 x.2.num] 64), wa25, upd (wa25) (wm.heap.size) 54 #[.slice (some ⟨ga25, 0, none⟩) (pre.length + 1) ca25]] W.drew (fun w' => [(0, [w'.cell? ⟨wm.heap.size, 0, none⟩ = some (.slice (some ⟨g, 0, none⟩) pre.length cap)]), (4, [w'.cell? ⟨x.2.b, 2, none⟩ = some (I6 x.2.kd)]), (8, [w'.cell? ⟨x.2.b, 3, none⟩ = some (I6 x.2.nn)]), (13, [w'.cell? ⟨x.2.b, 5, none⟩ = some (I6 x.2.ls)]), (18, [w'.cell? ⟨x.2.b, 6, none⟩ = some (I6 x.2.ll)]), (22, [w'.cell? ⟨x.2.b, 8, none⟩ = some (x.2.ks)]), (23, [Ru Try.prog (vS (Builtin.len_ #[32] 3 #[x.2.ks])) (I6 ↑x.2.kids.length) w']), (27, [w'.cell? ⟨x.2.b, 1, none⟩ = some (I6 x.2.num)])]) [3, 5] [] hS (by kernel_rfl) (by kernel_rfl) (by kernel_rfl) (by kernel_rfl) (fun _ => by kernel_rfl) (by kernel_rfl) (by kernel_rfl) (by kernel_rfl) ?_ ?_ ?_
  ·intro e w' hw
   refine (.cons ?_ (.cons ?_ (.cons ?_ (.cons ?_ (.cons ?_ (.cons ?_ (.cons ?_ (.cons ?_ .nil))))))))
   ·intro h1 h2
    replace h1 : 0 ≤ e := h1
    replace h2 : e ≤ 1 := h2
    have he : e = 0 ∨ e = 1 := by omega
    rcases he with rfl | rfl
    ·obtain rfl : w' = W.drew := hw.trans (by kernel_rfl)
     exact (.cons ((hrb.drew : Blk W.drew wm.heap.size 54 (#[.slice (some ⟨g, 0, none⟩) pre.length cap])).cell 0 rfl) .nil)
    ·obtain rfl : w' = (W.drew).alloc (.cells #[I6 x.2.kd, I6 x.2.nn, I6 x.2.ls, I6 x.2.ll, I6 ↑x.2.kids.length, I6 x.2.num] 64) := hw.trans (by kernel_rfl)
     exact (.cons (((hrb.drew).alloc _ : Blk ((W.drew).alloc (.cells #[I6 x.2.kd, I6 x.2.nn, I6 x.2.ls, I6 x.2.ll, I6 ↑x.2.kids.length, I6 x.2.num] 64)) wm.heap.size 54 (#[.slice (some ⟨g, 0, none⟩) pre.length cap])).cell 0 rfl) .nil)
   ·intro h1 h2
    obtain rfl : e = 0 := Nat.le_antisymm h2 h1
    obtain rfl : w' = W.drew := hw.trans (by kernel_rfl)
    exact (.cons ((hxN.drew : Blk W.drew x.2.b 106 (#[(Pv sb), I6 x.2.num, I6 x.2.kd, I6 x.2.nn, I6 x.2.lk, I6 x.2.ls, I6 x.2.ll, I6 x.2.lr, x.2.ks, I6 x.2.wd, I6 x.2.lf, I6 x.2.tt, .bool x.2.fl])).cell 2 rfl) .nil)
   ·intro h1 h2
    obtain rfl : e = 0 := Nat.le_antisymm h2 h1
    obtain rfl : w' = W.drew := hw.trans (by kernel_rfl)
    exact (.cons ((hxN.drew : Blk W.drew x.2.b 106 (#[(Pv sb), I6 x.2.num, I6 x.2.kd, I6 x.2.nn, I6 x.2.lk, I6 x.2.ls, I6 x.2.ll, I6 x.2.lr, x.2.ks, I6 x.2.wd, I6 x.2.lf, I6 x.2.tt, .bool x.2.fl])).cell 3 rfl) .nil)
   ·intro h1 h2
    obtain rfl : e = 0 := Nat.le_antisymm h2 h1
    obtain rfl : w' = W.drew := hw.trans (by kernel_rfl)
    exact (.cons ((hxN.drew : Blk W.drew x.2.b 106 (#[(Pv sb), I6 x.2.num, I6 x.2.kd, I6 x.2.nn, I6 x.2.lk, I6 x.2.ls, I6 x.2.ll, I6 x.2.lr, x.2.ks, I6 x.2.wd, I6 x.2.lf, I6 x.2.tt, .bool x.2.fl])).cell 5 rfl) .nil)
   ·intro h1 h2
    obtain rfl : e = 0 := Nat.le_antisymm h2 h1
    obtain rfl : w' = W.drew := hw.trans (by kernel_rfl)
    exact (.cons ((hxN.drew : Blk W.drew x.2.b 106 (#[(Pv sb), I6 x.2.num, I6 x.2.kd, I6 x.2.nn, I6 x.2.lk, I6 x.2.ls, I6 x.2.ll, I6 x.2.lr, x.2.ks, I6 x.2.wd, I6 x.2.lf, I6 x.2.tt, .bool x.2.fl])).cell 6 rfl) .nil)
   ·intro h1 h2
    obtain rfl : e = 0 := Nat.le_antisymm h2 h1
    obtain rfl : w' = W.drew := hw.trans (by kernel_rfl)
    exact (.cons ((hxN.drew : Blk W.drew x.2.b 106 (#[(Pv sb), I6 x.2.num, I6 x.2.kd, I6 x.2.nn, I6 x.2.lk, I6 x.2.ls, I6 x.2.ll, I6 x.2.lr, x.2.ks, I6 x.2.wd, I6 x.2.lf, I6 x.2.tt, .bool x.2.fl])).cell 8 rfl) .nil)
   ·exact fun _ _ => (.cons (run_len_own hxk (by kernel_rfl)) .nil)
   ·intro h1 h2
    obtain rfl : e = 0 := Nat.le_antisymm h2 h1
    obtain rfl : w' = W.drew := hw.trans (by kernel_rfl)
    exact (.cons ((hxN.drew : Blk W.drew x.2.b 106 (#[(Pv sb), I6 x.2.num, I6 x.2.kd, I6 x.2.nn, I6 x.2.lk, I6 x.2.ls, I6 x.2.ll, I6 x.2.lr, x.2.ks, I6 x.2.wd, I6 x.2.lf, I6 x.2.tt, .bool x.2.fl])).cell 1 rfl) .nil)
  ·refine (.cons ?eq26_29 (.cons ?eq26_30 (.cons ?eq26_31 .nil)))
   ·refine eff_at (W.drew) ((W.drew).alloc (.cells #[I6 x.2.kd, I6 x.2.nn, I6 x.2.ls, I6 x.2.ll, I6 ↑x.2.kids.length, I6 x.2.num] 64)) (by kernel_rfl) (by kernel_rfl) ?_
    exact upon_new (nb := W.heap.size) (cs := #[I6 x.2.kd, I6 x.2.nn, I6 x.2.ls, I6 x.2.ll, I6 ↑x.2.kids.length, I6 x.2.num]) (T := 64) (v := Value.slice (some ⟨W.heap.size, 0, none⟩) 1 1) (d := (some 44)) (by kernel_rfl) (by first | rfl | simp [upd_size]) ⟨by kernel_rfl, by kernel_rfl⟩
   ·refine eff_at ((W.drew).alloc (.cells #[I6 x.2.kd, I6 x.2.nn, I6 x.2.ls, I6 x.2.ll, I6 ↑x.2.kids.length, I6 x.2.num] 64)) (wa25) (by kernel_rfl) (by kernel_rfl) ?_
    exact upon_run (s := vS (Builtin.append_ #[54, 54] 54 #[Value.slice (some ⟨g, 0, none⟩) pre.length cap, Value.slice (some ⟨W.heap.size, 0, none⟩) 1 1])) (d := (some 45)) (v := Value.slice (some ⟨ga25, 0, none⟩) (pre.length + 1) ca25) (by kernel_rfl) (vS_run hra25) ⟨by kernel_rfl, by kernel_rfl⟩
   ·refine eff_at (wa25) (upd (wa25) (wm.heap.size) 54 #[.slice (some ⟨ga25, 0, none⟩) (pre.length + 1) ca25]) (by kernel_rfl) (by kernel_rfl) ?_
    exact upon_store (b := wm.heap.size) (off := 0) (vs := [.slice (some ⟨ga25, 0, none⟩) (pre.length + 1) ca25]) (by kernel_rfl) ((((hrb.drew).alloc _ : Blk ((W.drew).alloc (.cells #[I6 x.2.kd, I6 x.2.nn, I6 x.2.ls, I6 x.2.ll, I6 ↑x.2.kids.length, I6 x.2.num] 64)) wm.heap.size 54 (#[.slice (some ⟨g, 0, none⟩) pre.length cap]))).ext hEa25 (by simpa using (OwnR.ne_type hO hrb (by decide)).symm) : Blk wa25 wm.heap.size 54 (#[.slice (some ⟨g, 0, none⟩) pre.length cap])) (by simp) ⟨by kernel_rfl, by kernel_rfl⟩
  rintro a w27 hS hw28
  replace hw28 : w27 = upd (wa25) (wm.heap.size) 54 #[.slice (some ⟨ga25, 0, none⟩) (pre.length + 1) ca25] := hw28.trans (by kernel_rfl)
  have hB29 : Blk w27 wm.heap.size 54 (#[.slice (some ⟨ga25, 0, none⟩) (pre.length + 1) ca25]) := by rw [hw28]; exact ((((hrb.drew).alloc _ : Blk ((W.drew).alloc (.cells #[I6 x.2.kd, I6 x.2.nn, I6 x.2.ls, I6 x.2.ll, I6 ↑x.2.kids.length, I6 x.2.num] 64)) wm.heap.size 54 (#[.slice (some ⟨g, 0, none⟩) pre.length cap]))).ext hEa25 (by simpa using (OwnR.ne_type hO hrb (by decide)).symm)).upd _ _
  have hB32 : OwnR w27 64 6 ga25 ca25 (pre.length + 1) ((rowsOf pre) ++ [I6 x.2.kd, I6 x.2.nn, I6 x.2.ls, I6 x.2.ll, I6 ↑x.2.kids.length, I6 x.2.num]) := by rw [hw28]; exact (hOa25).updNe ((OwnR.ne_type hOa25 ((((hrb.drew).alloc _ : Blk ((W.drew).alloc (.cells #[I6 x.2.kd, I6 x.2.nn, I6 x.2.ls, I6 x.2.ll, I6 ↑x.2.kids.length, I6 x.2.num] 64)) wm.heap.size 54 (#[.slice (some ⟨g, 0, none⟩) pre.length cap]))).ext hEa25 (by simpa using (OwnR.ne_type hO hrb (by decide)).symm)) (by decide)).symm) _ _
  have hE33 : Ext [wm.heap.size, g] W w27 := by rw [hw28]; exact (((hEW0.drew).alloc _).trans hEa25 (fun b hb => by simp at hb; subst hb; exact .inl (by simp))).updIn (.inl (by simp)) _ _
  replace hS := hS.kp [(3, (Pv wm.heap.size)), (5, (Pv x.2.b))]
  refine inBlock_normal ?_
  have hga : ga25 = g ∨ W.heap.size ≤ ga25 := by
   rcases hFa25 ga25 (by simp) with h | h
   ·exact .inl (by simpa [ob] using h)
   ·exact .inr (by simp at h; omega)
  refine left_normal (C' := [wm.heap.size, ga25]) hE33 ?_ ?_ ⟨ga25, ca25, rfl, by simpa using hB29, ?_, ?_⟩
  ·intro b hb
   have hb : b = wm.heap.size ∨ b = ga25 := by simpa using hb
   rcases hb with rfl | rfl
   ·exact .inl (by simp)
   ·exact hga.imp (fun h => by simp [h]) id
  ·intro b hb
   have hb : b = wm.heap.size ∨ b = ga25 := by simpa using hb
   rcases hb with rfl | rfl
   ·exact hB29.lt
   ·exact hB32.lt
  ·rw [rowsOf_append]
   simpa [rowsOf, rowc] using hB32
  ·rcases hga with h | h
   ·rw [h]; exact hgn
   ·exact Nat.le_trans (Nat.le_trans hE2.size hEW.size) h
 ·rintro Cx w7 a hE27 hfr7 hlie7 hD7 ⟨g, cap, rfl, hrb7, hO7, hg7⟩ hS
  have hg7D : g ≠ ww.heap.size := fun h => by
   obtain ⟨⟨cur, hc, _⟩, _⟩ := hO7
   rw [h] at hc
   exact hD7.ne_blk hc rfl
  replace hS : St 47 ([ww.heap.size].map dmark) [(3, (Pv wm.heap.size))] a := hS.keepTo [3] (by kernel_rfl)
  refine inBlock_normal ?_
  refine hK19 _ _ ?_
  refine sq fun K34 hK34 => ?_
  refine rgn 2 ?_
  refine sg wide_wide [.ld (.slice (some ⟨g, 0, none⟩) ((walk t 0).length) cap), .p] [_] [(3, (Pv wm.heap.size)), (2, .slice (some ⟨g, 0, none⟩) ((walk t 0).length) cap)] 2 0 hS (.cons (hrb7.cell 0 rfl) .nil) fun a hS => ?_
  refine seg_end ?_
  refine hK34 _ _ ?_
  refine wpIn_ret ?_
  refine retM1 [ww.heap.size] hS Try.results25 rfl (by intro D hD; simp at hD; subst hD; exact hD7) (by simp) fun w9 hE9 => ?_
  exact ⟨_, _, rfl, hO7.ext hE9 (by simpa using hg7D), (hE2.trans hE27 (by intro b hb; exact .inr (hCn b hb))).trans hE9 (by intro b hb; simp at hb; subst hb; exact .inr (hE2.size)), hg7⟩
 ·intro c pre Cx W a _ _ _ _ _ h; exact h.elim

end Go.Proofs.Ytpglmeeledmkoaa
