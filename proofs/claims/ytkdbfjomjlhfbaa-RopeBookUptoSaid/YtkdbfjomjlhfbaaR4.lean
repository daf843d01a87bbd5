import Derived.Test.YtkdbfjomjlhfbaaProg
import Derived.Test.YtkdbfjomjlhfbaaR3
namespace Go.Proofs.Ytkdbfjomjlhfbaa
open Go.Vc
set_option linter.unusedSectionVars false
variable [Inhabited Zt]

theorem join_ln {o : Option Nd} {w : World} (ho : okO w o) :
  Calls Try.prog 56 #[.pointer none, (op o), .func (.func 54) #[] #[]] w fun e w' => NdO w (obs o) e w' := by
 refine calls_body 103 [(0, .pointer none), (1, (op o)), (2, .func (.func 54) #[] #[])] Try.func56 rfl (by kernel_rfl) (by kernel_rfl) (by kernel_rfl) fun a hS => ?_
 have hE0 : Ext [] w w := Ext.refl _ _
 refine sq fun K1 hK1 => ?_
 refine rgn 1 ?_
 refine sg wide_wide [.p] [] [(0, .pointer none), (1, (op o)), (2, .func (.func 54) #[] #[]), (6, .pointer none)] 1 0 hS .nil fun a hS => ?_
 refine seg_end ?_
 refine hK1 _ _ ?_
 refine sq fun K2 hK2 => ?_
 refine wpIn_block ?_
 refine sq fun K3 hK3 => ?_
 refine rgn 3 ?_
 refine sg wide_wide [.p, .p, .p] [] [(0, .pointer none), (1, (op o)), (2, .func (.func 54) #[] #[]), (6, .pointer none), (7, .bool true)] 3 0 hS .nil fun a hS => ?_
 refine seg_end ?_
 refine hK3 _ _ ?_
 refine cond_t hS rfl ?_
 refine sq fun K4 hK4 => ?_
 refine rgn 2 ?_
 refine sg wide_wide [.p, .p] [] [(0, .pointer none), (1, (op o)), (2, .func (.func 54) #[] #[]), (6, (op o)), (7, .bool true)] 2 0 hS .nil fun a hS => ?_
 refine seg_end ?_
 refine hK4 _ _ ?_
 refine wpIn_ret ?_
 refine inBlock_ret ?_
 refine then_ret ?_
 refine ret1 hS Try.results56 rfl ?_
 exact ⟨o, rfl, ho, rfl, hE0⟩

theorem join_rn {l : Nd} {w : World} (hl : l.Ok w) :
  Calls Try.prog 56 #[(Pv l.b), .pointer none, .func (.func 54) #[] #[]] w fun e w' => NdR w l.bs e w' := by
 refine calls_body 103 [(0, (Pv l.b)), (1, .pointer none), (2, .func (.func 54) #[] #[])] Try.func56 rfl (by kernel_rfl) (by kernel_rfl) (by kernel_rfl) fun a hS => ?_
 have hE0 : Ext [] w w := Ext.refl _ _
 refine sq fun K1 hK1 => ?_
 refine rgn 1 ?_
 refine sg wide_wide [.p] [] [(0, (Pv l.b)), (1, .pointer none), (2, .func (.func 54) #[] #[]), (6, .pointer none)] 1 0 hS .nil fun a hS => ?_
 refine seg_end ?_
 refine hK1 _ _ ?_
 refine sq fun K2 hK2 => ?_
 refine wpIn_block ?_
 refine sq fun K3 hK3 => ?_
 refine rgn 3 ?_
 refine sg wide_wide [.p, .p, .p] [] [(0, (Pv l.b)), (1, .pointer none), (2, .func (.func 54) #[] #[]), (6, .pointer none), (7, .bool false)] 3 0 hS .nil fun a hS => ?_
 refine seg_end ?_
 refine hK3 _ _ ?_
 refine cond_f hS rfl ?_
 refine sq fun K4 hK4 => ?_
 refine rgn 3 ?_
 refine sg wide_wide [.p, .p, .p] [] [(0, (Pv l.b)), (1, .pointer none), (2, .func (.func 54) #[] #[]), (6, .pointer none), (7, .bool false), (11, .bool true)] 3 0 hS .nil fun a hS => ?_
 refine seg_end ?_
 refine hK4 _ _ ?_
 refine cond_t hS rfl ?_
 refine sq fun K5 hK5 => ?_
 refine rgn 2 ?_
 refine sg wide_wide [.p, .p] [] [(0, (Pv l.b)), (1, .pointer none), (2, .func (.func 54) #[] #[]), (6, (Pv l.b)), (7, .bool false), (11, .bool true)] 2 0 hS .nil fun a hS => ?_
 refine seg_end ?_
 refine hK5 _ _ ?_
 refine wpIn_ret ?_
 refine inBlock_ret ?_
 refine then_ret ?_
 refine ret1 hS Try.results56 rfl ?_
 exact ⟨l, rfl, hl, rfl, hE0⟩

theorem join_1 {l r : Nd} {w : World} (hl : l.Ok w) (hr : r.Ok w) (hn : l.n + r.n ≤ 100000000000) {lv : Value} (hlv : RdV w 1 lv l.n (bv l.bs)) {rv : Value} (hrv : RdV w 1 rv r.n (bv r.bs)) (hB : Blk w l.b 89 #[.pointer none, .pointer none, lv, I6 ↑l.n, I6 ↑l.rw, I6 ↑l.hg]) (hC : Blk w r.b 89 #[.pointer none, .pointer none, rv, I6 ↑r.n, I6 ↑r.rw, I6 ↑r.hg]) (h1 : l.hg = 0) (h2 : r.hg = 0) (h3 : l.n + r.n ≤ 512) :
  Calls Try.prog 56 #[(Pv l.b), (Pv r.b), .func (.func 54) #[] #[]] w fun e w' => NdR w (l.bs ++ r.bs) e w' := by
 have hh1 := hl.high
 have hh2 := hr.high
 refine calls_body 103 [(0, (Pv l.b)), (1, (Pv r.b)), (2, .func (.func 54) #[] #[])] Try.func56 rfl (by kernel_rfl) (by kernel_rfl) (by kernel_rfl) fun a hS => ?_
 have hE0 : Ext [] w w := Ext.refl _ _
 refine sq fun K1 hK1 => ?_
 refine rgn 1 ?_
 refine sg wide_wide [.p] [] [(0, (Pv l.b)), (1, (Pv r.b)), (2, .func (.func 54) #[] #[]), (6, .pointer none)] 1 0 hS .nil fun a hS => ?_
 refine seg_end ?_
 refine hK1 _ _ ?_
 refine sq fun K2 hK2 => ?_
 refine wpIn_block ?_
 refine sq fun K3 hK3 => ?_
 refine rgn 3 ?_
 refine sg wide_wide [.p, .p, .p] [] [(0, (Pv l.b)), (1, (Pv r.b)), (2, .func (.func 54) #[] #[]), (6, .pointer none), (7, .bool false)] 3 0 hS .nil fun a hS => ?_
 refine seg_end ?_
 refine hK3 _ _ ?_
 refine cond_f hS rfl ?_
 refine sq fun K4 hK4 => ?_
 refine rgn 3 ?_
 refine sg wide_wide [.p, .p, .p] [] [(0, (Pv l.b)), (1, (Pv r.b)), (2, .func (.func 54) #[] #[]), (6, .pointer none), (7, .bool false), (11, .bool false)] 3 0 hS .nil fun a hS => ?_
 refine seg_end ?_
 refine hK4 _ _ ?_
 refine cond_f hS rfl ?_
 refine sq fun K5 hK5 => ?_
 refine region_fn2 wide_wide [.q .p, .q .p, .q .p, .q (.ld (I6 ↑l.hg)), .q (.as (.bool true)), .q .p, .q .p, .q .p, .q .p, .q (.ld (I6 ↑r.hg)), .q (.as (.bool true)), .q .p, .q .p, .q .p, .q .p, .q .p, .q (.ld (lv)), .q (.run (I6 ↑l.n)), .q .p, .q .p, .q .p, .q (.ld (rv)), .q (.run (I6 ↑r.n)), .q (.as (I6 (↑l.n + ↑r.n))), .q (.as (.bool true)), .q .p, .q .p] [0, 0, 0, 0, 0, 0, 0, 0, 0, 0, 0, 0, 0, 0, 0, 0, 0, 0, 0, 0, 0, 0, 0, 0, 0, 0, 0] [0, 0, 0, 0, 0, 0, 0, 0, 0, 0, 0, 0, 0, 0, 0, 0, 0, 0, 0, 0, 0, 0, 0, 0, 0, 0, 0] [0, 1, 3, 7, 15, 31, 63, 127, 255, 511, 1023, 2047, 4095, 8191, 16383, 32767, 65535, 131071, 8191, 270335, 794623, 1843199, 3940351, 8388607, 16777215, 33554431, 67108863] [] 0 ([(0, (Pv l.b)), (1, (Pv r.b)), (2, .func (.func 54) #[] #[]), (6, .pointer none), (7, .bool false), (11, .bool false), (16, (Pv l.b)), (17, (Pv l.b)), (18, (Po l.b 5)), (19, I6 ↑l.hg), (20, .bool true), (21, .bool true), (22, (Pv r.b)), (23, (Pv r.b)), (24, (Po r.b 5)), (25, I6 ↑r.hg), (26, .bool true), (27, .bool true), (28, .bool true), (29, (Pv l.b)), (30, (Pv l.b)), (31, (Po l.b 2)), (32, lv), (33, I6 ↑l.n), (34, (Pv r.b)), (35, (Pv r.b)), (36, (Po r.b 2)), (37, rv), (38, I6 ↑r.n), (39, I6 (↑l.n + ↑r.n)), (40, .bool true), (41, .bool true), (15, .bool true)]) [w.drew] w.drew (fun w' => [(3, [w'.cell? ⟨l.b, 5, none⟩ = some (I6 ↑l.hg)]), (4, [Value.bool (((↑l.hg : Int) == 0)) = .bool true]), (9, [w'.cell? ⟨r.b, 5, none⟩ = some (I6 ↑r.hg)]), (10, [Value.bool (((↑r.hg : Int) == 0)) = .bool true]), (16, [w'.cell? ⟨l.b, 2, none⟩ = some (lv)]), (17, [Ru Try.prog (vS (Builtin.len_ #[23] 3 #[lv])) (I6 ↑l.n) w']), (21, [w'.cell? ⟨r.b, 2, none⟩ = some (rv)]), (22, [Ru Try.prog (vS (Builtin.len_ #[23] 3 #[rv])) (I6 ↑r.n) w']), (23, [Value.int .i64 (IntKind.i64.wrap (↑l.n + ↑r.n)) = I6 (↑l.n + ↑r.n)]), (24, [Value.bool (decide ((↑l.n + ↑r.n : Int) ≤ 512)) = .bool true])]) [0, 1, 2, 6, 7, 11] [] hS (by kernel_rfl) (by kernel_rfl) (by kernel_rfl) (by kernel_rfl) (fun _ => by kernel_rfl) (by kernel_rfl) (by kernel_rfl) (by kernel_rfl) ?_ ?_ ?_
 ·intro e w' hw
  refine (.cons ?_ (.cons ?_ (.cons ?_ (.cons ?_ (.cons ?_ (.cons ?_ (.cons ?_ (.cons ?_ (.cons ?_ (.cons ?_ .nil))))))))))
  ·intro h1 h2
   obtain rfl : e = 0 := Nat.le_antisymm h2 h1
   obtain rfl : w' = w.drew := hw.trans (by kernel_rfl)
   exact (.cons ((hB.drew : Blk w.drew l.b 89 (#[.pointer none, .pointer none, lv, I6 ↑l.n, I6 ↑l.rw, I6 ↑l.hg])).cell 5 rfl) .nil)
  ·exact fun _ _ => (.cons (as_eq_t (by omega)) .nil)
  ·intro h1 h2
   obtain rfl : e = 0 := Nat.le_antisymm h2 h1
   obtain rfl : w' = w.drew := hw.trans (by kernel_rfl)
   exact (.cons ((hC.drew : Blk w.drew r.b 89 (#[.pointer none, .pointer none, rv, I6 ↑r.n, I6 ↑r.rw, I6 ↑r.hg])).cell 5 rfl) .nil)
  ·exact fun _ _ => (.cons (as_eq_t (by omega)) .nil)
  ·intro h1 h2
   obtain rfl : e = 0 := Nat.le_antisymm h2 h1
   obtain rfl : w' = w.drew := hw.trans (by kernel_rfl)
   exact (.cons ((hB.drew : Blk w.drew l.b 89 (#[.pointer none, .pointer none, lv, I6 ↑l.n, I6 ↑l.rw, I6 ↑l.hg])).cell 2 rfl) .nil)
  ·exact fun _ _ => (.cons (run_len_rd (e := 5) hlv (by kernel_rfl)) .nil)
  ·intro h1 h2
   obtain rfl : e = 0 := Nat.le_antisymm h2 h1
   obtain rfl : w' = w.drew := hw.trans (by kernel_rfl)
   exact (.cons ((hC.drew : Blk w.drew r.b 89 (#[.pointer none, .pointer none, rv, I6 ↑r.n, I6 ↑r.rw, I6 ↑r.hg])).cell 2 rfl) .nil)
  ·exact fun _ _ => (.cons (run_len_rd (e := 5) hrv (by kernel_rfl)) .nil)
  ·exact fun _ _ => (.cons (as_i64 (by omega)) .nil)
  ·exact fun _ _ => (.cons (as_t (by omega)) .nil)
 ·refine .nil
 rintro a w7 hS hw8
 replace hw8 : w7 = w.drew := hw8.trans (by kernel_rfl)
 have hB9 := Blk.at' hw8 (hB.drew)
 have hB10 := Blk.at' hw8 (hC.drew)
 have hE11 : Ext [] w w7 := by rw [hw8]; exact hE0.drew
 have hX12 : Ext [] w w7 := by rw [hw8]; exact (Ext.refl _ _).drew
 have hG13 : l.Ok w7 := hl.ext0 hX12
 have hG14 : r.Ok w7 := hr.ext0 hX12
 have hG15 : RdV w7 1 lv l.n (bv l.bs) := hlv.ext0 hX12
 have hG16 : RdV w7 1 rv r.n (bv r.bs) := hrv.ext0 hX12
 replace hS := hS.kp [(0, (Pv l.b)), (1, (Pv r.b)), (2, .func (.func 54) #[] #[]), (6, .pointer none), (7, .bool false), (11, .bool false), (15, .bool true)]
 refine hK5 _ _ ?_
 refine cond_t hS rfl ?_
 refine sq fun K17 hK17 => ?_
 refine region_gh2 (G := (Option Addr) × Nat × World × (Option Addr) × Nat × World × Nd × World) wide_wide [.q .p, .q .p, .q .p, .q .p, .q (.ld (lv)), .e, .q .p, .q .p, .q .p, .q (.ld (rv)), .e, .e, .q .p] [0, 0, 0, 0, 0, 0, 0, 0, 0, 0, 1, 2, 3] [2, 0, 0, 0, 0, 0, 1, 1, 1, 1, 1, 2, 3] [0, 0, 2, 6, 14, 30, 0, 64, 192, 448, 1022, 2047, 4095] [5, 10, 11] [(5, 0), (10, 1), (11, 2)] 3 (fun ⟨zq18, zc18, wc18, bs19, cp19, wa19, t20, wc20⟩ => ([(0, (Pv l.b)), (1, (Pv r.b)), (2, .func (.func 54) #[] #[]), (7, .bool false), (11, .bool false), (15, .bool true), (6, (Pv t20.b)), (42, .func (.func 54) #[] #[]), (43, (Pv l.b)), (44, (Pv l.b)), (45, (Po l.b 2)), (46, lv), (47, .slice zq18 l.n zc18), (48, (Pv r.b)), (49, (Pv r.b)), (50, (Po r.b 2)), (51, rv), (52, .slice bs19 (l.n + r.n) cp19), (53, (Pv t20.b))] : Fm)) (fun ⟨zq18, zc18, wc18, bs19, cp19, wa19, t20, wc20⟩ => [w7.drew, wc18, wa19, wc20]) (w7.drew) (fun e ⟨zq18, zc18, wc18, bs19, cp19, wa19, t20, wc20⟩ => hAt [True, (OwnV wc18 5 1 (.slice zq18 l.n zc18) l.n (bv l.bs)) ∧ (∀ x ∈ ob (.slice zq18 l.n zc18), (w7.drew).heap.size ≤ x) ∧ (Ext [] w7.drew wc18) ∧ True, (OwnV wc18 5 1 (.slice zq18 l.n zc18) l.n (bv l.bs)) ∧ (∀ x ∈ ob (.slice zq18 l.n zc18), (w7.drew).heap.size ≤ x) ∧ (Ext [] w7.drew wc18) ∧ (OwnV wa19 5 1 (.slice bs19 (l.n + r.n) cp19) (l.n + r.n) ((bv l.bs) ++ (bv r.bs))) ∧ (Ext (ob (Value.slice zq18 l.n zc18)) wc18 wa19) ∧ (∀ x ∈ ob (.slice bs19 (l.n + r.n) cp19), w7.heap.size ≤ x) ∧ True, (OwnV wc18 5 1 (.slice zq18 l.n zc18) l.n (bv l.bs)) ∧ (∀ x ∈ ob (.slice zq18 l.n zc18), (w7.drew).heap.size ≤ x) ∧ (Ext [] w7.drew wc18) ∧ (OwnV wa19 5 1 (.slice bs19 (l.n + r.n) cp19) (l.n + r.n) ((bv l.bs) ++ (bv r.bs))) ∧ (Ext (ob (Value.slice zq18 l.n zc18)) wc18 wa19) ∧ (∀ x ∈ ob (.slice bs19 (l.n + r.n) cp19), w7.heap.size ≤ x) ∧ (t20.Ok wc20) ∧ (t20.bs = l.bs ++ r.bs) ∧ (Ext [] wa19 wc20) ∧ True] e) (fun ⟨zq18, zc18, wc18, bs19, cp19, wa19, t20, wc20⟩ w' => [(4, [w'.cell? ⟨l.b, 2, none⟩ = some (lv)]), (9, [w'.cell? ⟨r.b, 2, none⟩ = some (rv)])]) (none, 0, w7.drew, none, 0, w, (Nd.leaf 0 undef []), w) [0, 1, 2, 7, 11, 15] [] hS (by kernel_rfl) (by kernel_rfl) (by kernel_rfl) (by kernel_rfl) (fun ⟨zq18, zc18, wc18, bs19, cp19, wa19, t20, wc20⟩ _ => by kernel_rfl) (by kernel_rfl) (by kernel_rfl) (by kernel_rfl) trivial ?_ (by kernel_rfl) ?_ ?_
 ·rintro e ⟨zq18, zc18, wc18, bs19, cp19, wa19, t20, wc20⟩ w' hw hH
  refine (.cons ?_ (.cons ?_ .nil))
  ·intro h1 h2
   obtain rfl : e = 0 := Nat.le_antisymm h2 h1
   have hwe : w7.drew = w' := (hw.trans (by kernel_rfl)).symm
   subst hwe
   clear hH
   exact (.cons ((hB9.drew : Blk w7.drew l.b 89 (#[.pointer none, .pointer none, lv, I6 ↑l.n, I6 ↑l.rw, I6 ↑l.hg])).cell 2 rfl) .nil)
  ·intro h1 h2
   replace h1 : 0 ≤ e := h1
   replace h2 : e ≤ 1 := h2
   have he : e = 0 ∨ e = 1 := by omega
   rcases he with rfl | rfl
   ·have hwe : w7.drew = w' := (hw.trans (by kernel_rfl)).symm
    subst hwe
    clear hH
    exact (.cons ((hB10.drew : Blk w7.drew r.b 89 (#[.pointer none, .pointer none, rv, I6 ↑r.n, I6 ↑r.rw, I6 ↑r.hg])).cell 2 rfl) .nil)
   ·have hwe : wc18 = w' := (hw.trans (by kernel_rfl)).symm
    subst hwe
    obtain ⟨hO18, hN18, hEc18, _⟩ := hH
    exact (.cons (((hB10.drew : Blk w7.drew r.b 89 (#[.pointer none, .pointer none, rv, I6 ↑r.n, I6 ↑r.rw, I6 ↑r.hg])).ext hEc18 (by simp) : Blk wc18 r.b 89 (#[.pointer none, .pointer none, rv, I6 ↑r.n, I6 ↑r.rw, I6 ↑r.hg])).cell 2 rfl) .nil)
 ·refine (.cons ?eq21_5 (.cons ?eq21_10 (.cons ?eq21_11 .nil)))
  ·rintro ⟨zq18, zc18, wc18, bs19, cp19, wa19, t20, wc20⟩ hH
   clear hH
   refine eff_gh (w7.drew) (by kernel_rfl) ?_
   refine upon_call (f := 55) (vs := [lv]) (cap := #[]) (d := (some 47)) (by kernel_rfl) Try.call55 #[lv] (by kernel_rfl) (Clone_any (hG15.ext0 ((Ext.refl [] _).drew)) (by omega)) ?_
   rintro _ wc18 ⟨zq18, zc18, rfl, hO18, hN18, hEc18⟩
   exact ⟨_, rfl, ⟨(zq18, zc18, wc18, bs19, cp19, wa19, t20, wc20), by kernel_rfl, by kernel_rfl, by kernel_rfl, ⟨hO18, hN18, hEc18, trivial⟩⟩⟩
  ·rintro ⟨zq18, zc18, wc18, bs19, cp19, wa19, t20, wc20⟩ hH
   obtain ⟨hO18, hN18, hEc18, _⟩ := hH
   refine eff_gh (wc18) (by kernel_rfl) ?_
   obtain ⟨bsN, capN, wN, hra, hA⟩ := append_rd (P := Try.prog) (w := wc18) (t := 23) (ty := 23) (e := 5) (size := 1) (bytes := 1) (n := l.n) (k := r.n) (z := #[.int .u8 0]) (v := Value.slice zq18 l.n zc18) (u := rv) (xs := (bv l.bs)) (news := (bv r.bs)) (by kernel_rfl) (by kernel_rfl) (by kernel_rfl) (hO18 : OwnV wc18 5 1 (.slice zq18 l.n zc18) l.n (bv l.bs)) ((hG16.ext0 ((Ext.refl [] _).drew)).ext0 hEc18) (bv_one _) (by omega) (by omega)
   have hOn := hA.own
   have hnn : ∀ x ∈ ob (.slice bsN (l.n + r.n) capN), w7.heap.size ≤ x := (fun x hx => by
    rcases hA.fresh x (by simpa using hx) with h | h
    ·exact (fun x hx => Nat.le_trans ((Ext.refl [] _).drew).size (hN18 x hx)) x h
    ·exact Nat.le_trans ((((Ext.refl [] _).drew)).trans0 hEc18).size h)
   exact upon_run (s := vS (Builtin.append_ #[23, 23] 23 #[Value.slice zq18 l.n zc18, rv])) (d := (some 52)) (v := (.slice bsN (l.n + r.n) capN)) (by kernel_rfl) (vS_run hra) ⟨(zq18, zc18, wc18, bsN, capN, wN, t20, wc20), by kernel_rfl, by kernel_rfl, by kernel_rfl, ⟨hO18, hN18, hEc18, hOn, hA.ext, hnn, trivial⟩⟩
  ·rintro ⟨zq18, zc18, wc18, bs19, cp19, wa19, t20, wc20⟩ hH
   obtain ⟨hO18, hN18, hEc18, hO19, hEa19, hnx19, _⟩ := hH
   refine eff_gh (wa19) (by kernel_rfl) ?_
   refine upon_call (f := 54) (vs := [.slice bs19 (l.n + r.n) cp19]) (cap := #[]) (d := (some 53)) (by kernel_rfl) Try.call54 #[.slice bs19 (l.n + r.n) cp19] (by kernel_rfl) (leaf_any (v := .slice bs19 (l.n + r.n) cp19) (n := l.n + r.n) (xs := l.bs ++ r.bs) (by rw [bv_app]; exact (hO19 : OwnV wa19 5 1 (.slice bs19 (l.n + r.n) cp19) (l.n + r.n) ((bv l.bs) ++ (bv r.bs))).rd) (hl.br.app hr.br) (by omega) (by omega) (hl.zb.ext (hE11.trans0 ((((((Ext.refl [] _).drew)).trans0 hEc18)).trans hEa19 (fun b hb => .inr ((fun x hx => Nat.le_trans ((Ext.refl [] _).drew).size (hN18 x hx)) b hb))))) (fun x hx h0 => by have h1 := hl.zb x h0; have h2 := hnx19 x hx; have h3 := hE11.size; omega)) ?_
   rintro _ wc20 ⟨t20, rfl, ho20, hb20, hEc20⟩
   exact ⟨_, rfl, ⟨(zq18, zc18, wc18, bs19, cp19, wa19, t20, wc20), by kernel_rfl, by kernel_rfl, by kernel_rfl, ⟨hO18, hN18, hEc18, hO19, hEa19, hnx19, ho20, hb20, hEc20, trivial⟩⟩⟩
 rintro ⟨zq18, zc18, wc18, bs19, cp19, wa19, t20, wc20⟩ a w22 hS hw23 hH
 obtain ⟨hO18, hN18, hEc18, hO19, hEa19, hnx19, ho20, hb20, hEc20, _⟩ := hH
 replace hw23 : w22 = wc20 := hw23.trans (by kernel_rfl)
 have hE27 : Ext [] w w22 := by rw [hw23]; exact (((hE11.drew).trans0 hEc18).trans hEa19 (fun b hb => .inr (Nat.le_trans hE11.size ((fun x hx => Nat.le_trans ((Ext.refl [] _).drew).size (hN18 x hx)) b hb)))).trans0 hEc20
 have hX28 : Ext [] w7 w22 := by rw [hw23]; exact ((((Ext.refl _ _).drew).trans0 hEc18).trans hEa19 (fun b hb => .inr ((fun x hx => Nat.le_trans ((Ext.refl [] _).drew).size (hN18 x hx)) b hb))).trans0 hEc20
 have hG29 : l.Ok w22 := hG13.ext0 hX28
 have hG30 : r.Ok w22 := hG14.ext0 hX28
 have hG31 : RdV w22 1 lv l.n (bv l.bs) := hG15.ext0 hX28
 have hG32 : RdV w22 1 rv r.n (bv r.bs) := hG16.ext0 hX28
 replace hS := hS.kp [(0, (Pv l.b)), (1, (Pv r.b)), (2, .func (.func 54) #[] #[]), (7, .bool false), (11, .bool false), (15, .bool true), (6, (Pv t20.b))]
 refine hK17 _ _ ?_
 refine wpIn_ret ?_
 refine inBlock_ret ?_
 refine then_ret ?_
 refine ret1 hS Try.results56 rfl ?_
 exact ⟨t20, rfl, by rw [hw23]; exact ho20, hb20, hE27⟩

theorem join_2 {l r : Nd} {w : World} (hl : l.Ok w) (hr : r.Ok w) (hn : l.n + r.n ≤ 100000000000) {lv : Value} (hlv : RdV w 1 lv l.n (bv l.bs)) {rv : Value} (hrv : RdV w 1 rv r.n (bv r.bs)) (hB : Blk w l.b 89 #[.pointer none, .pointer none, lv, I6 ↑l.n, I6 ↑l.rw, I6 ↑l.hg]) (hC : Blk w r.b 89 #[.pointer none, .pointer none, rv, I6 ↑r.n, I6 ↑r.rw, I6 ↑r.hg]) (h1 : l.hg = 0) (h2 : r.hg = 0) (h3 : ¬l.n + r.n ≤ 512) :
  Calls Try.prog 56 #[(Pv l.b), (Pv r.b), .func (.func 54) #[] #[]] w fun e w' => NdR w (l.bs ++ r.bs) e w' := by
 have hh1 := hl.high
 have hh2 := hr.high
 refine calls_body 103 [(0, (Pv l.b)), (1, (Pv r.b)), (2, .func (.func 54) #[] #[])] Try.func56 rfl (by kernel_rfl) (by kernel_rfl) (by kernel_rfl) fun a hS => ?_
 have hE0 : Ext [] w w := Ext.refl _ _
 refine sq fun K1 hK1 => ?_
 refine rgn 1 ?_
 refine sg wide_wide [.p] [] [(0, (Pv l.b)), (1, (Pv r.b)), (2, .func (.func 54) #[] #[]), (6, .pointer none)] 1 0 hS .nil fun a hS => ?_
 refine seg_end ?_
 refine hK1 _ _ ?_
 refine sq fun K2 hK2 => ?_
 refine wpIn_block ?_
 refine sq fun K3 hK3 => ?_
 refine rgn 3 ?_
 refine sg wide_wide [.p, .p, .p] [] [(0, (Pv l.b)), (1, (Pv r.b)), (2, .func (.func 54) #[] #[]), (6, .pointer none), (7, .bool false)] 3 0 hS .nil fun a hS => ?_
 refine seg_end ?_
 refine hK3 _ _ ?_
 refine cond_f hS rfl ?_
 refine sq fun K4 hK4 => ?_
 refine rgn 3 ?_
 refine sg wide_wide [.p, .p, .p] [] [(0, (Pv l.b)), (1, (Pv r.b)), (2, .func (.func 54) #[] #[]), (6, .pointer none), (7, .bool false), (11, .bool false)] 3 0 hS .nil fun a hS => ?_
 refine seg_end ?_
 refine hK4 _ _ ?_
 refine cond_f hS rfl ?_
 refine sq fun K5 hK5 => ?_
 refine region_fn2 wide_wide [.q .p, .q .p, .q .p, .q (.ld (I6 ↑l.hg)), .q (.as (.bool true)), .q .p, .q .p, .q .p, .q .p, .q (.ld (I6 ↑r.hg)), .q (.as (.bool true)), .q .p, .q .p, .q .p, .q .p, .q .p, .q (.ld (lv)), .q (.run (I6 ↑l.n)), .q .p, .q .p, .q .p, .q (.ld (rv)), .q (.run (I6 ↑r.n)), .q (.as (I6 (↑l.n + ↑r.n))), .q (.as (.bool false)), .q .p, .q .p] [0, 0, 0, 0, 0, 0, 0, 0, 0, 0, 0, 0, 0, 0, 0, 0, 0, 0, 0, 0, 0, 0, 0, 0, 0, 0, 0] [0, 0, 0, 0, 0, 0, 0, 0, 0, 0, 0, 0, 0, 0, 0, 0, 0, 0, 0, 0, 0, 0, 0, 0, 0, 0, 0] [0, 1, 3, 7, 15, 31, 63, 127, 255, 511, 1023, 2047, 4095, 8191, 16383, 32767, 65535, 131071, 8191, 270335, 794623, 1843199, 3940351, 8388607, 16777215, 33554431, 67108863] [] 0 ([(0, (Pv l.b)), (1, (Pv r.b)), (2, .func (.func 54) #[] #[]), (6, .pointer none), (7, .bool false), (11, .bool false), (16, (Pv l.b)), (17, (Pv l.b)), (18, (Po l.b 5)), (19, I6 ↑l.hg), (20, .bool true), (21, .bool true), (22, (Pv r.b)), (23, (Pv r.b)), (24, (Po r.b 5)), (25, I6 ↑r.hg), (26, .bool true), (27, .bool true), (28, .bool true), (29, (Pv l.b)), (30, (Pv l.b)), (31, (Po l.b 2)), (32, lv), (33, I6 ↑l.n), (34, (Pv r.b)), (35, (Pv r.b)), (36, (Po r.b 2)), (37, rv), (38, I6 ↑r.n), (39, I6 (↑l.n + ↑r.n)), (40, .bool false), (41, .bool false), (15, .bool false)]) [w.drew] w.drew (fun w' => [(3, [w'.cell? ⟨l.b, 5, none⟩ = some (I6 ↑l.hg)]), (4, [Value.bool (((↑l.hg : Int) == 0)) = .bool true]), (9, [w'.cell? ⟨r.b, 5, none⟩ = some (I6 ↑r.hg)]), (10, [Value.bool (((↑r.hg : Int) == 0)) = .bool true]), (16, [w'.cell? ⟨l.b, 2, none⟩ = some (lv)]), (17, [Ru Try.prog (vS (Builtin.len_ #[23] 3 #[lv])) (I6 ↑l.n) w']), (21, [w'.cell? ⟨r.b, 2, none⟩ = some (rv)]), (22, [Ru Try.prog (vS (Builtin.len_ #[23] 3 #[rv])) (I6 ↑r.n) w']), (23, [Value.int .i64 (IntKind.i64.wrap (↑l.n + ↑r.n)) = I6 (↑l.n + ↑r.n)]), (24, [Value.bool (decide ((↑l.n + ↑r.n : Int) ≤ 512)) = .bool false])]) [0, 1, 2, 6, 7, 11] [] hS (by kernel_rfl) (by kernel_rfl) (by kernel_rfl) (by kernel_rfl) (fun _ => by kernel_rfl) (by kernel_rfl) (by kernel_rfl) (by kernel_rfl) ?_ ?_ ?_
 ·intro e w' hw
  refine (.cons ?_ (.cons ?_ (.cons ?_ (.cons ?_ (.cons ?_ (.cons ?_ (.cons ?_ (.cons ?_ (.cons ?_ (.cons ?_ .nil))))))))))
  ·intro h1 h2
   obtain rfl : e = 0 := Nat.le_antisymm h2 h1
   obtain rfl : w' = w.drew := hw.trans (by kernel_rfl)
   exact (.cons ((hB.drew : Blk w.drew l.b 89 (#[.pointer none, .pointer none, lv, I6 ↑l.n, I6 ↑l.rw, I6 ↑l.hg])).cell 5 rfl) .nil)
  ·exact fun _ _ => (.cons (as_eq_t (by omega)) .nil)
  ·intro h1 h2
   obtain rfl : e = 0 := Nat.le_antisymm h2 h1
   obtain rfl : w' = w.drew := hw.trans (by kernel_rfl)
   exact (.cons ((hC.drew : Blk w.drew r.b 89 (#[.pointer none, .pointer none, rv, I6 ↑r.n, I6 ↑r.rw, I6 ↑r.hg])).cell 5 rfl) .nil)
  ·exact fun _ _ => (.cons (as_eq_t (by omega)) .nil)
  ·intro h1 h2
   obtain rfl : e = 0 := Nat.le_antisymm h2 h1
   obtain rfl : w' = w.drew := hw.trans (by kernel_rfl)
   exact (.cons ((hB.drew : Blk w.drew l.b 89 (#[.pointer none, .pointer none, lv, I6 ↑l.n, I6 ↑l.rw, I6 ↑l.hg])).cell 2 rfl) .nil)
  ·exact fun _ _ => (.cons (run_len_rd (e := 5) hlv (by kernel_rfl)) .nil)
  ·intro h1 h2
   obtain rfl : e = 0 := Nat.le_antisymm h2 h1
   obtain rfl : w' = w.drew := hw.trans (by kernel_rfl)
   exact (.cons ((hC.drew : Blk w.drew r.b 89 (#[.pointer none, .pointer none, rv, I6 ↑r.n, I6 ↑r.rw, I6 ↑r.hg])).cell 2 rfl) .nil)
  ·exact fun _ _ => (.cons (run_len_rd (e := 5) hrv (by kernel_rfl)) .nil)
  ·exact fun _ _ => (.cons (as_i64 (by omega)) .nil)
  ·exact fun _ _ => (.cons (as_f (by omega)) .nil)
 ·refine .nil
 rintro a w7 hS hw8
 replace hw8 : w7 = w.drew := hw8.trans (by kernel_rfl)
 have hB9 := Blk.at' hw8 (hB.drew)
 have hB10 := Blk.at' hw8 (hC.drew)
 have hE11 : Ext [] w w7 := by rw [hw8]; exact hE0.drew
 have hX12 : Ext [] w w7 := by rw [hw8]; exact (Ext.refl _ _).drew
 have hG13 : l.Ok w7 := hl.ext0 hX12
 have hG14 : r.Ok w7 := hr.ext0 hX12
 have hG15 : RdV w7 1 lv l.n (bv l.bs) := hlv.ext0 hX12
 have hG16 : RdV w7 1 rv r.n (bv r.bs) := hrv.ext0 hX12
 replace hS := hS.kp [(0, (Pv l.b)), (1, (Pv r.b)), (2, .func (.func 54) #[] #[]), (6, .pointer none), (7, .bool false), (11, .bool false), (15, .bool false)]
 refine hK5 _ _ ?_
 refine cond_f hS rfl ?_
 refine sq fun K17 hK17 => ?_
 refine region_fn2 wide_wide [.q .p, .q .p, .q .p, .q (.ld (I6 ↑l.hg)), .q .p, .q .p, .q .p, .q (.ld (I6 ↑r.hg)), .q (.as (I6 (↑r.hg + 1))), .q (.as (.bool false)), .q .p] [0, 0, 0, 0, 0, 0, 0, 0, 0, 0, 0] [0, 0, 0, 0, 0, 0, 0, 0, 0, 0, 0] [0, 1, 3, 7, 0, 16, 48, 112, 240, 511, 1023] [] 0 ([(0, (Pv l.b)), (1, (Pv r.b)), (2, .func (.func 54) #[] #[]), (6, .pointer none), (7, .bool false), (11, .bool false), (15, .bool false), (55, (Pv l.b)), (56, (Pv l.b)), (57, (Po l.b 5)), (58, I6 ↑l.hg), (59, (Pv r.b)), (60, (Pv r.b)), (61, (Po r.b 5)), (62, I6 ↑r.hg), (63, I6 (↑r.hg + 1)), (64, .bool false), (54, .bool false)]) [w7.drew] w7.drew (fun w' => [(3, [w'.cell? ⟨l.b, 5, none⟩ = some (I6 ↑l.hg)]), (7, [w'.cell? ⟨r.b, 5, none⟩ = some (I6 ↑r.hg)]), (8, [Value.int .i64 (IntKind.i64.wrap (↑r.hg + 1)) = I6 (↑r.hg + 1)]), (9, [Value.bool (decide ((↑l.hg : Int) > ↑r.hg + 1)) = .bool false])]) [0, 1, 2, 6, 7, 11, 15] [] hS (by kernel_rfl) (by kernel_rfl) (by kernel_rfl) (by kernel_rfl) (fun _ => by kernel_rfl) (by kernel_rfl) (by kernel_rfl) (by kernel_rfl) ?_ ?_ ?_
 ·intro e w' hw
  refine (.cons ?_ (.cons ?_ (.cons ?_ (.cons ?_ .nil))))
  ·intro h1 h2
   obtain rfl : e = 0 := Nat.le_antisymm h2 h1
   obtain rfl : w' = w7.drew := hw.trans (by kernel_rfl)
   exact (.cons ((hB9.drew : Blk w7.drew l.b 89 (#[.pointer none, .pointer none, lv, I6 ↑l.n, I6 ↑l.rw, I6 ↑l.hg])).cell 5 rfl) .nil)
  ·intro h1 h2
   obtain rfl : e = 0 := Nat.le_antisymm h2 h1
   obtain rfl : w' = w7.drew := hw.trans (by kernel_rfl)
   exact (.cons ((hB10.drew : Blk w7.drew r.b 89 (#[.pointer none, .pointer none, rv, I6 ↑r.n, I6 ↑r.rw, I6 ↑r.hg])).cell 5 rfl) .nil)
  ·exact fun _ _ => (.cons (as_i64 (by omega)) .nil)
  ·exact fun _ _ => (.cons (as_f (by omega)) .nil)
 ·refine .nil
 rintro a w19 hS hw20
 replace hw20 : w19 = w7.drew := hw20.trans (by kernel_rfl)
 have hB21 := Blk.at' hw20 (hB9.drew)
 have hB22 := Blk.at' hw20 (hB10.drew)
 have hE23 : Ext [] w w19 := by rw [hw20]; exact hE11.drew
 have hX24 : Ext [] w7 w19 := by rw [hw20]; exact (Ext.refl _ _).drew
 have hG25 : l.Ok w19 := hG13.ext0 hX24
 have hG26 : r.Ok w19 := hG14.ext0 hX24
 have hG27 : RdV w19 1 lv l.n (bv l.bs) := hG15.ext0 hX24
 have hG28 : RdV w19 1 rv r.n (bv r.bs) := hG16.ext0 hX24
 replace hS := hS.kp [(0, (Pv l.b)), (1, (Pv r.b)), (2, .func (.func 54) #[] #[]), (6, .pointer none), (7, .bool false), (11, .bool false), (15, .bool false), (54, .bool false)]
 refine hK17 _ _ ?_
 refine cond_f hS rfl ?_
 refine sq fun K29 hK29 => ?_
 refine region_fn2 wide_wide [.q .p, .q .p, .q .p, .q (.ld (I6 ↑r.hg)), .q .p, .q .p, .q .p, .q (.ld (I6 ↑l.hg)), .q (.as (I6 (↑l.hg + 1))), .q (.as (.bool false)), .q .p] [0, 0, 0, 0, 0, 0, 0, 0, 0, 0, 0] [0, 0, 0, 0, 0, 0, 0, 0, 0, 0, 0] [0, 1, 3, 7, 0, 16, 48, 112, 240, 511, 1023] [] 0 ([(0, (Pv l.b)), (1, (Pv r.b)), (2, .func (.func 54) #[] #[]), (6, .pointer none), (7, .bool false), (11, .bool false), (15, .bool false), (54, .bool false), (78, (Pv r.b)), (79, (Pv r.b)), (80, (Po r.b 5)), (81, I6 ↑r.hg), (82, (Pv l.b)), (83, (Pv l.b)), (84, (Po l.b 5)), (85, I6 ↑l.hg), (86, I6 (↑l.hg + 1)), (87, .bool false), (77, .bool false)]) [w19.drew] w19.drew (fun w' => [(3, [w'.cell? ⟨r.b, 5, none⟩ = some (I6 ↑r.hg)]), (7, [w'.cell? ⟨l.b, 5, none⟩ = some (I6 ↑l.hg)]), (8, [Value.int .i64 (IntKind.i64.wrap (↑l.hg + 1)) = I6 (↑l.hg + 1)]), (9, [Value.bool (decide ((↑r.hg : Int) > ↑l.hg + 1)) = .bool false])]) [0, 1, 2, 6, 7, 11, 15, 54] [] hS (by kernel_rfl) (by kernel_rfl) (by kernel_rfl) (by kernel_rfl) (fun _ => by kernel_rfl) (by kernel_rfl) (by kernel_rfl) (by kernel_rfl) ?_ ?_ ?_
 ·intro e w' hw
  refine (.cons ?_ (.cons ?_ (.cons ?_ (.cons ?_ .nil))))
  ·intro h1 h2
   obtain rfl : e = 0 := Nat.le_antisymm h2 h1
   obtain rfl : w' = w19.drew := hw.trans (by kernel_rfl)
   exact (.cons ((hB22.drew : Blk w19.drew r.b 89 (#[.pointer none, .pointer none, rv, I6 ↑r.n, I6 ↑r.rw, I6 ↑r.hg])).cell 5 rfl) .nil)
  ·intro h1 h2
   obtain rfl : e = 0 := Nat.le_antisymm h2 h1
   obtain rfl : w' = w19.drew := hw.trans (by kernel_rfl)
   exact (.cons ((hB21.drew : Blk w19.drew l.b 89 (#[.pointer none, .pointer none, lv, I6 ↑l.n, I6 ↑l.rw, I6 ↑l.hg])).cell 5 rfl) .nil)
  ·exact fun _ _ => (.cons (as_i64 (by omega)) .nil)
  ·exact fun _ _ => (.cons (as_f (by omega)) .nil)
 ·refine .nil
 rintro a w31 hS hw32
 replace hw32 : w31 = w19.drew := hw32.trans (by kernel_rfl)
 have hE35 : Ext [] w w31 := by rw [hw32]; exact hE23.drew
 have hX36 : Ext [] w19 w31 := by rw [hw32]; exact (Ext.refl _ _).drew
 have hG37 : l.Ok w31 := hG25.ext0 hX36
 have hG38 : r.Ok w31 := hG26.ext0 hX36
 have hG39 : RdV w31 1 lv l.n (bv l.bs) := hG27.ext0 hX36
 have hG40 : RdV w31 1 rv r.n (bv r.bs) := hG28.ext0 hX36
 replace hS := hS.kp [(0, (Pv l.b)), (1, (Pv r.b)), (2, .func (.func 54) #[] #[]), (6, .pointer none), (7, .bool false), (11, .bool false), (15, .bool false), (54, .bool false), (77, .bool false)]
 refine hK29 _ _ ?_
 refine cond_f hS rfl ?_
 refine wpIn_skip ?_
 refine inBlock_normal ?_
 refine hK2 _ _ ?_
 refine sq fun K41 hK41 => ?_
 refine rgn 4 ?_
 refine sg wide_wide [.p, .p] [] [(0, (Pv l.b)), (1, (Pv r.b)), (2, .func (.func 54) #[] #[]), (6, .pointer none), (7, .bool false), (11, .bool false), (15, .bool false), (54, .bool false), (77, .bool false), (100, (Pv l.b)), (101, (Pv r.b))] 2 2 hS .nil fun a hS => ?_
 refine eff_call wide_wide (r := 1) (f := 69) (vs := [(Pv l.b), (Pv r.b)]) (cap := #[]) (d := (some 102)) hS (by kernel_rfl) Try.call69 #[(Pv l.b), (Pv r.b)] (by kernel_rfl) (over_any hG37 hG38 (by omega)) ?_
 rintro _ wc42 ⟨t42, rfl, ho42, hb42, hn42, hEc42⟩
 refine ⟨_, rfl, fun a hS => ?_⟩
 have hG45 : l.Ok wc42 := hG37.ext0 hEc42
 have hG46 : r.Ok wc42 := hG38.ext0 hEc42
 have hG47 : RdV wc42 1 lv l.n (bv l.bs) := hG39.ext0 hEc42
 have hG48 : RdV wc42 1 rv r.n (bv r.bs) := hG40.ext0 hEc42
 have hE49 := hE35.trans0 hEc42
 refine sg wide_wide [.p] [] [(0, (Pv l.b)), (1, (Pv r.b)), (2, .func (.func 54) #[] #[]), (6, (Pv t42.b)), (7, .bool false), (11, .bool false), (15, .bool false), (54, .bool false), (77, .bool false)] 4 0 hS .nil fun a hS => ?_
 refine seg_end ?_
 refine hK41 _ _ ?_
 refine wpIn_ret ?_
 refine ret1 hS Try.results56 rfl ?_
 exact ⟨t42, rfl, ho42, hb42, hE49⟩

theorem join_3 {l r : Nd} {w : World} (hl : l.Ok w) (hr : r.Ok w) (hn : l.n + r.n ≤ 100000000000) (h1 : ¬l.hg = 0) (h2 : ¬l.hg > r.hg + 1) (h3 : ¬r.hg > l.hg + 1) :
  Calls Try.prog 56 #[(Pv l.b), (Pv r.b), .func (.func 54) #[] #[]] w fun e w' => NdR w (l.bs ++ r.bs) e w' := by
 have hh1 := hl.high
 have hh2 := hr.high
 refine calls_body 103 [(0, (Pv l.b)), (1, (Pv r.b)), (2, .func (.func 54) #[] #[])] Try.func56 rfl (by kernel_rfl) (by kernel_rfl) (by kernel_rfl) fun a hS => ?_
 have hE0 : Ext [] w w := Ext.refl _ _
 refine sq fun K1 hK1 => ?_
 refine rgn 1 ?_
 refine sg wide_wide [.p] [] [(0, (Pv l.b)), (1, (Pv r.b)), (2, .func (.func 54) #[] #[]), (6, .pointer none)] 1 0 hS .nil fun a hS => ?_
 refine seg_end ?_
 refine hK1 _ _ ?_
 refine sq fun K2 hK2 => ?_
 refine wpIn_block ?_
 refine sq fun K3 hK3 => ?_
 refine rgn 3 ?_
 refine sg wide_wide [.p, .p, .p] [] [(0, (Pv l.b)), (1, (Pv r.b)), (2, .func (.func 54) #[] #[]), (6, .pointer none), (7, .bool false)] 3 0 hS .nil fun a hS => ?_
 refine seg_end ?_
 refine hK3 _ _ ?_
 refine cond_f hS rfl ?_
 refine sq fun K4 hK4 => ?_
 refine rgn 3 ?_
 refine sg wide_wide [.p, .p, .p] [] [(0, (Pv l.b)), (1, (Pv r.b)), (2, .func (.func 54) #[] #[]), (6, .pointer none), (7, .bool false), (11, .bool false)] 3 0 hS .nil fun a hS => ?_
 refine seg_end ?_
 refine hK4 _ _ ?_
 refine cond_f hS rfl ?_
 refine sq fun K5 hK5 => ?_
 refine region_fn2 wide_wide [.q .p, .q .p, .q .p, .q (.ld (I6 ↑l.hg)), .q (.as (.bool false)), .q .p, .q .no, .q .no, .q .no, .q .no, .q .no, .q .p, .q .p, .q .no, .q .no, .q .no, .q .no, .q .no, .q .no, .q .no, .q .no, .q .no, .q .no, .q .no, .q .no, .q .p, .q .p] [0, 0, 0, 0, 0, 0, 0, 0, 0, 0, 0, 0, 0, 0, 0, 0, 0, 0, 0, 0, 0, 0, 0, 0, 0, 0, 0] [0, 0, 0, 0, 0, 0, 0, 0, 0, 0, 0, 0, 0, 0, 0, 0, 0, 0, 0, 0, 0, 0, 0, 0, 0, 0, 0] [0, 1, 3, 7, 15, 31, 63, 127, 255, 511, 1023, 2047, 4095, 8191, 16383, 32767, 65535, 131071, 8191, 270335, 794623, 1843199, 3940351, 8388607, 16777215, 33554431, 67108863] [] 0 ([(0, (Pv l.b)), (1, (Pv r.b)), (2, .func (.func 54) #[] #[]), (6, .pointer none), (7, .bool false), (11, .bool false), (16, (Pv l.b)), (17, (Pv l.b)), (18, (Po l.b 5)), (19, I6 ↑l.hg), (20, .bool false), (21, .bool false), (22, undef), (23, undef), (24, undef), (25, undef), (26, undef), (27, .bool false), (28, .bool false), (29, undef), (30, undef), (31, undef), (32, undef), (33, undef), (34, undef), (35, undef), (36, undef), (37, undef), (38, undef), (39, undef), (40, undef), (41, .bool false), (15, .bool false)]) [w.drew] w.drew (fun w' => [(3, [w'.cell? ⟨l.b, 5, none⟩ = some (I6 ↑l.hg)]), (4, [Value.bool (((↑l.hg : Int) == 0)) = .bool false])]) [0, 1, 2, 6, 7, 11] [] hS (by kernel_rfl) (by kernel_rfl) (by kernel_rfl) (by kernel_rfl) (fun _ => by kernel_rfl) (by kernel_rfl) (by kernel_rfl) (by kernel_rfl) ?_ ?_ ?_
 ·intro e w' hw
  refine (.cons ?_ (.cons ?_ .nil))
  ·intro h1 h2
   obtain rfl : e = 0 := Nat.le_antisymm h2 h1
   obtain rfl : w' = w.drew := hw.trans (by kernel_rfl)
   exact (.cons ((hl.blk.drew : Blk w.drew l.b 89 (#[l.lp, l.rp, l.pv, I6 ↑l.n, I6 ↑l.rw, I6 ↑l.hg])).cell 5 rfl) .nil)
  ·exact fun _ _ => (.cons (as_eq_f (by omega)) .nil)
 ·refine .nil
 rintro a w7 hS hw8
 replace hw8 : w7 = w.drew := hw8.trans (by kernel_rfl)
 have hB9 := Blk.at' hw8 (hl.blk.drew)
 have hB10 := Blk.at' hw8 (hr.blk.drew)
 have hE11 : Ext [] w w7 := by rw [hw8]; exact hE0.drew
 have hX12 : Ext [] w w7 := by rw [hw8]; exact (Ext.refl _ _).drew
 have hG13 : l.Ok w7 := hl.ext0 hX12
 have hG14 : r.Ok w7 := hr.ext0 hX12
 replace hS := hS.kp [(0, (Pv l.b)), (1, (Pv r.b)), (2, .func (.func 54) #[] #[]), (6, .pointer none), (7, .bool false), (11, .bool false), (15, .bool false)]
 refine hK5 _ _ ?_
 refine cond_f hS rfl ?_
 refine sq fun K15 hK15 => ?_
 refine region_fn2 wide_wide [.q .p, .q .p, .q .p, .q (.ld (I6 ↑l.hg)), .q .p, .q .p, .q .p, .q (.ld (I6 ↑r.hg)), .q (.as (I6 (↑r.hg + 1))), .q (.as (.bool false)), .q .p] [0, 0, 0, 0, 0, 0, 0, 0, 0, 0, 0] [0, 0, 0, 0, 0, 0, 0, 0, 0, 0, 0] [0, 1, 3, 7, 0, 16, 48, 112, 240, 511, 1023] [] 0 ([(0, (Pv l.b)), (1, (Pv r.b)), (2, .func (.func 54) #[] #[]), (6, .pointer none), (7, .bool false), (11, .bool false), (15, .bool false), (55, (Pv l.b)), (56, (Pv l.b)), (57, (Po l.b 5)), (58, I6 ↑l.hg), (59, (Pv r.b)), (60, (Pv r.b)), (61, (Po r.b 5)), (62, I6 ↑r.hg), (63, I6 (↑r.hg + 1)), (64, .bool false), (54, .bool false)]) [w7.drew] w7.drew (fun w' => [(3, [w'.cell? ⟨l.b, 5, none⟩ = some (I6 ↑l.hg)]), (7, [w'.cell? ⟨r.b, 5, none⟩ = some (I6 ↑r.hg)]), (8, [Value.int .i64 (IntKind.i64.wrap (↑r.hg + 1)) = I6 (↑r.hg + 1)]), (9, [Value.bool (decide ((↑l.hg : Int) > ↑r.hg + 1)) = .bool false])]) [0, 1, 2, 6, 7, 11, 15] [] hS (by kernel_rfl) (by kernel_rfl) (by kernel_rfl) (by kernel_rfl) (fun _ => by kernel_rfl) (by kernel_rfl) (by kernel_rfl) (by kernel_rfl) ?_ ?_ ?_
 ·intro e w' hw
  refine (.cons ?_ (.cons ?_ (.cons ?_ (.cons ?_ .nil))))
  ·intro h1 h2
   obtain rfl : e = 0 := Nat.le_antisymm h2 h1
   obtain rfl : w' = w7.drew := hw.trans (by kernel_rfl)
   exact (.cons ((hB9.drew : Blk w7.drew l.b 89 (#[l.lp, l.rp, l.pv, I6 ↑l.n, I6 ↑l.rw, I6 ↑l.hg])).cell 5 rfl) .nil)
  ·intro h1 h2
   obtain rfl : e = 0 := Nat.le_antisymm h2 h1
   obtain rfl : w' = w7.drew := hw.trans (by kernel_rfl)
   exact (.cons ((hB10.drew : Blk w7.drew r.b 89 (#[r.lp, r.rp, r.pv, I6 ↑r.n, I6 ↑r.rw, I6 ↑r.hg])).cell 5 rfl) .nil)
  ·exact fun _ _ => (.cons (as_i64 (by omega)) .nil)
  ·exact fun _ _ => (.cons (as_f (by omega)) .nil)
 ·refine .nil
 rintro a w17 hS hw18
 replace hw18 : w17 = w7.drew := hw18.trans (by kernel_rfl)
 have hB19 := Blk.at' hw18 (hB9.drew)
 have hB20 := Blk.at' hw18 (hB10.drew)
 have hE21 : Ext [] w w17 := by rw [hw18]; exact hE11.drew
 have hX22 : Ext [] w7 w17 := by rw [hw18]; exact (Ext.refl _ _).drew
 have hG23 : l.Ok w17 := hG13.ext0 hX22
 have hG24 : r.Ok w17 := hG14.ext0 hX22
 replace hS := hS.kp [(0, (Pv l.b)), (1, (Pv r.b)), (2, .func (.func 54) #[] #[]), (6, .pointer none), (7, .bool false), (11, .bool false), (15, .bool false), (54, .bool false)]
 refine hK15 _ _ ?_
 refine cond_f hS rfl ?_
 refine sq fun K25 hK25 => ?_
 refine region_fn2 wide_wide [.q .p, .q .p, .q .p, .q (.ld (I6 ↑r.hg)), .q .p, .q .p, .q .p, .q (.ld (I6 ↑l.hg)), .q (.as (I6 (↑l.hg + 1))), .q (.as (.bool false)), .q .p] [0, 0, 0, 0, 0, 0, 0, 0, 0, 0, 0] [0, 0, 0, 0, 0, 0, 0, 0, 0, 0, 0] [0, 1, 3, 7, 0, 16, 48, 112, 240, 511, 1023] [] 0 ([(0, (Pv l.b)), (1, (Pv r.b)), (2, .func (.func 54) #[] #[]), (6, .pointer none), (7, .bool false), (11, .bool false), (15, .bool false), (54, .bool false), (78, (Pv r.b)), (79, (Pv r.b)), (80, (Po r.b 5)), (81, I6 ↑r.hg), (82, (Pv l.b)), (83, (Pv l.b)), (84, (Po l.b 5)), (85, I6 ↑l.hg), (86, I6 (↑l.hg + 1)), (87, .bool false), (77, .bool false)]) [w17.drew] w17.drew (fun w' => [(3, [w'.cell? ⟨r.b, 5, none⟩ = some (I6 ↑r.hg)]), (7, [w'.cell? ⟨l.b, 5, none⟩ = some (I6 ↑l.hg)]), (8, [Value.int .i64 (IntKind.i64.wrap (↑l.hg + 1)) = I6 (↑l.hg + 1)]), (9, [Value.bool (decide ((↑r.hg : Int) > ↑l.hg + 1)) = .bool false])]) [0, 1, 2, 6, 7, 11, 15, 54] [] hS (by kernel_rfl) (by kernel_rfl) (by kernel_rfl) (by kernel_rfl) (fun _ => by kernel_rfl) (by kernel_rfl) (by kernel_rfl) (by kernel_rfl) ?_ ?_ ?_
 ·intro e w' hw
  refine (.cons ?_ (.cons ?_ (.cons ?_ (.cons ?_ .nil))))
  ·intro h1 h2
   obtain rfl : e = 0 := Nat.le_antisymm h2 h1
   obtain rfl : w' = w17.drew := hw.trans (by kernel_rfl)
   exact (.cons ((hB20.drew : Blk w17.drew r.b 89 (#[r.lp, r.rp, r.pv, I6 ↑r.n, I6 ↑r.rw, I6 ↑r.hg])).cell 5 rfl) .nil)
  ·intro h1 h2
   obtain rfl : e = 0 := Nat.le_antisymm h2 h1
   obtain rfl : w' = w17.drew := hw.trans (by kernel_rfl)
   exact (.cons ((hB19.drew : Blk w17.drew l.b 89 (#[l.lp, l.rp, l.pv, I6 ↑l.n, I6 ↑l.rw, I6 ↑l.hg])).cell 5 rfl) .nil)
  ·exact fun _ _ => (.cons (as_i64 (by omega)) .nil)
  ·exact fun _ _ => (.cons (as_f (by omega)) .nil)
 ·refine .nil
 rintro a w27 hS hw28
 replace hw28 : w27 = w17.drew := hw28.trans (by kernel_rfl)
 have hE31 : Ext [] w w27 := by rw [hw28]; exact hE21.drew
 have hX32 : Ext [] w17 w27 := by rw [hw28]; exact (Ext.refl _ _).drew
 have hG33 : l.Ok w27 := hG23.ext0 hX32
 have hG34 : r.Ok w27 := hG24.ext0 hX32
 replace hS := hS.kp [(0, (Pv l.b)), (1, (Pv r.b)), (2, .func (.func 54) #[] #[]), (6, .pointer none), (7, .bool false), (11, .bool false), (15, .bool false), (54, .bool false), (77, .bool false)]
 refine hK25 _ _ ?_
 refine cond_f hS rfl ?_
 refine wpIn_skip ?_
 refine inBlock_normal ?_
 refine hK2 _ _ ?_
 refine sq fun K35 hK35 => ?_
 refine rgn 4 ?_
 refine sg wide_wide [.p, .p] [] [(0, (Pv l.b)), (1, (Pv r.b)), (2, .func (.func 54) #[] #[]), (6, .pointer none), (7, .bool false), (11, .bool false), (15, .bool false), (54, .bool false), (77, .bool false), (100, (Pv l.b)), (101, (Pv r.b))] 2 2 hS .nil fun a hS => ?_
 refine eff_call wide_wide (r := 1) (f := 69) (vs := [(Pv l.b), (Pv r.b)]) (cap := #[]) (d := (some 102)) hS (by kernel_rfl) Try.call69 #[(Pv l.b), (Pv r.b)] (by kernel_rfl) (over_any hG33 hG34 (by omega)) ?_
 rintro _ wc36 ⟨t36, rfl, ho36, hb36, hn36, hEc36⟩
 refine ⟨_, rfl, fun a hS => ?_⟩
 have hG39 : l.Ok wc36 := hG33.ext0 hEc36
 have hG40 : r.Ok wc36 := hG34.ext0 hEc36
 have hE41 := hE31.trans0 hEc36
 refine sg wide_wide [.p] [] [(0, (Pv l.b)), (1, (Pv r.b)), (2, .func (.func 54) #[] #[]), (6, (Pv t36.b)), (7, .bool false), (11, .bool false), (15, .bool false), (54, .bool false), (77, .bool false)] 4 0 hS .nil fun a hS => ?_
 refine seg_end ?_
 refine hK35 _ _ ?_
 refine wpIn_ret ?_
 refine ret1 hS Try.results56 rfl ?_
 exact ⟨t36, rfl, ho36, hb36, hE41⟩

theorem join_4 {l r : Nd} {w : World} (hl : l.Ok w) (hr : r.Ok w) (hn : l.n + r.n ≤ 100000000000) (h1 : l.hg = 0) (h0 : ¬r.hg = 0) (h2 : ¬l.hg > r.hg + 1) (h3 : ¬r.hg > l.hg + 1) :
  Calls Try.prog 56 #[(Pv l.b), (Pv r.b), .func (.func 54) #[] #[]] w fun e w' => NdR w (l.bs ++ r.bs) e w' := by
 have hh1 := hl.high
 have hh2 := hr.high
 refine calls_body 103 [(0, (Pv l.b)), (1, (Pv r.b)), (2, .func (.func 54) #[] #[])] Try.func56 rfl (by kernel_rfl) (by kernel_rfl) (by kernel_rfl) fun a hS => ?_
 have hE0 : Ext [] w w := Ext.refl _ _
 refine sq fun K1 hK1 => ?_
 refine rgn 1 ?_
 refine sg wide_wide [.p] [] [(0, (Pv l.b)), (1, (Pv r.b)), (2, .func (.func 54) #[] #[]), (6, .pointer none)] 1 0 hS .nil fun a hS => ?_
 refine seg_end ?_
 refine hK1 _ _ ?_
 refine sq fun K2 hK2 => ?_
 refine wpIn_block ?_
 refine sq fun K3 hK3 => ?_
 refine rgn 3 ?_
 refine sg wide_wide [.p, .p, .p] [] [(0, (Pv l.b)), (1, (Pv r.b)), (2, .func (.func 54) #[] #[]), (6, .pointer none), (7, .bool false)] 3 0 hS .nil fun a hS => ?_
 refine seg_end ?_
 refine hK3 _ _ ?_
 refine cond_f hS rfl ?_
 refine sq fun K4 hK4 => ?_
 refine rgn 3 ?_
 refine sg wide_wide [.p, .p, .p] [] [(0, (Pv l.b)), (1, (Pv r.b)), (2, .func (.func 54) #[] #[]), (6, .pointer none), (7, .bool false), (11, .bool false)] 3 0 hS .nil fun a hS => ?_
 refine seg_end ?_
 refine hK4 _ _ ?_
 refine cond_f hS rfl ?_
 refine sq fun K5 hK5 => ?_
 refine region_fn2 wide_wide [.q .p, .q .p, .q .p, .q (.ld (I6 ↑l.hg)), .q (.as (.bool true)), .q .p, .q .p, .q .p, .q .p, .q (.ld (I6 ↑r.hg)), .q (.as (.bool false)), .q .p, .q .p, .q .no, .q .no, .q .no, .q .no, .q .no, .q .no, .q .no, .q .no, .q .no, .q .no, .q .no, .q .no, .q .p, .q .p] [0, 0, 0, 0, 0, 0, 0, 0, 0, 0, 0, 0, 0, 0, 0, 0, 0, 0, 0, 0, 0, 0, 0, 0, 0, 0, 0] [0, 0, 0, 0, 0, 0, 0, 0, 0, 0, 0, 0, 0, 0, 0, 0, 0, 0, 0, 0, 0, 0, 0, 0, 0, 0, 0] [0, 1, 3, 7, 15, 31, 63, 127, 255, 511, 1023, 2047, 4095, 8191, 16383, 32767, 65535, 131071, 8191, 270335, 794623, 1843199, 3940351, 8388607, 16777215, 33554431, 67108863] [] 0 ([(0, (Pv l.b)), (1, (Pv r.b)), (2, .func (.func 54) #[] #[]), (6, .pointer none), (7, .bool false), (11, .bool false), (16, (Pv l.b)), (17, (Pv l.b)), (18, (Po l.b 5)), (19, I6 ↑l.hg), (20, .bool true), (21, .bool true), (22, (Pv r.b)), (23, (Pv r.b)), (24, (Po r.b 5)), (25, I6 ↑r.hg), (26, .bool false), (27, .bool false), (28, .bool false), (29, undef), (30, undef), (31, undef), (32, undef), (33, undef), (34, undef), (35, undef), (36, undef), (37, undef), (38, undef), (39, undef), (40, undef), (41, .bool false), (15, .bool false)]) [w.drew] w.drew (fun w' => [(3, [w'.cell? ⟨l.b, 5, none⟩ = some (I6 ↑l.hg)]), (4, [Value.bool (((↑l.hg : Int) == 0)) = .bool true]), (9, [w'.cell? ⟨r.b, 5, none⟩ = some (I6 ↑r.hg)]), (10, [Value.bool (((↑r.hg : Int) == 0)) = .bool false])]) [0, 1, 2, 6, 7, 11] [] hS (by kernel_rfl) (by kernel_rfl) (by kernel_rfl) (by kernel_rfl) (fun _ => by kernel_rfl) (by kernel_rfl) (by kernel_rfl) (by kernel_rfl) ?_ ?_ ?_
 ·intro e w' hw
  refine (.cons ?_ (.cons ?_ (.cons ?_ (.cons ?_ .nil))))
  ·intro h1 h2
   obtain rfl : e = 0 := Nat.le_antisymm h2 h1
   obtain rfl : w' = w.drew := hw.trans (by kernel_rfl)
   exact (.cons ((hl.blk.drew : Blk w.drew l.b 89 (#[l.lp, l.rp, l.pv, I6 ↑l.n, I6 ↑l.rw, I6 ↑l.hg])).cell 5 rfl) .nil)
  ·exact fun _ _ => (.cons (as_eq_t (by omega)) .nil)
  ·intro h1 h2
   obtain rfl : e = 0 := Nat.le_antisymm h2 h1
   obtain rfl : w' = w.drew := hw.trans (by kernel_rfl)
   exact (.cons ((hr.blk.drew : Blk w.drew r.b 89 (#[r.lp, r.rp, r.pv, I6 ↑r.n, I6 ↑r.rw, I6 ↑r.hg])).cell 5 rfl) .nil)
  ·exact fun _ _ => (.cons (as_eq_f (by omega)) .nil)
 ·refine .nil
 rintro a w7 hS hw8
 replace hw8 : w7 = w.drew := hw8.trans (by kernel_rfl)
 have hB9 := Blk.at' hw8 (hl.blk.drew)
 have hB10 := Blk.at' hw8 (hr.blk.drew)
 have hE11 : Ext [] w w7 := by rw [hw8]; exact hE0.drew
 have hX12 : Ext [] w w7 := by rw [hw8]; exact (Ext.refl _ _).drew
 have hG13 : l.Ok w7 := hl.ext0 hX12
 have hG14 : r.Ok w7 := hr.ext0 hX12
 replace hS := hS.kp [(0, (Pv l.b)), (1, (Pv r.b)), (2, .func (.func 54) #[] #[]), (6, .pointer none), (7, .bool false), (11, .bool false), (15, .bool false)]
 refine hK5 _ _ ?_
 refine cond_f hS rfl ?_
 refine sq fun K15 hK15 => ?_
 refine region_fn2 wide_wide [.q .p, .q .p, .q .p, .q (.ld (I6 ↑l.hg)), .q .p, .q .p, .q .p, .q (.ld (I6 ↑r.hg)), .q (.as (I6 (↑r.hg + 1))), .q (.as (.bool false)), .q .p] [0, 0, 0, 0, 0, 0, 0, 0, 0, 0, 0] [0, 0, 0, 0, 0, 0, 0, 0, 0, 0, 0] [0, 1, 3, 7, 0, 16, 48, 112, 240, 511, 1023] [] 0 ([(0, (Pv l.b)), (1, (Pv r.b)), (2, .func (.func 54) #[] #[]), (6, .pointer none), (7, .bool false), (11, .bool false), (15, .bool false), (55, (Pv l.b)), (56, (Pv l.b)), (57, (Po l.b 5)), (58, I6 ↑l.hg), (59, (Pv r.b)), (60, (Pv r.b)), (61, (Po r.b 5)), (62, I6 ↑r.hg), (63, I6 (↑r.hg + 1)), (64, .bool false), (54, .bool false)]) [w7.drew] w7.drew (fun w' => [(3, [w'.cell? ⟨l.b, 5, none⟩ = some (I6 ↑l.hg)]), (7, [w'.cell? ⟨r.b, 5, none⟩ = some (I6 ↑r.hg)]), (8, [Value.int .i64 (IntKind.i64.wrap (↑r.hg + 1)) = I6 (↑r.hg + 1)]), (9, [Value.bool (decide ((↑l.hg : Int) > ↑r.hg + 1)) = .bool false])]) [0, 1, 2, 6, 7, 11, 15] [] hS (by kernel_rfl) (by kernel_rfl) (by kernel_rfl) (by kernel_rfl) (fun _ => by kernel_rfl) (by kernel_rfl) (by kernel_rfl) (by kernel_rfl) ?_ ?_ ?_
 ·intro e w' hw
  refine (.cons ?_ (.cons ?_ (.cons ?_ (.cons ?_ .nil))))
  ·intro h1 h2
   obtain rfl : e = 0 := Nat.le_antisymm h2 h1
   obtain rfl : w' = w7.drew := hw.trans (by kernel_rfl)
   exact (.cons ((hB9.drew : Blk w7.drew l.b 89 (#[l.lp, l.rp, l.pv, I6 ↑l.n, I6 ↑l.rw, I6 ↑l.hg])).cell 5 rfl) .nil)
  ·intro h1 h2
   obtain rfl : e = 0 := Nat.le_antisymm h2 h1
   obtain rfl : w' = w7.drew := hw.trans (by kernel_rfl)
   exact (.cons ((hB10.drew : Blk w7.drew r.b 89 (#[r.lp, r.rp, r.pv, I6 ↑r.n, I6 ↑r.rw, I6 ↑r.hg])).cell 5 rfl) .nil)
  ·exact fun _ _ => (.cons (as_i64 (by omega)) .nil)
  ·exact fun _ _ => (.cons (as_f (by omega)) .nil)
 ·refine .nil
 rintro a w17 hS hw18
 replace hw18 : w17 = w7.drew := hw18.trans (by kernel_rfl)
 have hB19 := Blk.at' hw18 (hB9.drew)
 have hB20 := Blk.at' hw18 (hB10.drew)
 have hE21 : Ext [] w w17 := by rw [hw18]; exact hE11.drew
 have hX22 : Ext [] w7 w17 := by rw [hw18]; exact (Ext.refl _ _).drew
 have hG23 : l.Ok w17 := hG13.ext0 hX22
 have hG24 : r.Ok w17 := hG14.ext0 hX22
 replace hS := hS.kp [(0, (Pv l.b)), (1, (Pv r.b)), (2, .func (.func 54) #[] #[]), (6, .pointer none), (7, .bool false), (11, .bool false), (15, .bool false), (54, .bool false)]
 refine hK15 _ _ ?_
 refine cond_f hS rfl ?_
 refine sq fun K25 hK25 => ?_
 refine region_fn2 wide_wide [.q .p, .q .p, .q .p, .q (.ld (I6 ↑r.hg)), .q .p, .q .p, .q .p, .q (.ld (I6 ↑l.hg)), .q (.as (I6 (↑l.hg + 1))), .q (.as (.bool false)), .q .p] [0, 0, 0, 0, 0, 0, 0, 0, 0, 0, 0] [0, 0, 0, 0, 0, 0, 0, 0, 0, 0, 0] [0, 1, 3, 7, 0, 16, 48, 112, 240, 511, 1023] [] 0 ([(0, (Pv l.b)), (1, (Pv r.b)), (2, .func (.func 54) #[] #[]), (6, .pointer none), (7, .bool false), (11, .bool false), (15, .bool false), (54, .bool false), (78, (Pv r.b)), (79, (Pv r.b)), (80, (Po r.b 5)), (81, I6 ↑r.hg), (82, (Pv l.b)), (83, (Pv l.b)), (84, (Po l.b 5)), (85, I6 ↑l.hg), (86, I6 (↑l.hg + 1)), (87, .bool false), (77, .bool false)]) [w17.drew] w17.drew (fun w' => [(3, [w'.cell? ⟨r.b, 5, none⟩ = some (I6 ↑r.hg)]), (7, [w'.cell? ⟨l.b, 5, none⟩ = some (I6 ↑l.hg)]), (8, [Value.int .i64 (IntKind.i64.wrap (↑l.hg + 1)) = I6 (↑l.hg + 1)]), (9, [Value.bool (decide ((↑r.hg : Int) > ↑l.hg + 1)) = .bool false])]) [0, 1, 2, 6, 7, 11, 15, 54] [] hS (by kernel_rfl) (by kernel_rfl) (by kernel_rfl) (by kernel_rfl) (fun _ => by kernel_rfl) (by kernel_rfl) (by kernel_rfl) (by kernel_rfl) ?_ ?_ ?_
 ·intro e w' hw
  refine (.cons ?_ (.cons ?_ (.cons ?_ (.cons ?_ .nil))))
  ·intro h1 h2
   obtain rfl : e = 0 := Nat.le_antisymm h2 h1
   obtain rfl : w' = w17.drew := hw.trans (by kernel_rfl)
   exact (.cons ((hB20.drew : Blk w17.drew r.b 89 (#[r.lp, r.rp, r.pv, I6 ↑r.n, I6 ↑r.rw, I6 ↑r.hg])).cell 5 rfl) .nil)
  ·intro h1 h2
   obtain rfl : e = 0 := Nat.le_antisymm h2 h1
   obtain rfl : w' = w17.drew := hw.trans (by kernel_rfl)
   exact (.cons ((hB19.drew : Blk w17.drew l.b 89 (#[l.lp, l.rp, l.pv, I6 ↑l.n, I6 ↑l.rw, I6 ↑l.hg])).cell 5 rfl) .nil)
  ·exact fun _ _ => (.cons (as_i64 (by omega)) .nil)
  ·exact fun _ _ => (.cons (as_f (by omega)) .nil)
 ·refine .nil
 rintro a w27 hS hw28
 replace hw28 : w27 = w17.drew := hw28.trans (by kernel_rfl)
 have hE31 : Ext [] w w27 := by rw [hw28]; exact hE21.drew
 have hX32 : Ext [] w17 w27 := by rw [hw28]; exact (Ext.refl _ _).drew
 have hG33 : l.Ok w27 := hG23.ext0 hX32
 have hG34 : r.Ok w27 := hG24.ext0 hX32
 replace hS := hS.kp [(0, (Pv l.b)), (1, (Pv r.b)), (2, .func (.func 54) #[] #[]), (6, .pointer none), (7, .bool false), (11, .bool false), (15, .bool false), (54, .bool false), (77, .bool false)]
 refine hK25 _ _ ?_
 refine cond_f hS rfl ?_
 refine wpIn_skip ?_
 refine inBlock_normal ?_
 refine hK2 _ _ ?_
 refine sq fun K35 hK35 => ?_
 refine rgn 4 ?_
 refine sg wide_wide [.p, .p] [] [(0, (Pv l.b)), (1, (Pv r.b)), (2, .func (.func 54) #[] #[]), (6, .pointer none), (7, .bool false), (11, .bool false), (15, .bool false), (54, .bool false), (77, .bool false), (100, (Pv l.b)), (101, (Pv r.b))] 2 2 hS .nil fun a hS => ?_
 refine eff_call wide_wide (r := 1) (f := 69) (vs := [(Pv l.b), (Pv r.b)]) (cap := #[]) (d := (some 102)) hS (by kernel_rfl) Try.call69 #[(Pv l.b), (Pv r.b)] (by kernel_rfl) (over_any hG33 hG34 (by omega)) ?_
 rintro _ wc36 ⟨t36, rfl, ho36, hb36, hn36, hEc36⟩
 refine ⟨_, rfl, fun a hS => ?_⟩
 have hG39 : l.Ok wc36 := hG33.ext0 hEc36
 have hG40 : r.Ok wc36 := hG34.ext0 hEc36
 have hE41 := hE31.trans0 hEc36
 refine sg wide_wide [.p] [] [(0, (Pv l.b)), (1, (Pv r.b)), (2, .func (.func 54) #[] #[]), (6, (Pv t36.b)), (7, .bool false), (11, .bool false), (15, .bool false), (54, .bool false), (77, .bool false)] 4 0 hS .nil fun a hS => ?_
 refine seg_end ?_
 refine hK35 _ _ ?_
 refine wpIn_ret ?_
 refine ret1 hS Try.results56 rfl ?_
 exact ⟨t36, rfl, ho36, hb36, hE41⟩

theorem join_5 {l r : Nd} {w : World} (hl : l.Ok w) (hr : r.Ok w) (hn : l.n + r.n ≤ 100000000000) {ll lr : Nd} (hB : Blk w l.b 89 #[(Pv ll.b), (Pv lr.b), .slice none 0 0, I6 ↑l.n, I6 ↑l.rw, I6 ↑l.hg]) (hll : ll.Ok w) (hlr : lr.Ok w) (hnl : l.n = ll.n + lr.n) (hbsl : l.bs = ll.bs ++ lr.bs) (ih : ∀ W, Ext [] w W → Calls Try.prog 56 #[Pv lr.b, Pv r.b, .func (.func 54) #[] #[]] W (NdN W (lr.bs ++ r.bs) (lr.n + r.n))) (h2 : l.hg > r.hg + 1) :
  Calls Try.prog 56 #[(Pv l.b), (Pv r.b), .func (.func 54) #[] #[]] w fun e w' => NdR w (l.bs ++ r.bs) e w' := by
 have hh1 := hl.high
 have hh2 := hr.high
 refine calls_body 103 [(0, (Pv l.b)), (1, (Pv r.b)), (2, .func (.func 54) #[] #[])] Try.func56 rfl (by kernel_rfl) (by kernel_rfl) (by kernel_rfl) fun a hS => ?_
 have hE0 : Ext [] w w := Ext.refl _ _
 refine sq fun K1 hK1 => ?_
 refine rgn 1 ?_
 refine sg wide_wide [.p] [] [(0, (Pv l.b)), (1, (Pv r.b)), (2, .func (.func 54) #[] #[]), (6, .pointer none)] 1 0 hS .nil fun a hS => ?_
 refine seg_end ?_
 refine hK1 _ _ ?_
 refine sq fun K2 hK2 => ?_
 refine wpIn_block ?_
 refine sq fun K3 hK3 => ?_
 refine rgn 3 ?_
 refine sg wide_wide [.p, .p, .p] [] [(0, (Pv l.b)), (1, (Pv r.b)), (2, .func (.func 54) #[] #[]), (6, .pointer none), (7, .bool false)] 3 0 hS .nil fun a hS => ?_
 refine seg_end ?_
 refine hK3 _ _ ?_
 refine cond_f hS rfl ?_
 refine sq fun K4 hK4 => ?_
 refine rgn 3 ?_
 refine sg wide_wide [.p, .p, .p] [] [(0, (Pv l.b)), (1, (Pv r.b)), (2, .func (.func 54) #[] #[]), (6, .pointer none), (7, .bool false), (11, .bool false)] 3 0 hS .nil fun a hS => ?_
 refine seg_end ?_
 refine hK4 _ _ ?_
 refine cond_f hS rfl ?_
 refine sq fun K5 hK5 => ?_
 refine region_fn2 wide_wide [.q .p, .q .p, .q .p, .q (.ld (I6 ↑l.hg)), .q (.as (.bool false)), .q .p, .q .no, .q .no, .q .no, .q .no, .q .no, .q .p, .q .p, .q .no, .q .no, .q .no, .q .no, .q .no, .q .no, .q .no, .q .no, .q .no, .q .no, .q .no, .q .no, .q .p, .q .p] [0, 0, 0, 0, 0, 0, 0, 0, 0, 0, 0, 0, 0, 0, 0, 0, 0, 0, 0, 0, 0, 0, 0, 0, 0, 0, 0] [0, 0, 0, 0, 0, 0, 0, 0, 0, 0, 0, 0, 0, 0, 0, 0, 0, 0, 0, 0, 0, 0, 0, 0, 0, 0, 0] [0, 1, 3, 7, 15, 31, 63, 127, 255, 511, 1023, 2047, 4095, 8191, 16383, 32767, 65535, 131071, 8191, 270335, 794623, 1843199, 3940351, 8388607, 16777215, 33554431, 67108863] [] 0 ([(0, (Pv l.b)), (1, (Pv r.b)), (2, .func (.func 54) #[] #[]), (6, .pointer none), (7, .bool false), (11, .bool false), (16, (Pv l.b)), (17, (Pv l.b)), (18, (Po l.b 5)), (19, I6 ↑l.hg), (20, .bool false), (21, .bool false), (22, undef), (23, undef), (24, undef), (25, undef), (26, undef), (27, .bool false), (28, .bool false), (29, undef), (30, undef), (31, undef), (32, undef), (33, undef), (34, undef), (35, undef), (36, undef), (37, undef), (38, undef), (39, undef), (40, undef), (41, .bool false), (15, .bool false)]) [w.drew] w.drew (fun w' => [(3, [w'.cell? ⟨l.b, 5, none⟩ = some (I6 ↑l.hg)]), (4, [Value.bool (((↑l.hg : Int) == 0)) = .bool false])]) [0, 1, 2, 6, 7, 11] [] hS (by kernel_rfl) (by kernel_rfl) (by kernel_rfl) (by kernel_rfl) (fun _ => by kernel_rfl) (by kernel_rfl) (by kernel_rfl) (by kernel_rfl) ?_ ?_ ?_
 ·intro e w' hw
  refine (.cons ?_ (.cons ?_ .nil))
  ·intro h1 h2
   obtain rfl : e = 0 := Nat.le_antisymm h2 h1
   obtain rfl : w' = w.drew := hw.trans (by kernel_rfl)
   exact (.cons ((hB.drew : Blk w.drew l.b 89 (#[(Pv ll.b), (Pv lr.b), .slice none 0 0, I6 ↑l.n, I6 ↑l.rw, I6 ↑l.hg])).cell 5 rfl) .nil)
  ·exact fun _ _ => (.cons (as_eq_f (by omega)) .nil)
 ·refine .nil
 rintro a w7 hS hw8
 replace hw8 : w7 = w.drew := hw8.trans (by kernel_rfl)
 have hB9 := Blk.at' hw8 (hB.drew)
 have hB10 := Blk.at' hw8 (hr.blk.drew)
 have hE11 : Ext [] w w7 := by rw [hw8]; exact hE0.drew
 have hX12 : Ext [] w w7 := by rw [hw8]; exact (Ext.refl _ _).drew
 have hG13 : l.Ok w7 := hl.ext0 hX12
 have hG14 : r.Ok w7 := hr.ext0 hX12
 have hG15 : ll.Ok w7 := hll.ext0 hX12
 have hG16 : lr.Ok w7 := hlr.ext0 hX12
 replace hS := hS.kp [(0, (Pv l.b)), (1, (Pv r.b)), (2, .func (.func 54) #[] #[]), (6, .pointer none), (7, .bool false), (11, .bool false), (15, .bool false)]
 refine hK5 _ _ ?_
 refine cond_f hS rfl ?_
 refine sq fun K17 hK17 => ?_
 refine region_fn2 wide_wide [.q .p, .q .p, .q .p, .q (.ld (I6 ↑l.hg)), .q .p, .q .p, .q .p, .q (.ld (I6 ↑r.hg)), .q (.as (I6 (↑r.hg + 1))), .q (.as (.bool true)), .q .p] [0, 0, 0, 0, 0, 0, 0, 0, 0, 0, 0] [0, 0, 0, 0, 0, 0, 0, 0, 0, 0, 0] [0, 1, 3, 7, 0, 16, 48, 112, 240, 511, 1023] [] 0 ([(0, (Pv l.b)), (1, (Pv r.b)), (2, .func (.func 54) #[] #[]), (6, .pointer none), (7, .bool false), (11, .bool false), (15, .bool false), (55, (Pv l.b)), (56, (Pv l.b)), (57, (Po l.b 5)), (58, I6 ↑l.hg), (59, (Pv r.b)), (60, (Pv r.b)), (61, (Po r.b 5)), (62, I6 ↑r.hg), (63, I6 (↑r.hg + 1)), (64, .bool true), (54, .bool true)]) [w7.drew] w7.drew (fun w' => [(3, [w'.cell? ⟨l.b, 5, none⟩ = some (I6 ↑l.hg)]), (7, [w'.cell? ⟨r.b, 5, none⟩ = some (I6 ↑r.hg)]), (8, [Value.int .i64 (IntKind.i64.wrap (↑r.hg + 1)) = I6 (↑r.hg + 1)]), (9, [Value.bool (decide ((↑l.hg : Int) > ↑r.hg + 1)) = .bool true])]) [0, 1, 2, 6, 7, 11, 15] [] hS (by kernel_rfl) (by kernel_rfl) (by kernel_rfl) (by kernel_rfl) (fun _ => by kernel_rfl) (by kernel_rfl) (by kernel_rfl) (by kernel_rfl) ?_ ?_ ?_
 ·intro e w' hw
  refine (.cons ?_ (.cons ?_ (.cons ?_ (.cons ?_ .nil))))
  ·intro h1 h2
   obtain rfl : e = 0 := Nat.le_antisymm h2 h1
   obtain rfl : w' = w7.drew := hw.trans (by kernel_rfl)
   exact (.cons ((hB9.drew : Blk w7.drew l.b 89 (#[(Pv ll.b), (Pv lr.b), .slice none 0 0, I6 ↑l.n, I6 ↑l.rw, I6 ↑l.hg])).cell 5 rfl) .nil)
  ·intro h1 h2
   obtain rfl : e = 0 := Nat.le_antisymm h2 h1
   obtain rfl : w' = w7.drew := hw.trans (by kernel_rfl)
   exact (.cons ((hB10.drew : Blk w7.drew r.b 89 (#[r.lp, r.rp, r.pv, I6 ↑r.n, I6 ↑r.rw, I6 ↑r.hg])).cell 5 rfl) .nil)
  ·exact fun _ _ => (.cons (as_i64 (by omega)) .nil)
  ·exact fun _ _ => (.cons (as_t (by omega)) .nil)
 ·refine .nil
 rintro a w19 hS hw20
 replace hw20 : w19 = w7.drew := hw20.trans (by kernel_rfl)
 have hB21 := Blk.at' hw20 (hB9.drew)
 have hE23 : Ext [] w w19 := by rw [hw20]; exact hE11.drew
 have hX24 : Ext [] w7 w19 := by rw [hw20]; exact (Ext.refl _ _).drew
 have hG25 : l.Ok w19 := hG13.ext0 hX24
 have hG26 : r.Ok w19 := hG14.ext0 hX24
 have hG27 : ll.Ok w19 := hG15.ext0 hX24
 have hG28 : lr.Ok w19 := hG16.ext0 hX24
 replace hS := hS.kp [(0, (Pv l.b)), (1, (Pv r.b)), (2, .func (.func 54) #[] #[]), (6, .pointer none), (7, .bool false), (11, .bool false), (15, .bool false), (54, .bool true)]
 refine hK17 _ _ ?_
 refine cond_t hS rfl ?_
 refine sq fun K29 hK29 => ?_
 refine region_gh2 (G := Nd × World × Nd × World) wide_wide [.q .p, .q .p, .q .p, .q (.ld ((Pv ll.b))), .q .p, .q .p, .q .p, .q (.ld ((Pv lr.b))), .q .p, .q .p, .e, .e, .q .p] [0, 0, 0, 0, 0, 0, 0, 0, 0, 0, 0, 1, 2] [1, 1, 1, 1, 0, 0, 0, 0, 0, 0, 0, 1, 2] [0, 1, 3, 7, 0, 16, 48, 112, 0, 0, 1008, 2047, 4095] [10, 11] [(10, 0), (11, 1)] 2 (fun ⟨t30, wc30, y31, wc31⟩ => ([(0, (Pv l.b)), (1, (Pv r.b)), (2, .func (.func 54) #[] #[]), (7, .bool false), (11, .bool false), (15, .bool false), (54, .bool true), (6, (Pv y31.b)), (65, (Pv l.b)), (66, (Pv l.b)), (67, (Pv l.b)), (68, (Pv ll.b)), (69, (Pv l.b)), (70, (Pv l.b)), (71, (Po l.b 1)), (72, (Pv lr.b)), (73, (Pv r.b)), (74, .func (.func 54) #[] #[]), (75, (Pv t30.b)), (76, (Pv y31.b))] : Fm)) (fun ⟨t30, wc30, y31, wc31⟩ => [w19.drew, wc30, wc31]) (w19.drew) (fun e ⟨t30, wc30, y31, wc31⟩ => hAt [True, (t30.Ok wc30) ∧ (t30.bs = lr.bs ++ r.bs) ∧ (t30.n = lr.n + r.n) ∧ (Ext [] w19.drew wc30) ∧ True, (t30.Ok wc30) ∧ (t30.bs = lr.bs ++ r.bs) ∧ (t30.n = lr.n + r.n) ∧ (Ext [] w19.drew wc30) ∧ (y31.Ok wc31) ∧ (y31.bs = ll.bs ++ t30.bs) ∧ (Ext [] wc30 wc31) ∧ True] e) (fun ⟨t30, wc30, y31, wc31⟩ w' => [(3, [w'.cell? ⟨l.b, 0, none⟩ = some ((Pv ll.b))]), (7, [w'.cell? ⟨l.b, 1, none⟩ = some ((Pv lr.b))])]) ((Nd.leaf 0 undef []), w19.drew, (Nd.leaf 0 undef []), w) [0, 1, 2, 7, 11, 15, 54] [] hS (by kernel_rfl) (by kernel_rfl) (by kernel_rfl) (by kernel_rfl) (fun ⟨t30, wc30, y31, wc31⟩ _ => by kernel_rfl) (by kernel_rfl) (by kernel_rfl) (by kernel_rfl) trivial ?_ (by kernel_rfl) ?_ ?_
 ·rintro e ⟨t30, wc30, y31, wc31⟩ w' hw hH
  refine (.cons ?_ (.cons ?_ .nil))
  ·intro h1 h2
   replace h1 : 0 ≤ e := h1
   replace h2 : e ≤ 1 := h2
   have he : e = 0 ∨ e = 1 := by omega
   rcases he with rfl | rfl
   ·have hwe : w19.drew = w' := (hw.trans (by kernel_rfl)).symm
    subst hwe
    clear hH
    exact (.cons ((hB21.drew : Blk w19.drew l.b 89 (#[(Pv ll.b), (Pv lr.b), .slice none 0 0, I6 ↑l.n, I6 ↑l.rw, I6 ↑l.hg])).cell 0 rfl) .nil)
   ·have hwe : wc30 = w' := (hw.trans (by kernel_rfl)).symm
    subst hwe
    obtain ⟨ho30, hb30, hn30, hEc30, _⟩ := hH
    exact (.cons (((hB21.drew : Blk w19.drew l.b 89 (#[(Pv ll.b), (Pv lr.b), .slice none 0 0, I6 ↑l.n, I6 ↑l.rw, I6 ↑l.hg])).ext hEc30 (by simp) : Blk wc30 l.b 89 (#[(Pv ll.b), (Pv lr.b), .slice none 0 0, I6 ↑l.n, I6 ↑l.rw, I6 ↑l.hg])).cell 0 rfl) .nil)
  ·intro h1 h2
   obtain rfl : e = 0 := Nat.le_antisymm h2 h1
   have hwe : w19.drew = w' := (hw.trans (by kernel_rfl)).symm
   subst hwe
   clear hH
   exact (.cons ((hB21.drew : Blk w19.drew l.b 89 (#[(Pv ll.b), (Pv lr.b), .slice none 0 0, I6 ↑l.n, I6 ↑l.rw, I6 ↑l.hg])).cell 1 rfl) .nil)
 ·refine (.cons ?eq32_10 (.cons ?eq32_11 .nil))
  ·rintro ⟨t30, wc30, y31, wc31⟩ hH
   clear hH
   refine eff_gh (w19.drew) (by kernel_rfl) ?_
   refine upon_call (f := 56) (vs := [(Pv lr.b), (Pv r.b), .func (.func 54) #[] #[]]) (cap := #[]) (d := (some 75)) (by kernel_rfl) Try.call56 #[(Pv lr.b), (Pv r.b), .func (.func 54) #[] #[]] (by kernel_rfl) (ih w19.drew (hE23.trans0 ((Ext.refl [] _).drew))) ?_
   rintro _ wc30 ⟨t30, rfl, ho30, hb30, hn30, hEc30⟩
   exact ⟨_, rfl, ⟨(t30, wc30, y31, wc31), by kernel_rfl, by kernel_rfl, by kernel_rfl, ⟨ho30, hb30, hn30, hEc30, trivial⟩⟩⟩
  ·rintro ⟨t30, wc30, y31, wc31⟩ hH
   obtain ⟨ho30, hb30, hn30, hEc30, _⟩ := hH
   refine eff_gh (wc30) (by kernel_rfl) ?_
   refine upon_call (f := 68) (vs := [(Pv ll.b), (Pv t30.b)]) (cap := #[]) (d := (some 76)) (by kernel_rfl) Try.call68 #[(Pv ll.b), (Pv t30.b)] (by kernel_rfl) (beside_any ((hG27.ext0 ((Ext.refl [] _).drew)).ext0 hEc30) ho30 (by omega)) ?_
   rintro _ wc31 ⟨y31, rfl, hz31, hy31, hEc31⟩
   exact ⟨_, rfl, ⟨(t30, wc30, y31, wc31), by kernel_rfl, by kernel_rfl, by kernel_rfl, ⟨ho30, hb30, hn30, hEc30, hz31, hy31, hEc31, trivial⟩⟩⟩
 rintro ⟨t30, wc30, y31, wc31⟩ a w33 hS hw34 hH
 obtain ⟨ho30, hb30, hn30, hEc30, hz31, hy31, hEc31, _⟩ := hH
 replace hw34 : w33 = wc31 := hw34.trans (by kernel_rfl)
 have hE37 : Ext [] w w33 := by rw [hw34]; exact ((hE23.drew).trans0 hEc30).trans0 hEc31
 have hX38 : Ext [] w19 w33 := by rw [hw34]; exact (((Ext.refl _ _).drew).trans0 hEc30).trans0 hEc31
 have hG39 : l.Ok w33 := hG25.ext0 hX38
 have hG40 : r.Ok w33 := hG26.ext0 hX38
 have hG41 : ll.Ok w33 := hG27.ext0 hX38
 have hG42 : lr.Ok w33 := hG28.ext0 hX38
 replace hS := hS.kp [(0, (Pv l.b)), (1, (Pv r.b)), (2, .func (.func 54) #[] #[]), (7, .bool false), (11, .bool false), (15, .bool false), (54, .bool true), (6, (Pv y31.b))]
 refine hK29 _ _ ?_
 refine wpIn_ret ?_
 refine inBlock_ret ?_
 refine then_ret ?_
 refine ret1 hS Try.results56 rfl ?_
 exact ⟨y31, rfl, by rw [hw34]; exact hz31, by simp only [hy31, hb30, hbsl, List.append_assoc], hE37⟩

theorem join_6 {l r : Nd} {w : World} (hl : l.Ok w) (hr : r.Ok w) (hn : l.n + r.n ≤ 100000000000) {rl rr : Nd} (hB : Blk w r.b 89 #[(Pv rl.b), (Pv rr.b), .slice none 0 0, I6 ↑r.n, I6 ↑r.rw, I6 ↑r.hg]) (hrl : rl.Ok w) (hrr : rr.Ok w) (hnr : r.n = rl.n + rr.n) (hbsr : r.bs = rl.bs ++ rr.bs) (ih : ∀ W, Ext [] w W → Calls Try.prog 56 #[Pv l.b, Pv rl.b, .func (.func 54) #[] #[]] W (NdN W (l.bs ++ rl.bs) (l.n + rl.n))) (h1 : ¬l.hg = 0) (h2 : r.hg > l.hg + 1) :
  Calls Try.prog 56 #[(Pv l.b), (Pv r.b), .func (.func 54) #[] #[]] w fun e w' => NdR w (l.bs ++ r.bs) e w' := by
 have hh1 := hl.high
 have hh2 := hr.high
 refine calls_body 103 [(0, (Pv l.b)), (1, (Pv r.b)), (2, .func (.func 54) #[] #[])] Try.func56 rfl (by kernel_rfl) (by kernel_rfl) (by kernel_rfl) fun a hS => ?_
 have hE0 : Ext [] w w := Ext.refl _ _
 refine sq fun K1 hK1 => ?_
 refine rgn 1 ?_
 refine sg wide_wide [.p] [] [(0, (Pv l.b)), (1, (Pv r.b)), (2, .func (.func 54) #[] #[]), (6, .pointer none)] 1 0 hS .nil fun a hS => ?_
 refine seg_end ?_
 refine hK1 _ _ ?_
 refine sq fun K2 hK2 => ?_
 refine wpIn_block ?_
 refine sq fun K3 hK3 => ?_
 refine rgn 3 ?_
 refine sg wide_wide [.p, .p, .p] [] [(0, (Pv l.b)), (1, (Pv r.b)), (2, .func (.func 54) #[] #[]), (6, .pointer none), (7, .bool false)] 3 0 hS .nil fun a hS => ?_
 refine seg_end ?_
 refine hK3 _ _ ?_
 refine cond_f hS rfl ?_
 refine sq fun K4 hK4 => ?_
 refine rgn 3 ?_
 refine sg wide_wide [.p, .p, .p] [] [(0, (Pv l.b)), (1, (Pv r.b)), (2, .func (.func 54) #[] #[]), (6, .pointer none), (7, .bool false), (11, .bool false)] 3 0 hS .nil fun a hS => ?_
 refine seg_end ?_
 refine hK4 _ _ ?_
 refine cond_f hS rfl ?_
 refine sq fun K5 hK5 => ?_
 refine region_fn2 wide_wide [.q .p, .q .p, .q .p, .q (.ld (I6 ↑l.hg)), .q (.as (.bool false)), .q .p, .q .no, .q .no, .q .no, .q .no, .q .no, .q .p, .q .p, .q .no, .q .no, .q .no, .q .no, .q .no, .q .no, .q .no, .q .no, .q .no, .q .no, .q .no, .q .no, .q .p, .q .p] [0, 0, 0, 0, 0, 0, 0, 0, 0, 0, 0, 0, 0, 0, 0, 0, 0, 0, 0, 0, 0, 0, 0, 0, 0, 0, 0] [0, 0, 0, 0, 0, 0, 0, 0, 0, 0, 0, 0, 0, 0, 0, 0, 0, 0, 0, 0, 0, 0, 0, 0, 0, 0, 0] [0, 1, 3, 7, 15, 31, 63, 127, 255, 511, 1023, 2047, 4095, 8191, 16383, 32767, 65535, 131071, 8191, 270335, 794623, 1843199, 3940351, 8388607, 16777215, 33554431, 67108863] [] 0 ([(0, (Pv l.b)), (1, (Pv r.b)), (2, .func (.func 54) #[] #[]), (6, .pointer none), (7, .bool false), (11, .bool false), (16, (Pv l.b)), (17, (Pv l.b)), (18, (Po l.b 5)), (19, I6 ↑l.hg), (20, .bool false), (21, .bool false), (22, undef), (23, undef), (24, undef), (25, undef), (26, undef), (27, .bool false), (28, .bool false), (29, undef), (30, undef), (31, undef), (32, undef), (33, undef), (34, undef), (35, undef), (36, undef), (37, undef), (38, undef), (39, undef), (40, undef), (41, .bool false), (15, .bool false)]) [w.drew] w.drew (fun w' => [(3, [w'.cell? ⟨l.b, 5, none⟩ = some (I6 ↑l.hg)]), (4, [Value.bool (((↑l.hg : Int) == 0)) = .bool false])]) [0, 1, 2, 6, 7, 11] [] hS (by kernel_rfl) (by kernel_rfl) (by kernel_rfl) (by kernel_rfl) (fun _ => by kernel_rfl) (by kernel_rfl) (by kernel_rfl) (by kernel_rfl) ?_ ?_ ?_
 ·intro e w' hw
  refine (.cons ?_ (.cons ?_ .nil))
  ·intro h1 h2
   obtain rfl : e = 0 := Nat.le_antisymm h2 h1
   obtain rfl : w' = w.drew := hw.trans (by kernel_rfl)
   exact (.cons ((hl.blk.drew : Blk w.drew l.b 89 (#[l.lp, l.rp, l.pv, I6 ↑l.n, I6 ↑l.rw, I6 ↑l.hg])).cell 5 rfl) .nil)
  ·exact fun _ _ => (.cons (as_eq_f (by omega)) .nil)
 ·refine .nil
 rintro a w7 hS hw8
 replace hw8 : w7 = w.drew := hw8.trans (by kernel_rfl)
 have hB9 := Blk.at' hw8 (hB.drew)
 have hB10 := Blk.at' hw8 (hl.blk.drew)
 have hE11 : Ext [] w w7 := by rw [hw8]; exact hE0.drew
 have hX12 : Ext [] w w7 := by rw [hw8]; exact (Ext.refl _ _).drew
 have hG13 : l.Ok w7 := hl.ext0 hX12
 have hG14 : r.Ok w7 := hr.ext0 hX12
 have hG15 : rl.Ok w7 := hrl.ext0 hX12
 have hG16 : rr.Ok w7 := hrr.ext0 hX12
 replace hS := hS.kp [(0, (Pv l.b)), (1, (Pv r.b)), (2, .func (.func 54) #[] #[]), (6, .pointer none), (7, .bool false), (11, .bool false), (15, .bool false)]
 refine hK5 _ _ ?_
 refine cond_f hS rfl ?_
 refine sq fun K17 hK17 => ?_
 refine region_fn2 wide_wide [.q .p, .q .p, .q .p, .q (.ld (I6 ↑l.hg)), .q .p, .q .p, .q .p, .q (.ld (I6 ↑r.hg)), .q (.as (I6 (↑r.hg + 1))), .q (.as (.bool false)), .q .p] [0, 0, 0, 0, 0, 0, 0, 0, 0, 0, 0] [0, 0, 0, 0, 0, 0, 0, 0, 0, 0, 0] [0, 1, 3, 7, 0, 16, 48, 112, 240, 511, 1023] [] 0 ([(0, (Pv l.b)), (1, (Pv r.b)), (2, .func (.func 54) #[] #[]), (6, .pointer none), (7, .bool false), (11, .bool false), (15, .bool false), (55, (Pv l.b)), (56, (Pv l.b)), (57, (Po l.b 5)), (58, I6 ↑l.hg), (59, (Pv r.b)), (60, (Pv r.b)), (61, (Po r.b 5)), (62, I6 ↑r.hg), (63, I6 (↑r.hg + 1)), (64, .bool false), (54, .bool false)]) [w7.drew] w7.drew (fun w' => [(3, [w'.cell? ⟨l.b, 5, none⟩ = some (I6 ↑l.hg)]), (7, [w'.cell? ⟨r.b, 5, none⟩ = some (I6 ↑r.hg)]), (8, [Value.int .i64 (IntKind.i64.wrap (↑r.hg + 1)) = I6 (↑r.hg + 1)]), (9, [Value.bool (decide ((↑l.hg : Int) > ↑r.hg + 1)) = .bool false])]) [0, 1, 2, 6, 7, 11, 15] [] hS (by kernel_rfl) (by kernel_rfl) (by kernel_rfl) (by kernel_rfl) (fun _ => by kernel_rfl) (by kernel_rfl) (by kernel_rfl) (by kernel_rfl) ?_ ?_ ?_
 ·intro e w' hw
  refine (.cons ?_ (.cons ?_ (.cons ?_ (.cons ?_ .nil))))
  ·intro h1 h2
   obtain rfl : e = 0 := Nat.le_antisymm h2 h1
   obtain rfl : w' = w7.drew := hw.trans (by kernel_rfl)
   exact (.cons ((hB10.drew : Blk w7.drew l.b 89 (#[l.lp, l.rp, l.pv, I6 ↑l.n, I6 ↑l.rw, I6 ↑l.hg])).cell 5 rfl) .nil)
  ·intro h1 h2
   obtain rfl : e = 0 := Nat.le_antisymm h2 h1
   obtain rfl : w' = w7.drew := hw.trans (by kernel_rfl)
   exact (.cons ((hB9.drew : Blk w7.drew r.b 89 (#[(Pv rl.b), (Pv rr.b), .slice none 0 0, I6 ↑r.n, I6 ↑r.rw, I6 ↑r.hg])).cell 5 rfl) .nil)
  ·exact fun _ _ => (.cons (as_i64 (by omega)) .nil)
  ·exact fun _ _ => (.cons (as_f (by omega)) .nil)
 ·refine .nil
 rintro a w19 hS hw20
 replace hw20 : w19 = w7.drew := hw20.trans (by kernel_rfl)
 have hB21 := Blk.at' hw20 (hB9.drew)
 have hB22 := Blk.at' hw20 (hB10.drew)
 have hE23 : Ext [] w w19 := by rw [hw20]; exact hE11.drew
 have hX24 : Ext [] w7 w19 := by rw [hw20]; exact (Ext.refl _ _).drew
 have hG25 : l.Ok w19 := hG13.ext0 hX24
 have hG26 : r.Ok w19 := hG14.ext0 hX24
 have hG27 : rl.Ok w19 := hG15.ext0 hX24
 have hG28 : rr.Ok w19 := hG16.ext0 hX24
 replace hS := hS.kp [(0, (Pv l.b)), (1, (Pv r.b)), (2, .func (.func 54) #[] #[]), (6, .pointer none), (7, .bool false), (11, .bool false), (15, .bool false), (54, .bool false)]
 refine hK17 _ _ ?_
 refine cond_f hS rfl ?_
 refine sq fun K29 hK29 => ?_
 refine region_fn2 wide_wide [.q .p, .q .p, .q .p, .q (.ld (I6 ↑r.hg)), .q .p, .q .p, .q .p, .q (.ld (I6 ↑l.hg)), .q (.as (I6 (↑l.hg + 1))), .q (.as (.bool true)), .q .p] [0, 0, 0, 0, 0, 0, 0, 0, 0, 0, 0] [0, 0, 0, 0, 0, 0, 0, 0, 0, 0, 0] [0, 1, 3, 7, 0, 16, 48, 112, 240, 511, 1023] [] 0 ([(0, (Pv l.b)), (1, (Pv r.b)), (2, .func (.func 54) #[] #[]), (6, .pointer none), (7, .bool false), (11, .bool false), (15, .bool false), (54, .bool false), (78, (Pv r.b)), (79, (Pv r.b)), (80, (Po r.b 5)), (81, I6 ↑r.hg), (82, (Pv l.b)), (83, (Pv l.b)), (84, (Po l.b 5)), (85, I6 ↑l.hg), (86, I6 (↑l.hg + 1)), (87, .bool true), (77, .bool true)]) [w19.drew] w19.drew (fun w' => [(3, [w'.cell? ⟨r.b, 5, none⟩ = some (I6 ↑r.hg)]), (7, [w'.cell? ⟨l.b, 5, none⟩ = some (I6 ↑l.hg)]), (8, [Value.int .i64 (IntKind.i64.wrap (↑l.hg + 1)) = I6 (↑l.hg + 1)]), (9, [Value.bool (decide ((↑r.hg : Int) > ↑l.hg + 1)) = .bool true])]) [0, 1, 2, 6, 7, 11, 15, 54] [] hS (by kernel_rfl) (by kernel_rfl) (by kernel_rfl) (by kernel_rfl) (fun _ => by kernel_rfl) (by kernel_rfl) (by kernel_rfl) (by kernel_rfl) ?_ ?_ ?_
 ·intro e w' hw
  refine (.cons ?_ (.cons ?_ (.cons ?_ (.cons ?_ .nil))))
  ·intro h1 h2
   obtain rfl : e = 0 := Nat.le_antisymm h2 h1
   obtain rfl : w' = w19.drew := hw.trans (by kernel_rfl)
   exact (.cons ((hB21.drew : Blk w19.drew r.b 89 (#[(Pv rl.b), (Pv rr.b), .slice none 0 0, I6 ↑r.n, I6 ↑r.rw, I6 ↑r.hg])).cell 5 rfl) .nil)
  ·intro h1 h2
   obtain rfl : e = 0 := Nat.le_antisymm h2 h1
   obtain rfl : w' = w19.drew := hw.trans (by kernel_rfl)
   exact (.cons ((hB22.drew : Blk w19.drew l.b 89 (#[l.lp, l.rp, l.pv, I6 ↑l.n, I6 ↑l.rw, I6 ↑l.hg])).cell 5 rfl) .nil)
  ·exact fun _ _ => (.cons (as_i64 (by omega)) .nil)
  ·exact fun _ _ => (.cons (as_t (by omega)) .nil)
 ·refine .nil
 rintro a w31 hS hw32
 replace hw32 : w31 = w19.drew := hw32.trans (by kernel_rfl)
 have hB33 := Blk.at' hw32 (hB21.drew)
 have hE35 : Ext [] w w31 := by rw [hw32]; exact hE23.drew
 have hX36 : Ext [] w19 w31 := by rw [hw32]; exact (Ext.refl _ _).drew
 have hG37 : l.Ok w31 := hG25.ext0 hX36
 have hG38 : r.Ok w31 := hG26.ext0 hX36
 have hG39 : rl.Ok w31 := hG27.ext0 hX36
 have hG40 : rr.Ok w31 := hG28.ext0 hX36
 replace hS := hS.kp [(0, (Pv l.b)), (1, (Pv r.b)), (2, .func (.func 54) #[] #[]), (6, .pointer none), (7, .bool false), (11, .bool false), (15, .bool false), (54, .bool false), (77, .bool true)]
 refine hK29 _ _ ?_
 refine cond_t hS rfl ?_
 refine sq fun K41 hK41 => ?_
 refine region_gh2 (G := Nd × World × Nd × World) wide_wide [.q .p, .q .p, .q .p, .q .p, .q (.ld ((Pv rl.b))), .q .p, .e, .q .p, .q .p, .q .p, .q (.ld ((Pv rr.b))), .e, .q .p] [0, 0, 0, 0, 0, 0, 0, 0, 0, 0, 0, 1, 2] [0, 0, 0, 0, 0, 0, 0, 1, 1, 1, 1, 1, 2] [0, 0, 2, 6, 14, 0, 63, 0, 128, 384, 896, 2047, 4095] [6, 11] [(6, 0), (11, 1)] 2 (fun ⟨t42, wc42, y43, wc43⟩ => ([(0, (Pv l.b)), (1, (Pv r.b)), (2, .func (.func 54) #[] #[]), (7, .bool false), (11, .bool false), (15, .bool false), (54, .bool false), (77, .bool true), (6, (Pv y43.b)), (88, (Pv l.b)), (89, (Pv r.b)), (90, (Pv r.b)), (91, (Pv r.b)), (92, (Pv rl.b)), (93, .func (.func 54) #[] #[]), (94, (Pv t42.b)), (95, (Pv r.b)), (96, (Pv r.b)), (97, (Po r.b 1)), (98, (Pv rr.b)), (99, (Pv y43.b))] : Fm)) (fun ⟨t42, wc42, y43, wc43⟩ => [w31.drew, wc42, wc43]) (w31.drew) (fun e ⟨t42, wc42, y43, wc43⟩ => hAt [True, (t42.Ok wc42) ∧ (t42.bs = l.bs ++ rl.bs) ∧ (t42.n = l.n + rl.n) ∧ (Ext [] w31.drew wc42) ∧ True, (t42.Ok wc42) ∧ (t42.bs = l.bs ++ rl.bs) ∧ (t42.n = l.n + rl.n) ∧ (Ext [] w31.drew wc42) ∧ (y43.Ok wc43) ∧ (y43.bs = t42.bs ++ rr.bs) ∧ (Ext [] wc42 wc43) ∧ True] e) (fun ⟨t42, wc42, y43, wc43⟩ w' => [(4, [w'.cell? ⟨r.b, 0, none⟩ = some ((Pv rl.b))]), (10, [w'.cell? ⟨r.b, 1, none⟩ = some ((Pv rr.b))])]) ((Nd.leaf 0 undef []), w31.drew, (Nd.leaf 0 undef []), w) [0, 1, 2, 7, 11, 15, 54, 77] [] hS (by kernel_rfl) (by kernel_rfl) (by kernel_rfl) (by kernel_rfl) (fun ⟨t42, wc42, y43, wc43⟩ _ => by kernel_rfl) (by kernel_rfl) (by kernel_rfl) (by kernel_rfl) trivial ?_ (by kernel_rfl) ?_ ?_
 ·rintro e ⟨t42, wc42, y43, wc43⟩ w' hw hH
  refine (.cons ?_ (.cons ?_ .nil))
  ·intro h1 h2
   obtain rfl : e = 0 := Nat.le_antisymm h2 h1
   have hwe : w31.drew = w' := (hw.trans (by kernel_rfl)).symm
   subst hwe
   clear hH
   exact (.cons ((hB33.drew : Blk w31.drew r.b 89 (#[(Pv rl.b), (Pv rr.b), .slice none 0 0, I6 ↑r.n, I6 ↑r.rw, I6 ↑r.hg])).cell 0 rfl) .nil)
  ·intro h1 h2
   replace h1 : 0 ≤ e := h1
   replace h2 : e ≤ 1 := h2
   have he : e = 0 ∨ e = 1 := by omega
   rcases he with rfl | rfl
   ·have hwe : w31.drew = w' := (hw.trans (by kernel_rfl)).symm
    subst hwe
    clear hH
    exact (.cons ((hB33.drew : Blk w31.drew r.b 89 (#[(Pv rl.b), (Pv rr.b), .slice none 0 0, I6 ↑r.n, I6 ↑r.rw, I6 ↑r.hg])).cell 1 rfl) .nil)
   ·have hwe : wc42 = w' := (hw.trans (by kernel_rfl)).symm
    subst hwe
    obtain ⟨ho42, hb42, hn42, hEc42, _⟩ := hH
    exact (.cons (((hB33.drew : Blk w31.drew r.b 89 (#[(Pv rl.b), (Pv rr.b), .slice none 0 0, I6 ↑r.n, I6 ↑r.rw, I6 ↑r.hg])).ext hEc42 (by simp) : Blk wc42 r.b 89 (#[(Pv rl.b), (Pv rr.b), .slice none 0 0, I6 ↑r.n, I6 ↑r.rw, I6 ↑r.hg])).cell 1 rfl) .nil)
 ·refine (.cons ?eq44_6 (.cons ?eq44_11 .nil))
  ·rintro ⟨t42, wc42, y43, wc43⟩ hH
   clear hH
   refine eff_gh (w31.drew) (by kernel_rfl) ?_
   refine upon_call (f := 56) (vs := [(Pv l.b), (Pv rl.b), .func (.func 54) #[] #[]]) (cap := #[]) (d := (some 94)) (by kernel_rfl) Try.call56 #[(Pv l.b), (Pv rl.b), .func (.func 54) #[] #[]] (by kernel_rfl) (ih w31.drew (hE35.trans0 ((Ext.refl [] _).drew))) ?_
   rintro _ wc42 ⟨t42, rfl, ho42, hb42, hn42, hEc42⟩
   exact ⟨_, rfl, ⟨(t42, wc42, y43, wc43), by kernel_rfl, by kernel_rfl, by kernel_rfl, ⟨ho42, hb42, hn42, hEc42, trivial⟩⟩⟩
  ·rintro ⟨t42, wc42, y43, wc43⟩ hH
   obtain ⟨ho42, hb42, hn42, hEc42, _⟩ := hH
   refine eff_gh (wc42) (by kernel_rfl) ?_
   refine upon_call (f := 68) (vs := [(Pv t42.b), (Pv rr.b)]) (cap := #[]) (d := (some 99)) (by kernel_rfl) Try.call68 #[(Pv t42.b), (Pv rr.b)] (by kernel_rfl) (beside_any ho42 ((hG40.ext0 ((Ext.refl [] _).drew)).ext0 hEc42) (by omega)) ?_
   rintro _ wc43 ⟨y43, rfl, hz43, hy43, hEc43⟩
   exact ⟨_, rfl, ⟨(t42, wc42, y43, wc43), by kernel_rfl, by kernel_rfl, by kernel_rfl, ⟨ho42, hb42, hn42, hEc42, hz43, hy43, hEc43, trivial⟩⟩⟩
 rintro ⟨t42, wc42, y43, wc43⟩ a w45 hS hw46 hH
 obtain ⟨ho42, hb42, hn42, hEc42, hz43, hy43, hEc43, _⟩ := hH
 replace hw46 : w45 = wc43 := hw46.trans (by kernel_rfl)
 have hE49 : Ext [] w w45 := by rw [hw46]; exact ((hE35.drew).trans0 hEc42).trans0 hEc43
 have hX50 : Ext [] w31 w45 := by rw [hw46]; exact (((Ext.refl _ _).drew).trans0 hEc42).trans0 hEc43
 have hG51 : l.Ok w45 := hG37.ext0 hX50
 have hG52 : r.Ok w45 := hG38.ext0 hX50
 have hG53 : rl.Ok w45 := hG39.ext0 hX50
 have hG54 : rr.Ok w45 := hG40.ext0 hX50
 replace hS := hS.kp [(0, (Pv l.b)), (1, (Pv r.b)), (2, .func (.func 54) #[] #[]), (7, .bool false), (11, .bool false), (15, .bool false), (54, .bool false), (77, .bool true), (6, (Pv y43.b))]
 refine hK41 _ _ ?_
 refine wpIn_ret ?_
 refine inBlock_ret ?_
 refine then_ret ?_
 refine ret1 hS Try.results56 rfl ?_
 exact ⟨y43, rfl, by rw [hw46]; exact hz43, by simp only [hy43, hb42, hbsr, List.append_assoc], hE49⟩

theorem join_7 {l r : Nd} {w : World} (hl : l.Ok w) (hr : r.Ok w) (hn : l.n + r.n ≤ 100000000000) {rl rr : Nd} (hB : Blk w r.b 89 #[(Pv rl.b), (Pv rr.b), .slice none 0 0, I6 ↑r.n, I6 ↑r.rw, I6 ↑r.hg]) (hrl : rl.Ok w) (hrr : rr.Ok w) (hnr : r.n = rl.n + rr.n) (hbsr : r.bs = rl.bs ++ rr.bs) (ih : ∀ W, Ext [] w W → Calls Try.prog 56 #[Pv l.b, Pv rl.b, .func (.func 54) #[] #[]] W (NdN W (l.bs ++ rl.bs) (l.n + rl.n))) (h1 : l.hg = 0) (h2 : r.hg > l.hg + 1) :
  Calls Try.prog 56 #[(Pv l.b), (Pv r.b), .func (.func 54) #[] #[]] w fun e w' => NdR w (l.bs ++ r.bs) e w' := by
 have hh1 := hl.high
 have hh2 := hr.high
 refine calls_body 103 [(0, (Pv l.b)), (1, (Pv r.b)), (2, .func (.func 54) #[] #[])] Try.func56 rfl (by kernel_rfl) (by kernel_rfl) (by kernel_rfl) fun a hS => ?_
 have hE0 : Ext [] w w := Ext.refl _ _
 refine sq fun K1 hK1 => ?_
 refine rgn 1 ?_
 refine sg wide_wide [.p] [] [(0, (Pv l.b)), (1, (Pv r.b)), (2, .func (.func 54) #[] #[]), (6, .pointer none)] 1 0 hS .nil fun a hS => ?_
 refine seg_end ?_
 refine hK1 _ _ ?_
 refine sq fun K2 hK2 => ?_
 refine wpIn_block ?_
 refine sq fun K3 hK3 => ?_
 refine rgn 3 ?_
 refine sg wide_wide [.p, .p, .p] [] [(0, (Pv l.b)), (1, (Pv r.b)), (2, .func (.func 54) #[] #[]), (6, .pointer none), (7, .bool false)] 3 0 hS .nil fun a hS => ?_
 refine seg_end ?_
 refine hK3 _ _ ?_
 refine cond_f hS rfl ?_
 refine sq fun K4 hK4 => ?_
 refine rgn 3 ?_
 refine sg wide_wide [.p, .p, .p] [] [(0, (Pv l.b)), (1, (Pv r.b)), (2, .func (.func 54) #[] #[]), (6, .pointer none), (7, .bool false), (11, .bool false)] 3 0 hS .nil fun a hS => ?_
 refine seg_end ?_
 refine hK4 _ _ ?_
 refine cond_f hS rfl ?_
 refine sq fun K5 hK5 => ?_
 refine region_fn2 wide_wide [.q .p, .q .p, .q .p, .q (.ld (I6 ↑l.hg)), .q (.as (.bool true)), .q .p, .q .p, .q .p, .q .p, .q (.ld (I6 ↑r.hg)), .q (.as (.bool false)), .q .p, .q .p, .q .no, .q .no, .q .no, .q .no, .q .no, .q .no, .q .no, .q .no, .q .no, .q .no, .q .no, .q .no, .q .p, .q .p] [0, 0, 0, 0, 0, 0, 0, 0, 0, 0, 0, 0, 0, 0, 0, 0, 0, 0, 0, 0, 0, 0, 0, 0, 0, 0, 0] [0, 0, 0, 0, 0, 0, 0, 0, 0, 0, 0, 0, 0, 0, 0, 0, 0, 0, 0, 0, 0, 0, 0, 0, 0, 0, 0] [0, 1, 3, 7, 15, 31, 63, 127, 255, 511, 1023, 2047, 4095, 8191, 16383, 32767, 65535, 131071, 8191, 270335, 794623, 1843199, 3940351, 8388607, 16777215, 33554431, 67108863] [] 0 ([(0, (Pv l.b)), (1, (Pv r.b)), (2, .func (.func 54) #[] #[]), (6, .pointer none), (7, .bool false), (11, .bool false), (16, (Pv l.b)), (17, (Pv l.b)), (18, (Po l.b 5)), (19, I6 ↑l.hg), (20, .bool true), (21, .bool true), (22, (Pv r.b)), (23, (Pv r.b)), (24, (Po r.b 5)), (25, I6 ↑r.hg), (26, .bool false), (27, .bool false), (28, .bool false), (29, undef), (30, undef), (31, undef), (32, undef), (33, undef), (34, undef), (35, undef), (36, undef), (37, undef), (38, undef), (39, undef), (40, undef), (41, .bool false), (15, .bool false)]) [w.drew] w.drew (fun w' => [(3, [w'.cell? ⟨l.b, 5, none⟩ = some (I6 ↑l.hg)]), (4, [Value.bool (((↑l.hg : Int) == 0)) = .bool true]), (9, [w'.cell? ⟨r.b, 5, none⟩ = some (I6 ↑r.hg)]), (10, [Value.bool (((↑r.hg : Int) == 0)) = .bool false])]) [0, 1, 2, 6, 7, 11] [] hS (by kernel_rfl) (by kernel_rfl) (by kernel_rfl) (by kernel_rfl) (fun _ => by kernel_rfl) (by kernel_rfl) (by kernel_rfl) (by kernel_rfl) ?_ ?_ ?_
 ·intro e w' hw
  refine (.cons ?_ (.cons ?_ (.cons ?_ (.cons ?_ .nil))))
  ·intro h1 h2
   obtain rfl : e = 0 := Nat.le_antisymm h2 h1
   obtain rfl : w' = w.drew := hw.trans (by kernel_rfl)
   exact (.cons ((hl.blk.drew : Blk w.drew l.b 89 (#[l.lp, l.rp, l.pv, I6 ↑l.n, I6 ↑l.rw, I6 ↑l.hg])).cell 5 rfl) .nil)
  ·exact fun _ _ => (.cons (as_eq_t (by omega)) .nil)
  ·intro h1 h2
   obtain rfl : e = 0 := Nat.le_antisymm h2 h1
   obtain rfl : w' = w.drew := hw.trans (by kernel_rfl)
   exact (.cons ((hB.drew : Blk w.drew r.b 89 (#[(Pv rl.b), (Pv rr.b), .slice none 0 0, I6 ↑r.n, I6 ↑r.rw, I6 ↑r.hg])).cell 5 rfl) .nil)
  ·exact fun _ _ => (.cons (as_eq_f (by omega)) .nil)
 ·refine .nil
 rintro a w7 hS hw8
 replace hw8 : w7 = w.drew := hw8.trans (by kernel_rfl)
 have hB9 := Blk.at' hw8 (hB.drew)
 have hB10 := Blk.at' hw8 (hl.blk.drew)
 have hE11 : Ext [] w w7 := by rw [hw8]; exact hE0.drew
 have hX12 : Ext [] w w7 := by rw [hw8]; exact (Ext.refl _ _).drew
 have hG13 : l.Ok w7 := hl.ext0 hX12
 have hG14 : r.Ok w7 := hr.ext0 hX12
 have hG15 : rl.Ok w7 := hrl.ext0 hX12
 have hG16 : rr.Ok w7 := hrr.ext0 hX12
 replace hS := hS.kp [(0, (Pv l.b)), (1, (Pv r.b)), (2, .func (.func 54) #[] #[]), (6, .pointer none), (7, .bool false), (11, .bool false), (15, .bool false)]
 refine hK5 _ _ ?_
 refine cond_f hS rfl ?_
 refine sq fun K17 hK17 => ?_
 refine region_fn2 wide_wide [.q .p, .q .p, .q .p, .q (.ld (I6 ↑l.hg)), .q .p, .q .p, .q .p, .q (.ld (I6 ↑r.hg)), .q (.as (I6 (↑r.hg + 1))), .q (.as (.bool false)), .q .p] [0, 0, 0, 0, 0, 0, 0, 0, 0, 0, 0] [0, 0, 0, 0, 0, 0, 0, 0, 0, 0, 0] [0, 1, 3, 7, 0, 16, 48, 112, 240, 511, 1023] [] 0 ([(0, (Pv l.b)), (1, (Pv r.b)), (2, .func (.func 54) #[] #[]), (6, .pointer none), (7, .bool false), (11, .bool false), (15, .bool false), (55, (Pv l.b)), (56, (Pv l.b)), (57, (Po l.b 5)), (58, I6 ↑l.hg), (59, (Pv r.b)), (60, (Pv r.b)), (61, (Po r.b 5)), (62, I6 ↑r.hg), (63, I6 (↑r.hg + 1)), (64, .bool false), (54, .bool false)]) [w7.drew] w7.drew (fun w' => [(3, [w'.cell? ⟨l.b, 5, none⟩ = some (I6 ↑l.hg)]), (7, [w'.cell? ⟨r.b, 5, none⟩ = some (I6 ↑r.hg)]), (8, [Value.int .i64 (IntKind.i64.wrap (↑r.hg + 1)) = I6 (↑r.hg + 1)]), (9, [Value.bool (decide ((↑l.hg : Int) > ↑r.hg + 1)) = .bool false])]) [0, 1, 2, 6, 7, 11, 15] [] hS (by kernel_rfl) (by kernel_rfl) (by kernel_rfl) (by kernel_rfl) (fun _ => by kernel_rfl) (by kernel_rfl) (by kernel_rfl) (by kernel_rfl) ?_ ?_ ?_
 ·intro e w' hw
  refine (.cons ?_ (.cons ?_ (.cons ?_ (.cons ?_ .nil))))
  ·intro h1 h2
   obtain rfl : e = 0 := Nat.le_antisymm h2 h1
   obtain rfl : w' = w7.drew := hw.trans (by kernel_rfl)
   exact (.cons ((hB10.drew : Blk w7.drew l.b 89 (#[l.lp, l.rp, l.pv, I6 ↑l.n, I6 ↑l.rw, I6 ↑l.hg])).cell 5 rfl) .nil)
  ·intro h1 h2
   obtain rfl : e = 0 := Nat.le_antisymm h2 h1
   obtain rfl : w' = w7.drew := hw.trans (by kernel_rfl)
   exact (.cons ((hB9.drew : Blk w7.drew r.b 89 (#[(Pv rl.b), (Pv rr.b), .slice none 0 0, I6 ↑r.n, I6 ↑r.rw, I6 ↑r.hg])).cell 5 rfl) .nil)
  ·exact fun _ _ => (.cons (as_i64 (by omega)) .nil)
  ·exact fun _ _ => (.cons (as_f (by omega)) .nil)
 ·refine .nil
 rintro a w19 hS hw20
 replace hw20 : w19 = w7.drew := hw20.trans (by kernel_rfl)
 have hB21 := Blk.at' hw20 (hB9.drew)
 have hB22 := Blk.at' hw20 (hB10.drew)
 have hE23 : Ext [] w w19 := by rw [hw20]; exact hE11.drew
 have hX24 : Ext [] w7 w19 := by rw [hw20]; exact (Ext.refl _ _).drew
 have hG25 : l.Ok w19 := hG13.ext0 hX24
 have hG26 : r.Ok w19 := hG14.ext0 hX24
 have hG27 : rl.Ok w19 := hG15.ext0 hX24
 have hG28 : rr.Ok w19 := hG16.ext0 hX24
 replace hS := hS.kp [(0, (Pv l.b)), (1, (Pv r.b)), (2, .func (.func 54) #[] #[]), (6, .pointer none), (7, .bool false), (11, .bool false), (15, .bool false), (54, .bool false)]
 refine hK17 _ _ ?_
 refine cond_f hS rfl ?_
 refine sq fun K29 hK29 => ?_
 refine region_fn2 wide_wide [.q .p, .q .p, .q .p, .q (.ld (I6 ↑r.hg)), .q .p, .q .p, .q .p, .q (.ld (I6 ↑l.hg)), .q (.as (I6 (↑l.hg + 1))), .q (.as (.bool true)), .q .p] [0, 0, 0, 0, 0, 0, 0, 0, 0, 0, 0] [0, 0, 0, 0, 0, 0, 0, 0, 0, 0, 0] [0, 1, 3, 7, 0, 16, 48, 112, 240, 511, 1023] [] 0 ([(0, (Pv l.b)), (1, (Pv r.b)), (2, .func (.func 54) #[] #[]), (6, .pointer none), (7, .bool false), (11, .bool false), (15, .bool false), (54, .bool false), (78, (Pv r.b)), (79, (Pv r.b)), (80, (Po r.b 5)), (81, I6 ↑r.hg), (82, (Pv l.b)), (83, (Pv l.b)), (84, (Po l.b 5)), (85, I6 ↑l.hg), (86, I6 (↑l.hg + 1)), (87, .bool true), (77, .bool true)]) [w19.drew] w19.drew (fun w' => [(3, [w'.cell? ⟨r.b, 5, none⟩ = some (I6 ↑r.hg)]), (7, [w'.cell? ⟨l.b, 5, none⟩ = some (I6 ↑l.hg)]), (8, [Value.int .i64 (IntKind.i64.wrap (↑l.hg + 1)) = I6 (↑l.hg + 1)]), (9, [Value.bool (decide ((↑r.hg : Int) > ↑l.hg + 1)) = .bool true])]) [0, 1, 2, 6, 7, 11, 15, 54] [] hS (by kernel_rfl) (by kernel_rfl) (by kernel_rfl) (by kernel_rfl) (fun _ => by kernel_rfl) (by kernel_rfl) (by kernel_rfl) (by kernel_rfl) ?_ ?_ ?_
 ·intro e w' hw
  refine (.cons ?_ (.cons ?_ (.cons ?_ (.cons ?_ .nil))))
  ·intro h1 h2
   obtain rfl : e = 0 := Nat.le_antisymm h2 h1
   obtain rfl : w' = w19.drew := hw.trans (by kernel_rfl)
   exact (.cons ((hB21.drew : Blk w19.drew r.b 89 (#[(Pv rl.b), (Pv rr.b), .slice none 0 0, I6 ↑r.n, I6 ↑r.rw, I6 ↑r.hg])).cell 5 rfl) .nil)
  ·intro h1 h2
   obtain rfl : e = 0 := Nat.le_antisymm h2 h1
   obtain rfl : w' = w19.drew := hw.trans (by kernel_rfl)
   exact (.cons ((hB22.drew : Blk w19.drew l.b 89 (#[l.lp, l.rp, l.pv, I6 ↑l.n, I6 ↑l.rw, I6 ↑l.hg])).cell 5 rfl) .nil)
  ·exact fun _ _ => (.cons (as_i64 (by omega)) .nil)
  ·exact fun _ _ => (.cons (as_t (by omega)) .nil)
 ·refine .nil
 rintro a w31 hS hw32
 replace hw32 : w31 = w19.drew := hw32.trans (by kernel_rfl)
 have hB33 := Blk.at' hw32 (hB21.drew)
 have hE35 : Ext [] w w31 := by rw [hw32]; exact hE23.drew
 have hX36 : Ext [] w19 w31 := by rw [hw32]; exact (Ext.refl _ _).drew
 have hG37 : l.Ok w31 := hG25.ext0 hX36
 have hG38 : r.Ok w31 := hG26.ext0 hX36
 have hG39 : rl.Ok w31 := hG27.ext0 hX36
 have hG40 : rr.Ok w31 := hG28.ext0 hX36
 replace hS := hS.kp [(0, (Pv l.b)), (1, (Pv r.b)), (2, .func (.func 54) #[] #[]), (6, .pointer none), (7, .bool false), (11, .bool false), (15, .bool false), (54, .bool false), (77, .bool true)]
 refine hK29 _ _ ?_
 refine cond_t hS rfl ?_
 refine sq fun K41 hK41 => ?_
 refine region_gh2 (G := Nd × World × Nd × World) wide_wide [.q .p, .q .p, .q .p, .q .p, .q (.ld ((Pv rl.b))), .q .p, .e, .q .p, .q .p, .q .p, .q (.ld ((Pv rr.b))), .e, .q .p] [0, 0, 0, 0, 0, 0, 0, 0, 0, 0, 0, 1, 2] [0, 0, 0, 0, 0, 0, 0, 1, 1, 1, 1, 1, 2] [0, 0, 2, 6, 14, 0, 63, 0, 128, 384, 896, 2047, 4095] [6, 11] [(6, 0), (11, 1)] 2 (fun ⟨t42, wc42, y43, wc43⟩ => ([(0, (Pv l.b)), (1, (Pv r.b)), (2, .func (.func 54) #[] #[]), (7, .bool false), (11, .bool false), (15, .bool false), (54, .bool false), (77, .bool true), (6, (Pv y43.b)), (88, (Pv l.b)), (89, (Pv r.b)), (90, (Pv r.b)), (91, (Pv r.b)), (92, (Pv rl.b)), (93, .func (.func 54) #[] #[]), (94, (Pv t42.b)), (95, (Pv r.b)), (96, (Pv r.b)), (97, (Po r.b 1)), (98, (Pv rr.b)), (99, (Pv y43.b))] : Fm)) (fun ⟨t42, wc42, y43, wc43⟩ => [w31.drew, wc42, wc43]) (w31.drew) (fun e ⟨t42, wc42, y43, wc43⟩ => hAt [True, (t42.Ok wc42) ∧ (t42.bs = l.bs ++ rl.bs) ∧ (t42.n = l.n + rl.n) ∧ (Ext [] w31.drew wc42) ∧ True, (t42.Ok wc42) ∧ (t42.bs = l.bs ++ rl.bs) ∧ (t42.n = l.n + rl.n) ∧ (Ext [] w31.drew wc42) ∧ (y43.Ok wc43) ∧ (y43.bs = t42.bs ++ rr.bs) ∧ (Ext [] wc42 wc43) ∧ True] e) (fun ⟨t42, wc42, y43, wc43⟩ w' => [(4, [w'.cell? ⟨r.b, 0, none⟩ = some ((Pv rl.b))]), (10, [w'.cell? ⟨r.b, 1, none⟩ = some ((Pv rr.b))])]) ((Nd.leaf 0 undef []), w31.drew, (Nd.leaf 0 undef []), w) [0, 1, 2, 7, 11, 15, 54, 77] [] hS (by kernel_rfl) (by kernel_rfl) (by kernel_rfl) (by kernel_rfl) (fun ⟨t42, wc42, y43, wc43⟩ _ => by kernel_rfl) (by kernel_rfl) (by kernel_rfl) (by kernel_rfl) trivial ?_ (by kernel_rfl) ?_ ?_
 ·rintro e ⟨t42, wc42, y43, wc43⟩ w' hw hH
  refine (.cons ?_ (.cons ?_ .nil))
  ·intro h1 h2
   obtain rfl : e = 0 := Nat.le_antisymm h2 h1
   have hwe : w31.drew = w' := (hw.trans (by kernel_rfl)).symm
   subst hwe
   clear hH
   exact (.cons ((hB33.drew : Blk w31.drew r.b 89 (#[(Pv rl.b), (Pv rr.b), .slice none 0 0, I6 ↑r.n, I6 ↑r.rw, I6 ↑r.hg])).cell 0 rfl) .nil)
  ·intro h1 h2
   replace h1 : 0 ≤ e := h1
   replace h2 : e ≤ 1 := h2
   have he : e = 0 ∨ e = 1 := by omega
   rcases he with rfl | rfl
   ·have hwe : w31.drew = w' := (hw.trans (by kernel_rfl)).symm
    subst hwe
    clear hH
    exact (.cons ((hB33.drew : Blk w31.drew r.b 89 (#[(Pv rl.b), (Pv rr.b), .slice none 0 0, I6 ↑r.n, I6 ↑r.rw, I6 ↑r.hg])).cell 1 rfl) .nil)
   ·have hwe : wc42 = w' := (hw.trans (by kernel_rfl)).symm
    subst hwe
    obtain ⟨ho42, hb42, hn42, hEc42, _⟩ := hH
    exact (.cons (((hB33.drew : Blk w31.drew r.b 89 (#[(Pv rl.b), (Pv rr.b), .slice none 0 0, I6 ↑r.n, I6 ↑r.rw, I6 ↑r.hg])).ext hEc42 (by simp) : Blk wc42 r.b 89 (#[(Pv rl.b), (Pv rr.b), .slice none 0 0, I6 ↑r.n, I6 ↑r.rw, I6 ↑r.hg])).cell 1 rfl) .nil)
 ·refine (.cons ?eq44_6 (.cons ?eq44_11 .nil))
  ·rintro ⟨t42, wc42, y43, wc43⟩ hH
   clear hH
   refine eff_gh (w31.drew) (by kernel_rfl) ?_
   refine upon_call (f := 56) (vs := [(Pv l.b), (Pv rl.b), .func (.func 54) #[] #[]]) (cap := #[]) (d := (some 94)) (by kernel_rfl) Try.call56 #[(Pv l.b), (Pv rl.b), .func (.func 54) #[] #[]] (by kernel_rfl) (ih w31.drew (hE35.trans0 ((Ext.refl [] _).drew))) ?_
   rintro _ wc42 ⟨t42, rfl, ho42, hb42, hn42, hEc42⟩
   exact ⟨_, rfl, ⟨(t42, wc42, y43, wc43), by kernel_rfl, by kernel_rfl, by kernel_rfl, ⟨ho42, hb42, hn42, hEc42, trivial⟩⟩⟩
  ·rintro ⟨t42, wc42, y43, wc43⟩ hH
   obtain ⟨ho42, hb42, hn42, hEc42, _⟩ := hH
   refine eff_gh (wc42) (by kernel_rfl) ?_
   refine upon_call (f := 68) (vs := [(Pv t42.b), (Pv rr.b)]) (cap := #[]) (d := (some 99)) (by kernel_rfl) Try.call68 #[(Pv t42.b), (Pv rr.b)] (by kernel_rfl) (beside_any ho42 ((hG40.ext0 ((Ext.refl [] _).drew)).ext0 hEc42) (by omega)) ?_
   rintro _ wc43 ⟨y43, rfl, hz43, hy43, hEc43⟩
   exact ⟨_, rfl, ⟨(t42, wc42, y43, wc43), by kernel_rfl, by kernel_rfl, by kernel_rfl, ⟨ho42, hb42, hn42, hEc42, hz43, hy43, hEc43, trivial⟩⟩⟩
 rintro ⟨t42, wc42, y43, wc43⟩ a w45 hS hw46 hH
 obtain ⟨ho42, hb42, hn42, hEc42, hz43, hy43, hEc43, _⟩ := hH
 replace hw46 : w45 = wc43 := hw46.trans (by kernel_rfl)
 have hE49 : Ext [] w w45 := by rw [hw46]; exact ((hE35.drew).trans0 hEc42).trans0 hEc43
 have hX50 : Ext [] w31 w45 := by rw [hw46]; exact (((Ext.refl _ _).drew).trans0 hEc42).trans0 hEc43
 have hG51 : l.Ok w45 := hG37.ext0 hX50
 have hG52 : r.Ok w45 := hG38.ext0 hX50
 have hG53 : rl.Ok w45 := hG39.ext0 hX50
 have hG54 : rr.Ok w45 := hG40.ext0 hX50
 replace hS := hS.kp [(0, (Pv l.b)), (1, (Pv r.b)), (2, .func (.func 54) #[] #[]), (7, .bool false), (11, .bool false), (15, .bool false), (54, .bool false), (77, .bool true), (6, (Pv y43.b))]
 refine hK41 _ _ ?_
 refine wpIn_ret ?_
 refine inBlock_ret ?_
 refine then_ret ?_
 refine ret1 hS Try.results56 rfl ?_
 exact ⟨y43, rfl, by rw [hw46]; exact hz43, by simp only [hy43, hb42, hbsr, List.append_assoc], hE49⟩

theorem join_some : ∀ (k : Nat) (l r : Nd) (w : World), l.hg + r.hg = k → l.Ok w → r.Ok w → l.n + r.n ≤ 100000000000 →
  Calls Try.prog 56 #[Pv l.b, Pv r.b, .func (.func 54) #[] #[]] w (NdN w (l.bs ++ r.bs) (l.n + r.n)) := by
 intro k
 induction k using Nat.strongRecOn with
 | _ k ih =>
  intro l r w hk hl hr hn
  have hlen : (l.bs ++ r.bs).length = l.n + r.n := by rw [List.length_append, Nd.len, Nd.len]
  refine Calls.mono (R := NdR w (l.bs ++ r.bs)) ?_ fun e w' h => h.nn hlen
  by_cases hL : l.hg = 0
  ·by_cases hR : r.hg = 0
   ·obtain ⟨lv, hB, hlv, _⟩ := hl.one hL
    obtain ⟨rv, hC, hrv, _⟩ := hr.one hR
    by_cases h3 : l.n + r.n ≤ 512
    ·exact join_1 hl hr hn hlv hrv hB hC hL hR h3
    ·exact join_2 hl hr hn hlv hrv hB hC hL hR h3
   ·by_cases h3 : r.hg > l.hg + 1
    ·obtain ⟨rl, rr, hB, hrl, hrr, e1, _, e2, e3⟩ := hr.two hR
     exact join_7 hl hr hn hB hrl hrr e1 e2 (fun W hE => ih (l.hg + rl.hg) (by omega) l rl W rfl (hl.ext0 hE) (hrl.ext0 hE) (by omega)) hL h3
    ·exact join_4 hl hr hn hL hR (by omega) h3
  ·by_cases h2 : l.hg > r.hg + 1
   ·obtain ⟨ll, lr, hB, hll, hlr, e1, _, e2, e3⟩ := hl.two hL
    exact join_5 hl hr hn hB hll hlr e1 e2 (fun W hE => ih (lr.hg + r.hg) (by omega) lr r W rfl (hlr.ext0 hE) (hr.ext0 hE) (by omega)) h2
   ·by_cases h3 : r.hg > l.hg + 1
    ·obtain ⟨rl, rr, hB, hrl, hrr, e1, _, e2, e3⟩ := hr.two (by omega)
     exact join_6 hl hr hn hB hrl hrr e1 e2 (fun W hE => ih (l.hg + rl.hg) (by omega) l rl W rfl (hl.ext0 hE) (hrl.ext0 hE) (by omega)) hL h3
    ·exact join_3 hl hr hn hL h2 h3

theorem join_any {l r : Option Nd} {w : World} (hl : okO w l) (hr : okO w r) (hn : (obs l).length + (obs r).length ≤ 100000000000) :
  Calls Try.prog 56 #[op l, op r, .func (.func 54) #[] #[]] w (NdO w (obs l ++ obs r)) := by
 cases l with
 | none => exact join_ln hr
 | some l =>
  cases r with
  | none => exact (join_rn hl).mono fun e w' h => by simpa [obs] using NdR.o h
  | some r => exact (join_some _ l r w rfl hl hr (by simpa [obs, Nd.len] using hn)).mono fun e w' h => h.r.o

end Go.Proofs.Ytkdbfjomjlhfbaa
