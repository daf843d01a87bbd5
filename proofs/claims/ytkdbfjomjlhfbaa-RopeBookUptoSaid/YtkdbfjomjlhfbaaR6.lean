import Derived.Test.YtkdbfjomjlhfbaaProg
import Derived.Test.YtkdbfjomjlhfbaaR5
namespace Go.Proofs.Ytkdbfjomjlhfbaa
open Go.Vc
set_option linter.unusedSectionVars false
variable [Inhabited Zt]

theorem cut_app (xs ys : List Int) (n i j : Nat) (hn : xs.length = n) : (xs.drop (min i n)).take (min j n - min i n) ++ (ys.drop (i - n)).take ((j - n) - (i - n)) = ((xs ++ ys).drop i).take (j - i) := by
 subst hn
 rw [List.drop_append, List.take_append, List.length_drop]
 congr 1
 ·by_cases h : i ≤ xs.length
  ·rw [Nat.min_eq_left h]
   by_cases h2 : j ≤ xs.length
   ·rw [Nat.min_eq_left h2]
   ·rw [Nat.min_eq_right (by omega), List.take_of_length_le (by rw [List.length_drop]; omega), List.take_of_length_le (by rw [List.length_drop]; omega)]
  ·rw [Nat.min_eq_right (show xs.length ≤ i by omega), List.drop_of_length_le (Nat.le_refl _), List.drop_of_length_le (show xs.length ≤ i by omega)]
   simp
 ·congr 1; omega

theorem cut_none {o : Option Nd} {x y : Int} {w : World} (h : x ≥ y) (hz : Zb w) :
  Calls Try.prog 42 #[(op o), I6 x, I6 y] w fun e w' => NdO w [] e w' := by
 refine calls_body 74 [(0, (op o)), (1, I6 x), (2, I6 y)] Try.func42 rfl (by kernel_rfl) (by kernel_rfl) (by kernel_rfl) fun a hS => ?_
 have hE0 : Ext [] w w := Ext.refl _ _
 refine sq fun K1 hK1 => ?_
 refine rgn 1 ?_
 refine sg wide_wide [.p] [] [(0, (op o)), (1, I6 x), (2, I6 y), (6, .pointer none)] 1 0 hS .nil fun a hS => ?_
 refine seg_end ?_
 refine hK1 _ _ ?_
 refine sq fun K2 hK2 => ?_
 refine wpIn_block ?_
 refine sq fun K3 hK3 => ?_
 refine rgn 4 ?_
 refine sg wide_wide [.p, .p, .as (.bool true), .p] [Value.bool (decide ((x : Int) ≥ y)) = .bool true] [(0, (op o)), (1, I6 x), (2, I6 y), (6, .pointer none), (8, .bool true)] 4 0 hS (.cons (as_t (by omega)) .nil) fun a hS => ?_
 refine seg_end ?_
 refine hK3 _ _ ?_
 refine cond_t hS rfl ?_
 refine sq fun K4 hK4 => ?_
 refine rgn 1 ?_
 refine sg wide_wide [.p] [] [(0, (op o)), (1, I6 x), (2, I6 y), (6, .pointer none), (8, .bool true)] 1 0 hS .nil fun a hS => ?_
 refine seg_end ?_
 refine hK4 _ _ ?_
 refine wpIn_ret ?_
 refine inBlock_ret ?_
 refine then_ret ?_
 refine ret1 hS Try.results42 rfl ?_
 exact ⟨none, rfl, hz, rfl, hE0⟩

theorem cut_whole {t : Nd} {w : World} (ht : t.Ok w) {i j : Nat} (hij : i < j) (hj : j ≤ t.n) (hn : t.n ≤ 10000000000) (h0 : i = 0) (h1 : j = t.n) :
  Calls Try.prog 42 #[(Pv t.b), I6 ↑i, I6 ↑j] w fun e w' => NdO w ((t.bs.drop i).take (j - i)) e w' := by
 refine calls_body 74 [(0, (Pv t.b)), (1, I6 ↑i), (2, I6 ↑j)] Try.func42 rfl (by kernel_rfl) (by kernel_rfl) (by kernel_rfl) fun a hS => ?_
 have hE0 : Ext [] w w := Ext.refl _ _
 refine sq fun K1 hK1 => ?_
 refine rgn 1 ?_
 refine sg wide_wide [.p] [] [(0, (Pv t.b)), (1, I6 ↑i), (2, I6 ↑j), (6, .pointer none)] 1 0 hS .nil fun a hS => ?_
 refine seg_end ?_
 refine hK1 _ _ ?_
 refine sq fun K2 hK2 => ?_
 refine wpIn_block ?_
 refine sq fun K3 hK3 => ?_
 refine rgn 4 ?_
 refine sg wide_wide [.p, .p, .as (.bool false), .p] [Value.bool (decide ((↑i : Int) ≥ ↑j)) = .bool false] [(0, (Pv t.b)), (1, I6 ↑i), (2, I6 ↑j), (6, .pointer none), (8, .bool false)] 4 0 hS (.cons (as_f (by omega)) .nil) fun a hS => ?_
 refine seg_end ?_
 refine hK3 _ _ ?_
 refine cond_f hS rfl ?_
 refine sq fun K4 hK4 => ?_
 refine rgn 12 ?_
 refine sg wide_wide [.p, .as (.bool true), .p, .p, .p, .p, .p, .p, .ld (I6 ↑t.n), .as (.bool true), .p, .p] [Value.bool (((↑i : Int) == 0)) = .bool true, w.cell? ⟨t.b, 3, none⟩ = some (I6 ↑t.n), Value.bool (((↑j : Int) == ↑t.n)) = .bool true] [(0, (Pv t.b)), (1, I6 ↑i), (2, I6 ↑j), (6, .pointer none), (8, .bool false), (12, .bool true)] 12 0 hS (.cons (as_eq_t (by omega)) (.cons ((ht.blk).cell 3 rfl) (.cons (as_eq_t (by omega)) .nil))) fun a hS => ?_
 refine seg_end ?_
 refine hK4 _ _ ?_
 refine cond_t hS rfl ?_
 refine sq fun K5 hK5 => ?_
 refine rgn 2 ?_
 refine sg wide_wide [.p, .p] [] [(0, (Pv t.b)), (1, I6 ↑i), (2, I6 ↑j), (6, (Pv t.b)), (8, .bool false), (12, .bool true)] 2 0 hS .nil fun a hS => ?_
 refine seg_end ?_
 refine hK5 _ _ ?_
 refine wpIn_ret ?_
 refine inBlock_ret ?_
 refine then_ret ?_
 refine ret1 hS Try.results42 rfl ?_
 exact ⟨some t, rfl, ht, by subst h0; rw [List.drop_zero, List.take_of_length_le (by rw [Nd.len]; omega)]; rfl, hE0⟩

theorem cut_leaf_a {t : Nd} {w : World} (ht : t.Ok w) {i j : Nat} (hij : i < j) (hj : j ≤ t.n) (hn : t.n ≤ 10000000000) (h0 : i = 0) (h1 : j ≠ t.n) (hh : t.hg = 0) {v : Value} (hv : RdV w 1 v t.n (bv t.bs)) (hvz : ∀ x ∈ ob v, ¬ZZ x) (hC : Blk w t.b 89 #[.pointer none, .pointer none, v, I6 ↑t.n, I6 ↑t.rw, I6 ↑t.hg]) :
  Calls Try.prog 42 #[(Pv t.b), I6 ↑i, I6 ↑j] w fun e w' => NdO w ((t.bs.drop i).take (j - i)) e w' := by
 refine calls_body 74 [(0, (Pv t.b)), (1, I6 ↑i), (2, I6 ↑j)] Try.func42 rfl (by kernel_rfl) (by kernel_rfl) (by kernel_rfl) fun a hS => ?_
 have hE0 : Ext [] w w := Ext.refl _ _
 refine sq fun K1 hK1 => ?_
 refine rgn 1 ?_
 refine sg wide_wide [.p] [] [(0, (Pv t.b)), (1, I6 ↑i), (2, I6 ↑j), (6, .pointer none)] 1 0 hS .nil fun a hS => ?_
 refine seg_end ?_
 refine hK1 _ _ ?_
 refine sq fun K2 hK2 => ?_
 refine wpIn_block ?_
 refine sq fun K3 hK3 => ?_
 refine rgn 4 ?_
 refine sg wide_wide [.p, .p, .as (.bool false), .p] [Value.bool (decide ((↑i : Int) ≥ ↑j)) = .bool false] [(0, (Pv t.b)), (1, I6 ↑i), (2, I6 ↑j), (6, .pointer none), (8, .bool false)] 4 0 hS (.cons (as_f (by omega)) .nil) fun a hS => ?_
 refine seg_end ?_
 refine hK3 _ _ ?_
 refine cond_f hS rfl ?_
 refine sq fun K4 hK4 => ?_
 refine rgn 12 ?_
 refine sg wide_wide [.p, .as (.bool true), .p, .p, .p, .p, .p, .p, .ld (I6 ↑t.n), .as (.bool false), .p, .p] [Value.bool (((↑i : Int) == 0)) = .bool true, w.cell? ⟨t.b, 3, none⟩ = some (I6 ↑t.n), Value.bool (((↑j : Int) == ↑t.n)) = .bool false] [(0, (Pv t.b)), (1, I6 ↑i), (2, I6 ↑j), (6, .pointer none), (8, .bool false), (12, .bool false)] 12 0 hS (.cons (as_eq_t (by omega)) (.cons (hC.cell 3 rfl) (.cons (as_eq_f (by omega)) .nil))) fun a hS => ?_
 refine seg_end ?_
 refine hK4 _ _ ?_
 refine cond_f hS rfl ?_
 refine sq fun K5 hK5 => ?_
 refine rgn 6 ?_
 refine sg wide_wide [.p, .p, .p, .ld (I6 ↑t.hg), .as (.bool true), .p] [w.cell? ⟨t.b, 5, none⟩ = some (I6 ↑t.hg), Value.bool (((↑t.hg : Int) == 0)) = .bool true] [(0, (Pv t.b)), (1, I6 ↑i), (2, I6 ↑j), (6, .pointer none), (8, .bool false), (12, .bool false), (25, .bool true)] 6 0 hS (.cons (hC.cell 5 rfl) (.cons (as_eq_t (by omega)) .nil)) fun a hS => ?_
 refine seg_end ?_
 refine hK5 _ _ ?_
 refine cond_t hS rfl ?_
 refine sq fun K6 hK6 => ?_
 refine rgn 10 ?_
 refine sg wide_wide [.p, .p, .p, .ld (v), .p, .p, .p, .run (rsub v i j j)] [w.cell? ⟨t.b, 2, none⟩ = some (v), Ru Try.prog (vS (Instr.sliceAt 23 v (some (I6 ↑i)) (some (I6 ↑j)) (some (I6 ↑j)))) (rsub v i j j) w] [(0, (Pv t.b)), (1, I6 ↑i), (2, I6 ↑j), (6, .pointer none), (8, .bool false), (12, .bool false), (25, .bool true), (38, (rsub v i j j))] 8 2 hS (.cons (hC.cell 2 rfl) (.cons (sl_rd3 (e := 5) (l := i) (k := j) (m := j) hv (by kernel_rfl) (by kernel_rfl) (by omega) (by omega) (by omega)) .nil)) fun a hS => ?_
 refine eff_call wide_wide (r := 1) (f := 54) (vs := [(rsub v i j j)]) (cap := #[]) (d := (some 39)) hS (by kernel_rfl) Try.call54 #[(rsub v i j j)] (by kernel_rfl) (leaf_any (RdV.subb hv (l := i) (k := j) (m := j) (by omega) (by omega) (by omega)) ((ht.br.drop _).take _) (by omega) (by omega) (ht.zb.ext hE0) (fun x hx => hvz x (by rw [ob_rsub] at hx; exact hx))) ?_
 rintro _ wc7 ⟨y, rfl, hy, hyb, hEc7⟩
 refine ⟨_, rfl, fun a hS => ?_⟩
 have hE8 := hE0.trans0 hEc7
 refine sg wide_wide [.p] [] [(0, (Pv t.b)), (1, I6 ↑i), (2, I6 ↑j), (6, (Pv y.b)), (8, .bool false), (12, .bool false), (25, .bool true)] 10 0 hS .nil fun a hS => ?_
 refine seg_end ?_
 refine hK6 _ _ ?_
 refine wpIn_ret ?_
 refine inBlock_ret ?_
 refine then_ret ?_
 refine ret1 hS Try.results42 rfl ?_
 exact ⟨some y, rfl, hy, hyb, hE8⟩

theorem cut_two_a {t : Nd} {w : World} (ht : t.Ok w) {i j : Nat} (hij : i < j) (hj : j ≤ t.n) (hn : t.n ≤ 10000000000) (h0 : i = 0) (h1 : j ≠ t.n) (hh : t.hg ≠ 0) {l r : Nd} (hC : Blk w t.b 89 #[(Pv l.b), (Pv r.b), .slice none 0 0, I6 ↑t.n, I6 ↑t.rw, I6 ↑t.hg]) (hl : l.Ok w) (hr : r.Ok w) (hnn : t.n = l.n + r.n) (hbs : t.bs = l.bs ++ r.bs) (ihl : ∀ W (x y : Nat), Ext [] w W → (y ≤ x ∨ y ≤ l.n) → Calls Try.prog 42 #[Pv l.b, I6 x, I6 y] W (NdO W ((l.bs.drop x).take (y - x)))) (ihr : ∀ W (x y : Nat), Ext [] w W → (y ≤ x ∨ y ≤ r.n) → Calls Try.prog 42 #[Pv r.b, I6 x, I6 y] W (NdO W ((r.bs.drop x).take (y - x)))) :
  Calls Try.prog 42 #[(Pv t.b), I6 ↑i, I6 ↑j] w fun e w' => NdO w ((t.bs.drop i).take (j - i)) e w' := by
 refine calls_body 74 [(0, (Pv t.b)), (1, I6 ↑i), (2, I6 ↑j)] Try.func42 rfl (by kernel_rfl) (by kernel_rfl) (by kernel_rfl) fun a hS => ?_
 have hE0 : Ext [] w w := Ext.refl _ _
 refine sq fun K1 hK1 => ?_
 refine rgn 1 ?_
 refine sg wide_wide [.p] [] [(0, (Pv t.b)), (1, I6 ↑i), (2, I6 ↑j), (6, .pointer none)] 1 0 hS .nil fun a hS => ?_
 refine seg_end ?_
 refine hK1 _ _ ?_
 refine sq fun K2 hK2 => ?_
 refine wpIn_block ?_
 refine sq fun K3 hK3 => ?_
 refine rgn 4 ?_
 refine sg wide_wide [.p, .p, .as (.bool false), .p] [Value.bool (decide ((↑i : Int) ≥ ↑j)) = .bool false] [(0, (Pv t.b)), (1, I6 ↑i), (2, I6 ↑j), (6, .pointer none), (8, .bool false)] 4 0 hS (.cons (as_f (by omega)) .nil) fun a hS => ?_
 refine seg_end ?_
 refine hK3 _ _ ?_
 refine cond_f hS rfl ?_
 refine sq fun K4 hK4 => ?_
 refine rgn 12 ?_
 refine sg wide_wide [.p, .as (.bool true), .p, .p, .p, .p, .p, .p, .ld (I6 ↑t.n), .as (.bool false), .p, .p] [Value.bool (((↑i : Int) == 0)) = .bool true, w.cell? ⟨t.b, 3, none⟩ = some (I6 ↑t.n), Value.bool (((↑j : Int) == ↑t.n)) = .bool false] [(0, (Pv t.b)), (1, I6 ↑i), (2, I6 ↑j), (6, .pointer none), (8, .bool false), (12, .bool false)] 12 0 hS (.cons (as_eq_t (by omega)) (.cons (hC.cell 3 rfl) (.cons (as_eq_f (by omega)) .nil))) fun a hS => ?_
 refine seg_end ?_
 refine hK4 _ _ ?_
 refine cond_f hS rfl ?_
 refine sq fun K5 hK5 => ?_
 refine rgn 6 ?_
 refine sg wide_wide [.p, .p, .p, .ld (I6 ↑t.hg), .as (.bool false), .p] [w.cell? ⟨t.b, 5, none⟩ = some (I6 ↑t.hg), Value.bool (((↑t.hg : Int) == 0)) = .bool false] [(0, (Pv t.b)), (1, I6 ↑i), (2, I6 ↑j), (6, .pointer none), (8, .bool false), (12, .bool false), (25, .bool false)] 6 0 hS (.cons (hC.cell 5 rfl) (.cons (as_eq_f (by omega)) .nil)) fun a hS => ?_
 refine seg_end ?_
 refine hK5 _ _ ?_
 refine cond_f hS rfl ?_
 refine wpIn_skip ?_
 refine inBlock_normal ?_
 refine hK2 _ _ ?_
 refine sq fun K6 hK6 => ?_
 refine rgn 9 ?_
 refine sg wide_wide [.p, .p, .p, .ld ((Pv l.b)), .p, .p, .p, .ld (I6 ↑l.n), .p] [w.cell? ⟨t.b, 0, none⟩ = some ((Pv l.b)), w.cell? ⟨l.b, 3, none⟩ = some (I6 ↑l.n)] [(0, (Pv t.b)), (1, I6 ↑i), (2, I6 ↑j), (6, .pointer none), (8, .bool false), (12, .bool false), (25, .bool false), (7, I6 ↑l.n)] 9 0 hS (.cons (hC.cell 0 rfl) (.cons ((hl.blk).cell 3 rfl) .nil)) fun a hS => ?_
 refine seg_end ?_
 refine hK6 _ _ ?_
 refine sq fun K7 hK7 => ?_
 refine region_gh2 (G := (Option Nd) × World × (Option Nd) × World × (Option Nd) × World) wide_wide [.q .p, .q .p, .q .p, .q (.ld ((Pv l.b))), .q .p, .q .p, .q (.as (I6 ((min i l.n : Nat) : Int))), .q .p, .q .p, .q (.as (I6 ((min j l.n : Nat) : Int))), .e, .q .p, .q .p, .q .p, .q (.ld ((Pv r.b))), .q .p, .q .p, .q (.as (I6 (↑i - ↑l.n))), .q (.as (I6 ((i - l.n : Nat) : Int))), .q .p, .q .p, .q (.as (I6 (↑j - ↑l.n))), .q (.as (I6 ((j - l.n : Nat) : Int))), .e, .e, .e, .q .p] [0, 0, 0, 0, 0, 0, 0, 0, 0, 0, 0, 0, 0, 0, 0, 0, 0, 0, 0, 0, 0, 0, 0, 1, 2, 3, 4] [0, 0, 0, 0, 0, 0, 0, 0, 0, 0, 0, 1, 1, 1, 1, 1, 1, 1, 1, 1, 1, 1, 1, 1, 2, 3, 4] [0, 1, 3, 7, 0, 0, 48, 0, 0, 384, 1023, 0, 2048, 6144, 14336, 0, 0, 98304, 229376, 0, 0, 1572864, 3670016, 8388607, 16777215, 33554431, 67108863] [10, 23, 24, 25] [(10, 0), (23, 1), (24, 2), (25, 3)] 4 (fun ⟨o8, wc8, o9, wc9, z10, wc10⟩ => ([(0, (Pv t.b)), (1, I6 ↑i), (2, I6 ↑j), (8, .bool false), (12, .bool false), (25, .bool false), (7, I6 ↑l.n), (6, (op z10)), (48, (Pv t.b)), (49, (Pv t.b)), (50, (Pv t.b)), (51, (Pv l.b)), (52, I6 ↑i), (53, I6 ↑l.n), (54, I6 ((min i l.n : Nat) : Int)), (55, I6 ↑j), (56, I6 ↑l.n), (57, I6 ((min j l.n : Nat) : Int)), (58, (op o8)), (59, (Pv t.b)), (60, (Pv t.b)), (61, (Po t.b 1)), (62, (Pv r.b)), (63, I6 ↑i), (64, I6 ↑l.n), (65, I6 (↑i - ↑l.n)), (66, I6 ((i - l.n : Nat) : Int)), (67, I6 ↑j), (68, I6 ↑l.n), (69, I6 (↑j - ↑l.n)), (70, I6 ((j - l.n : Nat) : Int)), (71, (op o9)), (72, .slice (some ⟨wc9.heap.size, 0, none⟩) 2 2), (73, (op z10))] : Fm)) (fun ⟨o8, wc8, o9, wc9, z10, wc10⟩ => [w.drew, wc8, wc9, (wc9).alloc (.cells #[(op o8), (op o9)] 81), wc10]) (w.drew) (fun e ⟨o8, wc8, o9, wc9, z10, wc10⟩ => hAt [True, (okO wc8 o8) ∧ (obs o8 = (l.bs.drop (min i l.n)).take ((min j l.n) - (min i l.n))) ∧ (Ext [] w.drew wc8) ∧ True, (okO wc8 o8) ∧ (obs o8 = (l.bs.drop (min i l.n)).take ((min j l.n) - (min i l.n))) ∧ (Ext [] w.drew wc8) ∧ (okO wc9 o9) ∧ (obs o9 = (r.bs.drop (i - l.n)).take ((j - l.n) - (i - l.n))) ∧ (Ext [] wc8 wc9) ∧ True, (okO wc8 o8) ∧ (obs o8 = (l.bs.drop (min i l.n)).take ((min j l.n) - (min i l.n))) ∧ (Ext [] w.drew wc8) ∧ (okO wc9 o9) ∧ (obs o9 = (r.bs.drop (i - l.n)).take ((j - l.n) - (i - l.n))) ∧ (Ext [] wc8 wc9) ∧ True, (okO wc8 o8) ∧ (obs o8 = (l.bs.drop (min i l.n)).take ((min j l.n) - (min i l.n))) ∧ (Ext [] w.drew wc8) ∧ (okO wc9 o9) ∧ (obs o9 = (r.bs.drop (i - l.n)).take ((j - l.n) - (i - l.n))) ∧ (Ext [] wc8 wc9) ∧ (okO wc10 z10) ∧ (obs z10 = cat [o8, o9]) ∧ (Ext [] ((wc9).alloc (.cells #[(op o8), (op o9)] 81)) wc10) ∧ True] e) (fun ⟨o8, wc8, o9, wc9, z10, wc10⟩ w' => [(3, [w'.cell? ⟨t.b, 0, none⟩ = some ((Pv l.b))]), (6, [Value.int .i64 (if (↑l.n : Int) < ↑i then ↑l.n else ↑i) = I6 ((min i l.n : Nat) : Int)]), (9, [Value.int .i64 (if (↑l.n : Int) < ↑j then ↑l.n else ↑j) = I6 ((min j l.n : Nat) : Int)]), (14, [w'.cell? ⟨t.b, 1, none⟩ = some ((Pv r.b))]), (17, [Value.int .i64 (IntKind.i64.wrap (↑i - ↑l.n)) = I6 (↑i - ↑l.n)]), (18, [Value.int .i64 (if (↑i - ↑l.n : Int) < 0 then 0 else ↑i - ↑l.n) = I6 ((i - l.n : Nat) : Int)]), (21, [Value.int .i64 (IntKind.i64.wrap (↑j - ↑l.n)) = I6 (↑j - ↑l.n)]), (22, [Value.int .i64 (if (↑j - ↑l.n : Int) < 0 then 0 else ↑j - ↑l.n) = I6 ((j - l.n : Nat) : Int)])]) (none, w.drew, none, w, none, w) [0, 1, 2, 8, 12, 25, 7] [] hS (by kernel_rfl) (by kernel_rfl) (by kernel_rfl) (by kernel_rfl) (fun ⟨o8, wc8, o9, wc9, z10, wc10⟩ _ => by kernel_rfl) (by kernel_rfl) (by kernel_rfl) (by kernel_rfl) trivial ?_ (by kernel_rfl) ?_ ?_
 ·rintro e ⟨o8, wc8, o9, wc9, z10, wc10⟩ w' hw hH
  refine (.cons ?_ (.cons ?_ (.cons ?_ (.cons ?_ (.cons ?_ (.cons ?_ (.cons ?_ (.cons ?_ .nil))))))))
  ·intro h1 h2
   obtain rfl : e = 0 := Nat.le_antisymm h2 h1
   have hwe : w.drew = w' := (hw.trans (by kernel_rfl)).symm
   subst hwe
   clear hH
   exact (.cons ((hC.drew : Blk w.drew t.b 89 (#[(Pv l.b), (Pv r.b), .slice none 0 0, I6 ↑t.n, I6 ↑t.rw, I6 ↑t.hg])).cell 0 rfl) .nil)
  ·intro h1 h2
   obtain rfl : e = 0 := Nat.le_antisymm h2 h1
   have hwe : w.drew = w' := (hw.trans (by kernel_rfl)).symm
   subst hwe
   clear hH
   exact (.cons (by congr 1; rw [Nat.min_def]; split <;> split <;> omega) .nil)
  ·intro h1 h2
   obtain rfl : e = 0 := Nat.le_antisymm h2 h1
   have hwe : w.drew = w' := (hw.trans (by kernel_rfl)).symm
   subst hwe
   clear hH
   exact (.cons (by congr 1; rw [Nat.min_def]; split <;> split <;> omega) .nil)
  ·intro h1 h2
   replace h1 : 0 ≤ e := h1
   replace h2 : e ≤ 1 := h2
   have he : e = 0 ∨ e = 1 := by omega
   rcases he with rfl | rfl
   ·have hwe : w.drew = w' := (hw.trans (by kernel_rfl)).symm
    subst hwe
    clear hH
    exact (.cons ((hC.drew : Blk w.drew t.b 89 (#[(Pv l.b), (Pv r.b), .slice none 0 0, I6 ↑t.n, I6 ↑t.rw, I6 ↑t.hg])).cell 1 rfl) .nil)
   ·have hwe : wc8 = w' := (hw.trans (by kernel_rfl)).symm
    subst hwe
    obtain ⟨ho8, hb8, hEc8, _⟩ := hH
    exact (.cons (((hC.drew : Blk w.drew t.b 89 (#[(Pv l.b), (Pv r.b), .slice none 0 0, I6 ↑t.n, I6 ↑t.rw, I6 ↑t.hg])).ext hEc8 (by simp) : Blk wc8 t.b 89 (#[(Pv l.b), (Pv r.b), .slice none 0 0, I6 ↑t.n, I6 ↑t.rw, I6 ↑t.hg])).cell 1 rfl) .nil)
  ·intro h1 h2
   replace h1 : 0 ≤ e := h1
   replace h2 : e ≤ 1 := h2
   have he : e = 0 ∨ e = 1 := by omega
   rcases he with rfl | rfl
   ·have hwe : w.drew = w' := (hw.trans (by kernel_rfl)).symm
    subst hwe
    clear hH
    exact (.cons (as_i64 (by omega)) .nil)
   ·have hwe : wc8 = w' := (hw.trans (by kernel_rfl)).symm
    subst hwe
    obtain ⟨ho8, hb8, hEc8, _⟩ := hH
    exact (.cons (as_i64 (by omega)) .nil)
  ·intro h1 h2
   replace h1 : 0 ≤ e := h1
   replace h2 : e ≤ 1 := h2
   have he : e = 0 ∨ e = 1 := by omega
   rcases he with rfl | rfl
   ·have hwe : w.drew = w' := (hw.trans (by kernel_rfl)).symm
    subst hwe
    clear hH
    exact (.cons (by congr 1; split <;> omega) .nil)
   ·have hwe : wc8 = w' := (hw.trans (by kernel_rfl)).symm
    subst hwe
    obtain ⟨ho8, hb8, hEc8, _⟩ := hH
    exact (.cons (by congr 1; split <;> omega) .nil)
  ·intro h1 h2
   replace h1 : 0 ≤ e := h1
   replace h2 : e ≤ 1 := h2
   have he : e = 0 ∨ e = 1 := by omega
   rcases he with rfl | rfl
   ·have hwe : w.drew = w' := (hw.trans (by kernel_rfl)).symm
    subst hwe
    clear hH
    exact (.cons (as_i64 (by omega)) .nil)
   ·have hwe : wc8 = w' := (hw.trans (by kernel_rfl)).symm
    subst hwe
    obtain ⟨ho8, hb8, hEc8, _⟩ := hH
    exact (.cons (as_i64 (by omega)) .nil)
  ·intro h1 h2
   replace h1 : 0 ≤ e := h1
   replace h2 : e ≤ 1 := h2
   have he : e = 0 ∨ e = 1 := by omega
   rcases he with rfl | rfl
   ·have hwe : w.drew = w' := (hw.trans (by kernel_rfl)).symm
    subst hwe
    clear hH
    exact (.cons (by congr 1; split <;> omega) .nil)
   ·have hwe : wc8 = w' := (hw.trans (by kernel_rfl)).symm
    subst hwe
    obtain ⟨ho8, hb8, hEc8, _⟩ := hH
    exact (.cons (by congr 1; split <;> omega) .nil)
 ·refine (.cons ?eq11_10 (.cons ?eq11_23 (.cons ?eq11_24 (.cons ?eq11_25 .nil))))
  ·rintro ⟨o8, wc8, o9, wc9, z10, wc10⟩ hH
   clear hH
   refine eff_gh (w.drew) (by kernel_rfl) ?_
   refine upon_call (f := 42) (vs := [(Pv l.b), I6 ((min i l.n : Nat) : Int), I6 ((min j l.n : Nat) : Int)]) (cap := #[]) (d := (some 58)) (by kernel_rfl) Try.call42 #[(Pv l.b), I6 ((min i l.n : Nat) : Int), I6 ((min j l.n : Nat) : Int)] (by kernel_rfl) (ihl w.drew (min i l.n) (min j l.n) (hE0.trans0 ((Ext.refl [] _).drew)) (by omega)) ?_
   rintro _ wc8 ⟨o8, rfl, ho8, hb8, hEc8⟩
   exact ⟨_, rfl, ⟨(o8, wc8, o9, wc9, z10, wc10), by kernel_rfl, by kernel_rfl, by kernel_rfl, ⟨ho8, hb8, hEc8, trivial⟩⟩⟩
  ·rintro ⟨o8, wc8, o9, wc9, z10, wc10⟩ hH
   obtain ⟨ho8, hb8, hEc8, _⟩ := hH
   refine eff_gh (wc8) (by kernel_rfl) ?_
   refine upon_call (f := 42) (vs := [(Pv r.b), I6 ((i - l.n : Nat) : Int), I6 ((j - l.n : Nat) : Int)]) (cap := #[]) (d := (some 71)) (by kernel_rfl) Try.call42 #[(Pv r.b), I6 ((i - l.n : Nat) : Int), I6 ((j - l.n : Nat) : Int)] (by kernel_rfl) (ihr wc8 (i - l.n) (j - l.n) (hE0.trans0 ((((Ext.refl [] _).drew)).trans0 hEc8)) (by omega)) ?_
   rintro _ wc9 ⟨o9, rfl, ho9, hb9, hEc9⟩
   exact ⟨_, rfl, ⟨(o8, wc8, o9, wc9, z10, wc10), by kernel_rfl, by kernel_rfl, by kernel_rfl, ⟨ho8, hb8, hEc8, ho9, hb9, hEc9, trivial⟩⟩⟩
  ·rintro ⟨o8, wc8, o9, wc9, z10, wc10⟩ hH
   obtain ⟨ho8, hb8, hEc8, ho9, hb9, hEc9, _⟩ := hH
   refine eff_gh (wc9) (by kernel_rfl) ?_
   exact upon_new (nb := wc9.heap.size) (cs := #[(op o8), (op o9)]) (T := 81) (v := Value.slice (some ⟨wc9.heap.size, 0, none⟩) 2 2) (d := (some 72)) (by kernel_rfl) (by first | rfl | simp [upd_size]) ⟨(o8, wc8, o9, wc9, z10, wc10), by kernel_rfl, by kernel_rfl, by kernel_rfl, ⟨ho8, hb8, hEc8, ho9, hb9, hEc9, trivial⟩⟩
  ·rintro ⟨o8, wc8, o9, wc9, z10, wc10⟩ hH
   obtain ⟨ho8, hb8, hEc8, ho9, hb9, hEc9, _⟩ := hH
   refine eff_gh ((wc9).alloc (.cells #[(op o8), (op o9)] 81)) (by kernel_rfl) ?_
   refine upon_call (f := 43) (vs := [.slice (some ⟨wc9.heap.size, 0, none⟩) 2 2]) (cap := #[]) (d := (some 73)) (by kernel_rfl) Try.call43 #[.slice (some ⟨wc9.heap.size, 0, none⟩) 2 2] (by kernel_rfl) (joined_any (os := [o8, o9]) (RdV.of_blk (n := 2) (Blk.new' _ _ _ (by first | rfl | simp [upd_size]) : Blk ((wc9).alloc (.cells #[(op o8), (op o9)] 81)) wc9.heap.size 81 (#[(op o8), (op o9)])) rfl) (by intro q hq; simp at hq; rcases hq with rfl | rfl; exact ((ho8.ext0 hEc9).ext0 ((Ext.refl [] _).alloc _)); exact (ho9.ext0 ((Ext.refl [] _).alloc _))) (by have e1 := Nd.len l; have e2 := Nd.len r; simp [cat, hb8, hb9]; omega) (by simp) (((ho8.ext0 hEc9).ext0 ((Ext.refl [] _).alloc _))).zb) ?_
   rintro _ wc10 ⟨z10, rfl, hz10, hy10, hEc10⟩
   exact ⟨_, rfl, ⟨(o8, wc8, o9, wc9, z10, wc10), by kernel_rfl, by kernel_rfl, by kernel_rfl, ⟨ho8, hb8, hEc8, ho9, hb9, hEc9, hz10, hy10, hEc10, trivial⟩⟩⟩
 rintro ⟨o8, wc8, o9, wc9, z10, wc10⟩ a w12 hS hw13 hH
 obtain ⟨ho8, hb8, hEc8, ho9, hb9, hEc9, hz10, hy10, hEc10, _⟩ := hH
 replace hw13 : w12 = wc10 := hw13.trans (by kernel_rfl)
 have hE17 : Ext [] w w12 := by rw [hw13]; exact ((((hE0.drew).trans0 hEc8).trans0 hEc9).alloc _).trans0 hEc10
 replace hS := hS.kp [(0, (Pv t.b)), (1, I6 ↑i), (2, I6 ↑j), (8, .bool false), (12, .bool false), (25, .bool false), (7, I6 ↑l.n), (6, (op z10))]
 refine hK7 _ _ ?_
 refine wpIn_ret ?_
 refine ret1 hS Try.results42 rfl ?_
 exact ⟨z10, rfl, by rw [hw13]; exact hz10, by rw [hy10, show cat [o8, o9] = obs o8 ++ obs o9 by simp [cat], hb8, hb9, hbs]; exact cut_app _ _ _ _ _ (Nd.len l), hE17⟩

theorem cut_leaf_b {t : Nd} {w : World} (ht : t.Ok w) {i j : Nat} (hij : i < j) (hj : j ≤ t.n) (hn : t.n ≤ 10000000000) (h0 : i ≠ 0) (hh : t.hg = 0) {v : Value} (hv : RdV w 1 v t.n (bv t.bs)) (hvz : ∀ x ∈ ob v, ¬ZZ x) (hC : Blk w t.b 89 #[.pointer none, .pointer none, v, I6 ↑t.n, I6 ↑t.rw, I6 ↑t.hg]) :
  Calls Try.prog 42 #[(Pv t.b), I6 ↑i, I6 ↑j] w fun e w' => NdO w ((t.bs.drop i).take (j - i)) e w' := by
 refine calls_body 74 [(0, (Pv t.b)), (1, I6 ↑i), (2, I6 ↑j)] Try.func42 rfl (by kernel_rfl) (by kernel_rfl) (by kernel_rfl) fun a hS => ?_
 have hE0 : Ext [] w w := Ext.refl _ _
 refine sq fun K1 hK1 => ?_
 refine rgn 1 ?_
 refine sg wide_wide [.p] [] [(0, (Pv t.b)), (1, I6 ↑i), (2, I6 ↑j), (6, .pointer none)] 1 0 hS .nil fun a hS => ?_
 refine seg_end ?_
 refine hK1 _ _ ?_
 refine sq fun K2 hK2 => ?_
 refine wpIn_block ?_
 refine sq fun K3 hK3 => ?_
 refine rgn 4 ?_
 refine sg wide_wide [.p, .p, .as (.bool false), .p] [Value.bool (decide ((↑i : Int) ≥ ↑j)) = .bool false] [(0, (Pv t.b)), (1, I6 ↑i), (2, I6 ↑j), (6, .pointer none), (8, .bool false)] 4 0 hS (.cons (as_f (by omega)) .nil) fun a hS => ?_
 refine seg_end ?_
 refine hK3 _ _ ?_
 refine cond_f hS rfl ?_
 refine sq fun K4 hK4 => ?_
 refine rgn 12 ?_
 refine sg wide_wide [.p, .as (.bool false), .p, .no, .no, .no, .no, .no, .no, .no, .p, .p] [Value.bool (((↑i : Int) == 0)) = .bool false] [(0, (Pv t.b)), (1, I6 ↑i), (2, I6 ↑j), (6, .pointer none), (8, .bool false), (12, .bool false)] 12 0 hS (.cons (as_eq_f (by omega)) .nil) fun a hS => ?_
 refine seg_end ?_
 refine hK4 _ _ ?_
 refine cond_f hS rfl ?_
 refine sq fun K5 hK5 => ?_
 refine rgn 6 ?_
 refine sg wide_wide [.p, .p, .p, .ld (I6 ↑t.hg), .as (.bool true), .p] [w.cell? ⟨t.b, 5, none⟩ = some (I6 ↑t.hg), Value.bool (((↑t.hg : Int) == 0)) = .bool true] [(0, (Pv t.b)), (1, I6 ↑i), (2, I6 ↑j), (6, .pointer none), (8, .bool false), (12, .bool false), (25, .bool true)] 6 0 hS (.cons (hC.cell 5 rfl) (.cons (as_eq_t (by omega)) .nil)) fun a hS => ?_
 refine seg_end ?_
 refine hK5 _ _ ?_
 refine cond_t hS rfl ?_
 refine sq fun K6 hK6 => ?_
 refine rgn 10 ?_
 refine sg wide_wide [.p, .p, .p, .ld (v), .p, .p, .p, .run (rsub v i j j)] [w.cell? ⟨t.b, 2, none⟩ = some (v), Ru Try.prog (vS (Instr.sliceAt 23 v (some (I6 ↑i)) (some (I6 ↑j)) (some (I6 ↑j)))) (rsub v i j j) w] [(0, (Pv t.b)), (1, I6 ↑i), (2, I6 ↑j), (6, .pointer none), (8, .bool false), (12, .bool false), (25, .bool true), (38, (rsub v i j j))] 8 2 hS (.cons (hC.cell 2 rfl) (.cons (sl_rd3 (e := 5) (l := i) (k := j) (m := j) hv (by kernel_rfl) (by kernel_rfl) (by omega) (by omega) (by omega)) .nil)) fun a hS => ?_
 refine eff_call wide_wide (r := 1) (f := 54) (vs := [(rsub v i j j)]) (cap := #[]) (d := (some 39)) hS (by kernel_rfl) Try.call54 #[(rsub v i j j)] (by kernel_rfl) (leaf_any (RdV.subb hv (l := i) (k := j) (m := j) (by omega) (by omega) (by omega)) ((ht.br.drop _).take _) (by omega) (by omega) (ht.zb.ext hE0) (fun x hx => hvz x (by rw [ob_rsub] at hx; exact hx))) ?_
 rintro _ wc7 ⟨y, rfl, hy, hyb, hEc7⟩
 refine ⟨_, rfl, fun a hS => ?_⟩
 have hE8 := hE0.trans0 hEc7
 refine sg wide_wide [.p] [] [(0, (Pv t.b)), (1, I6 ↑i), (2, I6 ↑j), (6, (Pv y.b)), (8, .bool false), (12, .bool false), (25, .bool true)] 10 0 hS .nil fun a hS => ?_
 refine seg_end ?_
 refine hK6 _ _ ?_
 refine wpIn_ret ?_
 refine inBlock_ret ?_
 refine then_ret ?_
 refine ret1 hS Try.results42 rfl ?_
 exact ⟨some y, rfl, hy, hyb, hE8⟩

theorem cut_two_b {t : Nd} {w : World} (ht : t.Ok w) {i j : Nat} (hij : i < j) (hj : j ≤ t.n) (hn : t.n ≤ 10000000000) (h0 : i ≠ 0) (hh : t.hg ≠ 0) {l r : Nd} (hC : Blk w t.b 89 #[(Pv l.b), (Pv r.b), .slice none 0 0, I6 ↑t.n, I6 ↑t.rw, I6 ↑t.hg]) (hl : l.Ok w) (hr : r.Ok w) (hnn : t.n = l.n + r.n) (hbs : t.bs = l.bs ++ r.bs) (ihl : ∀ W (x y : Nat), Ext [] w W → (y ≤ x ∨ y ≤ l.n) → Calls Try.prog 42 #[Pv l.b, I6 x, I6 y] W (NdO W ((l.bs.drop x).take (y - x)))) (ihr : ∀ W (x y : Nat), Ext [] w W → (y ≤ x ∨ y ≤ r.n) → Calls Try.prog 42 #[Pv r.b, I6 x, I6 y] W (NdO W ((r.bs.drop x).take (y - x)))) :
  Calls Try.prog 42 #[(Pv t.b), I6 ↑i, I6 ↑j] w fun e w' => NdO w ((t.bs.drop i).take (j - i)) e w' := by
 refine calls_body 74 [(0, (Pv t.b)), (1, I6 ↑i), (2, I6 ↑j)] Try.func42 rfl (by kernel_rfl) (by kernel_rfl) (by kernel_rfl) fun a hS => ?_
 have hE0 : Ext [] w w := Ext.refl _ _
 refine sq fun K1 hK1 => ?_
 refine rgn 1 ?_
 refine sg wide_wide [.p] [] [(0, (Pv t.b)), (1, I6 ↑i), (2, I6 ↑j), (6, .pointer none)] 1 0 hS .nil fun a hS => ?_
 refine seg_end ?_
 refine hK1 _ _ ?_
 refine sq fun K2 hK2 => ?_
 refine wpIn_block ?_
 refine sq fun K3 hK3 => ?_
 refine rgn 4 ?_
 refine sg wide_wide [.p, .p, .as (.bool false), .p] [Value.bool (decide ((↑i : Int) ≥ ↑j)) = .bool false] [(0, (Pv t.b)), (1, I6 ↑i), (2, I6 ↑j), (6, .pointer none), (8, .bool false)] 4 0 hS (.cons (as_f (by omega)) .nil) fun a hS => ?_
 refine seg_end ?_
 refine hK3 _ _ ?_
 refine cond_f hS rfl ?_
 refine sq fun K4 hK4 => ?_
 refine rgn 12 ?_
 refine sg wide_wide [.p, .as (.bool false), .p, .no, .no, .no, .no, .no, .no, .no, .p, .p] [Value.bool (((↑i : Int) == 0)) = .bool false] [(0, (Pv t.b)), (1, I6 ↑i), (2, I6 ↑j), (6, .pointer none), (8, .bool false), (12, .bool false)] 12 0 hS (.cons (as_eq_f (by omega)) .nil) fun a hS => ?_
 refine seg_end ?_
 refine hK4 _ _ ?_
 refine cond_f hS rfl ?_
 refine sq fun K5 hK5 => ?_
 refine rgn 6 ?_
 refine sg wide_wide [.p, .p, .p, .ld (I6 ↑t.hg), .as (.bool false), .p] [w.cell? ⟨t.b, 5, none⟩ = some (I6 ↑t.hg), Value.bool (((↑t.hg : Int) == 0)) = .bool false] [(0, (Pv t.b)), (1, I6 ↑i), (2, I6 ↑j), (6, .pointer none), (8, .bool false), (12, .bool false), (25, .bool false)] 6 0 hS (.cons (hC.cell 5 rfl) (.cons (as_eq_f (by omega)) .nil)) fun a hS => ?_
 refine seg_end ?_
 refine hK5 _ _ ?_
 refine cond_f hS rfl ?_
 refine wpIn_skip ?_
 refine inBlock_normal ?_
 refine hK2 _ _ ?_
 refine sq fun K6 hK6 => ?_
 refine rgn 9 ?_
 refine sg wide_wide [.p, .p, .p, .ld ((Pv l.b)), .p, .p, .p, .ld (I6 ↑l.n), .p] [w.cell? ⟨t.b, 0, none⟩ = some ((Pv l.b)), w.cell? ⟨l.b, 3, none⟩ = some (I6 ↑l.n)] [(0, (Pv t.b)), (1, I6 ↑i), (2, I6 ↑j), (6, .pointer none), (8, .bool false), (12, .bool false), (25, .bool false), (7, I6 ↑l.n)] 9 0 hS (.cons (hC.cell 0 rfl) (.cons ((hl.blk).cell 3 rfl) .nil)) fun a hS => ?_
 refine seg_end ?_
 refine hK6 _ _ ?_
 refine sq fun K7 hK7 => ?_
 refine region_gh2 (G := (Option Nd) × World × (Option Nd) × World × (Option Nd) × World) wide_wide [.q .p, .q .p, .q .p, .q (.ld ((Pv l.b))), .q .p, .q .p, .q (.as (I6 ((min i l.n : Nat) : Int))), .q .p, .q .p, .q (.as (I6 ((min j l.n : Nat) : Int))), .e, .q .p, .q .p, .q .p, .q (.ld ((Pv r.b))), .q .p, .q .p, .q (.as (I6 (↑i - ↑l.n))), .q (.as (I6 ((i - l.n : Nat) : Int))), .q .p, .q .p, .q (.as (I6 (↑j - ↑l.n))), .q (.as (I6 ((j - l.n : Nat) : Int))), .e, .e, .e, .q .p] [0, 0, 0, 0, 0, 0, 0, 0, 0, 0, 0, 0, 0, 0, 0, 0, 0, 0, 0, 0, 0, 0, 0, 1, 2, 3, 4] [0, 0, 0, 0, 0, 0, 0, 0, 0, 0, 0, 1, 1, 1, 1, 1, 1, 1, 1, 1, 1, 1, 1, 1, 2, 3, 4] [0, 1, 3, 7, 0, 0, 48, 0, 0, 384, 1023, 0, 2048, 6144, 14336, 0, 0, 98304, 229376, 0, 0, 1572864, 3670016, 8388607, 16777215, 33554431, 67108863] [10, 23, 24, 25] [(10, 0), (23, 1), (24, 2), (25, 3)] 4 (fun ⟨o8, wc8, o9, wc9, z10, wc10⟩ => ([(0, (Pv t.b)), (1, I6 ↑i), (2, I6 ↑j), (8, .bool false), (12, .bool false), (25, .bool false), (7, I6 ↑l.n), (6, (op z10)), (48, (Pv t.b)), (49, (Pv t.b)), (50, (Pv t.b)), (51, (Pv l.b)), (52, I6 ↑i), (53, I6 ↑l.n), (54, I6 ((min i l.n : Nat) : Int)), (55, I6 ↑j), (56, I6 ↑l.n), (57, I6 ((min j l.n : Nat) : Int)), (58, (op o8)), (59, (Pv t.b)), (60, (Pv t.b)), (61, (Po t.b 1)), (62, (Pv r.b)), (63, I6 ↑i), (64, I6 ↑l.n), (65, I6 (↑i - ↑l.n)), (66, I6 ((i - l.n : Nat) : Int)), (67, I6 ↑j), (68, I6 ↑l.n), (69, I6 (↑j - ↑l.n)), (70, I6 ((j - l.n : Nat) : Int)), (71, (op o9)), (72, .slice (some ⟨wc9.heap.size, 0, none⟩) 2 2), (73, (op z10))] : Fm)) (fun ⟨o8, wc8, o9, wc9, z10, wc10⟩ => [w.drew, wc8, wc9, (wc9).alloc (.cells #[(op o8), (op o9)] 81), wc10]) (w.drew) (fun e ⟨o8, wc8, o9, wc9, z10, wc10⟩ => hAt [True, (okO wc8 o8) ∧ (obs o8 = (l.bs.drop (min i l.n)).take ((min j l.n) - (min i l.n))) ∧ (Ext [] w.drew wc8) ∧ True, (okO wc8 o8) ∧ (obs o8 = (l.bs.drop (min i l.n)).take ((min j l.n) - (min i l.n))) ∧ (Ext [] w.drew wc8) ∧ (okO wc9 o9) ∧ (obs o9 = (r.bs.drop (i - l.n)).take ((j - l.n) - (i - l.n))) ∧ (Ext [] wc8 wc9) ∧ True, (okO wc8 o8) ∧ (obs o8 = (l.bs.drop (min i l.n)).take ((min j l.n) - (min i l.n))) ∧ (Ext [] w.drew wc8) ∧ (okO wc9 o9) ∧ (obs o9 = (r.bs.drop (i - l.n)).take ((j - l.n) - (i - l.n))) ∧ (Ext [] wc8 wc9) ∧ True, (okO wc8 o8) ∧ (obs o8 = (l.bs.drop (min i l.n)).take ((min j l.n) - (min i l.n))) ∧ (Ext [] w.drew wc8) ∧ (okO wc9 o9) ∧ (obs o9 = (r.bs.drop (i - l.n)).take ((j - l.n) - (i - l.n))) ∧ (Ext [] wc8 wc9) ∧ (okO wc10 z10) ∧ (obs z10 = cat [o8, o9]) ∧ (Ext [] ((wc9).alloc (.cells #[(op o8), (op o9)] 81)) wc10) ∧ True] e) (fun ⟨o8, wc8, o9, wc9, z10, wc10⟩ w' => [(3, [w'.cell? ⟨t.b, 0, none⟩ = some ((Pv l.b))]), (6, [Value.int .i64 (if (↑l.n : Int) < ↑i then ↑l.n else ↑i) = I6 ((min i l.n : Nat) : Int)]), (9, [Value.int .i64 (if (↑l.n : Int) < ↑j then ↑l.n else ↑j) = I6 ((min j l.n : Nat) : Int)]), (14, [w'.cell? ⟨t.b, 1, none⟩ = some ((Pv r.b))]), (17, [Value.int .i64 (IntKind.i64.wrap (↑i - ↑l.n)) = I6 (↑i - ↑l.n)]), (18, [Value.int .i64 (if (↑i - ↑l.n : Int) < 0 then 0 else ↑i - ↑l.n) = I6 ((i - l.n : Nat) : Int)]), (21, [Value.int .i64 (IntKind.i64.wrap (↑j - ↑l.n)) = I6 (↑j - ↑l.n)]), (22, [Value.int .i64 (if (↑j - ↑l.n : Int) < 0 then 0 else ↑j - ↑l.n) = I6 ((j - l.n : Nat) : Int)])]) (none, w.drew, none, w, none, w) [0, 1, 2, 8, 12, 25, 7] [] hS (by kernel_rfl) (by kernel_rfl) (by kernel_rfl) (by kernel_rfl) (fun ⟨o8, wc8, o9, wc9, z10, wc10⟩ _ => by kernel_rfl) (by kernel_rfl) (by kernel_rfl) (by kernel_rfl) trivial ?_ (by kernel_rfl) ?_ ?_
 ·rintro e ⟨o8, wc8, o9, wc9, z10, wc10⟩ w' hw hH
  refine (.cons ?_ (.cons ?_ (.cons ?_ (.cons ?_ (.cons ?_ (.cons ?_ (.cons ?_ (.cons ?_ .nil))))))))
  ·intro h1 h2
   obtain rfl : e = 0 := Nat.le_antisymm h2 h1
   have hwe : w.drew = w' := (hw.trans (by kernel_rfl)).symm
   subst hwe
   clear hH
   exact (.cons ((hC.drew : Blk w.drew t.b 89 (#[(Pv l.b), (Pv r.b), .slice none 0 0, I6 ↑t.n, I6 ↑t.rw, I6 ↑t.hg])).cell 0 rfl) .nil)
  ·intro h1 h2
   obtain rfl : e = 0 := Nat.le_antisymm h2 h1
   have hwe : w.drew = w' := (hw.trans (by kernel_rfl)).symm
   subst hwe
   clear hH
   exact (.cons (by congr 1; rw [Nat.min_def]; split <;> split <;> omega) .nil)
  ·intro h1 h2
   obtain rfl : e = 0 := Nat.le_antisymm h2 h1
   have hwe : w.drew = w' := (hw.trans (by kernel_rfl)).symm
   subst hwe
   clear hH
   exact (.cons (by congr 1; rw [Nat.min_def]; split <;> split <;> omega) .nil)
  ·intro h1 h2
   replace h1 : 0 ≤ e := h1
   replace h2 : e ≤ 1 := h2
   have he : e = 0 ∨ e = 1 := by omega
   rcases he with rfl | rfl
   ·have hwe : w.drew = w' := (hw.trans (by kernel_rfl)).symm
    subst hwe
    clear hH
    exact (.cons ((hC.drew : Blk w.drew t.b 89 (#[(Pv l.b), (Pv r.b), .slice none 0 0, I6 ↑t.n, I6 ↑t.rw, I6 ↑t.hg])).cell 1 rfl) .nil)
   ·have hwe : wc8 = w' := (hw.trans (by kernel_rfl)).symm
    subst hwe
    obtain ⟨ho8, hb8, hEc8, _⟩ := hH
    exact (.cons (((hC.drew : Blk w.drew t.b 89 (#[(Pv l.b), (Pv r.b), .slice none 0 0, I6 ↑t.n, I6 ↑t.rw, I6 ↑t.hg])).ext hEc8 (by simp) : Blk wc8 t.b 89 (#[(Pv l.b), (Pv r.b), .slice none 0 0, I6 ↑t.n, I6 ↑t.rw, I6 ↑t.hg])).cell 1 rfl) .nil)
  ·intro h1 h2
   replace h1 : 0 ≤ e := h1
   replace h2 : e ≤ 1 := h2
   have he : e = 0 ∨ e = 1 := by omega
   rcases he with rfl | rfl
   ·have hwe : w.drew = w' := (hw.trans (by kernel_rfl)).symm
    subst hwe
    clear hH
    exact (.cons (as_i64 (by omega)) .nil)
   ·have hwe : wc8 = w' := (hw.trans (by kernel_rfl)).symm
    subst hwe
    obtain ⟨ho8, hb8, hEc8, _⟩ := hH
    exact (.cons (as_i64 (by omega)) .nil)
  ·intro h1 h2
   replace h1 : 0 ≤ e := h1
   replace h2 : e ≤ 1 := h2
   have he : e = 0 ∨ e = 1 := by omega
   rcases he with rfl | rfl
   ·have hwe : w.drew = w' := (hw.trans (by kernel_rfl)).symm
    subst hwe
    clear hH
    exact (.cons (by congr 1; split <;> omega) .nil)
   ·have hwe : wc8 = w' := (hw.trans (by kernel_rfl)).symm
    subst hwe
    obtain ⟨ho8, hb8, hEc8, _⟩ := hH
    exact (.cons (by congr 1; split <;> omega) .nil)
  ·intro h1 h2
   replace h1 : 0 ≤ e := h1
   replace h2 : e ≤ 1 := h2
   have he : e = 0 ∨ e = 1 := by omega
   rcases he with rfl | rfl
   ·have hwe : w.drew = w' := (hw.trans (by kernel_rfl)).symm
    subst hwe
    clear hH
    exact (.cons (as_i64 (by omega)) .nil)
   ·have hwe : wc8 = w' := (hw.trans (by kernel_rfl)).symm
    subst hwe
    obtain ⟨ho8, hb8, hEc8, _⟩ := hH
    exact (.cons (as_i64 (by omega)) .nil)
  ·intro h1 h2
   replace h1 : 0 ≤ e := h1
   replace h2 : e ≤ 1 := h2
   have he : e = 0 ∨ e = 1 := by omega
   rcases he with rfl | rfl
   ·have hwe : w.drew = w' := (hw.trans (by kernel_rfl)).symm
    subst hwe
    clear hH
    exact (.cons (by congr 1; split <;> omega) .nil)
   ·have hwe : wc8 = w' := (hw.trans (by kernel_rfl)).symm
    subst hwe
    obtain ⟨ho8, hb8, hEc8, _⟩ := hH
    exact (.cons (by congr 1; split <;> omega) .nil)
 ·refine (.cons ?eq11_10 (.cons ?eq11_23 (.cons ?eq11_24 (.cons ?eq11_25 .nil))))
  ·rintro ⟨o8, wc8, o9, wc9, z10, wc10⟩ hH
   clear hH
   refine eff_gh (w.drew) (by kernel_rfl) ?_
   refine upon_call (f := 42) (vs := [(Pv l.b), I6 ((min i l.n : Nat) : Int), I6 ((min j l.n : Nat) : Int)]) (cap := #[]) (d := (some 58)) (by kernel_rfl) Try.call42 #[(Pv l.b), I6 ((min i l.n : Nat) : Int), I6 ((min j l.n : Nat) : Int)] (by kernel_rfl) (ihl w.drew (min i l.n) (min j l.n) (hE0.trans0 ((Ext.refl [] _).drew)) (by omega)) ?_
   rintro _ wc8 ⟨o8, rfl, ho8, hb8, hEc8⟩
   exact ⟨_, rfl, ⟨(o8, wc8, o9, wc9, z10, wc10), by kernel_rfl, by kernel_rfl, by kernel_rfl, ⟨ho8, hb8, hEc8, trivial⟩⟩⟩
  ·rintro ⟨o8, wc8, o9, wc9, z10, wc10⟩ hH
   obtain ⟨ho8, hb8, hEc8, _⟩ := hH
   refine eff_gh (wc8) (by kernel_rfl) ?_
   refine upon_call (f := 42) (vs := [(Pv r.b), I6 ((i - l.n : Nat) : Int), I6 ((j - l.n : Nat) : Int)]) (cap := #[]) (d := (some 71)) (by kernel_rfl) Try.call42 #[(Pv r.b), I6 ((i - l.n : Nat) : Int), I6 ((j - l.n : Nat) : Int)] (by kernel_rfl) (ihr wc8 (i - l.n) (j - l.n) (hE0.trans0 ((((Ext.refl [] _).drew)).trans0 hEc8)) (by omega)) ?_
   rintro _ wc9 ⟨o9, rfl, ho9, hb9, hEc9⟩
   exact ⟨_, rfl, ⟨(o8, wc8, o9, wc9, z10, wc10), by kernel_rfl, by kernel_rfl, by kernel_rfl, ⟨ho8, hb8, hEc8, ho9, hb9, hEc9, trivial⟩⟩⟩
  ·rintro ⟨o8, wc8, o9, wc9, z10, wc10⟩ hH
   obtain ⟨ho8, hb8, hEc8, ho9, hb9, hEc9, _⟩ := hH
   refine eff_gh (wc9) (by kernel_rfl) ?_
   exact upon_new (nb := wc9.heap.size) (cs := #[(op o8), (op o9)]) (T := 81) (v := Value.slice (some ⟨wc9.heap.size, 0, none⟩) 2 2) (d := (some 72)) (by kernel_rfl) (by first | rfl | simp [upd_size]) ⟨(o8, wc8, o9, wc9, z10, wc10), by kernel_rfl, by kernel_rfl, by kernel_rfl, ⟨ho8, hb8, hEc8, ho9, hb9, hEc9, trivial⟩⟩
  ·rintro ⟨o8, wc8, o9, wc9, z10, wc10⟩ hH
   obtain ⟨ho8, hb8, hEc8, ho9, hb9, hEc9, _⟩ := hH
   refine eff_gh ((wc9).alloc (.cells #[(op o8), (op o9)] 81)) (by kernel_rfl) ?_
   refine upon_call (f := 43) (vs := [.slice (some ⟨wc9.heap.size, 0, none⟩) 2 2]) (cap := #[]) (d := (some 73)) (by kernel_rfl) Try.call43 #[.slice (some ⟨wc9.heap.size, 0, none⟩) 2 2] (by kernel_rfl) (joined_any (os := [o8, o9]) (RdV.of_blk (n := 2) (Blk.new' _ _ _ (by first | rfl | simp [upd_size]) : Blk ((wc9).alloc (.cells #[(op o8), (op o9)] 81)) wc9.heap.size 81 (#[(op o8), (op o9)])) rfl) (by intro q hq; simp at hq; rcases hq with rfl | rfl; exact ((ho8.ext0 hEc9).ext0 ((Ext.refl [] _).alloc _)); exact (ho9.ext0 ((Ext.refl [] _).alloc _))) (by have e1 := Nd.len l; have e2 := Nd.len r; simp [cat, hb8, hb9]; omega) (by simp) (((ho8.ext0 hEc9).ext0 ((Ext.refl [] _).alloc _))).zb) ?_
   rintro _ wc10 ⟨z10, rfl, hz10, hy10, hEc10⟩
   exact ⟨_, rfl, ⟨(o8, wc8, o9, wc9, z10, wc10), by kernel_rfl, by kernel_rfl, by kernel_rfl, ⟨ho8, hb8, hEc8, ho9, hb9, hEc9, hz10, hy10, hEc10, trivial⟩⟩⟩
 rintro ⟨o8, wc8, o9, wc9, z10, wc10⟩ a w12 hS hw13 hH
 obtain ⟨ho8, hb8, hEc8, ho9, hb9, hEc9, hz10, hy10, hEc10, _⟩ := hH
 replace hw13 : w12 = wc10 := hw13.trans (by kernel_rfl)
 have hE17 : Ext [] w w12 := by rw [hw13]; exact ((((hE0.drew).trans0 hEc8).trans0 hEc9).alloc _).trans0 hEc10
 replace hS := hS.kp [(0, (Pv t.b)), (1, I6 ↑i), (2, I6 ↑j), (8, .bool false), (12, .bool false), (25, .bool false), (7, I6 ↑l.n), (6, (op z10))]
 refine hK7 _ _ ?_
 refine wpIn_ret ?_
 refine ret1 hS Try.results42 rfl ?_
 exact ⟨z10, rfl, by rw [hw13]; exact hz10, by rw [hy10, show cat [o8, o9] = obs o8 ++ obs o9 by simp [cat], hb8, hb9, hbs]; exact cut_app _ _ _ _ _ (Nd.len l), hE17⟩

theorem cut_some : ∀ (k : Nat) (t : Nd) (w : World) (i j : Nat), t.hg = k → t.Ok w → (j ≤ i ∨ j ≤ t.n) → t.n ≤ 10000000000 → Calls Try.prog 42 #[Pv t.b, I6 i, I6 j] w (NdO w ((t.bs.drop i).take (j - i))) := by
 intro k
 induction k using Nat.strongRecOn with
 | _ k ih =>
  intro t w i j hk ht hj hn
  by_cases hij : i < j
  ·have hj : j ≤ t.n := by omega
   by_cases hh : t.hg = 0
   ·obtain ⟨v, hC, hv, hvf⟩ := ht.one hh
    have hvz : ∀ x ∈ ob v, ¬ZZ x := fun x hx => ht.nz x (hvf x hx)
    by_cases h0 : i = 0
    ·by_cases h1 : j = t.n
     ·exact cut_whole ht hij hj hn h0 h1
     ·exact cut_leaf_a ht hij hj hn h0 h1 hh hv hvz hC
    ·exact cut_leaf_b ht hij hj hn h0 hh hv hvz hC
   ·obtain ⟨l, r, hC, hl, hr, e1, _, e2, e3⟩ := ht.two hh
    have ihl : ∀ W (x y : Nat), Ext [] w W → (y ≤ x ∨ y ≤ l.n) → Calls Try.prog 42 #[Pv l.b, I6 x, I6 y] W (NdO W ((l.bs.drop x).take (y - x))) := fun W x y hE h => ih l.hg (by omega) l W x y rfl (hl.ext0 hE) h (by omega)
    have ihr : ∀ W (x y : Nat), Ext [] w W → (y ≤ x ∨ y ≤ r.n) → Calls Try.prog 42 #[Pv r.b, I6 x, I6 y] W (NdO W ((r.bs.drop x).take (y - x))) := fun W x y hE h => ih r.hg (by omega) r W x y rfl (hr.ext0 hE) h (by omega)
    by_cases h0 : i = 0
    ·by_cases h1 : j = t.n
     ·exact cut_whole ht hij hj hn h0 h1
     ·exact cut_two_a ht hij hj hn h0 h1 hh hC hl hr e1 e2 ihl ihr
    ·exact cut_two_b ht hij hj hn h0 hh hC hl hr e1 e2 ihl ihr
  ·rw [show j - i = 0 by omega, List.take_zero]
   exact cut_none (o := some t) (by omega) ht.zb

theorem cut_any {o : Option Nd} {w : World} (i j : Nat) (ho : okO w o) (hj : j ≤ i ∨ j ≤ (obs o).length) (hn : (obs o).length ≤ 10000000000) : Calls Try.prog 42 #[op o, I6 i, I6 j] w (NdO w (((obs o).drop i).take (j - i))) := by
 cases o with
 | none =>
  have hj : j ≤ i := by simp [obs] at hj; omega
  rw [show j - i = 0 by omega, List.take_zero]
  exact cut_none (o := none) (by omega) ho
 | some t => exact cut_some _ t w i j rfl ho (by simpa [obs, Nd.len] using hj) (by simpa [obs, Nd.len] using hn)

end Go.Proofs.Ytkdbfjomjlhfbaa
