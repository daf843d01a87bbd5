import Derived.Test.YtkdbfjomjlhfbaaProg
import Derived.Test.YtkdbfjomjlhfbaaNd
namespace Go.Proofs.Ytkdbfjomjlhfbaa
open Go.Vc
set_option linter.unusedSectionVars false
variable [Inhabited Zt]

theorem plus_any {x y z u : Int} (w : World) (h1 : 0 ≤ x ∧ 0 ≤ y ∧ 0 ≤ z ∧ 0 ≤ u) (h2 : x + z ≤ 1000000000000 ∧ y + u ≤ 1000000000000) :
  Calls Try.prog 96 #[.agg #[I6 x, I6 y], .agg #[I6 z, I6 u]] w fun e w' => e = .returned (.agg #[I6 (x + z), I6 (y + u)]) ∧ Ext [] w w' := by
 refine calls_body 16 [(0, .agg #[I6 x, I6 y]), (1, .agg #[I6 z, I6 u])] Try.func96 rfl (by kernel_rfl) (by kernel_rfl) (by kernel_rfl) fun a hS => ?_
 have hE0 : Ext [] w w := Ext.refl _ _
 refine sq fun K1 hK1 => ?_
 refine rgn 3 ?_
 refine eff_box wide_wide (r := 2) (cs := #[I6 x, I6 y]) (T := 86) (d := (some 2)) hS (by kernel_rfl) fun a w2 hw3 hS => ?_
 have hB4 : Blk w2 (w.heap.size) 86 #[I6 x, I6 y] := by rw [hw3]; exact Blk.new _ _ _
 have hs5 : w.heap.size ≤ w.heap.size := hE0.size
 have hE6 : Ext [] w w2 := by rw [hw3]; exact hE0.alloc _
 refine eff_box wide_wide (r := 1) (cs := #[I6 z, I6 u]) (T := 86) (d := (some 3)) hS (by kernel_rfl) fun a w7 hw8 hS => ?_
 have hB10 := Blk.at' hw8 (hB4.alloc _)
 have hB11 : Blk w7 (w2.heap.size) 86 #[I6 z, I6 u] := by rw [hw8]; exact Blk.new _ _ _
 have hs12 : w.heap.size ≤ w2.heap.size := hE6.size
 have hE13 : Ext [] w w7 := by rw [hw8]; exact hE6.alloc _
 refine eff_box wide_wide (r := 0) (cs := #[I6 0, I6 0]) (T := 86) (d := (some 4)) hS (by kernel_rfl) fun a w14 hw15 hS => ?_
 have hB18 := Blk.at' hw15 (hB10.alloc _)
 have hB19 := Blk.at' hw15 (hB11.alloc _)
 have hB20 : Blk w14 (w7.heap.size) 86 #[I6 0, I6 0] := by rw [hw15]; exact Blk.new _ _ _
 have hs21 : w.heap.size ≤ w7.heap.size := hE13.size
 have hE22 : Ext [] w w14 := by rw [hw15]; exact hE13.alloc _
 refine seg_end ?_
 refine hK1 _ _ ?_
 refine sq fun K23 hK23 => ?_
 refine rgn 12 ?_
 refine sg wide_wide [.p, .ld (I6 x), .p, .ld (I6 z), .as (I6 (x + z)), .p, .ld (I6 y), .p, .ld (I6 u), .as (I6 (y + u)), .p] [w14.cell? ⟨w.heap.size, 0, none⟩ = some (I6 x), w14.cell? ⟨w2.heap.size, 0, none⟩ = some (I6 z), Value.int .i64 (IntKind.i64.wrap (x + z)) = I6 (x + z), w14.cell? ⟨w.heap.size, 1, none⟩ = some (I6 y), w14.cell? ⟨w2.heap.size, 1, none⟩ = some (I6 u), Value.int .i64 (IntKind.i64.wrap (y + u)) = I6 (y + u)] [(0, .agg #[I6 x, I6 y]), (1, .agg #[I6 z, I6 u]), (2, (Pv w.heap.size)), (3, (Pv w2.heap.size)), (4, (Pv w7.heap.size)), (15, .agg #[I6 (x + z), I6 (y + u)])] 11 1 hS (.cons (hB18.cell 0 rfl) (.cons (hB19.cell 0 rfl) (.cons (as_i64 (by omega)) (.cons (hB18.cell 1 rfl) (.cons (hB19.cell 1 rfl) (.cons (as_i64 (by omega)) .nil)))))) fun a hS => ?_
 refine eff_store wide_wide (r := 0) (b := w7.heap.size) (off := 0) (vs := [I6 (x + z), I6 (y + u)]) hS (by kernel_rfl) hB20 (by simp) fun a w24 hw25 hS => ?_
 have hB28 : Blk w24 w7.heap.size 86 (#[I6 (x + z), I6 (y + u)]) := by rw [hw25]; exact hB20.upd _ _
 have hE29 : Ext [] w w24 := by rw [hw25]; exact hE22.updIn (.inr hs21) _ _
 refine seg_end ?_
 refine hK23 _ _ ?_
 refine wpIn_ret ?_
 refine retA1 hS Try.results96 (by kernel_rfl) (by kernel_rfl) rfl hB28 ?_
 exact ⟨rfl, hE29⟩

theorem over_any {l r : Nd} {w : World} (hl : l.Ok w) (hr : r.Ok w) (hn : l.n + r.n ≤ 100000000000) :
  Calls Try.prog 69 #[(Pv l.b), (Pv r.b)] w fun e w' => NdN w (l.bs ++ r.bs) (l.n + r.n) e w' := by
 have h1 := hl.high
 have h2 := hr.high
 have h3 := Nd.rw_le l
 have h4 := Nd.rw_le r
 refine calls_body 29 [(0, (Pv l.b)), (1, (Pv r.b))] Try.func69 rfl (by kernel_rfl) (by kernel_rfl) (by kernel_rfl) fun a hS => ?_
 have hE0 : Ext [] w w := Ext.refl _ _
 refine sq fun K1 hK1 => ?_
 refine rgn 1 ?_
 refine sg wide_wide [.p] [] [(0, (Pv l.b)), (1, (Pv r.b)), (4, .pointer none)] 1 0 hS .nil fun a hS => ?_
 refine seg_end ?_
 refine hK1 _ _ ?_
 refine sq fun K2 hK2 => ?_
 refine region_gh2 (G := World) wide_wide [.q .p, .q .p, .q .p, .q .p, .q .p, .q (.lds [I6 ↑l.n, I6 ↑l.rw]), .q .p, .q .p, .q .p, .q .p, .q (.lds [I6 ↑r.n, I6 ↑r.rw]), .e, .q .p, .q .p, .q .p, .q (.ld (I6 ↑l.hg)), .q .p, .q .p, .q .p, .q (.ld (I6 ↑r.hg)), .q (.as (I6 ((max l.hg r.hg : Nat) : Int))), .q (.as (I6 (1 + ((max l.hg r.hg : Nat) : Int)))), .q .p, .e, .q .p] [0, 0, 0, 0, 0, 0, 0, 0, 0, 0, 0, 0, 0, 0, 0, 0, 0, 0, 0, 0, 0, 0, 1, 1, 2] [1, 1, 0, 0, 0, 0, 0, 0, 0, 0, 0, 0, 1, 1, 1, 1, 1, 1, 1, 1, 1, 1, 1, 1, 2] [0, 0, 0, 4, 12, 28, 60, 0, 128, 384, 896, 2044, 0, 4096, 12288, 28672, 0, 65536, 196608, 458752, 1044480, 2093056, 4194303, 8388607, 16777215] [11, 23] [(11, 0), (23, 1)] 2 (fun wc3 => ([(0, (Pv l.b)), (1, (Pv r.b)), (4, (Pv wc3.heap.size)), (5, (Pv l.b)), (6, (Pv r.b)), (7, (Pv l.b)), (8, (Pv l.b)), (9, (Po l.b 3)), (10, .agg #[I6 ↑l.n, I6 ↑l.rw]), (11, .iface 86 (.agg #[I6 ↑l.n, I6 ↑l.rw])), (12, (Pv r.b)), (13, (Pv r.b)), (14, (Po r.b 3)), (15, .agg #[I6 ↑r.n, I6 ↑r.rw]), (16, .agg #[I6 (↑l.n + ↑r.n), I6 (↑l.rw + ↑r.rw)]), (17, (Pv l.b)), (18, (Pv l.b)), (19, (Po l.b 5)), (20, I6 ↑l.hg), (21, (Pv r.b)), (22, (Pv r.b)), (23, (Po r.b 5)), (24, I6 ↑r.hg), (25, I6 ((max l.hg r.hg : Nat) : Int)), (26, I6 (1 + ((max l.hg r.hg : Nat) : Int))), (27, .agg #[(Pv l.b), (Pv r.b), .slice none 0 0, I6 (↑l.n + ↑r.n), I6 (↑l.rw + ↑r.rw), I6 (1 + ((max l.hg r.hg : Nat) : Int))]), (28, (Pv wc3.heap.size))] : Fm)) (fun wc3 => [w.drew, wc3, (wc3).alloc (.cells #[(Pv l.b), (Pv r.b), .slice none 0 0, I6 (↑l.n + ↑r.n), I6 (↑l.rw + ↑r.rw), I6 (1 + ((max l.hg r.hg : Nat) : Int))] 89)]) (w.drew) (fun e wc3 => hAt [True, (Ext [] w.drew wc3) ∧ True, (Ext [] w.drew wc3) ∧ True] e) (fun wc3 w' => [(5, [w'.cell? ⟨l.b, 3, none⟩ = some (I6 ↑l.n), w'.cell? ⟨l.b, 4, none⟩ = some (I6 ↑l.rw)]), (10, [w'.cell? ⟨r.b, 3, none⟩ = some (I6 ↑r.n), w'.cell? ⟨r.b, 4, none⟩ = some (I6 ↑r.rw)]), (15, [w'.cell? ⟨l.b, 5, none⟩ = some (I6 ↑l.hg)]), (19, [w'.cell? ⟨r.b, 5, none⟩ = some (I6 ↑r.hg)]), (20, [Value.int .i64 (if (↑l.hg : Int) < ↑r.hg then ↑r.hg else ↑l.hg) = I6 ((max l.hg r.hg : Nat) : Int)]), (21, [Value.int .i64 (IntKind.i64.wrap (1 + ((max l.hg r.hg : Nat) : Int))) = I6 (1 + ((max l.hg r.hg : Nat) : Int))])]) w [0, 1] [] hS (by kernel_rfl) (by kernel_rfl) (by kernel_rfl) (by kernel_rfl) (fun wc3 _ => by kernel_rfl) (by kernel_rfl) (by kernel_rfl) (by kernel_rfl) trivial ?_ (by kernel_rfl) ?_ ?_
 ·rintro e wc3 w' hw hH
  refine (.cons ?_ (.cons ?_ (.cons ?_ (.cons ?_ (.cons ?_ (.cons ?_ .nil))))))
  ·intro h1 h2
   obtain rfl : e = 0 := Nat.le_antisymm h2 h1
   have hwe : w.drew = w' := (hw.trans (by kernel_rfl)).symm
   subst hwe
   clear hH
   exact (.cons ((hl.blk.drew : Blk w.drew l.b 89 (#[l.lp, l.rp, l.pv, I6 ↑l.n, I6 ↑l.rw, I6 ↑l.hg])).cell 3 rfl) (.cons ((hl.blk.drew : Blk w.drew l.b 89 (#[l.lp, l.rp, l.pv, I6 ↑l.n, I6 ↑l.rw, I6 ↑l.hg])).cell 4 rfl) .nil))
  ·intro h1 h2
   obtain rfl : e = 0 := Nat.le_antisymm h2 h1
   have hwe : w.drew = w' := (hw.trans (by kernel_rfl)).symm
   subst hwe
   clear hH
   exact (.cons ((hr.blk.drew : Blk w.drew r.b 89 (#[r.lp, r.rp, r.pv, I6 ↑r.n, I6 ↑r.rw, I6 ↑r.hg])).cell 3 rfl) (.cons ((hr.blk.drew : Blk w.drew r.b 89 (#[r.lp, r.rp, r.pv, I6 ↑r.n, I6 ↑r.rw, I6 ↑r.hg])).cell 4 rfl) .nil))
  ·intro h1 h2
   replace h1 : 0 ≤ e := h1
   replace h2 : e ≤ 1 := h2
   have he : e = 0 ∨ e = 1 := by omega
   rcases he with rfl | rfl
   ·have hwe : w.drew = w' := (hw.trans (by kernel_rfl)).symm
    subst hwe
    clear hH
    exact (.cons ((hl.blk.drew : Blk w.drew l.b 89 (#[l.lp, l.rp, l.pv, I6 ↑l.n, I6 ↑l.rw, I6 ↑l.hg])).cell 5 rfl) .nil)
   ·have hwe : wc3 = w' := (hw.trans (by kernel_rfl)).symm
    subst hwe
    obtain ⟨hEc3, _⟩ := hH
    exact (.cons (((hl.blk.drew : Blk w.drew l.b 89 (#[l.lp, l.rp, l.pv, I6 ↑l.n, I6 ↑l.rw, I6 ↑l.hg])).ext hEc3 (by simp) : Blk wc3 l.b 89 (#[l.lp, l.rp, l.pv, I6 ↑l.n, I6 ↑l.rw, I6 ↑l.hg])).cell 5 rfl) .nil)
  ·intro h1 h2
   replace h1 : 0 ≤ e := h1
   replace h2 : e ≤ 1 := h2
   have he : e = 0 ∨ e = 1 := by omega
   rcases he with rfl | rfl
   ·have hwe : w.drew = w' := (hw.trans (by kernel_rfl)).symm
    subst hwe
    clear hH
    exact (.cons ((hr.blk.drew : Blk w.drew r.b 89 (#[r.lp, r.rp, r.pv, I6 ↑r.n, I6 ↑r.rw, I6 ↑r.hg])).cell 5 rfl) .nil)
   ·have hwe : wc3 = w' := (hw.trans (by kernel_rfl)).symm
    subst hwe
    obtain ⟨hEc3, _⟩ := hH
    exact (.cons (((hr.blk.drew : Blk w.drew r.b 89 (#[r.lp, r.rp, r.pv, I6 ↑r.n, I6 ↑r.rw, I6 ↑r.hg])).ext hEc3 (by simp) : Blk wc3 r.b 89 (#[r.lp, r.rp, r.pv, I6 ↑r.n, I6 ↑r.rw, I6 ↑r.hg])).cell 5 rfl) .nil)
  ·intro h1 h2
   replace h1 : 0 ≤ e := h1
   replace h2 : e ≤ 1 := h2
   have he : e = 0 ∨ e = 1 := by omega
   rcases he with rfl | rfl
   ·have hwe : w.drew = w' := (hw.trans (by kernel_rfl)).symm
    subst hwe
    clear hH
    exact (.cons (by congr 1; rw [Nat.max_def]; split <;> split <;> omega) .nil)
   ·have hwe : wc3 = w' := (hw.trans (by kernel_rfl)).symm
    subst hwe
    obtain ⟨hEc3, _⟩ := hH
    exact (.cons (by congr 1; rw [Nat.max_def]; split <;> split <;> omega) .nil)
  ·intro h1 h2
   replace h1 : 0 ≤ e := h1
   replace h2 : e ≤ 1 := h2
   have he : e = 0 ∨ e = 1 := by omega
   rcases he with rfl | rfl
   ·have hwe : w.drew = w' := (hw.trans (by kernel_rfl)).symm
    subst hwe
    clear hH
    exact (.cons (as_i64 (by omega)) .nil)
   ·have hwe : wc3 = w' := (hw.trans (by kernel_rfl)).symm
    subst hwe
    obtain ⟨hEc3, _⟩ := hH
    exact (.cons (as_i64 (by omega)) .nil)
 ·refine (.cons ?eq4_11 (.cons ?eq4_23 .nil))
  ·rintro wc3 hH
   clear hH
   refine eff_gh (w.drew) (by kernel_rfl) ?_
   refine upon_enter (f := 96) (args := #[.agg #[I6 ↑l.n, I6 ↑l.rw], .agg #[I6 ↑r.n, I6 ↑r.rw]]) (d := (some 16)) (by kernel_rfl) ((plus_any w.drew (by omega) (by omega))) ?_
   rintro _ wc3 ⟨rfl, hEc3⟩
   exact ⟨_, rfl, ⟨wc3, by kernel_rfl, by kernel_rfl, by kernel_rfl, ⟨hEc3, trivial⟩⟩⟩
  ·rintro wc3 hH
   obtain ⟨hEc3, _⟩ := hH
   refine eff_gh (wc3) (by kernel_rfl) ?_
   exact upon_box (nb := wc3.heap.size) (cs := #[(Pv l.b), (Pv r.b), .slice none 0 0, I6 (↑l.n + ↑r.n), I6 (↑l.rw + ↑r.rw), I6 (1 + ((max l.hg r.hg : Nat) : Int))]) (T := 89) (d := (some 28)) (by kernel_rfl) (by first | rfl | simp [upd_size]) ⟨wc3, by kernel_rfl, by kernel_rfl, by kernel_rfl, ⟨hEc3, trivial⟩⟩
 rintro wc3 a w5 hS hw6 hH
 obtain ⟨hEc3, _⟩ := hH
 replace hw6 : w5 = (wc3).alloc (.cells #[(Pv l.b), (Pv r.b), .slice none 0 0, I6 (↑l.n + ↑r.n), I6 (↑l.rw + ↑r.rw), I6 (1 + ((max l.hg r.hg : Nat) : Int))] 89) := hw6.trans (by kernel_rfl)
 have hB9 : Blk w5 wc3.heap.size 89 (#[(Pv l.b), (Pv r.b), .slice none 0 0, I6 (↑l.n + ↑r.n), I6 (↑l.rw + ↑r.rw), I6 (1 + ((max l.hg r.hg : Nat) : Int))]) := by rw [hw6]; exact Blk.new' _ _ _ (by first | rfl | simp [upd_size])
 have hE10 : Ext [] w w5 := by rw [hw6]; exact ((hE0.drew).trans0 hEc3).alloc _
 replace hS := hS.kp [(0, (Pv l.b)), (1, (Pv r.b)), (4, (Pv wc3.heap.size))]
 refine hK2 _ _ ?_
 refine wpIn_ret ?_
 have hnew : (Nd.two (wc3.heap.size) l r).Ok w5 := ⟨by have h := hB9; simp only [Nd.cells, Nd.n, Nd.rw, Nd.hg, Nd.lp, Nd.rp, Nd.pv]; rw [Int.natCast_add, Int.natCast_add, Int.natCast_add]; exact h, hl.ext0 hE10, hr.ext0 hE10, (Zb.ext (w := w.drew) hl.zb hEc3).new (Nat.le_refl _)⟩
 refine ret1 hS Try.results69 rfl ?_
 exact ⟨Nd.two (wc3.heap.size) l r, rfl, hnew, rfl, rfl, hE10⟩

end Go.Proofs.Ytkdbfjomjlhfbaa
