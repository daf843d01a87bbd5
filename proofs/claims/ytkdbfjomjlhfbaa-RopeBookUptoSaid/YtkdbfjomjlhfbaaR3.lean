import Derived.Test.YtkdbfjomjlhfbaaProg
import Derived.Test.YtkdbfjomjlhfbaaR2
namespace Go.Proofs.Ytkdbfjomjlhfbaa
open Go.Vc
set_option linter.unusedSectionVars false
variable [Inhabited Zt]

theorem beside_a {l r : Nd} {w : World} (hl : l.Ok w) (hr : r.Ok w) (hn : l.n + r.n ≤ 100000000000) {rl rr rll rlr : Nd} (hB : Blk w r.b 89 #[(Pv rl.b), (Pv rr.b), .slice none 0 0, I6 ↑r.n, I6 ↑r.rw, I6 ↑r.hg]) (hC : Blk w rl.b 89 #[(Pv rll.b), (Pv rlr.b), .slice none 0 0, I6 ↑rl.n, I6 ↑rl.rw, I6 ↑rl.hg]) (hrl : rl.Ok w) (hrr : rr.Ok w) (hrll : rll.Ok w) (hrlr : rlr.Ok w) (hnr : r.n = rl.n + rr.n) (hbsr : r.bs = rl.bs ++ rr.bs) (hnrl : rl.n = rll.n + rlr.n) (hbsrl : rl.bs = rll.bs ++ rlr.bs) (h1 : r.hg > l.hg + 1) (h2 : rl.hg > rr.hg) :
  Calls Try.prog 68 #[(Pv l.b), (Pv r.b)] w fun e w' => NdR w (l.bs ++ r.bs) e w' := by
 have hh1 := hl.high
 have hh2 := hr.high
 refine calls_body 152 [(0, (Pv l.b)), (1, (Pv r.b))] Try.func68 rfl (by kernel_rfl) (by kernel_rfl) (by kernel_rfl) fun a hS => ?_
 have hE0 : Ext [] w w := Ext.refl _ _
 refine sq fun K1 hK1 => ?_
 refine rgn 1 ?_
 refine sg wide_wide [.p] [] [(0, (Pv l.b)), (1, (Pv r.b)), (4, .pointer none)] 1 0 hS .nil fun a hS => ?_
 refine seg_end ?_
 refine hK1 _ _ ?_
 refine sq fun K2 hK2 => ?_
 refine wpIn_block ?_
 refine sq fun K3 hK3 => ?_
 refine region_fn2 wide_wide [.q .p, .q .p, .q .p, .q (.ld (I6 ↑r.hg)), .q .p, .q .p, .q .p, .q (.ld (I6 ↑l.hg)), .q (.as (I6 (↑l.hg + 1))), .q (.as (.bool true)), .q .p, .q .p, .q .p, .q .p, .q (.ld ((Pv rl.b))), .q .p, .q .p, .q (.ld (I6 ↑rl.hg)), .q .p, .q .p, .q .p, .q (.ld ((Pv rr.b))), .q .p, .q .p, .q (.ld (I6 ↑rr.hg)), .q (.as (.bool true)), .q .p, .q .p] [0, 0, 0, 0, 0, 0, 0, 0, 0, 0, 0, 0, 0, 0, 0, 0, 0, 0, 0, 0, 0, 0, 0, 0, 0, 0, 0, 0] [0, 0, 0, 0, 0, 0, 0, 0, 0, 0, 0, 0, 0, 0, 0, 0, 0, 0, 0, 0, 0, 0, 0, 0, 0, 0, 0, 0] [0, 1, 3, 7, 0, 16, 48, 112, 240, 511, 1023, 2047, 4095, 8191, 16383, 32767, 65535, 131071, 2047, 264191, 788479, 1837055, 3934207, 8128511, 16517119, 33554431, 67108863, 134217727] [] 0 ([(0, (Pv l.b)), (1, (Pv r.b)), (4, .pointer none), (6, (Pv r.b)), (7, (Pv r.b)), (8, (Po r.b 5)), (9, I6 ↑r.hg), (10, (Pv l.b)), (11, (Pv l.b)), (12, (Po l.b 5)), (13, I6 ↑l.hg), (14, I6 (↑l.hg + 1)), (15, .bool true), (16, .bool true), (17, (Pv r.b)), (18, (Pv r.b)), (19, (Pv r.b)), (20, (Pv rl.b)), (21, (Pv rl.b)), (22, (Po rl.b 5)), (23, I6 ↑rl.hg), (24, (Pv r.b)), (25, (Pv r.b)), (26, (Po r.b 1)), (27, (Pv rr.b)), (28, (Pv rr.b)), (29, (Po rr.b 5)), (30, I6 ↑rr.hg), (31, .bool true), (32, .bool true), (5, .bool true)]) [w.drew] w.drew (fun w' => [(3, [w'.cell? ⟨r.b, 5, none⟩ = some (I6 ↑r.hg)]), (7, [w'.cell? ⟨l.b, 5, none⟩ = some (I6 ↑l.hg)]), (8, [Value.int .i64 (IntKind.i64.wrap (↑l.hg + 1)) = I6 (↑l.hg + 1)]), (9, [Value.bool (decide ((↑r.hg : Int) > ↑l.hg + 1)) = .bool true]), (14, [w'.cell? ⟨r.b, 0, none⟩ = some ((Pv rl.b))]), (17, [w'.cell? ⟨rl.b, 5, none⟩ = some (I6 ↑rl.hg)]), (21, [w'.cell? ⟨r.b, 1, none⟩ = some ((Pv rr.b))]), (24, [w'.cell? ⟨rr.b, 5, none⟩ = some (I6 ↑rr.hg)]), (25, [Value.bool (decide ((↑rl.hg : Int) > ↑rr.hg)) = .bool true])]) [0, 1, 4] [] hS (by kernel_rfl) (by kernel_rfl) (by kernel_rfl) (by kernel_rfl) (fun _ => by kernel_rfl) (by kernel_rfl) (by kernel_rfl) (by kernel_rfl) ?_ ?_ ?_
 ·intro e w' hw
  refine (.cons ?_ (.cons ?_ (.cons ?_ (.cons ?_ (.cons ?_ (.cons ?_ (.cons ?_ (.cons ?_ (.cons ?_ .nil)))))))))
  ·intro h1 h2
   obtain rfl : e = 0 := Nat.le_antisymm h2 h1
   obtain rfl : w' = w.drew := hw.trans (by kernel_rfl)
   exact (.cons ((hB.drew : Blk w.drew r.b 89 (#[(Pv rl.b), (Pv rr.b), .slice none 0 0, I6 ↑r.n, I6 ↑r.rw, I6 ↑r.hg])).cell 5 rfl) .nil)
  ·intro h1 h2
   obtain rfl : e = 0 := Nat.le_antisymm h2 h1
   obtain rfl : w' = w.drew := hw.trans (by kernel_rfl)
   exact (.cons ((hl.blk.drew : Blk w.drew l.b 89 (#[l.lp, l.rp, l.pv, I6 ↑l.n, I6 ↑l.rw, I6 ↑l.hg])).cell 5 rfl) .nil)
  ·exact fun _ _ => (.cons (as_i64 (by omega)) .nil)
  ·exact fun _ _ => (.cons (as_t (by omega)) .nil)
  ·intro h1 h2
   obtain rfl : e = 0 := Nat.le_antisymm h2 h1
   obtain rfl : w' = w.drew := hw.trans (by kernel_rfl)
   exact (.cons ((hB.drew : Blk w.drew r.b 89 (#[(Pv rl.b), (Pv rr.b), .slice none 0 0, I6 ↑r.n, I6 ↑r.rw, I6 ↑r.hg])).cell 0 rfl) .nil)
  ·intro h1 h2
   obtain rfl : e = 0 := Nat.le_antisymm h2 h1
   obtain rfl : w' = w.drew := hw.trans (by kernel_rfl)
   exact (.cons ((hC.drew : Blk w.drew rl.b 89 (#[(Pv rll.b), (Pv rlr.b), .slice none 0 0, I6 ↑rl.n, I6 ↑rl.rw, I6 ↑rl.hg])).cell 5 rfl) .nil)
  ·intro h1 h2
   obtain rfl : e = 0 := Nat.le_antisymm h2 h1
   obtain rfl : w' = w.drew := hw.trans (by kernel_rfl)
   exact (.cons ((hB.drew : Blk w.drew r.b 89 (#[(Pv rl.b), (Pv rr.b), .slice none 0 0, I6 ↑r.n, I6 ↑r.rw, I6 ↑r.hg])).cell 1 rfl) .nil)
  ·intro h1 h2
   obtain rfl : e = 0 := Nat.le_antisymm h2 h1
   obtain rfl : w' = w.drew := hw.trans (by kernel_rfl)
   exact (.cons ((hrr.blk.drew : Blk w.drew rr.b 89 (#[rr.lp, rr.rp, rr.pv, I6 ↑rr.n, I6 ↑rr.rw, I6 ↑rr.hg])).cell 5 rfl) .nil)
  ·exact fun _ _ => (.cons (as_t (by omega)) .nil)
 ·refine .nil
 rintro a w5 hS hw6
 replace hw6 : w5 = w.drew := hw6.trans (by kernel_rfl)
 have hB8 := Blk.at' hw6 (hB.drew)
 have hB9 := Blk.at' hw6 (hC.drew)
 have hE11 : Ext [] w w5 := by rw [hw6]; exact hE0.drew
 have hX12 : Ext [] w w5 := by rw [hw6]; exact (Ext.refl _ _).drew
 have hG13 : l.Ok w5 := hl.ext0 hX12
 have hG14 : r.Ok w5 := hr.ext0 hX12
 have hG15 : rl.Ok w5 := hrl.ext0 hX12
 have hG16 : rr.Ok w5 := hrr.ext0 hX12
 have hG17 : rll.Ok w5 := hrll.ext0 hX12
 have hG18 : rlr.Ok w5 := hrlr.ext0 hX12
 replace hS := hS.kp [(0, (Pv l.b)), (1, (Pv r.b)), (4, .pointer none), (5, .bool true)]
 refine hK3 _ _ ?_
 refine cond_t hS rfl ?_
 refine sq fun K19 hK19 => ?_
 refine region_gh2 (G := Nd × World × Nd × World × Nd × World) wide_wide [.q .p, .q .p, .q .p, .q .p, .q (.ld ((Pv rl.b))), .q .p, .q .p, .q (.ld ((Pv rll.b))), .e, .q .p, .q .p, .q .p, .q (.ld ((Pv rl.b))), .q .p, .q .p, .q (.ld ((Pv rlr.b))), .q .p, .q .p, .q .p, .q (.ld ((Pv rr.b))), .e, .e, .q .p] [0, 0, 0, 0, 0, 0, 0, 0, 0, 0, 0, 0, 0, 0, 0, 0, 0, 0, 0, 0, 1, 2, 3] [0, 0, 0, 0, 0, 0, 0, 0, 0, 1, 1, 1, 1, 1, 1, 1, 1, 1, 1, 1, 1, 2, 3] [0, 0, 2, 6, 14, 30, 62, 126, 255, 0, 512, 1536, 3584, 7680, 15872, 32256, 0, 65536, 196608, 458752, 1048575, 2097151, 4194303] [8, 20, 21] [(8, 0), (20, 1), (21, 2)] 3 (fun ⟨t20, wc20, t21, wc21, t22, wc22⟩ => ([(0, (Pv l.b)), (1, (Pv r.b)), (5, .bool true), (4, (Pv t22.b)), (33, (Pv l.b)), (34, (Pv r.b)), (35, (Pv r.b)), (36, (Pv r.b)), (37, (Pv rl.b)), (38, (Pv rl.b)), (39, (Pv rl.b)), (40, (Pv rll.b)), (41, (Pv t20.b)), (42, (Pv r.b)), (43, (Pv r.b)), (44, (Pv r.b)), (45, (Pv rl.b)), (46, (Pv rl.b)), (47, (Po rl.b 1)), (48, (Pv rlr.b)), (49, (Pv r.b)), (50, (Pv r.b)), (51, (Po r.b 1)), (52, (Pv rr.b)), (53, (Pv t21.b)), (54, (Pv t22.b))] : Fm)) (fun ⟨t20, wc20, t21, wc21, t22, wc22⟩ => [w5.drew, wc20, wc21, wc22]) (w5.drew) (fun e ⟨t20, wc20, t21, wc21, t22, wc22⟩ => hAt [True, (t20.Ok wc20) ∧ (t20.bs = l.bs ++ rll.bs) ∧ (t20.n = l.n + rll.n) ∧ (Ext [] w5.drew wc20) ∧ True, (t20.Ok wc20) ∧ (t20.bs = l.bs ++ rll.bs) ∧ (t20.n = l.n + rll.n) ∧ (Ext [] w5.drew wc20) ∧ (t21.Ok wc21) ∧ (t21.bs = rlr.bs ++ rr.bs) ∧ (t21.n = rlr.n + rr.n) ∧ (Ext [] wc20 wc21) ∧ True, (t20.Ok wc20) ∧ (t20.bs = l.bs ++ rll.bs) ∧ (t20.n = l.n + rll.n) ∧ (Ext [] w5.drew wc20) ∧ (t21.Ok wc21) ∧ (t21.bs = rlr.bs ++ rr.bs) ∧ (t21.n = rlr.n + rr.n) ∧ (Ext [] wc20 wc21) ∧ (t22.Ok wc22) ∧ (t22.bs = t20.bs ++ t21.bs) ∧ (t22.n = t20.n + t21.n) ∧ (Ext [] wc21 wc22) ∧ True] e) (fun ⟨t20, wc20, t21, wc21, t22, wc22⟩ w' => [(4, [w'.cell? ⟨r.b, 0, none⟩ = some ((Pv rl.b))]), (7, [w'.cell? ⟨rl.b, 0, none⟩ = some ((Pv rll.b))]), (12, [w'.cell? ⟨r.b, 0, none⟩ = some ((Pv rl.b))]), (15, [w'.cell? ⟨rl.b, 1, none⟩ = some ((Pv rlr.b))]), (19, [w'.cell? ⟨r.b, 1, none⟩ = some ((Pv rr.b))])]) ((Nd.leaf 0 undef []), w5.drew, (Nd.leaf 0 undef []), w, (Nd.leaf 0 undef []), w) [0, 1, 5] [] hS (by kernel_rfl) (by kernel_rfl) (by kernel_rfl) (by kernel_rfl) (fun ⟨t20, wc20, t21, wc21, t22, wc22⟩ _ => by kernel_rfl) (by kernel_rfl) (by kernel_rfl) (by kernel_rfl) trivial ?_ (by kernel_rfl) ?_ ?_
 ·rintro e ⟨t20, wc20, t21, wc21, t22, wc22⟩ w' hw hH
  refine (.cons ?_ (.cons ?_ (.cons ?_ (.cons ?_ (.cons ?_ .nil)))))
  ·intro h1 h2
   obtain rfl : e = 0 := Nat.le_antisymm h2 h1
   have hwe : w5.drew = w' := (hw.trans (by kernel_rfl)).symm
   subst hwe
   clear hH
   exact (.cons ((hB8.drew : Blk w5.drew r.b 89 (#[(Pv rl.b), (Pv rr.b), .slice none 0 0, I6 ↑r.n, I6 ↑r.rw, I6 ↑r.hg])).cell 0 rfl) .nil)
  ·intro h1 h2
   obtain rfl : e = 0 := Nat.le_antisymm h2 h1
   have hwe : w5.drew = w' := (hw.trans (by kernel_rfl)).symm
   subst hwe
   clear hH
   exact (.cons ((hB9.drew : Blk w5.drew rl.b 89 (#[(Pv rll.b), (Pv rlr.b), .slice none 0 0, I6 ↑rl.n, I6 ↑rl.rw, I6 ↑rl.hg])).cell 0 rfl) .nil)
  ·intro h1 h2
   replace h1 : 0 ≤ e := h1
   replace h2 : e ≤ 1 := h2
   have he : e = 0 ∨ e = 1 := by omega
   rcases he with rfl | rfl
   ·have hwe : w5.drew = w' := (hw.trans (by kernel_rfl)).symm
    subst hwe
    clear hH
    exact (.cons ((hB8.drew : Blk w5.drew r.b 89 (#[(Pv rl.b), (Pv rr.b), .slice none 0 0, I6 ↑r.n, I6 ↑r.rw, I6 ↑r.hg])).cell 0 rfl) .nil)
   ·have hwe : wc20 = w' := (hw.trans (by kernel_rfl)).symm
    subst hwe
    obtain ⟨ho20, hb20, hn20, hEc20, _⟩ := hH
    exact (.cons (((hB8.drew : Blk w5.drew r.b 89 (#[(Pv rl.b), (Pv rr.b), .slice none 0 0, I6 ↑r.n, I6 ↑r.rw, I6 ↑r.hg])).ext hEc20 (by simp) : Blk wc20 r.b 89 (#[(Pv rl.b), (Pv rr.b), .slice none 0 0, I6 ↑r.n, I6 ↑r.rw, I6 ↑r.hg])).cell 0 rfl) .nil)
  ·intro h1 h2
   replace h1 : 0 ≤ e := h1
   replace h2 : e ≤ 1 := h2
   have he : e = 0 ∨ e = 1 := by omega
   rcases he with rfl | rfl
   ·have hwe : w5.drew = w' := (hw.trans (by kernel_rfl)).symm
    subst hwe
    clear hH
    exact (.cons ((hB9.drew : Blk w5.drew rl.b 89 (#[(Pv rll.b), (Pv rlr.b), .slice none 0 0, I6 ↑rl.n, I6 ↑rl.rw, I6 ↑rl.hg])).cell 1 rfl) .nil)
   ·have hwe : wc20 = w' := (hw.trans (by kernel_rfl)).symm
    subst hwe
    obtain ⟨ho20, hb20, hn20, hEc20, _⟩ := hH
    exact (.cons (((hB9.drew : Blk w5.drew rl.b 89 (#[(Pv rll.b), (Pv rlr.b), .slice none 0 0, I6 ↑rl.n, I6 ↑rl.rw, I6 ↑rl.hg])).ext hEc20 (by simp) : Blk wc20 rl.b 89 (#[(Pv rll.b), (Pv rlr.b), .slice none 0 0, I6 ↑rl.n, I6 ↑rl.rw, I6 ↑rl.hg])).cell 1 rfl) .nil)
  ·intro h1 h2
   replace h1 : 0 ≤ e := h1
   replace h2 : e ≤ 1 := h2
   have he : e = 0 ∨ e = 1 := by omega
   rcases he with rfl | rfl
   ·have hwe : w5.drew = w' := (hw.trans (by kernel_rfl)).symm
    subst hwe
    clear hH
    exact (.cons ((hB8.drew : Blk w5.drew r.b 89 (#[(Pv rl.b), (Pv rr.b), .slice none 0 0, I6 ↑r.n, I6 ↑r.rw, I6 ↑r.hg])).cell 1 rfl) .nil)
   ·have hwe : wc20 = w' := (hw.trans (by kernel_rfl)).symm
    subst hwe
    obtain ⟨ho20, hb20, hn20, hEc20, _⟩ := hH
    exact (.cons (((hB8.drew : Blk w5.drew r.b 89 (#[(Pv rl.b), (Pv rr.b), .slice none 0 0, I6 ↑r.n, I6 ↑r.rw, I6 ↑r.hg])).ext hEc20 (by simp) : Blk wc20 r.b 89 (#[(Pv rl.b), (Pv rr.b), .slice none 0 0, I6 ↑r.n, I6 ↑r.rw, I6 ↑r.hg])).cell 1 rfl) .nil)
 ·refine (.cons ?eq23_8 (.cons ?eq23_20 (.cons ?eq23_21 .nil)))
  ·rintro ⟨t20, wc20, t21, wc21, t22, wc22⟩ hH
   clear hH
   refine eff_gh (w5.drew) (by kernel_rfl) ?_
   refine upon_call (f := 69) (vs := [(Pv l.b), (Pv rll.b)]) (cap := #[]) (d := (some 41)) (by kernel_rfl) Try.call69 #[(Pv l.b), (Pv rll.b)] (by kernel_rfl) (over_any (hG13.ext0 ((Ext.refl [] _).drew)) (hG17.ext0 ((Ext.refl [] _).drew)) (by omega)) ?_
   rintro _ wc20 ⟨t20, rfl, ho20, hb20, hn20, hEc20⟩
   exact ⟨_, rfl, ⟨(t20, wc20, t21, wc21, t22, wc22), by kernel_rfl, by kernel_rfl, by kernel_rfl, ⟨ho20, hb20, hn20, hEc20, trivial⟩⟩⟩
  ·rintro ⟨t20, wc20, t21, wc21, t22, wc22⟩ hH
   obtain ⟨ho20, hb20, hn20, hEc20, _⟩ := hH
   refine eff_gh (wc20) (by kernel_rfl) ?_
   refine upon_call (f := 69) (vs := [(Pv rlr.b), (Pv rr.b)]) (cap := #[]) (d := (some 53)) (by kernel_rfl) Try.call69 #[(Pv rlr.b), (Pv rr.b)] (by kernel_rfl) (over_any ((hG18.ext0 ((Ext.refl [] _).drew)).ext0 hEc20) ((hG16.ext0 ((Ext.refl [] _).drew)).ext0 hEc20) (by omega)) ?_
   rintro _ wc21 ⟨t21, rfl, ho21, hb21, hn21, hEc21⟩
   exact ⟨_, rfl, ⟨(t20, wc20, t21, wc21, t22, wc22), by kernel_rfl, by kernel_rfl, by kernel_rfl, ⟨ho20, hb20, hn20, hEc20, ho21, hb21, hn21, hEc21, trivial⟩⟩⟩
  ·rintro ⟨t20, wc20, t21, wc21, t22, wc22⟩ hH
   obtain ⟨ho20, hb20, hn20, hEc20, ho21, hb21, hn21, hEc21, _⟩ := hH
   refine eff_gh (wc21) (by kernel_rfl) ?_
   refine upon_call (f := 69) (vs := [(Pv t20.b), (Pv t21.b)]) (cap := #[]) (d := (some 54)) (by kernel_rfl) Try.call69 #[(Pv t20.b), (Pv t21.b)] (by kernel_rfl) (over_any (ho20.ext0 hEc21) ho21 (by omega)) ?_
   rintro _ wc22 ⟨t22, rfl, ho22, hb22, hn22, hEc22⟩
   exact ⟨_, rfl, ⟨(t20, wc20, t21, wc21, t22, wc22), by kernel_rfl, by kernel_rfl, by kernel_rfl, ⟨ho20, hb20, hn20, hEc20, ho21, hb21, hn21, hEc21, ho22, hb22, hn22, hEc22, trivial⟩⟩⟩
 rintro ⟨t20, wc20, t21, wc21, t22, wc22⟩ a w24 hS hw25 hH
 obtain ⟨ho20, hb20, hn20, hEc20, ho21, hb21, hn21, hEc21, ho22, hb22, hn22, hEc22, _⟩ := hH
 replace hw25 : w24 = wc22 := hw25.trans (by kernel_rfl)
 have hE30 : Ext [] w w24 := by rw [hw25]; exact (((hE11.drew).trans0 hEc20).trans0 hEc21).trans0 hEc22
 have hX31 : Ext [] w5 w24 := by rw [hw25]; exact ((((Ext.refl _ _).drew).trans0 hEc20).trans0 hEc21).trans0 hEc22
 have hG32 : l.Ok w24 := hG13.ext0 hX31
 have hG33 : r.Ok w24 := hG14.ext0 hX31
 have hG34 : rl.Ok w24 := hG15.ext0 hX31
 have hG35 : rr.Ok w24 := hG16.ext0 hX31
 have hG36 : rll.Ok w24 := hG17.ext0 hX31
 have hG37 : rlr.Ok w24 := hG18.ext0 hX31
 replace hS := hS.kp [(0, (Pv l.b)), (1, (Pv r.b)), (5, .bool true), (4, (Pv t22.b))]
 refine hK19 _ _ ?_
 refine wpIn_ret ?_
 refine inBlock_ret ?_
 refine then_ret ?_
 refine ret1 hS Try.results68 rfl ?_
 exact ⟨t22, rfl, by rw [hw25]; exact ho22, by simp only [hb22, hb21, hb20, hbsr, hbsrl, List.append_assoc], hE30⟩

theorem beside_b {l r : Nd} {w : World} (hl : l.Ok w) (hr : r.Ok w) (hn : l.n + r.n ≤ 100000000000) {rl rr : Nd} (hB : Blk w r.b 89 #[(Pv rl.b), (Pv rr.b), .slice none 0 0, I6 ↑r.n, I6 ↑r.rw, I6 ↑r.hg]) (hrl : rl.Ok w) (hrr : rr.Ok w) (hnr : r.n = rl.n + rr.n) (hbsr : r.bs = rl.bs ++ rr.bs) (h1 : r.hg > l.hg + 1) (h2 : ¬rl.hg > rr.hg) :
  Calls Try.prog 68 #[(Pv l.b), (Pv r.b)] w fun e w' => NdR w (l.bs ++ r.bs) e w' := by
 have hh1 := hl.high
 have hh2 := hr.high
 refine calls_body 152 [(0, (Pv l.b)), (1, (Pv r.b))] Try.func68 rfl (by kernel_rfl) (by kernel_rfl) (by kernel_rfl) fun a hS => ?_
 have hE0 : Ext [] w w := Ext.refl _ _
 refine sq fun K1 hK1 => ?_
 refine rgn 1 ?_
 refine sg wide_wide [.p] [] [(0, (Pv l.b)), (1, (Pv r.b)), (4, .pointer none)] 1 0 hS .nil fun a hS => ?_
 refine seg_end ?_
 refine hK1 _ _ ?_
 refine sq fun K2 hK2 => ?_
 refine wpIn_block ?_
 refine sq fun K3 hK3 => ?_
 refine region_fn2 wide_wide [.q .p, .q .p, .q .p, .q (.ld (I6 ↑r.hg)), .q .p, .q .p, .q .p, .q (.ld (I6 ↑l.hg)), .q (.as (I6 (↑l.hg + 1))), .q (.as (.bool true)), .q .p, .q .p, .q .p, .q .p, .q (.ld ((Pv rl.b))), .q .p, .q .p, .q (.ld (I6 ↑rl.hg)), .q .p, .q .p, .q .p, .q (.ld ((Pv rr.b))), .q .p, .q .p, .q (.ld (I6 ↑rr.hg)), .q (.as (.bool false)), .q .p, .q .p] [0, 0, 0, 0, 0, 0, 0, 0, 0, 0, 0, 0, 0, 0, 0, 0, 0, 0, 0, 0, 0, 0, 0, 0, 0, 0, 0, 0] [0, 0, 0, 0, 0, 0, 0, 0, 0, 0, 0, 0, 0, 0, 0, 0, 0, 0, 0, 0, 0, 0, 0, 0, 0, 0, 0, 0] [0, 1, 3, 7, 0, 16, 48, 112, 240, 511, 1023, 2047, 4095, 8191, 16383, 32767, 65535, 131071, 2047, 264191, 788479, 1837055, 3934207, 8128511, 16517119, 33554431, 67108863, 134217727] [] 0 ([(0, (Pv l.b)), (1, (Pv r.b)), (4, .pointer none), (6, (Pv r.b)), (7, (Pv r.b)), (8, (Po r.b 5)), (9, I6 ↑r.hg), (10, (Pv l.b)), (11, (Pv l.b)), (12, (Po l.b 5)), (13, I6 ↑l.hg), (14, I6 (↑l.hg + 1)), (15, .bool true), (16, .bool true), (17, (Pv r.b)), (18, (Pv r.b)), (19, (Pv r.b)), (20, (Pv rl.b)), (21, (Pv rl.b)), (22, (Po rl.b 5)), (23, I6 ↑rl.hg), (24, (Pv r.b)), (25, (Pv r.b)), (26, (Po r.b 1)), (27, (Pv rr.b)), (28, (Pv rr.b)), (29, (Po rr.b 5)), (30, I6 ↑rr.hg), (31, .bool false), (32, .bool false), (5, .bool false)]) [w.drew] w.drew (fun w' => [(3, [w'.cell? ⟨r.b, 5, none⟩ = some (I6 ↑r.hg)]), (7, [w'.cell? ⟨l.b, 5, none⟩ = some (I6 ↑l.hg)]), (8, [Value.int .i64 (IntKind.i64.wrap (↑l.hg + 1)) = I6 (↑l.hg + 1)]), (9, [Value.bool (decide ((↑r.hg : Int) > ↑l.hg + 1)) = .bool true]), (14, [w'.cell? ⟨r.b, 0, none⟩ = some ((Pv rl.b))]), (17, [w'.cell? ⟨rl.b, 5, none⟩ = some (I6 ↑rl.hg)]), (21, [w'.cell? ⟨r.b, 1, none⟩ = some ((Pv rr.b))]), (24, [w'.cell? ⟨rr.b, 5, none⟩ = some (I6 ↑rr.hg)]), (25, [Value.bool (decide ((↑rl.hg : Int) > ↑rr.hg)) = .bool false])]) [0, 1, 4] [] hS (by kernel_rfl) (by kernel_rfl) (by kernel_rfl) (by kernel_rfl) (fun _ => by kernel_rfl) (by kernel_rfl) (by kernel_rfl) (by kernel_rfl) ?_ ?_ ?_
 ·intro e w' hw
  refine (.cons ?_ (.cons ?_ (.cons ?_ (.cons ?_ (.cons ?_ (.cons ?_ (.cons ?_ (.cons ?_ (.cons ?_ .nil)))))))))
  ·intro h1 h2
   obtain rfl : e = 0 := Nat.le_antisymm h2 h1
   obtain rfl : w' = w.drew := hw.trans (by kernel_rfl)
   exact (.cons ((hB.drew : Blk w.drew r.b 89 (#[(Pv rl.b), (Pv rr.b), .slice none 0 0, I6 ↑r.n, I6 ↑r.rw, I6 ↑r.hg])).cell 5 rfl) .nil)
  ·intro h1 h2
   obtain rfl : e = 0 := Nat.le_antisymm h2 h1
   obtain rfl : w' = w.drew := hw.trans (by kernel_rfl)
   exact (.cons ((hl.blk.drew : Blk w.drew l.b 89 (#[l.lp, l.rp, l.pv, I6 ↑l.n, I6 ↑l.rw, I6 ↑l.hg])).cell 5 rfl) .nil)
  ·exact fun _ _ => (.cons (as_i64 (by omega)) .nil)
  ·exact fun _ _ => (.cons (as_t (by omega)) .nil)
  ·intro h1 h2
   obtain rfl : e = 0 := Nat.le_antisymm h2 h1
   obtain rfl : w' = w.drew := hw.trans (by kernel_rfl)
   exact (.cons ((hB.drew : Blk w.drew r.b 89 (#[(Pv rl.b), (Pv rr.b), .slice none 0 0, I6 ↑r.n, I6 ↑r.rw, I6 ↑r.hg])).cell 0 rfl) .nil)
  ·intro h1 h2
   obtain rfl : e = 0 := Nat.le_antisymm h2 h1
   obtain rfl : w' = w.drew := hw.trans (by kernel_rfl)
   exact (.cons ((hrl.blk.drew : Blk w.drew rl.b 89 (#[rl.lp, rl.rp, rl.pv, I6 ↑rl.n, I6 ↑rl.rw, I6 ↑rl.hg])).cell 5 rfl) .nil)
  ·intro h1 h2
   obtain rfl : e = 0 := Nat.le_antisymm h2 h1
   obtain rfl : w' = w.drew := hw.trans (by kernel_rfl)
   exact (.cons ((hB.drew : Blk w.drew r.b 89 (#[(Pv rl.b), (Pv rr.b), .slice none 0 0, I6 ↑r.n, I6 ↑r.rw, I6 ↑r.hg])).cell 1 rfl) .nil)
  ·intro h1 h2
   obtain rfl : e = 0 := Nat.le_antisymm h2 h1
   obtain rfl : w' = w.drew := hw.trans (by kernel_rfl)
   exact (.cons ((hrr.blk.drew : Blk w.drew rr.b 89 (#[rr.lp, rr.rp, rr.pv, I6 ↑rr.n, I6 ↑rr.rw, I6 ↑rr.hg])).cell 5 rfl) .nil)
  ·exact fun _ _ => (.cons (as_f (by omega)) .nil)
 ·refine .nil
 rintro a w5 hS hw6
 replace hw6 : w5 = w.drew := hw6.trans (by kernel_rfl)
 have hB7 := Blk.at' hw6 (hl.blk.drew)
 have hB8 := Blk.at' hw6 (hB.drew)
 have hE11 : Ext [] w w5 := by rw [hw6]; exact hE0.drew
 have hX12 : Ext [] w w5 := by rw [hw6]; exact (Ext.refl _ _).drew
 have hG13 : l.Ok w5 := hl.ext0 hX12
 have hG14 : r.Ok w5 := hr.ext0 hX12
 have hG15 : rl.Ok w5 := hrl.ext0 hX12
 have hG16 : rr.Ok w5 := hrr.ext0 hX12
 replace hS := hS.kp [(0, (Pv l.b)), (1, (Pv r.b)), (4, .pointer none), (5, .bool false)]
 refine hK3 _ _ ?_
 refine cond_f hS rfl ?_
 refine sq fun K17 hK17 => ?_
 refine region_fn2 wide_wide [.q .p, .q .p, .q .p, .q (.ld (I6 ↑r.hg)), .q .p, .q .p, .q .p, .q (.ld (I6 ↑l.hg)), .q (.as (I6 (↑l.hg + 1))), .q (.as (.bool true)), .q .p] [0, 0, 0, 0, 0, 0, 0, 0, 0, 0, 0] [0, 0, 0, 0, 0, 0, 0, 0, 0, 0, 0] [0, 1, 3, 7, 0, 16, 48, 112, 240, 511, 1023] [] 0 ([(0, (Pv l.b)), (1, (Pv r.b)), (4, .pointer none), (5, .bool false), (56, (Pv r.b)), (57, (Pv r.b)), (58, (Po r.b 5)), (59, I6 ↑r.hg), (60, (Pv l.b)), (61, (Pv l.b)), (62, (Po l.b 5)), (63, I6 ↑l.hg), (64, I6 (↑l.hg + 1)), (65, .bool true), (55, .bool true)]) [w5.drew] w5.drew (fun w' => [(3, [w'.cell? ⟨r.b, 5, none⟩ = some (I6 ↑r.hg)]), (7, [w'.cell? ⟨l.b, 5, none⟩ = some (I6 ↑l.hg)]), (8, [Value.int .i64 (IntKind.i64.wrap (↑l.hg + 1)) = I6 (↑l.hg + 1)]), (9, [Value.bool (decide ((↑r.hg : Int) > ↑l.hg + 1)) = .bool true])]) [0, 1, 4, 5] [] hS (by kernel_rfl) (by kernel_rfl) (by kernel_rfl) (by kernel_rfl) (fun _ => by kernel_rfl) (by kernel_rfl) (by kernel_rfl) (by kernel_rfl) ?_ ?_ ?_
 ·intro e w' hw
  refine (.cons ?_ (.cons ?_ (.cons ?_ (.cons ?_ .nil))))
  ·intro h1 h2
   obtain rfl : e = 0 := Nat.le_antisymm h2 h1
   obtain rfl : w' = w5.drew := hw.trans (by kernel_rfl)
   exact (.cons ((hB8.drew : Blk w5.drew r.b 89 (#[(Pv rl.b), (Pv rr.b), .slice none 0 0, I6 ↑r.n, I6 ↑r.rw, I6 ↑r.hg])).cell 5 rfl) .nil)
  ·intro h1 h2
   obtain rfl : e = 0 := Nat.le_antisymm h2 h1
   obtain rfl : w' = w5.drew := hw.trans (by kernel_rfl)
   exact (.cons ((hB7.drew : Blk w5.drew l.b 89 (#[l.lp, l.rp, l.pv, I6 ↑l.n, I6 ↑l.rw, I6 ↑l.hg])).cell 5 rfl) .nil)
  ·exact fun _ _ => (.cons (as_i64 (by omega)) .nil)
  ·exact fun _ _ => (.cons (as_t (by omega)) .nil)
 ·refine .nil
 rintro a w19 hS hw20
 replace hw20 : w19 = w5.drew := hw20.trans (by kernel_rfl)
 have hB22 := Blk.at' hw20 (hB8.drew)
 have hE25 : Ext [] w w19 := by rw [hw20]; exact hE11.drew
 have hX26 : Ext [] w5 w19 := by rw [hw20]; exact (Ext.refl _ _).drew
 have hG27 : l.Ok w19 := hG13.ext0 hX26
 have hG28 : r.Ok w19 := hG14.ext0 hX26
 have hG29 : rl.Ok w19 := hG15.ext0 hX26
 have hG30 : rr.Ok w19 := hG16.ext0 hX26
 replace hS := hS.kp [(0, (Pv l.b)), (1, (Pv r.b)), (4, .pointer none), (5, .bool false), (55, .bool true)]
 refine hK17 _ _ ?_
 refine cond_t hS rfl ?_
 refine sq fun K31 hK31 => ?_
 refine region_gh2 (G := Nd × World × Nd × World) wide_wide [.q .p, .q .p, .q .p, .q .p, .q (.ld ((Pv rl.b))), .e, .q .p, .q .p, .q .p, .q (.ld ((Pv rr.b))), .e, .q .p] [0, 0, 0, 0, 0, 0, 0, 0, 0, 0, 1, 2] [0, 0, 0, 0, 0, 0, 1, 1, 1, 1, 1, 2] [0, 0, 2, 6, 14, 31, 0, 64, 192, 448, 1023, 2047] [5, 10] [(5, 0), (10, 1)] 2 (fun ⟨t32, wc32, t33, wc33⟩ => ([(0, (Pv l.b)), (1, (Pv r.b)), (5, .bool false), (55, .bool true), (4, (Pv t33.b)), (66, (Pv l.b)), (67, (Pv r.b)), (68, (Pv r.b)), (69, (Pv r.b)), (70, (Pv rl.b)), (71, (Pv t32.b)), (72, (Pv r.b)), (73, (Pv r.b)), (74, (Po r.b 1)), (75, (Pv rr.b)), (76, (Pv t33.b))] : Fm)) (fun ⟨t32, wc32, t33, wc33⟩ => [w19.drew, wc32, wc33]) (w19.drew) (fun e ⟨t32, wc32, t33, wc33⟩ => hAt [True, (t32.Ok wc32) ∧ (t32.bs = l.bs ++ rl.bs) ∧ (t32.n = l.n + rl.n) ∧ (Ext [] w19.drew wc32) ∧ True, (t32.Ok wc32) ∧ (t32.bs = l.bs ++ rl.bs) ∧ (t32.n = l.n + rl.n) ∧ (Ext [] w19.drew wc32) ∧ (t33.Ok wc33) ∧ (t33.bs = t32.bs ++ rr.bs) ∧ (t33.n = t32.n + rr.n) ∧ (Ext [] wc32 wc33) ∧ True] e) (fun ⟨t32, wc32, t33, wc33⟩ w' => [(4, [w'.cell? ⟨r.b, 0, none⟩ = some ((Pv rl.b))]), (9, [w'.cell? ⟨r.b, 1, none⟩ = some ((Pv rr.b))])]) ((Nd.leaf 0 undef []), w19.drew, (Nd.leaf 0 undef []), w) [0, 1, 5, 55] [] hS (by kernel_rfl) (by kernel_rfl) (by kernel_rfl) (by kernel_rfl) (fun ⟨t32, wc32, t33, wc33⟩ _ => by kernel_rfl) (by kernel_rfl) (by kernel_rfl) (by kernel_rfl) trivial ?_ (by kernel_rfl) ?_ ?_
 ·rintro e ⟨t32, wc32, t33, wc33⟩ w' hw hH
  refine (.cons ?_ (.cons ?_ .nil))
  ·intro h1 h2
   obtain rfl : e = 0 := Nat.le_antisymm h2 h1
   have hwe : w19.drew = w' := (hw.trans (by kernel_rfl)).symm
   subst hwe
   clear hH
   exact (.cons ((hB22.drew : Blk w19.drew r.b 89 (#[(Pv rl.b), (Pv rr.b), .slice none 0 0, I6 ↑r.n, I6 ↑r.rw, I6 ↑r.hg])).cell 0 rfl) .nil)
  ·intro h1 h2
   replace h1 : 0 ≤ e := h1
   replace h2 : e ≤ 1 := h2
   have he : e = 0 ∨ e = 1 := by omega
   rcases he with rfl | rfl
   ·have hwe : w19.drew = w' := (hw.trans (by kernel_rfl)).symm
    subst hwe
    clear hH
    exact (.cons ((hB22.drew : Blk w19.drew r.b 89 (#[(Pv rl.b), (Pv rr.b), .slice none 0 0, I6 ↑r.n, I6 ↑r.rw, I6 ↑r.hg])).cell 1 rfl) .nil)
   ·have hwe : wc32 = w' := (hw.trans (by kernel_rfl)).symm
    subst hwe
    obtain ⟨ho32, hb32, hn32, hEc32, _⟩ := hH
    exact (.cons (((hB22.drew : Blk w19.drew r.b 89 (#[(Pv rl.b), (Pv rr.b), .slice none 0 0, I6 ↑r.n, I6 ↑r.rw, I6 ↑r.hg])).ext hEc32 (by simp) : Blk wc32 r.b 89 (#[(Pv rl.b), (Pv rr.b), .slice none 0 0, I6 ↑r.n, I6 ↑r.rw, I6 ↑r.hg])).cell 1 rfl) .nil)
 ·refine (.cons ?eq34_5 (.cons ?eq34_10 .nil))
  ·rintro ⟨t32, wc32, t33, wc33⟩ hH
   clear hH
   refine eff_gh (w19.drew) (by kernel_rfl) ?_
   refine upon_call (f := 69) (vs := [(Pv l.b), (Pv rl.b)]) (cap := #[]) (d := (some 71)) (by kernel_rfl) Try.call69 #[(Pv l.b), (Pv rl.b)] (by kernel_rfl) (over_any (hG27.ext0 ((Ext.refl [] _).drew)) (hG29.ext0 ((Ext.refl [] _).drew)) (by omega)) ?_
   rintro _ wc32 ⟨t32, rfl, ho32, hb32, hn32, hEc32⟩
   exact ⟨_, rfl, ⟨(t32, wc32, t33, wc33), by kernel_rfl, by kernel_rfl, by kernel_rfl, ⟨ho32, hb32, hn32, hEc32, trivial⟩⟩⟩
  ·rintro ⟨t32, wc32, t33, wc33⟩ hH
   obtain ⟨ho32, hb32, hn32, hEc32, _⟩ := hH
   refine eff_gh (wc32) (by kernel_rfl) ?_
   refine upon_call (f := 69) (vs := [(Pv t32.b), (Pv rr.b)]) (cap := #[]) (d := (some 76)) (by kernel_rfl) Try.call69 #[(Pv t32.b), (Pv rr.b)] (by kernel_rfl) (over_any ho32 ((hG30.ext0 ((Ext.refl [] _).drew)).ext0 hEc32) (by omega)) ?_
   rintro _ wc33 ⟨t33, rfl, ho33, hb33, hn33, hEc33⟩
   exact ⟨_, rfl, ⟨(t32, wc32, t33, wc33), by kernel_rfl, by kernel_rfl, by kernel_rfl, ⟨ho32, hb32, hn32, hEc32, ho33, hb33, hn33, hEc33, trivial⟩⟩⟩
 rintro ⟨t32, wc32, t33, wc33⟩ a w35 hS hw36 hH
 obtain ⟨ho32, hb32, hn32, hEc32, ho33, hb33, hn33, hEc33, _⟩ := hH
 replace hw36 : w35 = wc33 := hw36.trans (by kernel_rfl)
 have hE41 : Ext [] w w35 := by rw [hw36]; exact ((hE25.drew).trans0 hEc32).trans0 hEc33
 have hX42 : Ext [] w19 w35 := by rw [hw36]; exact (((Ext.refl _ _).drew).trans0 hEc32).trans0 hEc33
 have hG43 : l.Ok w35 := hG27.ext0 hX42
 have hG44 : r.Ok w35 := hG28.ext0 hX42
 have hG45 : rl.Ok w35 := hG29.ext0 hX42
 have hG46 : rr.Ok w35 := hG30.ext0 hX42
 replace hS := hS.kp [(0, (Pv l.b)), (1, (Pv r.b)), (5, .bool false), (55, .bool true), (4, (Pv t33.b))]
 refine hK31 _ _ ?_
 refine wpIn_ret ?_
 refine inBlock_ret ?_
 refine then_ret ?_
 refine ret1 hS Try.results68 rfl ?_
 exact ⟨t33, rfl, by rw [hw36]; exact ho33, by simp only [hb33, hb32, hbsr, List.append_assoc], hE41⟩

theorem beside_c {l r : Nd} {w : World} (hl : l.Ok w) (hr : r.Ok w) (hn : l.n + r.n ≤ 100000000000) {ll lr lrl lrr : Nd} (hB : Blk w l.b 89 #[(Pv ll.b), (Pv lr.b), .slice none 0 0, I6 ↑l.n, I6 ↑l.rw, I6 ↑l.hg]) (hC : Blk w lr.b 89 #[(Pv lrl.b), (Pv lrr.b), .slice none 0 0, I6 ↑lr.n, I6 ↑lr.rw, I6 ↑lr.hg]) (hll : ll.Ok w) (hlr : lr.Ok w) (hlrl : lrl.Ok w) (hlrr : lrr.Ok w) (hnl : l.n = ll.n + lr.n) (hbsl : l.bs = ll.bs ++ lr.bs) (hnlr : lr.n = lrl.n + lrr.n) (hbslr : lr.bs = lrl.bs ++ lrr.bs) (h1 : l.hg > r.hg + 1) (h2 : lr.hg > ll.hg) :
  Calls Try.prog 68 #[(Pv l.b), (Pv r.b)] w fun e w' => NdR w (l.bs ++ r.bs) e w' := by
 have hh1 := hl.high
 have hh2 := hr.high
 refine calls_body 152 [(0, (Pv l.b)), (1, (Pv r.b))] Try.func68 rfl (by kernel_rfl) (by kernel_rfl) (by kernel_rfl) fun a hS => ?_
 have hE0 : Ext [] w w := Ext.refl _ _
 refine sq fun K1 hK1 => ?_
 refine rgn 1 ?_
 refine sg wide_wide [.p] [] [(0, (Pv l.b)), (1, (Pv r.b)), (4, .pointer none)] 1 0 hS .nil fun a hS => ?_
 refine seg_end ?_
 refine hK1 _ _ ?_
 refine sq fun K2 hK2 => ?_
 refine wpIn_block ?_
 refine sq fun K3 hK3 => ?_
 refine region_fn2 wide_wide [.q .p, .q .p, .q .p, .q (.ld (I6 ↑r.hg)), .q .p, .q .p, .q .p, .q (.ld (I6 ↑l.hg)), .q (.as (I6 (↑l.hg + 1))), .q (.as (.bool false)), .q .p, .q .no, .q .no, .q .no, .q .no, .q .no, .q .no, .q .no, .q .no, .q .no, .q .no, .q .no, .q .no, .q .no, .q .no, .q .no, .q .p, .q .p] [0, 0, 0, 0, 0, 0, 0, 0, 0, 0, 0, 0, 0, 0, 0, 0, 0, 0, 0, 0, 0, 0, 0, 0, 0, 0, 0, 0] [0, 0, 0, 0, 0, 0, 0, 0, 0, 0, 0, 0, 0, 0, 0, 0, 0, 0, 0, 0, 0, 0, 0, 0, 0, 0, 0, 0] [0, 1, 3, 7, 0, 16, 48, 112, 240, 511, 1023, 2047, 4095, 8191, 16383, 32767, 65535, 131071, 2047, 264191, 788479, 1837055, 3934207, 8128511, 16517119, 33554431, 67108863, 134217727] [] 0 ([(0, (Pv l.b)), (1, (Pv r.b)), (4, .pointer none), (6, (Pv r.b)), (7, (Pv r.b)), (8, (Po r.b 5)), (9, I6 ↑r.hg), (10, (Pv l.b)), (11, (Pv l.b)), (12, (Po l.b 5)), (13, I6 ↑l.hg), (14, I6 (↑l.hg + 1)), (15, .bool false), (16, .bool false), (17, undef), (18, undef), (19, undef), (20, undef), (21, undef), (22, undef), (23, undef), (24, undef), (25, undef), (26, undef), (27, undef), (28, undef), (29, undef), (30, undef), (31, undef), (32, .bool false), (5, .bool false)]) [w.drew] w.drew (fun w' => [(3, [w'.cell? ⟨r.b, 5, none⟩ = some (I6 ↑r.hg)]), (7, [w'.cell? ⟨l.b, 5, none⟩ = some (I6 ↑l.hg)]), (8, [Value.int .i64 (IntKind.i64.wrap (↑l.hg + 1)) = I6 (↑l.hg + 1)]), (9, [Value.bool (decide ((↑r.hg : Int) > ↑l.hg + 1)) = .bool false])]) [0, 1, 4] [] hS (by kernel_rfl) (by kernel_rfl) (by kernel_rfl) (by kernel_rfl) (fun _ => by kernel_rfl) (by kernel_rfl) (by kernel_rfl) (by kernel_rfl) ?_ ?_ ?_
 ·intro e w' hw
  refine (.cons ?_ (.cons ?_ (.cons ?_ (.cons ?_ .nil))))
  ·intro h1 h2
   obtain rfl : e = 0 := Nat.le_antisymm h2 h1
   obtain rfl : w' = w.drew := hw.trans (by kernel_rfl)
   exact (.cons ((hr.blk.drew : Blk w.drew r.b 89 (#[r.lp, r.rp, r.pv, I6 ↑r.n, I6 ↑r.rw, I6 ↑r.hg])).cell 5 rfl) .nil)
  ·intro h1 h2
   obtain rfl : e = 0 := Nat.le_antisymm h2 h1
   obtain rfl : w' = w.drew := hw.trans (by kernel_rfl)
   exact (.cons ((hB.drew : Blk w.drew l.b 89 (#[(Pv ll.b), (Pv lr.b), .slice none 0 0, I6 ↑l.n, I6 ↑l.rw, I6 ↑l.hg])).cell 5 rfl) .nil)
  ·exact fun _ _ => (.cons (as_i64 (by omega)) .nil)
  ·exact fun _ _ => (.cons (as_f (by omega)) .nil)
 ·refine .nil
 rintro a w5 hS hw6
 replace hw6 : w5 = w.drew := hw6.trans (by kernel_rfl)
 have hB7 := Blk.at' hw6 (hr.blk.drew)
 have hB8 := Blk.at' hw6 (hB.drew)
 have hB9 := Blk.at' hw6 (hC.drew)
 have hB10 := Blk.at' hw6 (hll.blk.drew)
 have hE11 : Ext [] w w5 := by rw [hw6]; exact hE0.drew
 have hX12 : Ext [] w w5 := by rw [hw6]; exact (Ext.refl _ _).drew
 have hG13 : l.Ok w5 := hl.ext0 hX12
 have hG14 : r.Ok w5 := hr.ext0 hX12
 have hG15 : ll.Ok w5 := hll.ext0 hX12
 have hG16 : lr.Ok w5 := hlr.ext0 hX12
 have hG17 : lrl.Ok w5 := hlrl.ext0 hX12
 have hG18 : lrr.Ok w5 := hlrr.ext0 hX12
 replace hS := hS.kp [(0, (Pv l.b)), (1, (Pv r.b)), (4, .pointer none), (5, .bool false)]
 refine hK3 _ _ ?_
 refine cond_f hS rfl ?_
 refine sq fun K19 hK19 => ?_
 refine region_fn2 wide_wide [.q .p, .q .p, .q .p, .q (.ld (I6 ↑r.hg)), .q .p, .q .p, .q .p, .q (.ld (I6 ↑l.hg)), .q (.as (I6 (↑l.hg + 1))), .q (.as (.bool false)), .q .p] [0, 0, 0, 0, 0, 0, 0, 0, 0, 0, 0] [0, 0, 0, 0, 0, 0, 0, 0, 0, 0, 0] [0, 1, 3, 7, 0, 16, 48, 112, 240, 511, 1023] [] 0 ([(0, (Pv l.b)), (1, (Pv r.b)), (4, .pointer none), (5, .bool false), (56, (Pv r.b)), (57, (Pv r.b)), (58, (Po r.b 5)), (59, I6 ↑r.hg), (60, (Pv l.b)), (61, (Pv l.b)), (62, (Po l.b 5)), (63, I6 ↑l.hg), (64, I6 (↑l.hg + 1)), (65, .bool false), (55, .bool false)]) [w5.drew] w5.drew (fun w' => [(3, [w'.cell? ⟨r.b, 5, none⟩ = some (I6 ↑r.hg)]), (7, [w'.cell? ⟨l.b, 5, none⟩ = some (I6 ↑l.hg)]), (8, [Value.int .i64 (IntKind.i64.wrap (↑l.hg + 1)) = I6 (↑l.hg + 1)]), (9, [Value.bool (decide ((↑r.hg : Int) > ↑l.hg + 1)) = .bool false])]) [0, 1, 4, 5] [] hS (by kernel_rfl) (by kernel_rfl) (by kernel_rfl) (by kernel_rfl) (fun _ => by kernel_rfl) (by kernel_rfl) (by kernel_rfl) (by kernel_rfl) ?_ ?_ ?_
 ·intro e w' hw
  refine (.cons ?_ (.cons ?_ (.cons ?_ (.cons ?_ .nil))))
  ·intro h1 h2
   obtain rfl : e = 0 := Nat.le_antisymm h2 h1
   obtain rfl : w' = w5.drew := hw.trans (by kernel_rfl)
   exact (.cons ((hB7.drew : Blk w5.drew r.b 89 (#[r.lp, r.rp, r.pv, I6 ↑r.n, I6 ↑r.rw, I6 ↑r.hg])).cell 5 rfl) .nil)
  ·intro h1 h2
   obtain rfl : e = 0 := Nat.le_antisymm h2 h1
   obtain rfl : w' = w5.drew := hw.trans (by kernel_rfl)
   exact (.cons ((hB8.drew : Blk w5.drew l.b 89 (#[(Pv ll.b), (Pv lr.b), .slice none 0 0, I6 ↑l.n, I6 ↑l.rw, I6 ↑l.hg])).cell 5 rfl) .nil)
  ·exact fun _ _ => (.cons (as_i64 (by omega)) .nil)
  ·exact fun _ _ => (.cons (as_f (by omega)) .nil)
 ·refine .nil
 rintro a w21 hS hw22
 replace hw22 : w21 = w5.drew := hw22.trans (by kernel_rfl)
 have hB23 := Blk.at' hw22 (hB7.drew)
 have hB24 := Blk.at' hw22 (hB8.drew)
 have hB25 := Blk.at' hw22 (hB9.drew)
 have hB26 := Blk.at' hw22 (hB10.drew)
 have hE27 : Ext [] w w21 := by rw [hw22]; exact hE11.drew
 have hX28 : Ext [] w5 w21 := by rw [hw22]; exact (Ext.refl _ _).drew
 have hG29 : l.Ok w21 := hG13.ext0 hX28
 have hG30 : r.Ok w21 := hG14.ext0 hX28
 have hG31 : ll.Ok w21 := hG15.ext0 hX28
 have hG32 : lr.Ok w21 := hG16.ext0 hX28
 have hG33 : lrl.Ok w21 := hG17.ext0 hX28
 have hG34 : lrr.Ok w21 := hG18.ext0 hX28
 replace hS := hS.kp [(0, (Pv l.b)), (1, (Pv r.b)), (4, .pointer none), (5, .bool false), (55, .bool false)]
 refine hK19 _ _ ?_
 refine cond_f hS rfl ?_
 refine sq fun K35 hK35 => ?_
 refine region_fn2 wide_wide [.q .p, .q .p, .q .p, .q (.ld (I6 ↑l.hg)), .q .p, .q .p, .q .p, .q (.ld (I6 ↑r.hg)), .q (.as (I6 (↑r.hg + 1))), .q (.as (.bool true)), .q .p, .q .p, .q .p, .q .p, .q (.ld ((Pv lr.b))), .q .p, .q .p, .q (.ld (I6 ↑lr.hg)), .q .p, .q .p, .q .p, .q (.ld ((Pv ll.b))), .q .p, .q .p, .q (.ld (I6 ↑ll.hg)), .q (.as (.bool true)), .q .p, .q .p] [0, 0, 0, 0, 0, 0, 0, 0, 0, 0, 0, 0, 0, 0, 0, 0, 0, 0, 0, 0, 0, 0, 0, 0, 0, 0, 0, 0] [0, 0, 0, 0, 0, 0, 0, 0, 0, 0, 0, 0, 0, 0, 0, 0, 0, 0, 0, 0, 0, 0, 0, 0, 0, 0, 0, 0] [0, 1, 3, 7, 0, 16, 48, 112, 240, 511, 1023, 2047, 4095, 8191, 16383, 32767, 65535, 131071, 2047, 264191, 788479, 1837055, 3934207, 8128511, 16517119, 33554431, 67108863, 134217727] [] 0 ([(0, (Pv l.b)), (1, (Pv r.b)), (4, .pointer none), (5, .bool false), (55, .bool false), (78, (Pv l.b)), (79, (Pv l.b)), (80, (Po l.b 5)), (81, I6 ↑l.hg), (82, (Pv r.b)), (83, (Pv r.b)), (84, (Po r.b 5)), (85, I6 ↑r.hg), (86, I6 (↑r.hg + 1)), (87, .bool true), (88, .bool true), (89, (Pv l.b)), (90, (Pv l.b)), (91, (Po l.b 1)), (92, (Pv lr.b)), (93, (Pv lr.b)), (94, (Po lr.b 5)), (95, I6 ↑lr.hg), (96, (Pv l.b)), (97, (Pv l.b)), (98, (Pv l.b)), (99, (Pv ll.b)), (100, (Pv ll.b)), (101, (Po ll.b 5)), (102, I6 ↑ll.hg), (103, .bool true), (104, .bool true), (77, .bool true)]) [w21.drew] w21.drew (fun w' => [(3, [w'.cell? ⟨l.b, 5, none⟩ = some (I6 ↑l.hg)]), (7, [w'.cell? ⟨r.b, 5, none⟩ = some (I6 ↑r.hg)]), (8, [Value.int .i64 (IntKind.i64.wrap (↑r.hg + 1)) = I6 (↑r.hg + 1)]), (9, [Value.bool (decide ((↑l.hg : Int) > ↑r.hg + 1)) = .bool true]), (14, [w'.cell? ⟨l.b, 1, none⟩ = some ((Pv lr.b))]), (17, [w'.cell? ⟨lr.b, 5, none⟩ = some (I6 ↑lr.hg)]), (21, [w'.cell? ⟨l.b, 0, none⟩ = some ((Pv ll.b))]), (24, [w'.cell? ⟨ll.b, 5, none⟩ = some (I6 ↑ll.hg)]), (25, [Value.bool (decide ((↑lr.hg : Int) > ↑ll.hg)) = .bool true])]) [0, 1, 4, 5, 55] [] hS (by kernel_rfl) (by kernel_rfl) (by kernel_rfl) (by kernel_rfl) (fun _ => by kernel_rfl) (by kernel_rfl) (by kernel_rfl) (by kernel_rfl) ?_ ?_ ?_
 ·intro e w' hw
  refine (.cons ?_ (.cons ?_ (.cons ?_ (.cons ?_ (.cons ?_ (.cons ?_ (.cons ?_ (.cons ?_ (.cons ?_ .nil)))))))))
  ·intro h1 h2
   obtain rfl : e = 0 := Nat.le_antisymm h2 h1
   obtain rfl : w' = w21.drew := hw.trans (by kernel_rfl)
   exact (.cons ((hB24.drew : Blk w21.drew l.b 89 (#[(Pv ll.b), (Pv lr.b), .slice none 0 0, I6 ↑l.n, I6 ↑l.rw, I6 ↑l.hg])).cell 5 rfl) .nil)
  ·intro h1 h2
   obtain rfl : e = 0 := Nat.le_antisymm h2 h1
   obtain rfl : w' = w21.drew := hw.trans (by kernel_rfl)
   exact (.cons ((hB23.drew : Blk w21.drew r.b 89 (#[r.lp, r.rp, r.pv, I6 ↑r.n, I6 ↑r.rw, I6 ↑r.hg])).cell 5 rfl) .nil)
  ·exact fun _ _ => (.cons (as_i64 (by omega)) .nil)
  ·exact fun _ _ => (.cons (as_t (by omega)) .nil)
  ·intro h1 h2
   obtain rfl : e = 0 := Nat.le_antisymm h2 h1
   obtain rfl : w' = w21.drew := hw.trans (by kernel_rfl)
   exact (.cons ((hB24.drew : Blk w21.drew l.b 89 (#[(Pv ll.b), (Pv lr.b), .slice none 0 0, I6 ↑l.n, I6 ↑l.rw, I6 ↑l.hg])).cell 1 rfl) .nil)
  ·intro h1 h2
   obtain rfl : e = 0 := Nat.le_antisymm h2 h1
   obtain rfl : w' = w21.drew := hw.trans (by kernel_rfl)
   exact (.cons ((hB25.drew : Blk w21.drew lr.b 89 (#[(Pv lrl.b), (Pv lrr.b), .slice none 0 0, I6 ↑lr.n, I6 ↑lr.rw, I6 ↑lr.hg])).cell 5 rfl) .nil)
  ·intro h1 h2
   obtain rfl : e = 0 := Nat.le_antisymm h2 h1
   obtain rfl : w' = w21.drew := hw.trans (by kernel_rfl)
   exact (.cons ((hB24.drew : Blk w21.drew l.b 89 (#[(Pv ll.b), (Pv lr.b), .slice none 0 0, I6 ↑l.n, I6 ↑l.rw, I6 ↑l.hg])).cell 0 rfl) .nil)
  ·intro h1 h2
   obtain rfl : e = 0 := Nat.le_antisymm h2 h1
   obtain rfl : w' = w21.drew := hw.trans (by kernel_rfl)
   exact (.cons ((hB26.drew : Blk w21.drew ll.b 89 (#[ll.lp, ll.rp, ll.pv, I6 ↑ll.n, I6 ↑ll.rw, I6 ↑ll.hg])).cell 5 rfl) .nil)
  ·exact fun _ _ => (.cons (as_t (by omega)) .nil)
 ·refine .nil
 rintro a w37 hS hw38
 replace hw38 : w37 = w21.drew := hw38.trans (by kernel_rfl)
 have hB40 := Blk.at' hw38 (hB24.drew)
 have hB41 := Blk.at' hw38 (hB25.drew)
 have hE43 : Ext [] w w37 := by rw [hw38]; exact hE27.drew
 have hX44 : Ext [] w21 w37 := by rw [hw38]; exact (Ext.refl _ _).drew
 have hG45 : l.Ok w37 := hG29.ext0 hX44
 have hG46 : r.Ok w37 := hG30.ext0 hX44
 have hG47 : ll.Ok w37 := hG31.ext0 hX44
 have hG48 : lr.Ok w37 := hG32.ext0 hX44
 have hG49 : lrl.Ok w37 := hG33.ext0 hX44
 have hG50 : lrr.Ok w37 := hG34.ext0 hX44
 replace hS := hS.kp [(0, (Pv l.b)), (1, (Pv r.b)), (4, .pointer none), (5, .bool false), (55, .bool false), (77, .bool true)]
 refine hK35 _ _ ?_
 refine cond_t hS rfl ?_
 refine sq fun K51 hK51 => ?_
 refine region_gh2 (G := Nd × World × Nd × World × Nd × World) wide_wide [.q .p, .q .p, .q .p, .q (.ld ((Pv ll.b))), .q .p, .q .p, .q .p, .q (.ld ((Pv lr.b))), .q .p, .q .p, .q (.ld ((Pv lrl.b))), .e, .q .p, .q .p, .q .p, .q (.ld ((Pv lr.b))), .q .p, .q .p, .q (.ld ((Pv lrr.b))), .q .p, .e, .e, .q .p] [0, 0, 0, 0, 0, 0, 0, 0, 0, 0, 0, 0, 0, 0, 0, 0, 0, 0, 0, 0, 1, 2, 3] [0, 0, 0, 0, 0, 0, 0, 0, 0, 0, 0, 0, 1, 1, 1, 1, 1, 1, 1, 1, 1, 2, 3] [0, 1, 3, 7, 0, 16, 48, 112, 240, 496, 1008, 2047, 0, 4096, 12288, 28672, 61440, 126976, 258048, 0, 1048575, 2097151, 4194303] [11, 20, 21] [(11, 0), (20, 1), (21, 2)] 3 (fun ⟨t52, wc52, t53, wc53, t54, wc54⟩ => ([(0, (Pv l.b)), (1, (Pv r.b)), (5, .bool false), (55, .bool false), (77, .bool true), (4, (Pv t54.b)), (105, (Pv l.b)), (106, (Pv l.b)), (107, (Pv l.b)), (108, (Pv ll.b)), (109, (Pv l.b)), (110, (Pv l.b)), (111, (Po l.b 1)), (112, (Pv lr.b)), (113, (Pv lr.b)), (114, (Pv lr.b)), (115, (Pv lrl.b)), (116, (Pv t52.b)), (117, (Pv l.b)), (118, (Pv l.b)), (119, (Po l.b 1)), (120, (Pv lr.b)), (121, (Pv lr.b)), (122, (Po lr.b 1)), (123, (Pv lrr.b)), (124, (Pv r.b)), (125, (Pv t53.b)), (126, (Pv t54.b))] : Fm)) (fun ⟨t52, wc52, t53, wc53, t54, wc54⟩ => [w37.drew, wc52, wc53, wc54]) (w37.drew) (fun e ⟨t52, wc52, t53, wc53, t54, wc54⟩ => hAt [True, (t52.Ok wc52) ∧ (t52.bs = ll.bs ++ lrl.bs) ∧ (t52.n = ll.n + lrl.n) ∧ (Ext [] w37.drew wc52) ∧ True, (t52.Ok wc52) ∧ (t52.bs = ll.bs ++ lrl.bs) ∧ (t52.n = ll.n + lrl.n) ∧ (Ext [] w37.drew wc52) ∧ (t53.Ok wc53) ∧ (t53.bs = lrr.bs ++ r.bs) ∧ (t53.n = lrr.n + r.n) ∧ (Ext [] wc52 wc53) ∧ True, (t52.Ok wc52) ∧ (t52.bs = ll.bs ++ lrl.bs) ∧ (t52.n = ll.n + lrl.n) ∧ (Ext [] w37.drew wc52) ∧ (t53.Ok wc53) ∧ (t53.bs = lrr.bs ++ r.bs) ∧ (t53.n = lrr.n + r.n) ∧ (Ext [] wc52 wc53) ∧ (t54.Ok wc54) ∧ (t54.bs = t52.bs ++ t53.bs) ∧ (t54.n = t52.n + t53.n) ∧ (Ext [] wc53 wc54) ∧ True] e) (fun ⟨t52, wc52, t53, wc53, t54, wc54⟩ w' => [(3, [w'.cell? ⟨l.b, 0, none⟩ = some ((Pv ll.b))]), (7, [w'.cell? ⟨l.b, 1, none⟩ = some ((Pv lr.b))]), (10, [w'.cell? ⟨lr.b, 0, none⟩ = some ((Pv lrl.b))]), (15, [w'.cell? ⟨l.b, 1, none⟩ = some ((Pv lr.b))]), (18, [w'.cell? ⟨lr.b, 1, none⟩ = some ((Pv lrr.b))])]) ((Nd.leaf 0 undef []), w37.drew, (Nd.leaf 0 undef []), w, (Nd.leaf 0 undef []), w) [0, 1, 5, 55, 77] [] hS (by kernel_rfl) (by kernel_rfl) (by kernel_rfl) (by kernel_rfl) (fun ⟨t52, wc52, t53, wc53, t54, wc54⟩ _ => by kernel_rfl) (by kernel_rfl) (by kernel_rfl) (by kernel_rfl) trivial ?_ (by kernel_rfl) ?_ ?_
 ·rintro e ⟨t52, wc52, t53, wc53, t54, wc54⟩ w' hw hH
  refine (.cons ?_ (.cons ?_ (.cons ?_ (.cons ?_ (.cons ?_ .nil)))))
  ·intro h1 h2
   obtain rfl : e = 0 := Nat.le_antisymm h2 h1
   have hwe : w37.drew = w' := (hw.trans (by kernel_rfl)).symm
   subst hwe
   clear hH
   exact (.cons ((hB40.drew : Blk w37.drew l.b 89 (#[(Pv ll.b), (Pv lr.b), .slice none 0 0, I6 ↑l.n, I6 ↑l.rw, I6 ↑l.hg])).cell 0 rfl) .nil)
  ·intro h1 h2
   obtain rfl : e = 0 := Nat.le_antisymm h2 h1
   have hwe : w37.drew = w' := (hw.trans (by kernel_rfl)).symm
   subst hwe
   clear hH
   exact (.cons ((hB40.drew : Blk w37.drew l.b 89 (#[(Pv ll.b), (Pv lr.b), .slice none 0 0, I6 ↑l.n, I6 ↑l.rw, I6 ↑l.hg])).cell 1 rfl) .nil)
  ·intro h1 h2
   obtain rfl : e = 0 := Nat.le_antisymm h2 h1
   have hwe : w37.drew = w' := (hw.trans (by kernel_rfl)).symm
   subst hwe
   clear hH
   exact (.cons ((hB41.drew : Blk w37.drew lr.b 89 (#[(Pv lrl.b), (Pv lrr.b), .slice none 0 0, I6 ↑lr.n, I6 ↑lr.rw, I6 ↑lr.hg])).cell 0 rfl) .nil)
  ·intro h1 h2
   replace h1 : 0 ≤ e := h1
   replace h2 : e ≤ 1 := h2
   have he : e = 0 ∨ e = 1 := by omega
   rcases he with rfl | rfl
   ·have hwe : w37.drew = w' := (hw.trans (by kernel_rfl)).symm
    subst hwe
    clear hH
    exact (.cons ((hB40.drew : Blk w37.drew l.b 89 (#[(Pv ll.b), (Pv lr.b), .slice none 0 0, I6 ↑l.n, I6 ↑l.rw, I6 ↑l.hg])).cell 1 rfl) .nil)
   ·have hwe : wc52 = w' := (hw.trans (by kernel_rfl)).symm
    subst hwe
    obtain ⟨ho52, hb52, hn52, hEc52, _⟩ := hH
    exact (.cons (((hB40.drew : Blk w37.drew l.b 89 (#[(Pv ll.b), (Pv lr.b), .slice none 0 0, I6 ↑l.n, I6 ↑l.rw, I6 ↑l.hg])).ext hEc52 (by simp) : Blk wc52 l.b 89 (#[(Pv ll.b), (Pv lr.b), .slice none 0 0, I6 ↑l.n, I6 ↑l.rw, I6 ↑l.hg])).cell 1 rfl) .nil)
  ·intro h1 h2
   replace h1 : 0 ≤ e := h1
   replace h2 : e ≤ 1 := h2
   have he : e = 0 ∨ e = 1 := by omega
   rcases he with rfl | rfl
   ·have hwe : w37.drew = w' := (hw.trans (by kernel_rfl)).symm
    subst hwe
    clear hH
    exact (.cons ((hB41.drew : Blk w37.drew lr.b 89 (#[(Pv lrl.b), (Pv lrr.b), .slice none 0 0, I6 ↑lr.n, I6 ↑lr.rw, I6 ↑lr.hg])).cell 1 rfl) .nil)
   ·have hwe : wc52 = w' := (hw.trans (by kernel_rfl)).symm
    subst hwe
    obtain ⟨ho52, hb52, hn52, hEc52, _⟩ := hH
    exact (.cons (((hB41.drew : Blk w37.drew lr.b 89 (#[(Pv lrl.b), (Pv lrr.b), .slice none 0 0, I6 ↑lr.n, I6 ↑lr.rw, I6 ↑lr.hg])).ext hEc52 (by simp) : Blk wc52 lr.b 89 (#[(Pv lrl.b), (Pv lrr.b), .slice none 0 0, I6 ↑lr.n, I6 ↑lr.rw, I6 ↑lr.hg])).cell 1 rfl) .nil)
 ·refine (.cons ?eq55_11 (.cons ?eq55_20 (.cons ?eq55_21 .nil)))
  ·rintro ⟨t52, wc52, t53, wc53, t54, wc54⟩ hH
   clear hH
   refine eff_gh (w37.drew) (by kernel_rfl) ?_
   refine upon_call (f := 69) (vs := [(Pv ll.b), (Pv lrl.b)]) (cap := #[]) (d := (some 116)) (by kernel_rfl) Try.call69 #[(Pv ll.b), (Pv lrl.b)] (by kernel_rfl) (over_any (hG47.ext0 ((Ext.refl [] _).drew)) (hG49.ext0 ((Ext.refl [] _).drew)) (by omega)) ?_
   rintro _ wc52 ⟨t52, rfl, ho52, hb52, hn52, hEc52⟩
   exact ⟨_, rfl, ⟨(t52, wc52, t53, wc53, t54, wc54), by kernel_rfl, by kernel_rfl, by kernel_rfl, ⟨ho52, hb52, hn52, hEc52, trivial⟩⟩⟩
  ·rintro ⟨t52, wc52, t53, wc53, t54, wc54⟩ hH
   obtain ⟨ho52, hb52, hn52, hEc52, _⟩ := hH
   refine eff_gh (wc52) (by kernel_rfl) ?_
   refine upon_call (f := 69) (vs := [(Pv lrr.b), (Pv r.b)]) (cap := #[]) (d := (some 125)) (by kernel_rfl) Try.call69 #[(Pv lrr.b), (Pv r.b)] (by kernel_rfl) (over_any ((hG50.ext0 ((Ext.refl [] _).drew)).ext0 hEc52) ((hG46.ext0 ((Ext.refl [] _).drew)).ext0 hEc52) (by omega)) ?_
   rintro _ wc53 ⟨t53, rfl, ho53, hb53, hn53, hEc53⟩
   exact ⟨_, rfl, ⟨(t52, wc52, t53, wc53, t54, wc54), by kernel_rfl, by kernel_rfl, by kernel_rfl, ⟨ho52, hb52, hn52, hEc52, ho53, hb53, hn53, hEc53, trivial⟩⟩⟩
  ·rintro ⟨t52, wc52, t53, wc53, t54, wc54⟩ hH
   obtain ⟨ho52, hb52, hn52, hEc52, ho53, hb53, hn53, hEc53, _⟩ := hH
   refine eff_gh (wc53) (by kernel_rfl) ?_
   refine upon_call (f := 69) (vs := [(Pv t52.b), (Pv t53.b)]) (cap := #[]) (d := (some 126)) (by kernel_rfl) Try.call69 #[(Pv t52.b), (Pv t53.b)] (by kernel_rfl) (over_any (ho52.ext0 hEc53) ho53 (by omega)) ?_
   rintro _ wc54 ⟨t54, rfl, ho54, hb54, hn54, hEc54⟩
   exact ⟨_, rfl, ⟨(t52, wc52, t53, wc53, t54, wc54), by kernel_rfl, by kernel_rfl, by kernel_rfl, ⟨ho52, hb52, hn52, hEc52, ho53, hb53, hn53, hEc53, ho54, hb54, hn54, hEc54, trivial⟩⟩⟩
 rintro ⟨t52, wc52, t53, wc53, t54, wc54⟩ a w56 hS hw57 hH
 obtain ⟨ho52, hb52, hn52, hEc52, ho53, hb53, hn53, hEc53, ho54, hb54, hn54, hEc54, _⟩ := hH
 replace hw57 : w56 = wc54 := hw57.trans (by kernel_rfl)
 have hE62 : Ext [] w w56 := by rw [hw57]; exact (((hE43.drew).trans0 hEc52).trans0 hEc53).trans0 hEc54
 have hX63 : Ext [] w37 w56 := by rw [hw57]; exact ((((Ext.refl _ _).drew).trans0 hEc52).trans0 hEc53).trans0 hEc54
 have hG64 : l.Ok w56 := hG45.ext0 hX63
 have hG65 : r.Ok w56 := hG46.ext0 hX63
 have hG66 : ll.Ok w56 := hG47.ext0 hX63
 have hG67 : lr.Ok w56 := hG48.ext0 hX63
 have hG68 : lrl.Ok w56 := hG49.ext0 hX63
 have hG69 : lrr.Ok w56 := hG50.ext0 hX63
 replace hS := hS.kp [(0, (Pv l.b)), (1, (Pv r.b)), (5, .bool false), (55, .bool false), (77, .bool true), (4, (Pv t54.b))]
 refine hK51 _ _ ?_
 refine wpIn_ret ?_
 refine inBlock_ret ?_
 refine then_ret ?_
 refine ret1 hS Try.results68 rfl ?_
 exact ⟨t54, rfl, by rw [hw57]; exact ho54, by simp only [hb54, hb53, hb52, hbsl, hbslr, List.append_assoc], hE62⟩

theorem beside_d {l r : Nd} {w : World} (hl : l.Ok w) (hr : r.Ok w) (hn : l.n + r.n ≤ 100000000000) {ll lr : Nd} (hB : Blk w l.b 89 #[(Pv ll.b), (Pv lr.b), .slice none 0 0, I6 ↑l.n, I6 ↑l.rw, I6 ↑l.hg]) (hll : ll.Ok w) (hlr : lr.Ok w) (hnl : l.n = ll.n + lr.n) (hbsl : l.bs = ll.bs ++ lr.bs) (h1 : l.hg > r.hg + 1) (h2 : ¬lr.hg > ll.hg) :
  Calls Try.prog 68 #[(Pv l.b), (Pv r.b)] w fun e w' => NdR w (l.bs ++ r.bs) e w' := by
 have hh1 := hl.high
 have hh2 := hr.high
 refine calls_body 152 [(0, (Pv l.b)), (1, (Pv r.b))] Try.func68 rfl (by kernel_rfl) (by kernel_rfl) (by kernel_rfl) fun a hS => ?_
 have hE0 : Ext [] w w := Ext.refl _ _
 refine sq fun K1 hK1 => ?_
 refine rgn 1 ?_
 refine sg wide_wide [.p] [] [(0, (Pv l.b)), (1, (Pv r.b)), (4, .pointer none)] 1 0 hS .nil fun a hS => ?_
 refine seg_end ?_
 refine hK1 _ _ ?_
 refine sq fun K2 hK2 => ?_
 refine wpIn_block ?_
 refine sq fun K3 hK3 => ?_
 refine region_fn2 wide_wide [.q .p, .q .p, .q .p, .q (.ld (I6 ↑r.hg)), .q .p, .q .p, .q .p, .q (.ld (I6 ↑l.hg)), .q (.as (I6 (↑l.hg + 1))), .q (.as (.bool false)), .q .p, .q .no, .q .no, .q .no, .q .no, .q .no, .q .no, .q .no, .q .no, .q .no, .q .no, .q .no, .q .no, .q .no, .q .no, .q .no, .q .p, .q .p] [0, 0, 0, 0, 0, 0, 0, 0, 0, 0, 0, 0, 0, 0, 0, 0, 0, 0, 0, 0, 0, 0, 0, 0, 0, 0, 0, 0] [0, 0, 0, 0, 0, 0, 0, 0, 0, 0, 0, 0, 0, 0, 0, 0, 0, 0, 0, 0, 0, 0, 0, 0, 0, 0, 0, 0] [0, 1, 3, 7, 0, 16, 48, 112, 240, 511, 1023, 2047, 4095, 8191, 16383, 32767, 65535, 131071, 2047, 264191, 788479, 1837055, 3934207, 8128511, 16517119, 33554431, 67108863, 134217727] [] 0 ([(0, (Pv l.b)), (1, (Pv r.b)), (4, .pointer none), (6, (Pv r.b)), (7, (Pv r.b)), (8, (Po r.b 5)), (9, I6 ↑r.hg), (10, (Pv l.b)), (11, (Pv l.b)), (12, (Po l.b 5)), (13, I6 ↑l.hg), (14, I6 (↑l.hg + 1)), (15, .bool false), (16, .bool false), (17, undef), (18, undef), (19, undef), (20, undef), (21, undef), (22, undef), (23, undef), (24, undef), (25, undef), (26, undef), (27, undef), (28, undef), (29, undef), (30, undef), (31, undef), (32, .bool false), (5, .bool false)]) [w.drew] w.drew (fun w' => [(3, [w'.cell? ⟨r.b, 5, none⟩ = some (I6 ↑r.hg)]), (7, [w'.cell? ⟨l.b, 5, none⟩ = some (I6 ↑l.hg)]), (8, [Value.int .i64 (IntKind.i64.wrap (↑l.hg + 1)) = I6 (↑l.hg + 1)]), (9, [Value.bool (decide ((↑r.hg : Int) > ↑l.hg + 1)) = .bool false])]) [0, 1, 4] [] hS (by kernel_rfl) (by kernel_rfl) (by kernel_rfl) (by kernel_rfl) (fun _ => by kernel_rfl) (by kernel_rfl) (by kernel_rfl) (by kernel_rfl) ?_ ?_ ?_
 ·intro e w' hw
  refine (.cons ?_ (.cons ?_ (.cons ?_ (.cons ?_ .nil))))
  ·intro h1 h2
   obtain rfl : e = 0 := Nat.le_antisymm h2 h1
   obtain rfl : w' = w.drew := hw.trans (by kernel_rfl)
   exact (.cons ((hr.blk.drew : Blk w.drew r.b 89 (#[r.lp, r.rp, r.pv, I6 ↑r.n, I6 ↑r.rw, I6 ↑r.hg])).cell 5 rfl) .nil)
  ·intro h1 h2
   obtain rfl : e = 0 := Nat.le_antisymm h2 h1
   obtain rfl : w' = w.drew := hw.trans (by kernel_rfl)
   exact (.cons ((hB.drew : Blk w.drew l.b 89 (#[(Pv ll.b), (Pv lr.b), .slice none 0 0, I6 ↑l.n, I6 ↑l.rw, I6 ↑l.hg])).cell 5 rfl) .nil)
  ·exact fun _ _ => (.cons (as_i64 (by omega)) .nil)
  ·exact fun _ _ => (.cons (as_f (by omega)) .nil)
 ·refine .nil
 rintro a w5 hS hw6
 replace hw6 : w5 = w.drew := hw6.trans (by kernel_rfl)
 have hB7 := Blk.at' hw6 (hr.blk.drew)
 have hB8 := Blk.at' hw6 (hB.drew)
 have hB9 := Blk.at' hw6 (hll.blk.drew)
 have hB10 := Blk.at' hw6 (hlr.blk.drew)
 have hE11 : Ext [] w w5 := by rw [hw6]; exact hE0.drew
 have hX12 : Ext [] w w5 := by rw [hw6]; exact (Ext.refl _ _).drew
 have hG13 : l.Ok w5 := hl.ext0 hX12
 have hG14 : r.Ok w5 := hr.ext0 hX12
 have hG15 : ll.Ok w5 := hll.ext0 hX12
 have hG16 : lr.Ok w5 := hlr.ext0 hX12
 replace hS := hS.kp [(0, (Pv l.b)), (1, (Pv r.b)), (4, .pointer none), (5, .bool false)]
 refine hK3 _ _ ?_
 refine cond_f hS rfl ?_
 refine sq fun K17 hK17 => ?_
 refine region_fn2 wide_wide [.q .p, .q .p, .q .p, .q (.ld (I6 ↑r.hg)), .q .p, .q .p, .q .p, .q (.ld (I6 ↑l.hg)), .q (.as (I6 (↑l.hg + 1))), .q (.as (.bool false)), .q .p] [0, 0, 0, 0, 0, 0, 0, 0, 0, 0, 0] [0, 0, 0, 0, 0, 0, 0, 0, 0, 0, 0] [0, 1, 3, 7, 0, 16, 48, 112, 240, 511, 1023] [] 0 ([(0, (Pv l.b)), (1, (Pv r.b)), (4, .pointer none), (5, .bool false), (56, (Pv r.b)), (57, (Pv r.b)), (58, (Po r.b 5)), (59, I6 ↑r.hg), (60, (Pv l.b)), (61, (Pv l.b)), (62, (Po l.b 5)), (63, I6 ↑l.hg), (64, I6 (↑l.hg + 1)), (65, .bool false), (55, .bool false)]) [w5.drew] w5.drew (fun w' => [(3, [w'.cell? ⟨r.b, 5, none⟩ = some (I6 ↑r.hg)]), (7, [w'.cell? ⟨l.b, 5, none⟩ = some (I6 ↑l.hg)]), (8, [Value.int .i64 (IntKind.i64.wrap (↑l.hg + 1)) = I6 (↑l.hg + 1)]), (9, [Value.bool (decide ((↑r.hg : Int) > ↑l.hg + 1)) = .bool false])]) [0, 1, 4, 5] [] hS (by kernel_rfl) (by kernel_rfl) (by kernel_rfl) (by kernel_rfl) (fun _ => by kernel_rfl) (by kernel_rfl) (by kernel_rfl) (by kernel_rfl) ?_ ?_ ?_
 ·intro e w' hw
  refine (.cons ?_ (.cons ?_ (.cons ?_ (.cons ?_ .nil))))
  ·intro h1 h2
   obtain rfl : e = 0 := Nat.le_antisymm h2 h1
   obtain rfl : w' = w5.drew := hw.trans (by kernel_rfl)
   exact (.cons ((hB7.drew : Blk w5.drew r.b 89 (#[r.lp, r.rp, r.pv, I6 ↑r.n, I6 ↑r.rw, I6 ↑r.hg])).cell 5 rfl) .nil)
  ·intro h1 h2
   obtain rfl : e = 0 := Nat.le_antisymm h2 h1
   obtain rfl : w' = w5.drew := hw.trans (by kernel_rfl)
   exact (.cons ((hB8.drew : Blk w5.drew l.b 89 (#[(Pv ll.b), (Pv lr.b), .slice none 0 0, I6 ↑l.n, I6 ↑l.rw, I6 ↑l.hg])).cell 5 rfl) .nil)
  ·exact fun _ _ => (.cons (as_i64 (by omega)) .nil)
  ·exact fun _ _ => (.cons (as_f (by omega)) .nil)
 ·refine .nil
 rintro a w19 hS hw20
 replace hw20 : w19 = w5.drew := hw20.trans (by kernel_rfl)
 have hB21 := Blk.at' hw20 (hB7.drew)
 have hB22 := Blk.at' hw20 (hB8.drew)
 have hB23 := Blk.at' hw20 (hB9.drew)
 have hB24 := Blk.at' hw20 (hB10.drew)
 have hE25 : Ext [] w w19 := by rw [hw20]; exact hE11.drew
 have hX26 : Ext [] w5 w19 := by rw [hw20]; exact (Ext.refl _ _).drew
 have hG27 : l.Ok w19 := hG13.ext0 hX26
 have hG28 : r.Ok w19 := hG14.ext0 hX26
 have hG29 : ll.Ok w19 := hG15.ext0 hX26
 have hG30 : lr.Ok w19 := hG16.ext0 hX26
 replace hS := hS.kp [(0, (Pv l.b)), (1, (Pv r.b)), (4, .pointer none), (5, .bool false), (55, .bool false)]
 refine hK17 _ _ ?_
 refine cond_f hS rfl ?_
 refine sq fun K31 hK31 => ?_
 refine region_fn2 wide_wide [.q .p, .q .p, .q .p, .q (.ld (I6 ↑l.hg)), .q .p, .q .p, .q .p, .q (.ld (I6 ↑r.hg)), .q (.as (I6 (↑r.hg + 1))), .q (.as (.bool true)), .q .p, .q .p, .q .p, .q .p, .q (.ld ((Pv lr.b))), .q .p, .q .p, .q (.ld (I6 ↑lr.hg)), .q .p, .q .p, .q .p, .q (.ld ((Pv ll.b))), .q .p, .q .p, .q (.ld (I6 ↑ll.hg)), .q (.as (.bool false)), .q .p, .q .p] [0, 0, 0, 0, 0, 0, 0, 0, 0, 0, 0, 0, 0, 0, 0, 0, 0, 0, 0, 0, 0, 0, 0, 0, 0, 0, 0, 0] [0, 0, 0, 0, 0, 0, 0, 0, 0, 0, 0, 0, 0, 0, 0, 0, 0, 0, 0, 0, 0, 0, 0, 0, 0, 0, 0, 0] [0, 1, 3, 7, 0, 16, 48, 112, 240, 511, 1023, 2047, 4095, 8191, 16383, 32767, 65535, 131071, 2047, 264191, 788479, 1837055, 3934207, 8128511, 16517119, 33554431, 67108863, 134217727] [] 0 ([(0, (Pv l.b)), (1, (Pv r.b)), (4, .pointer none), (5, .bool false), (55, .bool false), (78, (Pv l.b)), (79, (Pv l.b)), (80, (Po l.b 5)), (81, I6 ↑l.hg), (82, (Pv r.b)), (83, (Pv r.b)), (84, (Po r.b 5)), (85, I6 ↑r.hg), (86, I6 (↑r.hg + 1)), (87, .bool true), (88, .bool true), (89, (Pv l.b)), (90, (Pv l.b)), (91, (Po l.b 1)), (92, (Pv lr.b)), (93, (Pv lr.b)), (94, (Po lr.b 5)), (95, I6 ↑lr.hg), (96, (Pv l.b)), (97, (Pv l.b)), (98, (Pv l.b)), (99, (Pv ll.b)), (100, (Pv ll.b)), (101, (Po ll.b 5)), (102, I6 ↑ll.hg), (103, .bool false), (104, .bool false), (77, .bool false)]) [w19.drew] w19.drew (fun w' => [(3, [w'.cell? ⟨l.b, 5, none⟩ = some (I6 ↑l.hg)]), (7, [w'.cell? ⟨r.b, 5, none⟩ = some (I6 ↑r.hg)]), (8, [Value.int .i64 (IntKind.i64.wrap (↑r.hg + 1)) = I6 (↑r.hg + 1)]), (9, [Value.bool (decide ((↑l.hg : Int) > ↑r.hg + 1)) = .bool true]), (14, [w'.cell? ⟨l.b, 1, none⟩ = some ((Pv lr.b))]), (17, [w'.cell? ⟨lr.b, 5, none⟩ = some (I6 ↑lr.hg)]), (21, [w'.cell? ⟨l.b, 0, none⟩ = some ((Pv ll.b))]), (24, [w'.cell? ⟨ll.b, 5, none⟩ = some (I6 ↑ll.hg)]), (25, [Value.bool (decide ((↑lr.hg : Int) > ↑ll.hg)) = .bool false])]) [0, 1, 4, 5, 55] [] hS (by kernel_rfl) (by kernel_rfl) (by kernel_rfl) (by kernel_rfl) (fun _ => by kernel_rfl) (by kernel_rfl) (by kernel_rfl) (by kernel_rfl) ?_ ?_ ?_
 ·intro e w' hw
  refine (.cons ?_ (.cons ?_ (.cons ?_ (.cons ?_ (.cons ?_ (.cons ?_ (.cons ?_ (.cons ?_ (.cons ?_ .nil)))))))))
  ·intro h1 h2
   obtain rfl : e = 0 := Nat.le_antisymm h2 h1
   obtain rfl : w' = w19.drew := hw.trans (by kernel_rfl)
   exact (.cons ((hB22.drew : Blk w19.drew l.b 89 (#[(Pv ll.b), (Pv lr.b), .slice none 0 0, I6 ↑l.n, I6 ↑l.rw, I6 ↑l.hg])).cell 5 rfl) .nil)
  ·intro h1 h2
   obtain rfl : e = 0 := Nat.le_antisymm h2 h1
   obtain rfl : w' = w19.drew := hw.trans (by kernel_rfl)
   exact (.cons ((hB21.drew : Blk w19.drew r.b 89 (#[r.lp, r.rp, r.pv, I6 ↑r.n, I6 ↑r.rw, I6 ↑r.hg])).cell 5 rfl) .nil)
  ·exact fun _ _ => (.cons (as_i64 (by omega)) .nil)
  ·exact fun _ _ => (.cons (as_t (by omega)) .nil)
  ·intro h1 h2
   obtain rfl : e = 0 := Nat.le_antisymm h2 h1
   obtain rfl : w' = w19.drew := hw.trans (by kernel_rfl)
   exact (.cons ((hB22.drew : Blk w19.drew l.b 89 (#[(Pv ll.b), (Pv lr.b), .slice none 0 0, I6 ↑l.n, I6 ↑l.rw, I6 ↑l.hg])).cell 1 rfl) .nil)
  ·intro h1 h2
   obtain rfl : e = 0 := Nat.le_antisymm h2 h1
   obtain rfl : w' = w19.drew := hw.trans (by kernel_rfl)
   exact (.cons ((hB24.drew : Blk w19.drew lr.b 89 (#[lr.lp, lr.rp, lr.pv, I6 ↑lr.n, I6 ↑lr.rw, I6 ↑lr.hg])).cell 5 rfl) .nil)
  ·intro h1 h2
   obtain rfl : e = 0 := Nat.le_antisymm h2 h1
   obtain rfl : w' = w19.drew := hw.trans (by kernel_rfl)
   exact (.cons ((hB22.drew : Blk w19.drew l.b 89 (#[(Pv ll.b), (Pv lr.b), .slice none 0 0, I6 ↑l.n, I6 ↑l.rw, I6 ↑l.hg])).cell 0 rfl) .nil)
  ·intro h1 h2
   obtain rfl : e = 0 := Nat.le_antisymm h2 h1
   obtain rfl : w' = w19.drew := hw.trans (by kernel_rfl)
   exact (.cons ((hB23.drew : Blk w19.drew ll.b 89 (#[ll.lp, ll.rp, ll.pv, I6 ↑ll.n, I6 ↑ll.rw, I6 ↑ll.hg])).cell 5 rfl) .nil)
  ·exact fun _ _ => (.cons (as_f (by omega)) .nil)
 ·refine .nil
 rintro a w33 hS hw34
 replace hw34 : w33 = w19.drew := hw34.trans (by kernel_rfl)
 have hB35 := Blk.at' hw34 (hB21.drew)
 have hB36 := Blk.at' hw34 (hB22.drew)
 have hE39 : Ext [] w w33 := by rw [hw34]; exact hE25.drew
 have hX40 : Ext [] w19 w33 := by rw [hw34]; exact (Ext.refl _ _).drew
 have hG41 : l.Ok w33 := hG27.ext0 hX40
 have hG42 : r.Ok w33 := hG28.ext0 hX40
 have hG43 : ll.Ok w33 := hG29.ext0 hX40
 have hG44 : lr.Ok w33 := hG30.ext0 hX40
 replace hS := hS.kp [(0, (Pv l.b)), (1, (Pv r.b)), (4, .pointer none), (5, .bool false), (55, .bool false), (77, .bool false)]
 refine hK31 _ _ ?_
 refine cond_f hS rfl ?_
 refine sq fun K45 hK45 => ?_
 refine region_fn2 wide_wide [.q .p, .q .p, .q .p, .q (.ld (I6 ↑l.hg)), .q .p, .q .p, .q .p, .q (.ld (I6 ↑r.hg)), .q (.as (I6 (↑r.hg + 1))), .q (.as (.bool true)), .q .p] [0, 0, 0, 0, 0, 0, 0, 0, 0, 0, 0] [0, 0, 0, 0, 0, 0, 0, 0, 0, 0, 0] [0, 1, 3, 7, 0, 16, 48, 112, 240, 511, 1023] [] 0 ([(0, (Pv l.b)), (1, (Pv r.b)), (4, .pointer none), (5, .bool false), (55, .bool false), (77, .bool false), (128, (Pv l.b)), (129, (Pv l.b)), (130, (Po l.b 5)), (131, I6 ↑l.hg), (132, (Pv r.b)), (133, (Pv r.b)), (134, (Po r.b 5)), (135, I6 ↑r.hg), (136, I6 (↑r.hg + 1)), (137, .bool true), (127, .bool true)]) [w33.drew] w33.drew (fun w' => [(3, [w'.cell? ⟨l.b, 5, none⟩ = some (I6 ↑l.hg)]), (7, [w'.cell? ⟨r.b, 5, none⟩ = some (I6 ↑r.hg)]), (8, [Value.int .i64 (IntKind.i64.wrap (↑r.hg + 1)) = I6 (↑r.hg + 1)]), (9, [Value.bool (decide ((↑l.hg : Int) > ↑r.hg + 1)) = .bool true])]) [0, 1, 4, 5, 55, 77] [] hS (by kernel_rfl) (by kernel_rfl) (by kernel_rfl) (by kernel_rfl) (fun _ => by kernel_rfl) (by kernel_rfl) (by kernel_rfl) (by kernel_rfl) ?_ ?_ ?_
 ·intro e w' hw
  refine (.cons ?_ (.cons ?_ (.cons ?_ (.cons ?_ .nil))))
  ·intro h1 h2
   obtain rfl : e = 0 := Nat.le_antisymm h2 h1
   obtain rfl : w' = w33.drew := hw.trans (by kernel_rfl)
   exact (.cons ((hB36.drew : Blk w33.drew l.b 89 (#[(Pv ll.b), (Pv lr.b), .slice none 0 0, I6 ↑l.n, I6 ↑l.rw, I6 ↑l.hg])).cell 5 rfl) .nil)
  ·intro h1 h2
   obtain rfl : e = 0 := Nat.le_antisymm h2 h1
   obtain rfl : w' = w33.drew := hw.trans (by kernel_rfl)
   exact (.cons ((hB35.drew : Blk w33.drew r.b 89 (#[r.lp, r.rp, r.pv, I6 ↑r.n, I6 ↑r.rw, I6 ↑r.hg])).cell 5 rfl) .nil)
  ·exact fun _ _ => (.cons (as_i64 (by omega)) .nil)
  ·exact fun _ _ => (.cons (as_t (by omega)) .nil)
 ·refine .nil
 rintro a w47 hS hw48
 replace hw48 : w47 = w33.drew := hw48.trans (by kernel_rfl)
 have hB50 := Blk.at' hw48 (hB36.drew)
 have hE53 : Ext [] w w47 := by rw [hw48]; exact hE39.drew
 have hX54 : Ext [] w33 w47 := by rw [hw48]; exact (Ext.refl _ _).drew
 have hG55 : l.Ok w47 := hG41.ext0 hX54
 have hG56 : r.Ok w47 := hG42.ext0 hX54
 have hG57 : ll.Ok w47 := hG43.ext0 hX54
 have hG58 : lr.Ok w47 := hG44.ext0 hX54
 replace hS := hS.kp [(0, (Pv l.b)), (1, (Pv r.b)), (4, .pointer none), (5, .bool false), (55, .bool false), (77, .bool false), (127, .bool true)]
 refine hK45 _ _ ?_
 refine cond_t hS rfl ?_
 refine sq fun K59 hK59 => ?_
 refine region_gh2 (G := Nd × World × Nd × World) wide_wide [.q .p, .q .p, .q .p, .q (.ld ((Pv ll.b))), .q .p, .q .p, .q .p, .q (.ld ((Pv lr.b))), .q .p, .e, .e, .q .p] [0, 0, 0, 0, 0, 0, 0, 0, 0, 0, 1, 2] [1, 1, 1, 1, 0, 0, 0, 0, 0, 0, 1, 2] [0, 1, 3, 7, 0, 16, 48, 112, 0, 496, 1023, 2047] [9, 10] [(9, 0), (10, 1)] 2 (fun ⟨t60, wc60, t61, wc61⟩ => ([(0, (Pv l.b)), (1, (Pv r.b)), (5, .bool false), (55, .bool false), (77, .bool false), (127, .bool true), (4, (Pv t61.b)), (138, (Pv l.b)), (139, (Pv l.b)), (140, (Pv l.b)), (141, (Pv ll.b)), (142, (Pv l.b)), (143, (Pv l.b)), (144, (Po l.b 1)), (145, (Pv lr.b)), (146, (Pv r.b)), (147, (Pv t60.b)), (148, (Pv t61.b))] : Fm)) (fun ⟨t60, wc60, t61, wc61⟩ => [w47.drew, wc60, wc61]) (w47.drew) (fun e ⟨t60, wc60, t61, wc61⟩ => hAt [True, (t60.Ok wc60) ∧ (t60.bs = lr.bs ++ r.bs) ∧ (t60.n = lr.n + r.n) ∧ (Ext [] w47.drew wc60) ∧ True, (t60.Ok wc60) ∧ (t60.bs = lr.bs ++ r.bs) ∧ (t60.n = lr.n + r.n) ∧ (Ext [] w47.drew wc60) ∧ (t61.Ok wc61) ∧ (t61.bs = ll.bs ++ t60.bs) ∧ (t61.n = ll.n + t60.n) ∧ (Ext [] wc60 wc61) ∧ True] e) (fun ⟨t60, wc60, t61, wc61⟩ w' => [(3, [w'.cell? ⟨l.b, 0, none⟩ = some ((Pv ll.b))]), (7, [w'.cell? ⟨l.b, 1, none⟩ = some ((Pv lr.b))])]) ((Nd.leaf 0 undef []), w47.drew, (Nd.leaf 0 undef []), w) [0, 1, 5, 55, 77, 127] [] hS (by kernel_rfl) (by kernel_rfl) (by kernel_rfl) (by kernel_rfl) (fun ⟨t60, wc60, t61, wc61⟩ _ => by kernel_rfl) (by kernel_rfl) (by kernel_rfl) (by kernel_rfl) trivial ?_ (by kernel_rfl) ?_ ?_
 ·rintro e ⟨t60, wc60, t61, wc61⟩ w' hw hH
  refine (.cons ?_ (.cons ?_ .nil))
  ·intro h1 h2
   replace h1 : 0 ≤ e := h1
   replace h2 : e ≤ 1 := h2
   have he : e = 0 ∨ e = 1 := by omega
   rcases he with rfl | rfl
   ·have hwe : w47.drew = w' := (hw.trans (by kernel_rfl)).symm
    subst hwe
    clear hH
    exact (.cons ((hB50.drew : Blk w47.drew l.b 89 (#[(Pv ll.b), (Pv lr.b), .slice none 0 0, I6 ↑l.n, I6 ↑l.rw, I6 ↑l.hg])).cell 0 rfl) .nil)
   ·have hwe : wc60 = w' := (hw.trans (by kernel_rfl)).symm
    subst hwe
    obtain ⟨ho60, hb60, hn60, hEc60, _⟩ := hH
    exact (.cons (((hB50.drew : Blk w47.drew l.b 89 (#[(Pv ll.b), (Pv lr.b), .slice none 0 0, I6 ↑l.n, I6 ↑l.rw, I6 ↑l.hg])).ext hEc60 (by simp) : Blk wc60 l.b 89 (#[(Pv ll.b), (Pv lr.b), .slice none 0 0, I6 ↑l.n, I6 ↑l.rw, I6 ↑l.hg])).cell 0 rfl) .nil)
  ·intro h1 h2
   obtain rfl : e = 0 := Nat.le_antisymm h2 h1
   have hwe : w47.drew = w' := (hw.trans (by kernel_rfl)).symm
   subst hwe
   clear hH
   exact (.cons ((hB50.drew : Blk w47.drew l.b 89 (#[(Pv ll.b), (Pv lr.b), .slice none 0 0, I6 ↑l.n, I6 ↑l.rw, I6 ↑l.hg])).cell 1 rfl) .nil)
 ·refine (.cons ?eq62_9 (.cons ?eq62_10 .nil))
  ·rintro ⟨t60, wc60, t61, wc61⟩ hH
   clear hH
   refine eff_gh (w47.drew) (by kernel_rfl) ?_
   refine upon_call (f := 69) (vs := [(Pv lr.b), (Pv r.b)]) (cap := #[]) (d := (some 147)) (by kernel_rfl) Try.call69 #[(Pv lr.b), (Pv r.b)] (by kernel_rfl) (over_any (hG58.ext0 ((Ext.refl [] _).drew)) (hG56.ext0 ((Ext.refl [] _).drew)) (by omega)) ?_
   rintro _ wc60 ⟨t60, rfl, ho60, hb60, hn60, hEc60⟩
   exact ⟨_, rfl, ⟨(t60, wc60, t61, wc61), by kernel_rfl, by kernel_rfl, by kernel_rfl, ⟨ho60, hb60, hn60, hEc60, trivial⟩⟩⟩
  ·rintro ⟨t60, wc60, t61, wc61⟩ hH
   obtain ⟨ho60, hb60, hn60, hEc60, _⟩ := hH
   refine eff_gh (wc60) (by kernel_rfl) ?_
   refine upon_call (f := 69) (vs := [(Pv ll.b), (Pv t60.b)]) (cap := #[]) (d := (some 148)) (by kernel_rfl) Try.call69 #[(Pv ll.b), (Pv t60.b)] (by kernel_rfl) (over_any ((hG57.ext0 ((Ext.refl [] _).drew)).ext0 hEc60) ho60 (by omega)) ?_
   rintro _ wc61 ⟨t61, rfl, ho61, hb61, hn61, hEc61⟩
   exact ⟨_, rfl, ⟨(t60, wc60, t61, wc61), by kernel_rfl, by kernel_rfl, by kernel_rfl, ⟨ho60, hb60, hn60, hEc60, ho61, hb61, hn61, hEc61, trivial⟩⟩⟩
 rintro ⟨t60, wc60, t61, wc61⟩ a w63 hS hw64 hH
 obtain ⟨ho60, hb60, hn60, hEc60, ho61, hb61, hn61, hEc61, _⟩ := hH
 replace hw64 : w63 = wc61 := hw64.trans (by kernel_rfl)
 have hE69 : Ext [] w w63 := by rw [hw64]; exact ((hE53.drew).trans0 hEc60).trans0 hEc61
 have hX70 : Ext [] w47 w63 := by rw [hw64]; exact (((Ext.refl _ _).drew).trans0 hEc60).trans0 hEc61
 have hG71 : l.Ok w63 := hG55.ext0 hX70
 have hG72 : r.Ok w63 := hG56.ext0 hX70
 have hG73 : ll.Ok w63 := hG57.ext0 hX70
 have hG74 : lr.Ok w63 := hG58.ext0 hX70
 replace hS := hS.kp [(0, (Pv l.b)), (1, (Pv r.b)), (5, .bool false), (55, .bool false), (77, .bool false), (127, .bool true), (4, (Pv t61.b))]
 refine hK59 _ _ ?_
 refine wpIn_ret ?_
 refine inBlock_ret ?_
 refine then_ret ?_
 refine ret1 hS Try.results68 rfl ?_
 exact ⟨t61, rfl, by rw [hw64]; exact ho61, by simp only [hb61, hb60, hbsl, List.append_assoc], hE69⟩

theorem beside_e {l r : Nd} {w : World} (hl : l.Ok w) (hr : r.Ok w) (hn : l.n + r.n ≤ 100000000000) (h1 : ¬r.hg > l.hg + 1) (h2 : ¬l.hg > r.hg + 1) :
  Calls Try.prog 68 #[(Pv l.b), (Pv r.b)] w fun e w' => NdR w (l.bs ++ r.bs) e w' := by
 have hh1 := hl.high
 have hh2 := hr.high
 refine calls_body 152 [(0, (Pv l.b)), (1, (Pv r.b))] Try.func68 rfl (by kernel_rfl) (by kernel_rfl) (by kernel_rfl) fun a hS => ?_
 have hE0 : Ext [] w w := Ext.refl _ _
 refine sq fun K1 hK1 => ?_
 refine rgn 1 ?_
 refine sg wide_wide [.p] [] [(0, (Pv l.b)), (1, (Pv r.b)), (4, .pointer none)] 1 0 hS .nil fun a hS => ?_
 refine seg_end ?_
 refine hK1 _ _ ?_
 refine sq fun K2 hK2 => ?_
 refine wpIn_block ?_
 refine sq fun K3 hK3 => ?_
 refine region_fn2 wide_wide [.q .p, .q .p, .q .p, .q (.ld (I6 ↑r.hg)), .q .p, .q .p, .q .p, .q (.ld (I6 ↑l.hg)), .q (.as (I6 (↑l.hg + 1))), .q (.as (.bool false)), .q .p, .q .no, .q .no, .q .no, .q .no, .q .no, .q .no, .q .no, .q .no, .q .no, .q .no, .q .no, .q .no, .q .no, .q .no, .q .no, .q .p, .q .p] [0, 0, 0, 0, 0, 0, 0, 0, 0, 0, 0, 0, 0, 0, 0, 0, 0, 0, 0, 0, 0, 0, 0, 0, 0, 0, 0, 0] [0, 0, 0, 0, 0, 0, 0, 0, 0, 0, 0, 0, 0, 0, 0, 0, 0, 0, 0, 0, 0, 0, 0, 0, 0, 0, 0, 0] [0, 1, 3, 7, 0, 16, 48, 112, 240, 511, 1023, 2047, 4095, 8191, 16383, 32767, 65535, 131071, 2047, 264191, 788479, 1837055, 3934207, 8128511, 16517119, 33554431, 67108863, 134217727] [] 0 ([(0, (Pv l.b)), (1, (Pv r.b)), (4, .pointer none), (6, (Pv r.b)), (7, (Pv r.b)), (8, (Po r.b 5)), (9, I6 ↑r.hg), (10, (Pv l.b)), (11, (Pv l.b)), (12, (Po l.b 5)), (13, I6 ↑l.hg), (14, I6 (↑l.hg + 1)), (15, .bool false), (16, .bool false), (17, undef), (18, undef), (19, undef), (20, undef), (21, undef), (22, undef), (23, undef), (24, undef), (25, undef), (26, undef), (27, undef), (28, undef), (29, undef), (30, undef), (31, undef), (32, .bool false), (5, .bool false)]) [w.drew] w.drew (fun w' => [(3, [w'.cell? ⟨r.b, 5, none⟩ = some (I6 ↑r.hg)]), (7, [w'.cell? ⟨l.b, 5, none⟩ = some (I6 ↑l.hg)]), (8, [Value.int .i64 (IntKind.i64.wrap (↑l.hg + 1)) = I6 (↑l.hg + 1)]), (9, [Value.bool (decide ((↑r.hg : Int) > ↑l.hg + 1)) = .bool false])]) [0, 1, 4] [] hS (by kernel_rfl) (by kernel_rfl) (by kernel_rfl) (by kernel_rfl) (fun _ => by kernel_rfl) (by kernel_rfl) (by kernel_rfl) (by kernel_rfl) ?_ ?_ ?_
 ·intro e w' hw
  refine (.cons ?_ (.cons ?_ (.cons ?_ (.cons ?_ .nil))))
  ·intro h1 h2
   obtain rfl : e = 0 := Nat.le_antisymm h2 h1
   obtain rfl : w' = w.drew := hw.trans (by kernel_rfl)
   exact (.cons ((hr.blk.drew : Blk w.drew r.b 89 (#[r.lp, r.rp, r.pv, I6 ↑r.n, I6 ↑r.rw, I6 ↑r.hg])).cell 5 rfl) .nil)
  ·intro h1 h2
   obtain rfl : e = 0 := Nat.le_antisymm h2 h1
   obtain rfl : w' = w.drew := hw.trans (by kernel_rfl)
   exact (.cons ((hl.blk.drew : Blk w.drew l.b 89 (#[l.lp, l.rp, l.pv, I6 ↑l.n, I6 ↑l.rw, I6 ↑l.hg])).cell 5 rfl) .nil)
  ·exact fun _ _ => (.cons (as_i64 (by omega)) .nil)
  ·exact fun _ _ => (.cons (as_f (by omega)) .nil)
 ·refine .nil
 rintro a w5 hS hw6
 replace hw6 : w5 = w.drew := hw6.trans (by kernel_rfl)
 have hB7 := Blk.at' hw6 (hl.blk.drew)
 have hB8 := Blk.at' hw6 (hr.blk.drew)
 have hE9 : Ext [] w w5 := by rw [hw6]; exact hE0.drew
 have hX10 : Ext [] w w5 := by rw [hw6]; exact (Ext.refl _ _).drew
 have hG11 : l.Ok w5 := hl.ext0 hX10
 have hG12 : r.Ok w5 := hr.ext0 hX10
 replace hS := hS.kp [(0, (Pv l.b)), (1, (Pv r.b)), (4, .pointer none), (5, .bool false)]
 refine hK3 _ _ ?_
 refine cond_f hS rfl ?_
 refine sq fun K13 hK13 => ?_
 refine region_fn2 wide_wide [.q .p, .q .p, .q .p, .q (.ld (I6 ↑r.hg)), .q .p, .q .p, .q .p, .q (.ld (I6 ↑l.hg)), .q (.as (I6 (↑l.hg + 1))), .q (.as (.bool false)), .q .p] [0, 0, 0, 0, 0, 0, 0, 0, 0, 0, 0] [0, 0, 0, 0, 0, 0, 0, 0, 0, 0, 0] [0, 1, 3, 7, 0, 16, 48, 112, 240, 511, 1023] [] 0 ([(0, (Pv l.b)), (1, (Pv r.b)), (4, .pointer none), (5, .bool false), (56, (Pv r.b)), (57, (Pv r.b)), (58, (Po r.b 5)), (59, I6 ↑r.hg), (60, (Pv l.b)), (61, (Pv l.b)), (62, (Po l.b 5)), (63, I6 ↑l.hg), (64, I6 (↑l.hg + 1)), (65, .bool false), (55, .bool false)]) [w5.drew] w5.drew (fun w' => [(3, [w'.cell? ⟨r.b, 5, none⟩ = some (I6 ↑r.hg)]), (7, [w'.cell? ⟨l.b, 5, none⟩ = some (I6 ↑l.hg)]), (8, [Value.int .i64 (IntKind.i64.wrap (↑l.hg + 1)) = I6 (↑l.hg + 1)]), (9, [Value.bool (decide ((↑r.hg : Int) > ↑l.hg + 1)) = .bool false])]) [0, 1, 4, 5] [] hS (by kernel_rfl) (by kernel_rfl) (by kernel_rfl) (by kernel_rfl) (fun _ => by kernel_rfl) (by kernel_rfl) (by kernel_rfl) (by kernel_rfl) ?_ ?_ ?_
 ·intro e w' hw
  refine (.cons ?_ (.cons ?_ (.cons ?_ (.cons ?_ .nil))))
  ·intro h1 h2
   obtain rfl : e = 0 := Nat.le_antisymm h2 h1
   obtain rfl : w' = w5.drew := hw.trans (by kernel_rfl)
   exact (.cons ((hB8.drew : Blk w5.drew r.b 89 (#[r.lp, r.rp, r.pv, I6 ↑r.n, I6 ↑r.rw, I6 ↑r.hg])).cell 5 rfl) .nil)
  ·intro h1 h2
   obtain rfl : e = 0 := Nat.le_antisymm h2 h1
   obtain rfl : w' = w5.drew := hw.trans (by kernel_rfl)
   exact (.cons ((hB7.drew : Blk w5.drew l.b 89 (#[l.lp, l.rp, l.pv, I6 ↑l.n, I6 ↑l.rw, I6 ↑l.hg])).cell 5 rfl) .nil)
  ·exact fun _ _ => (.cons (as_i64 (by omega)) .nil)
  ·exact fun _ _ => (.cons (as_f (by omega)) .nil)
 ·refine .nil
 rintro a w15 hS hw16
 replace hw16 : w15 = w5.drew := hw16.trans (by kernel_rfl)
 have hB17 := Blk.at' hw16 (hB7.drew)
 have hB18 := Blk.at' hw16 (hB8.drew)
 have hE19 : Ext [] w w15 := by rw [hw16]; exact hE9.drew
 have hX20 : Ext [] w5 w15 := by rw [hw16]; exact (Ext.refl _ _).drew
 have hG21 : l.Ok w15 := hG11.ext0 hX20
 have hG22 : r.Ok w15 := hG12.ext0 hX20
 replace hS := hS.kp [(0, (Pv l.b)), (1, (Pv r.b)), (4, .pointer none), (5, .bool false), (55, .bool false)]
 refine hK13 _ _ ?_
 refine cond_f hS rfl ?_
 refine sq fun K23 hK23 => ?_
 refine region_fn2 wide_wide [.q .p, .q .p, .q .p, .q (.ld (I6 ↑l.hg)), .q .p, .q .p, .q .p, .q (.ld (I6 ↑r.hg)), .q (.as (I6 (↑r.hg + 1))), .q (.as (.bool false)), .q .p, .q .no, .q .no, .q .no, .q .no, .q .no, .q .no, .q .no, .q .no, .q .no, .q .no, .q .no, .q .no, .q .no, .q .no, .q .no, .q .p, .q .p] [0, 0, 0, 0, 0, 0, 0, 0, 0, 0, 0, 0, 0, 0, 0, 0, 0, 0, 0, 0, 0, 0, 0, 0, 0, 0, 0, 0] [0, 0, 0, 0, 0, 0, 0, 0, 0, 0, 0, 0, 0, 0, 0, 0, 0, 0, 0, 0, 0, 0, 0, 0, 0, 0, 0, 0] [0, 1, 3, 7, 0, 16, 48, 112, 240, 511, 1023, 2047, 4095, 8191, 16383, 32767, 65535, 131071, 2047, 264191, 788479, 1837055, 3934207, 8128511, 16517119, 33554431, 67108863, 134217727] [] 0 ([(0, (Pv l.b)), (1, (Pv r.b)), (4, .pointer none), (5, .bool false), (55, .bool false), (78, (Pv l.b)), (79, (Pv l.b)), (80, (Po l.b 5)), (81, I6 ↑l.hg), (82, (Pv r.b)), (83, (Pv r.b)), (84, (Po r.b 5)), (85, I6 ↑r.hg), (86, I6 (↑r.hg + 1)), (87, .bool false), (88, .bool false), (89, undef), (90, undef), (91, undef), (92, undef), (93, undef), (94, undef), (95, undef), (96, undef), (97, undef), (98, undef), (99, undef), (100, undef), (101, undef), (102, undef), (103, undef), (104, .bool false), (77, .bool false)]) [w15.drew] w15.drew (fun w' => [(3, [w'.cell? ⟨l.b, 5, none⟩ = some (I6 ↑l.hg)]), (7, [w'.cell? ⟨r.b, 5, none⟩ = some (I6 ↑r.hg)]), (8, [Value.int .i64 (IntKind.i64.wrap (↑r.hg + 1)) = I6 (↑r.hg + 1)]), (9, [Value.bool (decide ((↑l.hg : Int) > ↑r.hg + 1)) = .bool false])]) [0, 1, 4, 5, 55] [] hS (by kernel_rfl) (by kernel_rfl) (by kernel_rfl) (by kernel_rfl) (fun _ => by kernel_rfl) (by kernel_rfl) (by kernel_rfl) (by kernel_rfl) ?_ ?_ ?_
 ·intro e w' hw
  refine (.cons ?_ (.cons ?_ (.cons ?_ (.cons ?_ .nil))))
  ·intro h1 h2
   obtain rfl : e = 0 := Nat.le_antisymm h2 h1
   obtain rfl : w' = w15.drew := hw.trans (by kernel_rfl)
   exact (.cons ((hB17.drew : Blk w15.drew l.b 89 (#[l.lp, l.rp, l.pv, I6 ↑l.n, I6 ↑l.rw, I6 ↑l.hg])).cell 5 rfl) .nil)
  ·intro h1 h2
   obtain rfl : e = 0 := Nat.le_antisymm h2 h1
   obtain rfl : w' = w15.drew := hw.trans (by kernel_rfl)
   exact (.cons ((hB18.drew : Blk w15.drew r.b 89 (#[r.lp, r.rp, r.pv, I6 ↑r.n, I6 ↑r.rw, I6 ↑r.hg])).cell 5 rfl) .nil)
  ·exact fun _ _ => (.cons (as_i64 (by omega)) .nil)
  ·exact fun _ _ => (.cons (as_f (by omega)) .nil)
 ·refine .nil
 rintro a w25 hS hw26
 replace hw26 : w25 = w15.drew := hw26.trans (by kernel_rfl)
 have hB27 := Blk.at' hw26 (hB17.drew)
 have hB28 := Blk.at' hw26 (hB18.drew)
 have hE29 : Ext [] w w25 := by rw [hw26]; exact hE19.drew
 have hX30 : Ext [] w15 w25 := by rw [hw26]; exact (Ext.refl _ _).drew
 have hG31 : l.Ok w25 := hG21.ext0 hX30
 have hG32 : r.Ok w25 := hG22.ext0 hX30
 replace hS := hS.kp [(0, (Pv l.b)), (1, (Pv r.b)), (4, .pointer none), (5, .bool false), (55, .bool false), (77, .bool false)]
 refine hK23 _ _ ?_
 refine cond_f hS rfl ?_
 refine sq fun K33 hK33 => ?_
 refine region_fn2 wide_wide [.q .p, .q .p, .q .p, .q (.ld (I6 ↑l.hg)), .q .p, .q .p, .q .p, .q (.ld (I6 ↑r.hg)), .q (.as (I6 (↑r.hg + 1))), .q (.as (.bool false)), .q .p] [0, 0, 0, 0, 0, 0, 0, 0, 0, 0, 0] [0, 0, 0, 0, 0, 0, 0, 0, 0, 0, 0] [0, 1, 3, 7, 0, 16, 48, 112, 240, 511, 1023] [] 0 ([(0, (Pv l.b)), (1, (Pv r.b)), (4, .pointer none), (5, .bool false), (55, .bool false), (77, .bool false), (128, (Pv l.b)), (129, (Pv l.b)), (130, (Po l.b 5)), (131, I6 ↑l.hg), (132, (Pv r.b)), (133, (Pv r.b)), (134, (Po r.b 5)), (135, I6 ↑r.hg), (136, I6 (↑r.hg + 1)), (137, .bool false), (127, .bool false)]) [w25.drew] w25.drew (fun w' => [(3, [w'.cell? ⟨l.b, 5, none⟩ = some (I6 ↑l.hg)]), (7, [w'.cell? ⟨r.b, 5, none⟩ = some (I6 ↑r.hg)]), (8, [Value.int .i64 (IntKind.i64.wrap (↑r.hg + 1)) = I6 (↑r.hg + 1)]), (9, [Value.bool (decide ((↑l.hg : Int) > ↑r.hg + 1)) = .bool false])]) [0, 1, 4, 5, 55, 77] [] hS (by kernel_rfl) (by kernel_rfl) (by kernel_rfl) (by kernel_rfl) (fun _ => by kernel_rfl) (by kernel_rfl) (by kernel_rfl) (by kernel_rfl) ?_ ?_ ?_
 ·intro e w' hw
  refine (.cons ?_ (.cons ?_ (.cons ?_ (.cons ?_ .nil))))
  ·intro h1 h2
   obtain rfl : e = 0 := Nat.le_antisymm h2 h1
   obtain rfl : w' = w25.drew := hw.trans (by kernel_rfl)
   exact (.cons ((hB27.drew : Blk w25.drew l.b 89 (#[l.lp, l.rp, l.pv, I6 ↑l.n, I6 ↑l.rw, I6 ↑l.hg])).cell 5 rfl) .nil)
  ·intro h1 h2
   obtain rfl : e = 0 := Nat.le_antisymm h2 h1
   obtain rfl : w' = w25.drew := hw.trans (by kernel_rfl)
   exact (.cons ((hB28.drew : Blk w25.drew r.b 89 (#[r.lp, r.rp, r.pv, I6 ↑r.n, I6 ↑r.rw, I6 ↑r.hg])).cell 5 rfl) .nil)
  ·exact fun _ _ => (.cons (as_i64 (by omega)) .nil)
  ·exact fun _ _ => (.cons (as_f (by omega)) .nil)
 ·refine .nil
 rintro a w35 hS hw36
 replace hw36 : w35 = w25.drew := hw36.trans (by kernel_rfl)
 have hE39 : Ext [] w w35 := by rw [hw36]; exact hE29.drew
 have hX40 : Ext [] w25 w35 := by rw [hw36]; exact (Ext.refl _ _).drew
 have hG41 : l.Ok w35 := hG31.ext0 hX40
 have hG42 : r.Ok w35 := hG32.ext0 hX40
 replace hS := hS.kp [(0, (Pv l.b)), (1, (Pv r.b)), (4, .pointer none), (5, .bool false), (55, .bool false), (77, .bool false), (127, .bool false)]
 refine hK33 _ _ ?_
 refine cond_f hS rfl ?_
 refine wpIn_skip ?_
 refine inBlock_normal ?_
 refine hK2 _ _ ?_
 refine sq fun K43 hK43 => ?_
 refine rgn 4 ?_
 refine sg wide_wide [.p, .p] [] [(0, (Pv l.b)), (1, (Pv r.b)), (4, .pointer none), (5, .bool false), (55, .bool false), (77, .bool false), (127, .bool false), (149, (Pv l.b)), (150, (Pv r.b))] 2 2 hS .nil fun a hS => ?_
 refine eff_call wide_wide (r := 1) (f := 69) (vs := [(Pv l.b), (Pv r.b)]) (cap := #[]) (d := (some 151)) hS (by kernel_rfl) Try.call69 #[(Pv l.b), (Pv r.b)] (by kernel_rfl) (over_any hG41 hG42 (by omega)) ?_
 rintro _ wc44 ⟨t44, rfl, ho44, hb44, hn44, hEc44⟩
 refine ⟨_, rfl, fun a hS => ?_⟩
 have hG47 : l.Ok wc44 := hG41.ext0 hEc44
 have hG48 : r.Ok wc44 := hG42.ext0 hEc44
 have hE49 := hE39.trans0 hEc44
 refine sg wide_wide [.p] [] [(0, (Pv l.b)), (1, (Pv r.b)), (4, (Pv t44.b)), (5, .bool false), (55, .bool false), (77, .bool false), (127, .bool false)] 4 0 hS .nil fun a hS => ?_
 refine seg_end ?_
 refine hK43 _ _ ?_
 refine wpIn_ret ?_
 refine ret1 hS Try.results68 rfl ?_
 exact ⟨t44, rfl, ho44, by simp only [hb44, List.append_assoc], hE49⟩

theorem beside_any {l r : Nd} {w : World} (hl : l.Ok w) (hr : r.Ok w) (hn : l.n + r.n ≤ 100000000000) : Calls Try.prog 68 #[Pv l.b, Pv r.b] w (NdR w (l.bs ++ r.bs)) := by
 by_cases h1 : r.hg > l.hg + 1
 ·obtain ⟨rl, rr, hB, hrl, hrr, e1, _, e2, e3⟩ := hr.two (by omega)
  by_cases h2 : rl.hg > rr.hg
  ·obtain ⟨rll, rlr, hC, hrll, hrlr, e4, _, e5, _⟩ := hrl.two (by omega)
   exact beside_a hl hr hn hB hC hrl hrr hrll hrlr e1 e2 e4 e5 h1 h2
  ·exact beside_b hl hr hn hB hrl hrr e1 e2 h1 h2
 ·by_cases h2 : l.hg > r.hg + 1
  ·obtain ⟨ll, lr, hB, hll, hlr, e1, _, e2, e3⟩ := hl.two (by omega)
   by_cases h3 : lr.hg > ll.hg
   ·obtain ⟨lrl, lrr, hC, hlrl, hlrr, e4, _, e5, _⟩ := hlr.two (by omega)
    exact beside_c hl hr hn hB hC hll hlr hlrl hlrr e1 e2 e4 e5 h2 h3
   ·exact beside_d hl hr hn hB hll hlr e1 e2 h2 h3
  ·exact beside_e hl hr hn h1 h2

end Go.Proofs.Ytkdbfjomjlhfbaa
