import Derived.Test.YtkdbfjomjlhfbaaProg
import Derived.Test.YtkdbfjomjlhfbaaTd
namespace Go.Proofs.Ytkdbfjomjlhfbaa
open Go.Vc
set_option linter.unusedSectionVars false
variable [Inhabited Zt]

/-- a rope of these bytes -/
def Rp2 (F : Ta) (w : World) (b : Nat) (xs : List Int) : Prop := ∃ o, RpT F w b o ∧ obs o = xs
theorem Rp2.ext0 {F : Ta} {w w' : World} {b : Nat} {xs : List Int} (h : Rp2 F w b xs) (hE : Ext [] w w') : Rp2 F w' b xs := by obtain ⟨o, h1, h2⟩ := h; exact ⟨o, h1.ext0 hE, h2⟩
theorem RpT.two {F : Ta} {w : World} {b : Nat} {o : Option Nd} (h : RpT F w b o) : Rp2 F w b (obs o) := ⟨o, h, rfl⟩
section
variable {F : Ta} {w : World} {b : Nat} {xs : List Int} (h : Rp2 F w b xs)
include h
theorem Rp2.le : xs.length ≤ 16777216 := by obtain ⟨o, h, rfl⟩ := h; exact h.2.2
theorem At_Y (x : Int) : Calls Try.prog 22 #[Pv b, I6 x] w fun e w' => e = .returned (.tuple #[.int .u8 (atV xs x), .bool (atB xs x)]) ∧ Ext [] w w' := by obtain ⟨o, h, rfl⟩ := h; exact At_X h x
theorem Row_Y (x : Int) : Calls Try.prog 17 #[Pv b, I6 x] w fun e w' => e = .returned (.tuple #[I6 (rowK xs x).1, I6 (rowK xs x).2.1, I6 (rowK xs x).2.2]) ∧ Ext [] w w' := by obtain ⟨o, h, rfl⟩ := h; exact Row_X h x
theorem Start_Y (x : Int) : Calls Try.prog 16 #[Pv b, I6 x] w fun e w' => e = .returned (.tuple #[I6 (staK xs x).1, I6 (staK xs x).2]) ∧ Ext [] w w' := by obtain ⟨o, h, rfl⟩ := h; exact Start_X h x
theorem Part_Y (x y : Int) : Calls Try.prog 35 #[Pv b, I6 x, I6 y] w (ByP xs x y w) := by obtain ⟨o, h, rfl⟩ := h; exact Part_X h x y
theorem Len_Y : Calls Try.prog 19 #[Pv b] w fun e w' => e = .returned (I6 xs.length) ∧ Ext [] w w' := by obtain ⟨o, h, rfl⟩ := h; exact @Len_any F.Z _ _ _ h
theorem Rows_Y : Calls Try.prog 15 #[Pv b] w fun e w' => e = .returned (I6 ((rws xs : Nat) + 1)) ∧ Ext [] w w' := by obtain ⟨o, h, rfl⟩ := h; exact @Rows_any F.Z _ _ _ h
theorem Bytes_Y : Calls Try.prog 32 #[Pv b] w (ByV w xs) := by obtain ⟨o, h, rfl⟩ := h; exact @Bytes_any F.Z _ _ _ h
theorem Equal_Y {c : Nat} {ys : List Int} (h' : Rp2 F w c ys) : Calls Try.prog 33 #[Pv b, Pv c] w fun e w' => e = .returned (.bool (decide (xs = ys))) ∧ Ext [] w w' := by
 obtain ⟨o, h, rfl⟩ := h
 obtain ⟨p, h', rfl⟩ := h'
 exact @EqualR_any F.Z _ _ _ _ _ h h'
end
theorem SameB_true {F : Ta} {va vb : Value} {n : Nat} {xs : List Int} {w : World} (ha : RdV w 1 va n (bv xs)) (hb : RdV w 1 vb n (bv xs)) (hn : n ≤ 100000000000) : Calls Try.prog 31 #[va, vb] w fun e w' => e = .returned (.bool true) ∧ Ext [] w w' := by
 have h := @SameB_any F.Z _ _ _ _ _ _ _ ha hb hn
 rw [decide_eq_true rfl] at h
 exact h

set_option maxHeartbeats 1000000 in
theorem look_any {w : World} {F : Ta} {b c : Nat} {v : Value} {xs : List Int} {x y : Int} (hp : Rp2 F w b xs) (hq : RfT F w c v xs) (hy : y ≤ 9223372036854775807) :
  Calls Try.prog 27 #[(Pv b), (Pv c), I6 x, I6 y] w fun e w' => e = .returned (.bool true) ∧ Ext [] w w' := by
 have hle := hq.2.2.2
 refine calls_body 137 [(0, (Pv b)), (1, (Pv c)), (2, I6 x), (3, I6 y)] Try.func27 rfl (by kernel_rfl) (by kernel_rfl) (by kernel_rfl) fun a hS => ?_
 have hE0 : Ext [] w w := Ext.refl _ _
 refine sq fun K1 hK1 => ?_
 refine rgn 1 ?_
 refine sg wide_wide [.p] [] [(0, (Pv b)), (1, (Pv c)), (2, I6 x), (3, I6 y), (8, .bool false)] 1 0 hS .nil fun a hS => ?_
 refine seg_end ?_
 refine hK1 _ _ ?_
 refine sq fun K2 hK2 => ?_
 refine rgn 8 ?_
 refine sg wide_wide [.p, .p] [] [(0, (Pv b)), (1, (Pv c)), (2, I6 x), (3, I6 y), (8, .bool false), (28, (Pv b)), (29, I6 x)] 2 6 hS .nil fun a hS => ?_
 refine eff_call wide_wide (r := 5) (f := 22) (vs := [(Pv b), I6 x]) (cap := #[]) (d := (some 30)) hS (by kernel_rfl) Try.call22 #[(Pv b), I6 x] (by kernel_rfl) (At_Y hp x) ?_
 rintro _ wc3 ⟨rfl, hEc3⟩
 refine ⟨_, rfl, fun a hS => ?_⟩
 have hB4 := hq.1.ext hEc3 (by simp)
 have hG5 : RdV wc3 1 v xs.length (bv xs) := hq.2.1.ext0 hEc3
 have hG6 : Rp2 F wc3 b xs := hp.ext0 hEc3
 have hG7 : RfT F wc3 c v xs := hq.ext0 hEc3
 have hE8 := hE0.trans0 hEc3
 refine sg wide_wide [.p, .p, .p, .p, .p] [] [(0, (Pv b)), (1, (Pv c)), (2, I6 x), (3, I6 y), (8, .bool false), (9, .int .u8 (atV xs x)), (10, .bool (atB xs x))] 8 0 hS .nil fun a hS => ?_
 refine seg_end ?_
 refine hK2 _ _ ?_
 refine sq fun K9 hK9 => ?_
 refine rgn 8 ?_
 refine sg wide_wide [.p, .p] [] [(0, (Pv b)), (1, (Pv c)), (2, I6 x), (3, I6 y), (8, .bool false), (9, .int .u8 (atV xs x)), (10, .bool (atB xs x)), (34, (Pv c)), (35, I6 x)] 2 6 hS .nil fun a hS => ?_
 refine eff_call wide_wide (r := 5) (f := 46) (vs := [(Pv c), I6 x]) (cap := #[]) (d := (some 36)) hS (by kernel_rfl) Try.call46 #[(Pv c), I6 x] (by kernel_rfl) (rAt_X hG7 x) ?_
 rintro _ wc10 ⟨rfl, hEc10⟩
 refine ⟨_, rfl, fun a hS => ?_⟩
 have hB11 := hB4.ext hEc10 (by simp)
 have hG12 : RdV wc10 1 v xs.length (bv xs) := hG5.ext0 hEc10
 have hG13 : Rp2 F wc10 b xs := hG6.ext0 hEc10
 have hG14 : RfT F wc10 c v xs := hG7.ext0 hEc10
 have hE15 := hE8.trans0 hEc10
 refine sg wide_wide [.p, .p, .p, .p, .p] [] [(0, (Pv b)), (1, (Pv c)), (2, I6 x), (3, I6 y), (8, .bool false), (9, .int .u8 (atV xs x)), (10, .bool (atB xs x)), (11, .int .u8 (atV xs x)), (12, .bool (atB xs x))] 8 0 hS .nil fun a hS => ?_
 refine seg_end ?_
 refine hK9 _ _ ?_
 refine sq fun K16 hK16 => ?_
 refine sq fun K17 hK17 => ?_
 refine region_gh2 (G := World × World × World) wide_wide [.q .p, .e, .q .p, .q .p, .q .p, .q (.ld (v)), .q (.run (I6 ↑xs.length)), .q (.as (.bool false)), .q .p, .q .p, .q .p, .q (.as (.bool false)), .q .p, .q .p, .q .p, .q .p, .q (.as (.bool false)), .q .p, .q .p, .q .p, .e, .q .p, .e, .q (.as (.bool false)), .q .p] [0, 0, 0, 0, 0, 0, 0, 1, 1, 1, 1, 1, 1, 1, 1, 1, 1, 1, 1, 1, 1, 1, 2, 3, 3] [0, 0, 1, 1, 1, 1, 1, 1, 1, 1, 1, 1, 1, 1, 1, 1, 1, 1, 1, 1, 1, 2, 2, 3, 3] [0, 1, 0, 4, 12, 28, 60, 127, 255, 511, 511, 2047, 4095, 8191, 16383, 16383, 65535, 131071, 262143, 524287, 1048575, 524287, 4194303, 8388607, 16777215] [1, 20, 22] [(1, 0), (20, 1), (22, 2)] 3 (fun ⟨wc18, wc19, wc20⟩ => ([(0, (Pv b)), (1, (Pv c)), (2, I6 x), (3, I6 y), (8, .bool false), (9, .int .u8 (atV xs x)), (10, .bool (atB xs x)), (11, .int .u8 (atV xs x)), (12, .bool (atB xs x)), (39, (Pv b)), (40, I6 ↑xs.length), (41, (Pv c)), (42, (Pv c)), (43, (Pv c)), (44, v), (45, I6 ↑xs.length), (46, .bool false), (47, .bool false), (48, .int .u8 (atV xs x)), (49, .int .u8 (atV xs x)), (50, .bool false), (51, .bool false), (52, .bool false), (53, .bool (atB xs x)), (54, .bool (atB xs x)), (55, .bool false), (56, .bool false), (57, .bool false), (58, (Pv b)), (59, I6 (↑(rws xs) + 1)), (60, (Pv c)), (61, I6 (↑(rws xs) + 1)), (62, .bool false), (63, .bool false)] : Fm)) (fun ⟨wc18, wc19, wc20⟩ => [wc10.drew, wc18, wc19, wc20]) (wc10.drew) (fun e ⟨wc18, wc19, wc20⟩ => hAt [True, (Ext [] wc10.drew wc18) ∧ True, (Ext [] wc10.drew wc18) ∧ (Ext [] wc18 wc19) ∧ True, (Ext [] wc10.drew wc18) ∧ (Ext [] wc18 wc19) ∧ (Ext [] wc19 wc20) ∧ True] e) (fun ⟨wc18, wc19, wc20⟩ w' => [(5, [w'.cell? ⟨c, 0, none⟩ = some (v)]), (6, [Ru Try.prog (vS (Builtin.len_ #[23] 3 #[v])) (I6 ↑xs.length) w']), (7, [Value.bool (((↑xs.length : Int) != ↑xs.length)) = .bool false]), (11, [Value.bool ((((atV xs x) : Int) != (atV xs x))) = .bool false]), (16, [Value.bool (!((atB xs x) == (atB xs x))) = .bool false]), (23, [Value.bool (((↑(rws xs) + 1 : Int) != (↑(rws xs) + 1))) = .bool false])]) (wc10.drew, w, w) [0, 1, 2, 3, 8, 9, 10, 11, 12] [] hS (by kernel_rfl) (by kernel_rfl) (by kernel_rfl) (by kernel_rfl) (fun ⟨wc18, wc19, wc20⟩ _ => by kernel_rfl) (by kernel_rfl) (by kernel_rfl) (by kernel_rfl) trivial ?_ (by kernel_rfl) ?_ ?_
 ·rintro e ⟨wc18, wc19, wc20⟩ w' hw hH
  refine (.cons ?_ (.cons ?_ (.cons ?_ (.cons ?_ (.cons ?_ (.cons ?_ .nil))))))
  ·intro h1 h2
   replace h1 : 0 ≤ e := h1
   replace h2 : e ≤ 1 := h2
   have he : e = 0 ∨ e = 1 := by omega
   rcases he with rfl | rfl
   ·have hwe : wc10.drew = w' := (hw.trans (by kernel_rfl)).symm
    subst hwe
    clear hH
    exact (.cons ((hB11.drew : Blk wc10.drew c 56 (#[v])).cell 0 rfl) .nil)
   ·have hwe : wc18 = w' := (hw.trans (by kernel_rfl)).symm
    subst hwe
    obtain ⟨hEc18, _⟩ := hH
    exact (.cons (((hB11.drew : Blk wc10.drew c 56 (#[v])).ext hEc18 (by simp) : Blk wc18 c 56 (#[v])).cell 0 rfl) .nil)
  ·intro h1 h2
   replace h1 : 0 ≤ e := h1
   replace h2 : e ≤ 1 := h2
   have he : e = 0 ∨ e = 1 := by omega
   rcases he with rfl | rfl
   ·have hwe : wc10.drew = w' := (hw.trans (by kernel_rfl)).symm
    subst hwe
    clear hH
    exact (.cons (run_len_rd (e := 5) hq.2.1 (by kernel_rfl)) .nil)
   ·have hwe : wc18 = w' := (hw.trans (by kernel_rfl)).symm
    subst hwe
    obtain ⟨hEc18, _⟩ := hH
    exact (.cons (run_len_rd (e := 5) hq.2.1 (by kernel_rfl)) .nil)
  ·intro h1 h2
   obtain rfl : e = 1 := Nat.le_antisymm h2 h1
   have hwe : wc18 = w' := (hw.trans (by kernel_rfl)).symm
   subst hwe
   obtain ⟨hEc18, _⟩ := hH
   exact (.cons (as_ne_f (rfl)) .nil)
  ·intro h1 h2
   obtain rfl : e = 1 := Nat.le_antisymm h2 h1
   have hwe : wc18 = w' := (hw.trans (by kernel_rfl)).symm
   subst hwe
   obtain ⟨hEc18, _⟩ := hH
   exact (.cons (as_ne_f (rfl)) .nil)
  ·intro h1 h2
   obtain rfl : e = 1 := Nat.le_antisymm h2 h1
   have hwe : wc18 = w' := (hw.trans (by kernel_rfl)).symm
   subst hwe
   obtain ⟨hEc18, _⟩ := hH
   exact (.cons ((by simp)) .nil)
  ·intro h1 h2
   obtain rfl : e = 3 := Nat.le_antisymm h2 h1
   have hwe : wc20 = w' := (hw.trans (by kernel_rfl)).symm
   subst hwe
   obtain ⟨hEc18, hEc19, hEc20, _⟩ := hH
   exact (.cons (as_ne_f (rfl)) .nil)
 ·refine (.cons ?eq21_1 (.cons ?eq21_20 (.cons ?eq21_22 .nil)))
  ·rintro ⟨wc18, wc19, wc20⟩ hH
   clear hH
   refine eff_gh (wc10.drew) (by kernel_rfl) ?_
   refine upon_call (f := 19) (vs := [(Pv b)]) (cap := #[]) (d := (some 40)) (by kernel_rfl) Try.call19 #[(Pv b)] (by kernel_rfl) (Len_Y (hG13.ext0 ((Ext.refl [] _).drew))) ?_
   rintro _ wc18 ⟨rfl, hEc18⟩
   exact ⟨_, rfl, ⟨(wc18, wc19, wc20), by kernel_rfl, by kernel_rfl, by kernel_rfl, ⟨hEc18, trivial⟩⟩⟩
  ·rintro ⟨wc18, wc19, wc20⟩ hH
   obtain ⟨hEc18, _⟩ := hH
   refine eff_gh (wc18) (by kernel_rfl) ?_
   refine upon_call (f := 15) (vs := [(Pv b)]) (cap := #[]) (d := (some 59)) (by kernel_rfl) Try.call15 #[(Pv b)] (by kernel_rfl) (Rows_Y ((hG13.ext0 ((Ext.refl [] _).drew)).ext0 hEc18)) ?_
   rintro _ wc19 ⟨rfl, hEc19⟩
   exact ⟨_, rfl, ⟨(wc18, wc19, wc20), by kernel_rfl, by kernel_rfl, by kernel_rfl, ⟨hEc18, hEc19, trivial⟩⟩⟩
  ·rintro ⟨wc18, wc19, wc20⟩ hH
   obtain ⟨hEc18, hEc19, _⟩ := hH
   refine eff_gh (wc19) (by kernel_rfl) ?_
   refine upon_call (f := 28) (vs := [(Pv c)]) (cap := #[]) (d := (some 61)) (by kernel_rfl) Try.call28 #[(Pv c)] (by kernel_rfl) (rRows_X (((hG14.ext0 ((Ext.refl [] _).drew)).ext0 hEc18).ext0 hEc19)) ?_
   rintro _ wc20 ⟨rfl, hEc20⟩
   exact ⟨_, rfl, ⟨(wc18, wc19, wc20), by kernel_rfl, by kernel_rfl, by kernel_rfl, ⟨hEc18, hEc19, hEc20, trivial⟩⟩⟩
 rintro ⟨wc18, wc19, wc20⟩ a w22 hS hw23 hH
 obtain ⟨hEc18, hEc19, hEc20, _⟩ := hH
 replace hw23 : w22 = wc20 := hw23.trans (by kernel_rfl)
 have hE25 : Ext [] w w22 := by rw [hw23]; exact (((hE15.drew).trans0 hEc18).trans0 hEc19).trans0 hEc20
 have hX26 : Ext [] wc10 w22 := by rw [hw23]; exact ((((Ext.refl _ _).drew).trans0 hEc18).trans0 hEc19).trans0 hEc20
 have hG27 : RdV w22 1 v xs.length (bv xs) := hG12.ext0 hX26
 have hG28 : Rp2 F w22 b xs := hG13.ext0 hX26
 have hG29 : RfT F w22 c v xs := hG14.ext0 hX26
 replace hS := hS.kp [(0, (Pv b)), (1, (Pv c)), (2, I6 x), (3, I6 y), (8, .bool false), (9, .int .u8 (atV xs x)), (10, .bool (atB xs x)), (11, .int .u8 (atV xs x)), (12, .bool (atB xs x)), (63, .bool false)]
 refine hK17 _ _ ?_
 refine cond_f hS rfl ?_
 refine wpIn_skip ?_
 refine hK16 _ _ ?_
 refine sq fun K30 hK30 => ?_
 refine rgn 10 ?_
 refine sg wide_wide [.p, .p] [] [(0, (Pv b)), (1, (Pv c)), (2, I6 x), (3, I6 y), (8, .bool false), (9, .int .u8 (atV xs x)), (10, .bool (atB xs x)), (11, .int .u8 (atV xs x)), (12, .bool (atB xs x)), (63, .bool false), (65, (Pv b)), (66, I6 x)] 2 8 hS .nil fun a hS => ?_
 refine eff_call wide_wide (r := 7) (f := 17) (vs := [(Pv b), I6 x]) (cap := #[]) (d := (some 67)) hS (by kernel_rfl) Try.call17 #[(Pv b), I6 x] (by kernel_rfl) (Row_Y hG28 x) ?_
 rintro _ wc31 ⟨rfl, hEc31⟩
 refine ⟨_, rfl, fun a hS => ?_⟩
 have hG33 : RdV wc31 1 v xs.length (bv xs) := hG27.ext0 hEc31
 have hG34 : Rp2 F wc31 b xs := hG28.ext0 hEc31
 have hG35 : RfT F wc31 c v xs := hG29.ext0 hEc31
 have hE36 := hE25.trans0 hEc31
 refine sg wide_wide [.p, .p, .p, .p, .p, .p, .p] [] [(0, (Pv b)), (1, (Pv c)), (2, I6 x), (3, I6 y), (8, .bool false), (9, .int .u8 (atV xs x)), (10, .bool (atB xs x)), (11, .int .u8 (atV xs x)), (12, .bool (atB xs x)), (63, .bool false), (13, I6 ((rowK xs x).1)), (14, I6 ((rowK xs x).2.1)), (15, I6 ((rowK xs x).2.2))] 10 0 hS .nil fun a hS => ?_
 refine seg_end ?_
 refine hK30 _ _ ?_
 refine sq fun K37 hK37 => ?_
 refine rgn 10 ?_
 refine sg wide_wide [.p, .p] [] [(0, (Pv b)), (1, (Pv c)), (2, I6 x), (3, I6 y), (8, .bool false), (9, .int .u8 (atV xs x)), (10, .bool (atB xs x)), (11, .int .u8 (atV xs x)), (12, .bool (atB xs x)), (63, .bool false), (13, I6 ((rowK xs x).1)), (14, I6 ((rowK xs x).2.1)), (15, I6 ((rowK xs x).2.2)), (72, (Pv c)), (73, I6 x)] 2 8 hS .nil fun a hS => ?_
 refine eff_call wide_wide (r := 7) (f := 47) (vs := [(Pv c), I6 x]) (cap := #[]) (d := (some 74)) hS (by kernel_rfl) Try.call47 #[(Pv c), I6 x] (by kernel_rfl) (rRow_X hG35 x) ?_
 rintro _ wc38 ⟨rfl, hEc38⟩
 refine ⟨_, rfl, fun a hS => ?_⟩
 have hG40 : RdV wc38 1 v xs.length (bv xs) := hG33.ext0 hEc38
 have hG41 : Rp2 F wc38 b xs := hG34.ext0 hEc38
 have hG42 : RfT F wc38 c v xs := hG35.ext0 hEc38
 have hE43 := hE36.trans0 hEc38
 refine sg wide_wide [.p, .p, .p, .p, .p, .p, .p] [] [(0, (Pv b)), (1, (Pv c)), (2, I6 x), (3, I6 y), (8, .bool false), (9, .int .u8 (atV xs x)), (10, .bool (atB xs x)), (11, .int .u8 (atV xs x)), (12, .bool (atB xs x)), (63, .bool false), (13, I6 ((rowK xs x).1)), (14, I6 ((rowK xs x).2.1)), (15, I6 ((rowK xs x).2.2)), (16, I6 ((rowK xs x).1)), (17, I6 ((rowK xs x).2.1)), (18, I6 ((rowK xs x).2.2))] 10 0 hS .nil fun a hS => ?_
 refine seg_end ?_
 refine hK37 _ _ ?_
 refine sq fun K44 hK44 => ?_
 refine rgn 8 ?_
 refine sg wide_wide [.p, .p] [] [(0, (Pv b)), (1, (Pv c)), (2, I6 x), (3, I6 y), (8, .bool false), (9, .int .u8 (atV xs x)), (10, .bool (atB xs x)), (11, .int .u8 (atV xs x)), (12, .bool (atB xs x)), (63, .bool false), (13, I6 ((rowK xs x).1)), (14, I6 ((rowK xs x).2.1)), (15, I6 ((rowK xs x).2.2)), (16, I6 ((rowK xs x).1)), (17, I6 ((rowK xs x).2.1)), (18, I6 ((rowK xs x).2.2)), (79, (Pv b)), (80, I6 y)] 2 6 hS .nil fun a hS => ?_
 refine eff_call wide_wide (r := 5) (f := 16) (vs := [(Pv b), I6 y]) (cap := #[]) (d := (some 81)) hS (by kernel_rfl) Try.call16 #[(Pv b), I6 y] (by kernel_rfl) (Start_Y hG41 y) ?_
 rintro _ wc45 ⟨rfl, hEc45⟩
 refine ⟨_, rfl, fun a hS => ?_⟩
 have hG47 : RdV wc45 1 v xs.length (bv xs) := hG40.ext0 hEc45
 have hG48 : Rp2 F wc45 b xs := hG41.ext0 hEc45
 have hG49 : RfT F wc45 c v xs := hG42.ext0 hEc45
 have hE50 := hE43.trans0 hEc45
 refine sg wide_wide [.p, .p, .p, .p, .p] [] [(0, (Pv b)), (1, (Pv c)), (2, I6 x), (3, I6 y), (8, .bool false), (9, .int .u8 (atV xs x)), (10, .bool (atB xs x)), (11, .int .u8 (atV xs x)), (12, .bool (atB xs x)), (63, .bool false), (13, I6 ((rowK xs x).1)), (14, I6 ((rowK xs x).2.1)), (15, I6 ((rowK xs x).2.2)), (16, I6 ((rowK xs x).1)), (17, I6 ((rowK xs x).2.1)), (18, I6 ((rowK xs x).2.2)), (19, I6 ((staK xs y).1)), (20, I6 ((staK xs y).2))] 8 0 hS .nil fun a hS => ?_
 refine seg_end ?_
 refine hK44 _ _ ?_
 refine sq fun K51 hK51 => ?_
 refine rgn 8 ?_
 refine sg wide_wide [.p, .p] [] [(0, (Pv b)), (1, (Pv c)), (2, I6 x), (3, I6 y), (8, .bool false), (9, .int .u8 (atV xs x)), (10, .bool (atB xs x)), (11, .int .u8 (atV xs x)), (12, .bool (atB xs x)), (63, .bool false), (13, I6 ((rowK xs x).1)), (14, I6 ((rowK xs x).2.1)), (15, I6 ((rowK xs x).2.2)), (16, I6 ((rowK xs x).1)), (17, I6 ((rowK xs x).2.1)), (18, I6 ((rowK xs x).2.2)), (19, I6 ((staK xs y).1)), (20, I6 ((staK xs y).2)), (85, (Pv c)), (86, I6 y)] 2 6 hS .nil fun a hS => ?_
 refine eff_call wide_wide (r := 5) (f := 29) (vs := [(Pv c), I6 y]) (cap := #[]) (d := (some 87)) hS (by kernel_rfl) Try.call29 #[(Pv c), I6 y] (by kernel_rfl) (rStart_X hG49 y hy) ?_
 rintro _ wc52 ⟨rfl, hEc52⟩
 refine ⟨_, rfl, fun a hS => ?_⟩
 have hG54 : RdV wc52 1 v xs.length (bv xs) := hG47.ext0 hEc52
 have hG55 : Rp2 F wc52 b xs := hG48.ext0 hEc52
 have hG56 : RfT F wc52 c v xs := hG49.ext0 hEc52
 have hE57 := hE50.trans0 hEc52
 refine sg wide_wide [.p, .p, .p, .p, .p] [] [(0, (Pv b)), (1, (Pv c)), (2, I6 x), (3, I6 y), (8, .bool false), (9, .int .u8 (atV xs x)), (10, .bool (atB xs x)), (11, .int .u8 (atV xs x)), (12, .bool (atB xs x)), (63, .bool false), (13, I6 ((rowK xs x).1)), (14, I6 ((rowK xs x).2.1)), (15, I6 ((rowK xs x).2.2)), (16, I6 ((rowK xs x).1)), (17, I6 ((rowK xs x).2.1)), (18, I6 ((rowK xs x).2.2)), (19, I6 ((staK xs y).1)), (20, I6 ((staK xs y).2)), (21, I6 ((staK xs y).1)), (22, I6 ((staK xs y).2))] 8 0 hS .nil fun a hS => ?_
 refine seg_end ?_
 refine hK51 _ _ ?_
 refine sq fun K58 hK58 => ?_
 refine rgn 9 ?_
 refine sg wide_wide [.p, .p, .p] [] [(0, (Pv b)), (1, (Pv c)), (2, I6 x), (3, I6 y), (8, .bool false), (9, .int .u8 (atV xs x)), (10, .bool (atB xs x)), (11, .int .u8 (atV xs x)), (12, .bool (atB xs x)), (63, .bool false), (13, I6 ((rowK xs x).1)), (14, I6 ((rowK xs x).2.1)), (15, I6 ((rowK xs x).2.2)), (16, I6 ((rowK xs x).1)), (17, I6 ((rowK xs x).2.1)), (18, I6 ((rowK xs x).2.2)), (19, I6 ((staK xs y).1)), (20, I6 ((staK xs y).2)), (21, I6 ((staK xs y).1)), (22, I6 ((staK xs y).2)), (91, (Pv b)), (92, I6 x), (93, I6 y)] 3 6 hS .nil fun a hS => ?_
 refine eff_call wide_wide (r := 5) (f := 35) (vs := [(Pv b), I6 x, I6 y]) (cap := #[]) (d := (some 94)) hS (by kernel_rfl) Try.call35 #[(Pv b), I6 x, I6 y] (by kernel_rfl) (Part_Y hG55 x y) ?_
 rintro _ wc59 ⟨q59, rfl, hO59, hEc59⟩
 refine ⟨_, rfl, fun a hS => ?_⟩
 have hG61 : RdV wc59 1 v xs.length (bv xs) := hG54.ext0 hEc59
 have hG62 : Rp2 F wc59 b xs := hG55.ext0 hEc59
 have hG63 : RfT F wc59 c v xs := hG56.ext0 hEc59
 have hE64 := hE57.trans0 hEc59
 refine sg wide_wide [.p, .p, .p, .p, .p] [] [(0, (Pv b)), (1, (Pv c)), (2, I6 x), (3, I6 y), (8, .bool false), (9, .int .u8 (atV xs x)), (10, .bool (atB xs x)), (11, .int .u8 (atV xs x)), (12, .bool (atB xs x)), (63, .bool false), (13, I6 ((rowK xs x).1)), (14, I6 ((rowK xs x).2.1)), (15, I6 ((rowK xs x).2.2)), (16, I6 ((rowK xs x).1)), (17, I6 ((rowK xs x).2.1)), (18, I6 ((rowK xs x).2.2)), (19, I6 ((staK xs y).1)), (20, I6 ((staK xs y).2)), (21, I6 ((staK xs y).1)), (22, I6 ((staK xs y).2)), (23, q59), (24, I6 (partE xs x y))] 9 0 hS .nil fun a hS => ?_
 refine seg_end ?_
 refine hK58 _ _ ?_
 refine sq fun K65 hK65 => ?_
 refine rgn 9 ?_
 refine sg wide_wide [.p, .p, .p] [] [(0, (Pv b)), (1, (Pv c)), (2, I6 x), (3, I6 y), (8, .bool false), (9, .int .u8 (atV xs x)), (10, .bool (atB xs x)), (11, .int .u8 (atV xs x)), (12, .bool (atB xs x)), (63, .bool false), (13, I6 ((rowK xs x).1)), (14, I6 ((rowK xs x).2.1)), (15, I6 ((rowK xs x).2.2)), (16, I6 ((rowK xs x).1)), (17, I6 ((rowK xs x).2.1)), (18, I6 ((rowK xs x).2.2)), (19, I6 ((staK xs y).1)), (20, I6 ((staK xs y).2)), (21, I6 ((staK xs y).1)), (22, I6 ((staK xs y).2)), (23, q59), (24, I6 (partE xs x y)), (98, (Pv c)), (99, I6 x), (100, I6 y)] 3 6 hS .nil fun a hS => ?_
 refine eff_call wide_wide (r := 5) (f := 48) (vs := [(Pv c), I6 x, I6 y]) (cap := #[]) (d := (some 101)) hS (by kernel_rfl) Try.call48 #[(Pv c), I6 x, I6 y] (by kernel_rfl) (rPart_X hG63 x y) ?_
 rintro _ wc66 ⟨q66, rfl, hO66, hEc66⟩
 refine ⟨_, rfl, fun a hS => ?_⟩
 have hG68 : RdV wc66 1 v xs.length (bv xs) := hG61.ext0 hEc66
 have hG69 : Rp2 F wc66 b xs := hG62.ext0 hEc66
 have hG70 : RfT F wc66 c v xs := hG63.ext0 hEc66
 have hG71 : RdV wc66 1 q59 (partB xs x y).length (bv (partB xs x y)) := hO59.ext0 hEc66
 have hE72 := hE64.trans0 hEc66
 refine sg wide_wide [.p, .p, .p, .p, .p] [] [(0, (Pv b)), (1, (Pv c)), (2, I6 x), (3, I6 y), (8, .bool false), (9, .int .u8 (atV xs x)), (10, .bool (atB xs x)), (11, .int .u8 (atV xs x)), (12, .bool (atB xs x)), (63, .bool false), (13, I6 ((rowK xs x).1)), (14, I6 ((rowK xs x).2.1)), (15, I6 ((rowK xs x).2.2)), (16, I6 ((rowK xs x).1)), (17, I6 ((rowK xs x).2.1)), (18, I6 ((rowK xs x).2.2)), (19, I6 ((staK xs y).1)), (20, I6 ((staK xs y).2)), (21, I6 ((staK xs y).1)), (22, I6 ((staK xs y).2)), (23, q59), (24, I6 (partE xs x y)), (25, q66), (26, I6 (partE xs x y))] 9 0 hS .nil fun a hS => ?_
 refine seg_end ?_
 refine hK65 _ _ ?_
 refine sq fun K73 hK73 => ?_
 refine rgn 34 ?_
 refine sg wide_wide [.p, .p, .as (.bool true), .p, .p, .p, .as (.bool true), .p, .p, .p, .p, .as (.bool true), .p, .p, .p, .p, .as (.bool true), .p, .p, .p, .p, .as (.bool true), .p, .p, .p, .p] [Value.bool ((((rowK xs x).1 : Int) == ((rowK xs x).1))) = .bool true, Value.bool ((((rowK xs x).2.1 : Int) == ((rowK xs x).2.1))) = .bool true, Value.bool ((((rowK xs x).2.2 : Int) == ((rowK xs x).2.2))) = .bool true, Value.bool ((((staK xs y).1 : Int) == ((staK xs y).1))) = .bool true, Value.bool ((((staK xs y).2 : Int) == ((staK xs y).2))) = .bool true] [(0, (Pv b)), (1, (Pv c)), (2, I6 x), (3, I6 y), (8, .bool false), (9, .int .u8 (atV xs x)), (10, .bool (atB xs x)), (11, .int .u8 (atV xs x)), (12, .bool (atB xs x)), (63, .bool false), (13, I6 ((rowK xs x).1)), (14, I6 ((rowK xs x).2.1)), (15, I6 ((rowK xs x).2.2)), (16, I6 ((rowK xs x).1)), (17, I6 ((rowK xs x).2.1)), (18, I6 ((rowK xs x).2.2)), (19, I6 ((staK xs y).1)), (20, I6 ((staK xs y).2)), (21, I6 ((staK xs y).1)), (22, I6 ((staK xs y).2)), (23, q59), (24, I6 (partE xs x y)), (25, q66), (26, I6 (partE xs x y)), (127, .bool true), (128, q59), (129, q66)] 26 8 hS (.cons (as_eq_t (rfl)) (.cons (as_eq_t (rfl)) (.cons (as_eq_t (rfl)) (.cons (as_eq_t (rfl)) (.cons (as_eq_t (rfl)) .nil))))) fun a hS => ?_
 refine eff_call wide_wide (r := 7) (f := 31) (vs := [q59, q66]) (cap := #[]) (d := (some 130)) hS (by kernel_rfl) Try.call31 #[q59, q66] (by kernel_rfl) (SameB_true (F := F) hG71 hO66 (by have := partB_le xs x y; omega)) ?_
 rintro _ wc74 ⟨rfl, hEc74⟩
 refine ⟨_, rfl, fun a hS => ?_⟩
 have hG76 : RdV wc74 1 v xs.length (bv xs) := hG68.ext0 hEc74
 have hG77 : Rp2 F wc74 b xs := hG69.ext0 hEc74
 have hG78 : RfT F wc74 c v xs := hG70.ext0 hEc74
 have hG79 : RdV wc74 1 q59 (partB xs x y).length (bv (partB xs x y)) := hG71.ext0 hEc74
 have hG80 : RdV wc74 1 q66 (partB xs x y).length (bv (partB xs x y)) := hO66.ext0 hEc74
 have hE81 := hE72.trans0 hEc74
 refine sg wide_wide [.p, .p, .p, .p, .as (.bool true), .p, .p] [Value.bool ((((partE xs x y) : Int) == (partE xs x y))) = .bool true] [(0, (Pv b)), (1, (Pv c)), (2, I6 x), (3, I6 y), (8, .bool true), (9, .int .u8 (atV xs x)), (10, .bool (atB xs x)), (11, .int .u8 (atV xs x)), (12, .bool (atB xs x)), (63, .bool false), (13, I6 ((rowK xs x).1)), (14, I6 ((rowK xs x).2.1)), (15, I6 ((rowK xs x).2.2)), (16, I6 ((rowK xs x).1)), (17, I6 ((rowK xs x).2.1)), (18, I6 ((rowK xs x).2.2)), (19, I6 ((staK xs y).1)), (20, I6 ((staK xs y).2)), (21, I6 ((staK xs y).1)), (22, I6 ((staK xs y).2)), (23, q59), (24, I6 (partE xs x y)), (25, q66), (26, I6 (partE xs x y))] 34 0 hS (.cons (as_eq_t (rfl)) .nil) fun a hS => ?_
 refine seg_end ?_
 refine hK73 _ _ ?_
 refine wpIn_ret ?_
 refine ret1 hS Try.results27 rfl ?_
 exact ⟨rfl, hE81⟩

end Go.Proofs.Ytkdbfjomjlhfbaa
