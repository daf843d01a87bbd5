import Derived.Test.YtkdbfjomjlhfbaaProg
import Derived.Test.YtkdbfjomjlhfbaaR26
namespace Go.Proofs.Ytkdbfjomjlhfbaa
open Go.Vc
set_option linter.unusedSectionVars false
variable [Inhabited Zt]

theorem whole_any {w : World} {F : Ta} (hI : TI w F) :
  Calls Try.prog 25 #[(Pv F.t)] w fun e w' => e = .returned (.bool true) ∧ Ext [] w w' := by
 have hln := hI.ln
 refine calls_body 55 [(0, (Pv F.t))] Try.func25 rfl (by kernel_rfl) (by kernel_rfl) (by kernel_rfl) fun a hS => ?_
 have hE0 : Ext [] w w := Ext.refl _ _
 refine sq fun K1 hK1 => ?_
 refine rgn 1 ?_
 refine sg wide_wide [.p] [] [(0, (Pv F.t)), (2, .bool false)] 1 0 hS .nil fun a hS => ?_
 refine seg_end ?_
 refine hK1 _ _ ?_
 refine sq fun K2 hK2 => ?_
 refine sq fun K3 hK3 => ?_
 refine rgn 1 ?_
 refine sg wide_wide [.p] [] [(0, (Pv F.t)), (2, .bool false), (3, I6 0)] 1 0 hS .nil fun a hS => ?_
 refine seg_end ?_
 refine hK3 _ _ ?_
 refine wpIn_block ?_
 refine loop_ghost (fun (i : Nat) a' w' => St 55 [] [(0, (Pv F.t)), (3, I6 ↑i)] a' ∧ i ≤ F.L.length ∧ Ext [] w w') (fun (i : Nat) => F.L.length - i) 0 ⟨hS.keepTo [0, 3] (by kernel_rfl), Nat.zero_le _, hE0⟩ ?_
 rintro i a w1 ⟨hS, hil, hEx⟩
 have hI1 := hI.ext0 hEx
 refine sq fun K4 hK4 => ?_
 refine sq fun K5 hK5 => ?_
 refine rgn 7 ?_
 refine sg wide_wide [.p, .p, .p, .p, .ld (.slice F.pb F.L.length F.pc), .p, .p] [w1.cell? ⟨F.t, 0, none⟩ = some (.slice F.pb F.L.length F.pc)] [(0, (Pv F.t)), (3, I6 ↑i), (10, .bool (decide ((↑i : Int) < ↑F.L.length)))] 7 0 hS (.cons ((hI1.f).cell 0 rfl) .nil) fun a hS => ?_
 refine seg_end ?_
 refine hK5 _ _ ?_
 refine cond_b hS rfl (fun hb6 => ?_) (fun hb6 => ?_)
 ·
  replace hb6 := of_decide_eq_true hb6
  have hi : i < F.L.length := by omega
  obtain ⟨ee, hee⟩ : ∃ ee, F.L[i]? = some ee := ⟨_, List.getElem?_eq_getElem hi⟩
  have heem : ee ∈ F.L := List.mem_of_getElem? hee
  have hqee := hI1.q ee heem
  have hple := hqee.2.2.2
  refine wpIn_skip ?_
  refine hK4 _ _ ?_
  refine sq fun K7 hK7 => ?_
  refine wpIn_block ?_
  refine sq fun K8 hK8 => ?_
  refine region_gh2 (G := World × Value × World × World) wide_wide [.q .p, .q .p, .q .p, .q (.ld (.slice F.pb F.L.length F.pc)), .q .p, .q (.run ((Po (bof (.slice F.pb F.L.length F.pc)) (0 + i * 1)))), .q (.ld ((Pv ee.b))), .e, .q .p, .q .p, .q .p, .q (.ld (.slice F.qb F.L.length F.qc)), .q .p, .q (.run ((Po (bof (.slice F.qb F.L.length F.qc)) (0 + i * 1)))), .q (.ld ((Pv ee.c))), .q .p, .q .p, .q (.ld (ee.v)), .q (.run (I6 (((obs ee.o).length : Nat) : Int))), .q (.as (.bool false)), .q .p, .q .p, .q .p, .q .p, .q (.ld (.slice F.pb F.L.length F.pc)), .q .p, .q (.run ((Po (bof (.slice F.pb F.L.length F.pc)) (0 + i * 1)))), .q (.ld ((Pv ee.b))), .e, .q .p, .q .p, .q .p, .q (.ld (.slice F.qb F.L.length F.qc)), .q .p, .q (.run ((Po (bof (.slice F.qb F.L.length F.qc)) (0 + i * 1)))), .q (.ld ((Pv ee.c))), .q .p, .q .p, .q (.ld (ee.v)), .e, .q .p, .q .p] [0, 0, 0, 0, 0, 0, 0, 0, 0, 0, 0, 0, 0, 0, 0, 0, 0, 0, 0, 1, 1, 1, 1, 1, 1, 1, 1, 1, 1, 1, 1, 1, 1, 1, 1, 1, 1, 1, 1, 2, 3, 3] [0, 0, 0, 0, 0, 0, 0, 0, 1, 1, 1, 1, 1, 1, 1, 1, 1, 1, 1, 1, 1, 1, 1, 1, 1, 1, 1, 1, 1, 2, 2, 2, 2, 2, 2, 2, 2, 2, 2, 2, 3, 3] [0, 1, 3, 7, 0, 31, 63, 127, 0, 256, 768, 1792, 0, 7936, 16128, 32512, 65280, 130816, 261888, 524287, 1048575, 2097151, 4194303, 8388607, 16777215, 2097151, 67108863, 134217727, 268435455, 2097151, 538968063, 1612709887, 3760193535, 2097151, 16645095423, 33824964607, 68184702975, 136904179711, 274343133183, 549755813887, 1099511627775, 2199023255551] [7, 28, 39] [(7, 0), (28, 1), (39, 2)] 3 (fun ⟨wc9, q10, wc10, wc11⟩ => ([(0, (Pv F.t)), (3, I6 ↑i), (13, (Pv F.t)), (14, (Pv F.t)), (15, (Pv F.t)), (16, .slice F.pb F.L.length F.pc), (17, I6 ↑i), (18, (Po (bof (.slice F.pb F.L.length F.pc)) (0 + i * 1))), (19, (Pv ee.b)), (20, I6 (↑(obs ee.o).length)), (21, (Pv F.t)), (22, (Pv F.t)), (23, (Po F.t 1)), (24, .slice F.qb F.L.length F.qc), (25, I6 ↑i), (26, (Po (bof (.slice F.qb F.L.length F.qc)) (0 + i * 1))), (27, (Pv ee.c)), (28, (Pv ee.c)), (29, (Pv ee.c)), (30, ee.v), (31, I6 (((obs ee.o).length : Nat) : Int)), (32, .bool false), (33, .bool false), (34, (Pv F.t)), (35, (Pv F.t)), (36, (Pv F.t)), (37, .slice F.pb F.L.length F.pc), (38, I6 ↑i), (39, (Po (bof (.slice F.pb F.L.length F.pc)) (0 + i * 1))), (40, (Pv ee.b)), (41, q10), (42, (Pv F.t)), (43, (Pv F.t)), (44, (Po F.t 1)), (45, .slice F.qb F.L.length F.qc), (46, I6 ↑i), (47, (Po (bof (.slice F.qb F.L.length F.qc)) (0 + i * 1))), (48, (Pv ee.c)), (49, (Pv ee.c)), (50, (Pv ee.c)), (51, ee.v), (52, .bool true), (53, .bool false), (54, .bool false)] : Fm)) (fun ⟨wc9, q10, wc10, wc11⟩ => [w1.drew, wc9, wc10, wc11]) (w1.drew) (fun e ⟨wc9, q10, wc10, wc11⟩ => hAt [True, (Ext [] w1.drew wc9) ∧ True, (Ext [] w1.drew wc9) ∧ (RdV wc10 1 q10 (obs ee.o).length (bv (obs ee.o))) ∧ (Ext [] wc9 wc10) ∧ True, (Ext [] w1.drew wc9) ∧ (RdV wc10 1 q10 (obs ee.o).length (bv (obs ee.o))) ∧ (Ext [] wc9 wc10) ∧ (Ext [] wc10 wc11) ∧ True] e) (fun ⟨wc9, q10, wc10, wc11⟩ w' => [(3, [w'.cell? ⟨F.t, 0, none⟩ = some (.slice F.pb F.L.length F.pc)]), (5, [Ru Try.prog (vS (Instr.indexAt 43 (.slice F.pb F.L.length F.pc) (I6 ↑i))) ((Po (bof (.slice F.pb F.L.length F.pc)) (0 + i * 1))) w']), (6, [w'.cell? ⟨bof (.slice F.pb F.L.length F.pc), 0 + i * 1, none⟩ = some ((Pv ee.b))]), (11, [w'.cell? ⟨F.t, 1, none⟩ = some (.slice F.qb F.L.length F.qc)]), (13, [Ru Try.prog (vS (Instr.indexAt 44 (.slice F.qb F.L.length F.qc) (I6 ↑i))) ((Po (bof (.slice F.qb F.L.length F.qc)) (0 + i * 1))) w']), (14, [w'.cell? ⟨bof (.slice F.qb F.L.length F.qc), 0 + i * 1, none⟩ = some ((Pv ee.c))]), (17, [w'.cell? ⟨ee.c, 0, none⟩ = some (ee.v)]), (18, [Ru Try.prog (vS (Builtin.len_ #[23] 3 #[ee.v])) (I6 (((obs ee.o).length : Nat) : Int)) w']), (19, [Value.bool (((↑(obs ee.o).length : Int) != (((obs ee.o).length : Nat) : Int))) = .bool false]), (24, [w'.cell? ⟨F.t, 0, none⟩ = some (.slice F.pb F.L.length F.pc)]), (26, [Ru Try.prog (vS (Instr.indexAt 43 (.slice F.pb F.L.length F.pc) (I6 ↑i))) ((Po (bof (.slice F.pb F.L.length F.pc)) (0 + i * 1))) w']), (27, [w'.cell? ⟨bof (.slice F.pb F.L.length F.pc), 0 + i * 1, none⟩ = some ((Pv ee.b))]), (32, [w'.cell? ⟨F.t, 1, none⟩ = some (.slice F.qb F.L.length F.qc)]), (34, [Ru Try.prog (vS (Instr.indexAt 44 (.slice F.qb F.L.length F.qc) (I6 ↑i))) ((Po (bof (.slice F.qb F.L.length F.qc)) (0 + i * 1))) w']), (35, [w'.cell? ⟨bof (.slice F.qb F.L.length F.qc), 0 + i * 1, none⟩ = some ((Pv ee.c))]), (38, [w'.cell? ⟨ee.c, 0, none⟩ = some (ee.v)])]) (w1.drew, undef, w, w) [0, 3] [] hS (by kernel_rfl) (by kernel_rfl) (by kernel_rfl) (by kernel_rfl) (fun ⟨wc9, q10, wc10, wc11⟩ _ => by kernel_rfl) (by kernel_rfl) (by kernel_rfl) (by kernel_rfl) trivial ?_ (by kernel_rfl) ?_ ?_
  ·rintro e ⟨wc9, q10, wc10, wc11⟩ w' hw hH
   refine (.cons ?_ (.cons ?_ (.cons ?_ (.cons ?_ (.cons ?_ (.cons ?_ (.cons ?_ (.cons ?_ (.cons ?_ (.cons ?_ (.cons ?_ (.cons ?_ (.cons ?_ (.cons ?_ (.cons ?_ (.cons ?_ .nil))))))))))))))))
   ·intro h1 h2
    obtain rfl : e = 0 := Nat.le_antisymm h2 h1
    have hwe : w1.drew = w' := (hw.trans (by kernel_rfl)).symm
    subst hwe
    clear hH
    exact (.cons ((hI1.f.drew : Blk w1.drew F.t 46 (#[.slice F.pb F.L.length F.pc, .slice F.qb F.L.length F.qc, .slice F.bb F.bn F.bn])).cell 0 rfl) .nil)
   ·intro h1 h2
    obtain rfl : e = 0 := Nat.le_antisymm h2 h1
    have hwe : w1.drew = w' := (hw.trans (by kernel_rfl)).symm
    subst hwe
    clear hH
    exact (.cons (ix_own (j := i) (hI1.P) (by kernel_rfl) (by kernel_rfl) rfl hi) .nil)
   ·intro h1 h2
    obtain rfl : e = 0 := Nat.le_antisymm h2 h1
    have hwe : w1.drew = w' := (hw.trans (by kernel_rfl)).symm
    subst hwe
    clear hH
    exact (.cons ((hI1.P.drew : OwnV w1.drew 24 1 (.slice F.pb F.L.length F.pc) F.L.length (F.L.map En.bp)).cellAt _ (by simp [hee, En.bp])) .nil)
   ·intro h1 h2
    replace h1 : 0 ≤ e := h1
    replace h2 : e ≤ 1 := h2
    have he : e = 0 ∨ e = 1 := by omega
    rcases he with rfl | rfl
    ·have hwe : w1.drew = w' := (hw.trans (by kernel_rfl)).symm
     subst hwe
     clear hH
     exact (.cons ((hI1.f.drew : Blk w1.drew F.t 46 (#[.slice F.pb F.L.length F.pc, .slice F.qb F.L.length F.qc, .slice F.bb F.bn F.bn])).cell 1 rfl) .nil)
    ·have hwe : wc9 = w' := (hw.trans (by kernel_rfl)).symm
     subst hwe
     obtain ⟨hEc9, _⟩ := hH
     exact (.cons (((hI1.f.drew : Blk w1.drew F.t 46 (#[.slice F.pb F.L.length F.pc, .slice F.qb F.L.length F.qc, .slice F.bb F.bn F.bn])).ext hEc9 (by simp) : Blk wc9 F.t 46 (#[.slice F.pb F.L.length F.pc, .slice F.qb F.L.length F.qc, .slice F.bb F.bn F.bn])).cell 1 rfl) .nil)
   ·intro h1 h2
    replace h1 : 0 ≤ e := h1
    replace h2 : e ≤ 1 := h2
    have he : e = 0 ∨ e = 1 := by omega
    rcases he with rfl | rfl
    ·have hwe : w1.drew = w' := (hw.trans (by kernel_rfl)).symm
     subst hwe
     clear hH
     exact (.cons (ix_own (j := i) (hI1.R) (by kernel_rfl) (by kernel_rfl) rfl hi) .nil)
    ·have hwe : wc9 = w' := (hw.trans (by kernel_rfl)).symm
     subst hwe
     obtain ⟨hEc9, _⟩ := hH
     exact (.cons (ix_own (j := i) (hI1.R) (by kernel_rfl) (by kernel_rfl) rfl hi) .nil)
   ·intro h1 h2
    replace h1 : 0 ≤ e := h1
    replace h2 : e ≤ 1 := h2
    have he : e = 0 ∨ e = 1 := by omega
    rcases he with rfl | rfl
    ·have hwe : w1.drew = w' := (hw.trans (by kernel_rfl)).symm
     subst hwe
     clear hH
     exact (.cons ((hI1.R.drew : OwnV w1.drew 52 1 (.slice F.qb F.L.length F.qc) F.L.length (F.L.map En.cp)).cellAt _ (by simp [hee, En.cp])) .nil)
    ·have hwe : wc9 = w' := (hw.trans (by kernel_rfl)).symm
     subst hwe
     obtain ⟨hEc9, _⟩ := hH
     exact (.cons (((hI1.R.drew : OwnV w1.drew 52 1 (.slice F.qb F.L.length F.qc) F.L.length (F.L.map En.cp)).ext hEc9 (by simp) : OwnV wc9 52 1 (.slice F.qb F.L.length F.qc) F.L.length (F.L.map En.cp)).cellAt _ (by simp [hee, En.cp])) .nil)
   ·intro h1 h2
    replace h1 : 0 ≤ e := h1
    replace h2 : e ≤ 1 := h2
    have he : e = 0 ∨ e = 1 := by omega
    rcases he with rfl | rfl
    ·have hwe : w1.drew = w' := (hw.trans (by kernel_rfl)).symm
     subst hwe
     clear hH
     exact (.cons ((hqee.1.drew : Blk w1.drew ee.c 56 (#[ee.v])).cell 0 rfl) .nil)
    ·have hwe : wc9 = w' := (hw.trans (by kernel_rfl)).symm
     subst hwe
     obtain ⟨hEc9, _⟩ := hH
     exact (.cons (((hqee.1.drew : Blk w1.drew ee.c 56 (#[ee.v])).ext hEc9 (by simp) : Blk wc9 ee.c 56 (#[ee.v])).cell 0 rfl) .nil)
   ·intro h1 h2
    replace h1 : 0 ≤ e := h1
    replace h2 : e ≤ 1 := h2
    have he : e = 0 ∨ e = 1 := by omega
    rcases he with rfl | rfl
    ·have hwe : w1.drew = w' := (hw.trans (by kernel_rfl)).symm
     subst hwe
     clear hH
     exact (.cons (run_len_rd (e := 5) hqee.2.1 (by kernel_rfl)) .nil)
    ·have hwe : wc9 = w' := (hw.trans (by kernel_rfl)).symm
     subst hwe
     obtain ⟨hEc9, _⟩ := hH
     exact (.cons (run_len_rd (e := 5) hqee.2.1 (by kernel_rfl)) .nil)
   ·intro h1 h2
    obtain rfl : e = 1 := Nat.le_antisymm h2 h1
    have hwe : wc9 = w' := (hw.trans (by kernel_rfl)).symm
    subst hwe
    obtain ⟨hEc9, _⟩ := hH
    exact (.cons (as_ne_f (rfl)) .nil)
   ·intro h1 h2
    obtain rfl : e = 1 := Nat.le_antisymm h2 h1
    have hwe : wc9 = w' := (hw.trans (by kernel_rfl)).symm
    subst hwe
    obtain ⟨hEc9, _⟩ := hH
    exact (.cons (((hI1.f.drew : Blk w1.drew F.t 46 (#[.slice F.pb F.L.length F.pc, .slice F.qb F.L.length F.qc, .slice F.bb F.bn F.bn])).ext hEc9 (by simp) : Blk wc9 F.t 46 (#[.slice F.pb F.L.length F.pc, .slice F.qb F.L.length F.qc, .slice F.bb F.bn F.bn])).cell 0 rfl) .nil)
   ·intro h1 h2
    obtain rfl : e = 1 := Nat.le_antisymm h2 h1
    have hwe : wc9 = w' := (hw.trans (by kernel_rfl)).symm
    subst hwe
    obtain ⟨hEc9, _⟩ := hH
    exact (.cons (ix_own (j := i) (hI1.P) (by kernel_rfl) (by kernel_rfl) rfl hi) .nil)
   ·intro h1 h2
    obtain rfl : e = 1 := Nat.le_antisymm h2 h1
    have hwe : wc9 = w' := (hw.trans (by kernel_rfl)).symm
    subst hwe
    obtain ⟨hEc9, _⟩ := hH
    exact (.cons (((hI1.P.drew : OwnV w1.drew 24 1 (.slice F.pb F.L.length F.pc) F.L.length (F.L.map En.bp)).ext hEc9 (by simp) : OwnV wc9 24 1 (.slice F.pb F.L.length F.pc) F.L.length (F.L.map En.bp)).cellAt _ (by simp [hee, En.bp])) .nil)
   ·intro h1 h2
    replace h1 : 1 ≤ e := h1
    replace h2 : e ≤ 2 := h2
    have he : e = 1 ∨ e = 2 := by omega
    rcases he with rfl | rfl
    ·have hwe : wc9 = w' := (hw.trans (by kernel_rfl)).symm
     subst hwe
     obtain ⟨hEc9, _⟩ := hH
     exact (.cons (((hI1.f.drew : Blk w1.drew F.t 46 (#[.slice F.pb F.L.length F.pc, .slice F.qb F.L.length F.qc, .slice F.bb F.bn F.bn])).ext hEc9 (by simp) : Blk wc9 F.t 46 (#[.slice F.pb F.L.length F.pc, .slice F.qb F.L.length F.qc, .slice F.bb F.bn F.bn])).cell 1 rfl) .nil)
    ·have hwe : wc10 = w' := (hw.trans (by kernel_rfl)).symm
     subst hwe
     obtain ⟨hEc9, hO10, hEc10, _⟩ := hH
     exact (.cons ((((hI1.f.drew : Blk w1.drew F.t 46 (#[.slice F.pb F.L.length F.pc, .slice F.qb F.L.length F.qc, .slice F.bb F.bn F.bn])).ext hEc9 (by simp) : Blk wc9 F.t 46 (#[.slice F.pb F.L.length F.pc, .slice F.qb F.L.length F.qc, .slice F.bb F.bn F.bn])).ext hEc10 (by simp) : Blk wc10 F.t 46 (#[.slice F.pb F.L.length F.pc, .slice F.qb F.L.length F.qc, .slice F.bb F.bn F.bn])).cell 1 rfl) .nil)
   ·intro h1 h2
    replace h1 : 1 ≤ e := h1
    replace h2 : e ≤ 2 := h2
    have he : e = 1 ∨ e = 2 := by omega
    rcases he with rfl | rfl
    ·have hwe : wc9 = w' := (hw.trans (by kernel_rfl)).symm
     subst hwe
     obtain ⟨hEc9, _⟩ := hH
     exact (.cons (ix_own (j := i) (hI1.R) (by kernel_rfl) (by kernel_rfl) rfl hi) .nil)
    ·have hwe : wc10 = w' := (hw.trans (by kernel_rfl)).symm
     subst hwe
     obtain ⟨hEc9, hO10, hEc10, _⟩ := hH
     exact (.cons (ix_own (j := i) (hI1.R) (by kernel_rfl) (by kernel_rfl) rfl hi) .nil)
   ·intro h1 h2
    replace h1 : 1 ≤ e := h1
    replace h2 : e ≤ 2 := h2
    have he : e = 1 ∨ e = 2 := by omega
    rcases he with rfl | rfl
    ·have hwe : wc9 = w' := (hw.trans (by kernel_rfl)).symm
     subst hwe
     obtain ⟨hEc9, _⟩ := hH
     exact (.cons (((hI1.R.drew : OwnV w1.drew 52 1 (.slice F.qb F.L.length F.qc) F.L.length (F.L.map En.cp)).ext hEc9 (by simp) : OwnV wc9 52 1 (.slice F.qb F.L.length F.qc) F.L.length (F.L.map En.cp)).cellAt _ (by simp [hee, En.cp])) .nil)
    ·have hwe : wc10 = w' := (hw.trans (by kernel_rfl)).symm
     subst hwe
     obtain ⟨hEc9, hO10, hEc10, _⟩ := hH
     exact (.cons ((((hI1.R.drew : OwnV w1.drew 52 1 (.slice F.qb F.L.length F.qc) F.L.length (F.L.map En.cp)).ext hEc9 (by simp) : OwnV wc9 52 1 (.slice F.qb F.L.length F.qc) F.L.length (F.L.map En.cp)).ext hEc10 (by simp) : OwnV wc10 52 1 (.slice F.qb F.L.length F.qc) F.L.length (F.L.map En.cp)).cellAt _ (by simp [hee, En.cp])) .nil)
   ·intro h1 h2
    replace h1 : 1 ≤ e := h1
    replace h2 : e ≤ 2 := h2
    have he : e = 1 ∨ e = 2 := by omega
    rcases he with rfl | rfl
    ·have hwe : wc9 = w' := (hw.trans (by kernel_rfl)).symm
     subst hwe
     obtain ⟨hEc9, _⟩ := hH
     exact (.cons (((hqee.1.drew : Blk w1.drew ee.c 56 (#[ee.v])).ext hEc9 (by simp) : Blk wc9 ee.c 56 (#[ee.v])).cell 0 rfl) .nil)
    ·have hwe : wc10 = w' := (hw.trans (by kernel_rfl)).symm
     subst hwe
     obtain ⟨hEc9, hO10, hEc10, _⟩ := hH
     exact (.cons ((((hqee.1.drew : Blk w1.drew ee.c 56 (#[ee.v])).ext hEc9 (by simp) : Blk wc9 ee.c 56 (#[ee.v])).ext hEc10 (by simp) : Blk wc10 ee.c 56 (#[ee.v])).cell 0 rfl) .nil)
  ·refine (.cons ?eq12_7 (.cons ?eq12_28 (.cons ?eq12_39 .nil)))
   ·rintro ⟨wc9, q10, wc10, wc11⟩ hH
    clear hH
    refine eff_gh (w1.drew) (by kernel_rfl) ?_
    refine upon_call (f := 19) (vs := [(Pv ee.b)]) (cap := #[]) (d := (some 20)) (by kernel_rfl) Try.call19 #[(Pv ee.b)] (by kernel_rfl) (Len_Y ((hI1.ext0 ((Ext.refl [] _).drew)).p ee heem).two) ?_
    rintro _ wc9 ⟨rfl, hEc9⟩
    exact ⟨_, rfl, ⟨(wc9, q10, wc10, wc11), by kernel_rfl, by kernel_rfl, by kernel_rfl, ⟨hEc9, trivial⟩⟩⟩
   ·rintro ⟨wc9, q10, wc10, wc11⟩ hH
    obtain ⟨hEc9, _⟩ := hH
    refine eff_gh (wc9) (by kernel_rfl) ?_
    refine upon_call (f := 32) (vs := [(Pv ee.b)]) (cap := #[]) (d := (some 41)) (by kernel_rfl) Try.call32 #[(Pv ee.b)] (by kernel_rfl) (Bytes_Z (((hI1.ext0 ((Ext.refl [] _).drew)).ext0 hEc9).p ee heem).two) ?_
    rintro _ wc10 ⟨q10, rfl, hO10, hEc10⟩
    exact ⟨_, rfl, ⟨(wc9, q10, wc10, wc11), by kernel_rfl, by kernel_rfl, by kernel_rfl, ⟨hEc9, hO10, hEc10, trivial⟩⟩⟩
   ·rintro ⟨wc9, q10, wc10, wc11⟩ hH
    obtain ⟨hEc9, hO10, hEc10, _⟩ := hH
    refine eff_gh (wc10) (by kernel_rfl) ?_
    refine upon_call (f := 31) (vs := [q10, ee.v]) (cap := #[]) (d := (some 52)) (by kernel_rfl) Try.call31 #[q10, ee.v] (by kernel_rfl) (SameB_true (F := F) hO10 ((((hI1.ext0 ((Ext.refl [] _).drew)).ext0 hEc9).ext0 hEc10).q ee heem).2.1 (by omega)) ?_
    rintro _ wc11 ⟨rfl, hEc11⟩
    exact ⟨_, rfl, ⟨(wc9, q10, wc10, wc11), by kernel_rfl, by kernel_rfl, by kernel_rfl, ⟨hEc9, hO10, hEc10, hEc11, trivial⟩⟩⟩
  rintro ⟨wc9, q10, wc10, wc11⟩ a w13 hS hw14 hH
  obtain ⟨hEc9, hO10, hEc10, hEc11, _⟩ := hH
  replace hw14 : w13 = wc11 := hw14.trans (by kernel_rfl)
  have hE19 : Ext [] w w13 := by rw [hw14]; exact (((hEx.drew).trans0 hEc9).trans0 hEc10).trans0 hEc11
  have hX20 : Ext [] w1 w13 := by rw [hw14]; exact ((((Ext.refl _ _).drew).trans0 hEc9).trans0 hEc10).trans0 hEc11
  have hG21 : TI w13 F := hI1.ext0 hX20
  have hG22 : RdV w13 1 ee.v ((obs ee.o).length) (bv (obs ee.o)) := hqee.2.1.ext0 hX20
  replace hS := hS.kp [(0, (Pv F.t)), (3, I6 ↑i), (54, .bool false)]
  refine hK8 _ _ ?_
  refine cond_f hS rfl ?_
  refine wpIn_skip ?_
  refine inBlock_normal ?_
  refine hK7 _ _ ?_
  refine rgn 3 ?_
  refine sg wide_wide [.p, .as (I6 (↑i + 1)), .p] [Value.int .i64 (IntKind.i64.wrap (↑i + 1)) = I6 (↑i + 1)] [(0, (Pv F.t)), (3, I6 (↑i + 1)), (54, .bool false)] 3 0 hS (.cons (as_i64 (by omega)) .nil) fun a hS => ?_
  refine seg_end ?_
  exact ⟨i + 1, ⟨hS.kp [(0, (Pv F.t)), (3, I6 (↑i + 1))], by omega, hE19⟩, by omega⟩
 ·
  replace hb6 := of_decide_eq_false hb6
  refine wpIn_exit ?_
  refine then_exit ?_
  refine then_exit ?_
  refine inBlock_hit ?_
  refine hK2 _ _ ?_
  refine sq fun K23 hK23 => ?_
  refine rgn 1 ?_
  refine sg wide_wide [.p] [] [(0, (Pv F.t)), (3, I6 ↑i), (2, .bool true)] 1 0 hS .nil fun a hS => ?_
  refine seg_end ?_
  refine hK23 _ _ ?_
  refine wpIn_ret ?_
  refine ret1 hS Try.results25 rfl ?_
  exact ⟨rfl, hEx⟩

def Ta.new (t : Nat) : Ta := ⟨t, none, 0, none, 0, none, 0, []⟩
theorem TB.new {w0 w : World} {t : Nat} (hE : Ext [] w0 w) (hB : Blk w t 46 #[.slice none 0 0, .slice none 0 0, .slice none 0 0]) (ht : w0.heap.size ≤ t) : TB w0 w (Ta.new t) :=
 ⟨⟨hB, .inl ⟨rfl, rfl, rfl⟩, .inl ⟨rfl, rfl, rfl⟩, ⟨[], .inl ⟨rfl, rfl, rfl⟩⟩, by simp [Ta.new], by simp [Ta.new], fun e he => (by cases he), fun e he => (by cases he)⟩, hE, fun x hx => by
  have hx : x = t := by simpa [Ta.M, Ta.new, oa] using hx
  rw [hx]; exact ht⟩
theorem Head_Y {w : World} : Calls Try.prog 12 #[] w fun e w' => e = .returned (.bool true) ∧ Ext [] w w' := @Head_any ⟨⟨fun _ => False⟩⟩ w (fun _ h => h.elim)

set_option maxHeartbeats 1000000 in
theorem RopePlays_any {v : Value} {l : List Sx} {w : World} (hs : Scr w v l) :
  Calls Try.prog 6 #[v] w fun e w' => e = .returned (.bool true) ∧ Ext [] w w' := by
 have hmax := hs.max
 refine calls_body 24 [(0, v)] Try.func6 rfl (by kernel_rfl) (by kernel_rfl) (by kernel_rfl) fun a hS => ?_
 have hE0 : Ext [] w w := Ext.refl _ _
 refine sq fun K1 hK1 => ?_
 refine rgn 1 ?_
 refine sg wide_wide [.p] [] [(0, v), (2, .bool false)] 1 0 hS .nil fun a hS => ?_
 refine seg_end ?_
 refine hK1 _ _ ?_
 refine sq fun K2 hK2 => ?_
 refine sq fun K3 hK3 => ?_
 refine rgn 2 ?_
 refine eff_call wide_wide (r := 1) (f := 12) (vs := []) (cap := #[]) (d := (some 5)) hS (by kernel_rfl) Try.call12 #[] (by kernel_rfl) (Head_Y) ?_
 rintro _ wc4 ⟨rfl, hEc4⟩
 refine ⟨_, rfl, fun a hS => ?_⟩
 have hE5 := hE0.trans0 hEc4
 refine sg wide_wide [.p] [] [(0, v), (2, .bool false), (6, .bool false)] 2 0 hS .nil fun a hS => ?_
 refine seg_end ?_
 refine hK3 _ _ ?_
 refine cond_f hS rfl ?_
 refine wpIn_skip ?_
 refine hK2 _ _ ?_
 refine sq fun K6 hK6 => ?_
 refine rgn 3 ?_
 refine sg wide_wide [.p] [] [(0, v), (2, .bool false), (6, .bool false), (7, .agg #[.slice none 0 0, .slice none 0 0, .slice none 0 0])] 1 2 hS .nil fun a hS => ?_
 refine eff_box wide_wide (r := 1) (cs := #[.slice none 0 0, .slice none 0 0, .slice none 0 0]) (T := 46) (d := (some 8)) hS (by kernel_rfl) fun a w7 hw8 hS => ?_
 have hB9 : Blk w7 (wc4.heap.size) 46 #[.slice none 0 0, .slice none 0 0, .slice none 0 0] := by rw [hw8]; exact Blk.new _ _ _
 have hs10 : w.heap.size ≤ wc4.heap.size := hE5.size
 have hE11 : Ext [] w w7 := by rw [hw8]; exact hE5.alloc _
 refine sg wide_wide [.p] [] [(0, v), (2, .bool false), (6, .bool false), (3, (Pv wc4.heap.size))] 3 0 hS .nil fun a hS => ?_
 refine seg_end ?_
 refine hK6 _ _ ?_
 refine sq fun K12 hK12 => ?_
 refine sq fun K13 hK13 => ?_
 refine rgn 1 ?_
 refine sg wide_wide [.p] [] [(0, v), (2, .bool false), (6, .bool false), (3, (Pv wc4.heap.size)), (4, I6 0)] 1 0 hS .nil fun a hS => ?_
 refine seg_end ?_
 refine hK13 _ _ ?_
 refine wpIn_block ?_
 have hT0 := TB.new hE11 hB9 hs10
 refine loop_ghost (fun ((i, F) : Nat × Ta) a' w' => St 24 [] [(0, v), (3, (Pv F.t)), (4, I6 ↑i)] a' ∧ i ≤ l.length ∧ TB w w' F) (fun ((i, F) : Nat × Ta) => l.length - i) (0, Ta.new wc4.heap.size) ⟨hS.keepTo [0, 3, 4] (by kernel_rfl), Nat.zero_le _, hT0⟩ ?_
 rintro ⟨i, F⟩ a wi ⟨hS, hil, hTi⟩
 refine sq fun K14 hK14 => ?_
 refine sq fun K15 hK15 => ?_
 refine rgn 4 ?_
 refine sg wide_wide [.p, .p, .run (I6 ↑l.length), .p] [Ru Try.prog (vS (Builtin.len_ #[41] 3 #[v])) (I6 ↑l.length) wi] [(0, v), (3, (Pv F.t)), (4, I6 ↑i), (12, .bool (decide ((↑i : Int) < ↑l.length)))] 4 0 hS (.cons (run_len_rd (e := 49) hs.rd (by kernel_rfl)) .nil) fun a hS => ?_
 refine seg_end ?_
 refine hK15 _ _ ?_
 refine cond_b hS rfl (fun hb16 => ?_) (fun hb16 => ?_)
 ·
  replace hb16 := of_decide_eq_true hb16
  have hi : i < l.length := by omega
  obtain ⟨s, hsi⟩ : ∃ s, l[i]? = some s := ⟨_, List.getElem?_eq_getElem hi⟩
  have hss := hs.ok s (List.mem_of_getElem? hsi)
  have hrd := hs.rd.ext0 hTi.e
  have hsn := hss.n
  refine wpIn_skip ?_
  refine hK14 _ _ ?_
  refine sq fun K17 hK17 => ?_
  refine wpIn_block ?_
  refine sq fun K18 hK18 => ?_
  refine rgn 7 ?_
  refine sg wide_wide [.p, .p, .p, .run ((Po (bof v) (oof v + i * 5))), .lds [I6 s.kd, I6 s.rr, I6 s.aa, I6 s.bb, s.dv]] [Ru Try.prog (vS (Instr.indexAt 41 (v) (I6 ↑i))) ((Po (bof v) (oof v + i * 5))) wi, wi.cell? ⟨bof v, oof v + i * 5, none⟩ = some (I6 s.kd), wi.cell? ⟨bof v, oof v + i * 5 + 1, none⟩ = some (I6 s.rr), wi.cell? ⟨bof v, oof v + i * 5 + 2, none⟩ = some (I6 s.aa), wi.cell? ⟨bof v, oof v + i * 5 + 3, none⟩ = some (I6 s.bb), wi.cell? ⟨bof v, oof v + i * 5 + 4, none⟩ = some (s.dv)] [(0, v), (3, (Pv F.t)), (4, I6 ↑i), (15, (Pv F.t)), (19, .agg #[I6 s.kd, I6 s.rr, I6 s.aa, I6 s.bb, s.dv])] 5 2 hS (.cons (ix_rd (e := 49) (j := i) hs.rd (by kernel_rfl) (by kernel_rfl) rfl hi) (.cons (hrd.cellAt (i * 5 + 0) (by omega) (scells_at l i 0 s hsi (by omega))) (.cons (hrd.cellAt (i * 5 + 1) (by omega) (scells_at l i 1 s hsi (by omega))) (.cons (hrd.cellAt (i * 5 + 2) (by omega) (scells_at l i 2 s hsi (by omega))) (.cons (hrd.cellAt (i * 5 + 3) (by omega) (scells_at l i 3 s hsi (by omega))) (.cons (hrd.cellAt (i * 5 + 4) (by omega) (scells_at l i 4 s hsi (by omega))) .nil)))))) fun a hS => ?_
  refine eff_call wide_wide (r := 1) (f := 24) (vs := [(Pv F.t), .agg #[I6 s.kd, I6 s.rr, I6 s.aa, I6 s.bb, s.dv]]) (cap := #[]) (d := (some 20)) hS (by kernel_rfl) Try.call24 #[(Pv F.t), .agg #[I6 s.kd, I6 s.rr, I6 s.aa, I6 s.bb, s.dv]] (by kernel_rfl) (step_any hTi hss.rd hss.br (by omega) hss.b) ?_
  rintro _ wj ⟨rfl, F9, hSj⟩
  refine ⟨_, rfl, fun a hS => ?_⟩
  have hTj := hTi.ts hSj
  refine sg wide_wide [.p] [] [(0, v), (3, (Pv F.t)), (4, I6 ↑i), (21, .bool false)] 7 0 hS .nil fun a hS => ?_
  refine seg_end ?_
  refine hK18 _ _ ?_
  refine cond_f hS rfl ?_
  refine wpIn_skip ?_
  refine inBlock_normal ?_
  refine hK17 _ _ ?_
  refine rgn 3 ?_
  refine sg wide_wide [.p, .as (I6 (↑i + 1)), .p] [Value.int .i64 (IntKind.i64.wrap (↑i + 1)) = I6 (↑i + 1)] [(0, v), (3, (Pv F.t)), (4, I6 (↑i + 1)), (21, .bool false)] 3 0 hS (.cons (as_i64 (by omega)) .nil) fun a hS => ?_
  refine seg_end ?_
  exact ⟨(i + 1, F9), ⟨by rw [hSj.t]; exact hS.keepTo [0, 3, 4] (by kernel_rfl), by omega, hTj⟩, by simp only; omega⟩
 ·
  replace hb16 := of_decide_eq_false hb16
  refine wpIn_exit ?_
  refine then_exit ?_
  refine then_exit ?_
  refine inBlock_hit ?_
  refine hK12 _ _ ?_
  refine sq fun K19 hK19 => ?_
  refine rgn 3 ?_
  refine sg wide_wide [.p] [] [(0, v), (3, (Pv F.t)), (4, I6 ↑i), (22, (Pv F.t))] 1 2 hS .nil fun a hS => ?_
  refine eff_call wide_wide (r := 1) (f := 25) (vs := [(Pv F.t)]) (cap := #[]) (d := (some 23)) hS (by kernel_rfl) Try.call25 #[(Pv F.t)] (by kernel_rfl) (whole_any hTi.i) ?_
  rintro _ wc20 ⟨rfl, hEc20⟩
  refine ⟨_, rfl, fun a hS => ?_⟩
  have hE21 := hTi.e.trans0 hEc20
  refine sg wide_wide [.p] [] [(0, v), (3, (Pv F.t)), (4, I6 ↑i), (2, .bool true)] 3 0 hS .nil fun a hS => ?_
  refine seg_end ?_
  refine hK19 _ _ ?_
  refine wpIn_ret ?_
  refine ret1 hS Try.results6 rfl ?_
  exact ⟨rfl, hE21⟩

end Go.Proofs.Ytkdbfjomjlhfbaa
