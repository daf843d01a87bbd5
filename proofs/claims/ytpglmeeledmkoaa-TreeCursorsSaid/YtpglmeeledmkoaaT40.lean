import Derived.Test.YtpglmeeledmkoaaProg
import Derived.Test.YtpglmeeledmkoaaVc
import Derived.Test.YtpglmeeledmkoaaTw
namespace Go.Proofs.Ytpglmeeledmkoaa
open Go.Vc

set_option maxHeartbeats 4000000 in
theorem TreeCursors_any {v mv : Value} {l : List Sx} {ms : List (Int × Int × Int)} {w : World} (hs : Scr w v l) (hms : RdV w 3 mv ms.length (mvc ms)) (hmb : ms.length ≤ 100000000000000) :
  Calls Try.prog 11 #[v, mv] w fun e w' => e = .returned (.bool true) ∧ Ext [] w w' := by
 have hmax := hs.max
 refine calls_body 142 [(0, v), (1, mv)] Try.func11 rfl (by kernel_rfl) (by kernel_rfl) (by kernel_rfl) fun a hS => ?_
 refine sq fun K1 hK1 => ?_
 refine rgn 1 ?_
 refine sg wide_wide [.p] [] [(0, v), (1, mv), (4, .bool false)] 1 0 hS .nil fun a hS => ?_
 refine seg_end ?_
 refine hK1 _ _ ?_
 refine sq fun K2 hK2 => ?_
 refine rgn 7 ?_
 refine sg wide_wide [.p] [] [(0, v), (1, mv), (4, .bool false), (15, v)] 1 6 hS .nil fun a hS => ?_
 refine eff_call wide_wide (r := 5) (f := 12) (vs := [v]) (cap := #[]) (d := (some 16)) hS (by kernel_rfl) Try.call12 #[v] (by kernel_rfl) (Grown_any hs) ?_
 rintro _ w1 ⟨F, rfl, hF, hE1⟩
 refine ⟨_, rfl, fun a hS => ?_⟩
 have hcb := hF.cb
 refine sg wide_wide [.p, .p, .p, .p, .p] [] [(0, v), (1, mv), (4, .bool false), (5, (Pv F.fb)), (6, .bool true)] 7 0 hS .nil fun a hS => ?_
 refine seg_end ?_
 refine hK2 _ _ ?_
 refine sq fun K3 hK3 => ?_
 refine sq fun K4 hK4 => ?_
 refine rgn 2 ?_
 refine sg wide_wide [.p, .p] [] [(0, v), (1, mv), (4, .bool false), (5, (Pv F.fb)), (6, .bool true), (20, .bool false)] 2 0 hS .nil fun a hS => ?_
 refine seg_end ?_
 refine hK4 _ _ ?_
 refine cond_f hS rfl ?_
 refine wpIn_skip ?_
 refine hK3 _ _ ?_
 refine sq fun K5 hK5 => ?_
 refine rgn 3 ?_
 refine sg wide_wide [.p] [] [(0, v), (1, mv), (4, .bool false), (5, (Pv F.fb)), (6, .bool true), (20, .bool false), (21, (Pv F.fb))] 1 2 hS .nil fun a hS => ?_
 refine eff_call wide_wide (r := 1) (f := 13) (vs := [(Pv F.fb)]) (cap := #[]) (d := (some 22)) hS (by kernel_rfl) Try.call13 #[(Pv F.fb)] (by kernel_rfl) (Last_any hF (by omega)) ?_
 rintro _ wL ⟨hwL, hlast⟩
 rw [hwL]
 rcases hlast with ⟨i, r, rfl, hr, hsz⟩ | rfl
 ·
  refine ⟨_, rfl, fun a hS => ?_⟩
  have hi : i < F.L.length := (List.getElem?_eq_some_iff.1 hr).1
  have hrm := List.mem_of_getElem? hr
  refine sg wide_wide [.p] [] [(0, v), (1, mv), (4, .bool false), (5, (Pv F.fb)), (6, .bool true), (20, .bool false), (7, I6 ↑i)] 3 0 hS .nil fun a hS => ?_
  refine seg_end ?_
  refine hK5 _ _ ?_
  refine sq fun K6 hK6 => ?_
  refine sq fun K7 hK7 => ?_
  refine rgn 2 ?_
  refine sg wide_wide [.p, .as (.bool false)] [Value.bool (decide ((↑i : Int) < 0)) = .bool false] [(0, v), (1, mv), (4, .bool false), (5, (Pv F.fb)), (6, .bool true), (20, .bool false), (7, I6 ↑i), (24, .bool false)] 2 0 hS (.cons (as_f (by omega)) .nil) fun a hS => ?_
  refine seg_end ?_
  refine hK7 _ _ ?_
  refine cond_f hS rfl ?_
  refine wpIn_skip ?_
  refine hK6 _ _ ?_
  refine sq fun K8 hK8 => ?_
  refine region_set (G := Nat × Nat × Nat) wide_wide [.q .p, .q .p, .q .p, .q (.ld (.slice F.pb F.L.length F.pc)), .q .p, .q (.run ((Po (bof (.slice F.pb F.L.length F.pc)) (0 + i * 1)))), .q (.ld ((Pv r.t.b))), .e, .q .p, .q .p, .q .p, .q (.ld (.slice F.pb F.L.length F.pc)), .q .p, .q (.run ((Po (bof (.slice F.pb F.L.length F.pc)) (0 + i * 1)))), .q (.ld ((Pv r.t.b))), .e, .q .p, .e, .e] [0, 1, 3, 7, 0, 31, 63, 127, 0, 256, 768, 1792, 0, 7936, 16128, 32767, 65535, 0, 262143] [7, 15, 17, 18] (fun ⟨x7_7, x7_15, x7_17⟩ => ([(0, v), (1, mv), (4, .bool false), (5, (Pv F.fb)), (6, .bool true), (20, .bool false), (7, I6 ↑i), (24, .bool false), (25, (Pv F.fb)), (26, (Pv F.fb)), (27, (Po F.fb 2)), (28, .slice F.pb F.L.length F.pc), (29, I6 ↑i), (30, (Po (bof (.slice F.pb F.L.length F.pc)) (0 + i * 1))), (31, (Pv r.t.b)), (32, (Pv x7_7)), (33, (Pv F.fb)), (34, (Pv F.fb)), (35, (Po F.fb 2)), (36, .slice F.pb F.L.length F.pc), (37, I6 ↑i), (38, (Po (bof (.slice F.pb F.L.length F.pc)) (0 + i * 1))), (39, (Pv r.t.b)), (40, (Pv x7_15)), (41, .agg #[(Pv x7_7), (Pv x7_15)]), (8, (Pv x7_17))] : Fm)) (fun D ⟨x7_7, x7_15, x7_17⟩ w' => Ext [] w1 w' ∧ (D 18 = false → (D 7 = true → (Blk w' x7_7 77 (#[(Pv r.t.b), .slice none 0 0, (Pv r.t.b), I6 0]) ∧ w1.heap.size ≤ x7_7)) ∧ (D 15 = true → (Blk w' x7_15 77 (#[(Pv r.t.b), .slice none 0 0, (Pv r.t.b), I6 0]) ∧ w1.heap.size ≤ x7_15)) ∧ (D 17 = true → (Blk w' x7_17 92 (#[.pointer none, .pointer none]) ∧ w1.heap.size ≤ x7_17)) ∧ (D 7 = true → D 15 = true → x7_7 ≠ x7_15) ∧ (D 7 = true → D 17 = true → x7_7 ≠ x7_17) ∧ (D 15 = true → D 17 = true → x7_15 ≠ x7_17) ∧ True) ∧ (D 18 = true → (Blk w' x7_7 77 (#[(Pv r.t.b), .slice none 0 0, (Pv r.t.b), I6 0]) ∧ w1.heap.size ≤ x7_7) ∧ (Blk w' x7_15 77 (#[(Pv r.t.b), .slice none 0 0, (Pv r.t.b), I6 0]) ∧ w1.heap.size ≤ x7_15) ∧ (Blk w' x7_17 92 (#[(Pv x7_7), (Pv x7_15)]) ∧ w1.heap.size ≤ x7_17) ∧ x7_7 ≠ x7_15 ∧ x7_7 ≠ x7_17 ∧ x7_15 ≠ x7_17 ∧ True)) (fun ⟨x7_7, x7_15, x7_17⟩ w' => [(3, [w'.cell? ⟨F.fb, 2, none⟩ = some (.slice F.pb F.L.length F.pc)]), (5, [Ru Try.prog (vS (Instr.indexAt 32 (.slice F.pb F.L.length F.pc) (I6 ↑i))) ((Po (bof (.slice F.pb F.L.length F.pc)) (0 + i * 1))) w']), (6, [w'.cell? ⟨bof (.slice F.pb F.L.length F.pc), 0 + i * 1, none⟩ = some ((Pv r.t.b))]), (11, [w'.cell? ⟨F.fb, 2, none⟩ = some (.slice F.pb F.L.length F.pc)]), (13, [Ru Try.prog (vS (Instr.indexAt 32 (.slice F.pb F.L.length F.pc) (I6 ↑i))) ((Po (bof (.slice F.pb F.L.length F.pc)) (0 + i * 1))) w']), (14, [w'.cell? ⟨bof (.slice F.pb F.L.length F.pc), 0 + i * 1, none⟩ = some ((Pv r.t.b))])]) (0, 0, 0) [0, 1, 4, 5, 6, 20, 7, 24] [] hS (by kernel_rfl) (by kernel_rfl) (by kernel_rfl) (by kernel_rfl) (fun ⟨x7_7, x7_15, x7_17⟩ _ => by kernel_rfl) (by kernel_rfl) (by kernel_rfl) ⟨(Ext.refl _ _).drew, fun _ => ⟨fun h => (by cases h), fun h => (by cases h), fun h => (by cases h), fun h => (by cases h), fun h => (by cases h), fun h => (by cases h), trivial⟩, fun h => by cases h⟩ ?_ ?_ ?_
  ·rintro D ⟨x7_7, x7_15, x7_17⟩ w' ⟨hE, _, _⟩ x hx _ _
   refine AllI.mem ?_ x hx
   exact (.cons (.cons (((hF.f.ext hE (by simp)) : Blk w' F.fb 35 (#[(Pv F.s0), (Pv F.s1), .slice F.pb F.L.length F.pc, .slice F.qb F.L.length F.qc, .slice F.bb F.bn F.bc])).cell 2 rfl) .nil) (.cons (.cons (ix_own (j := i) ((hF.P.ext hE (by simp))) (by kernel_rfl) (by kernel_rfl) rfl hi) .nil) (.cons (.cons (((hF.P.ext hE (by simp)) : OwnV w' 47 1 (.slice F.pb F.L.length F.pc) F.L.length (F.L.map fun r => r.t.ptr)).cellAt _ (by simp [hr, Tr.ptr])) .nil) (.cons (.cons (((hF.f.ext hE (by simp)) : Blk w' F.fb 35 (#[(Pv F.s0), (Pv F.s1), .slice F.pb F.L.length F.pc, .slice F.qb F.L.length F.qc, .slice F.bb F.bn F.bc])).cell 2 rfl) .nil) (.cons (.cons (ix_own (j := i) ((hF.P.ext hE (by simp))) (by kernel_rfl) (by kernel_rfl) rfl hi) .nil) (.cons (.cons (((hF.P.ext hE (by simp)) : OwnV w' 47 1 (.slice F.pb F.L.length F.pc) F.L.length (F.L.map fun r => r.t.ptr)).cellAt _ (by simp [hr, Tr.ptr])) .nil) .nil))))))
  ·refine (.cons ?_ (.cons ?_ (.cons ?_ (.cons ?_ .nil))))
   ·rintro D ⟨x7_7, x7_15, x7_17⟩ w' ⟨hE, hA, hB⟩ hDi hdp hnd
    have hDf : D 18 = false := hnd 18 (by simp) (by decide)
    obtain ⟨hA7, hA15, hA17, hP7_15, hP7_17, hP15_17, _⟩ := hA hDf
    refine upon_call (f := 37) (vs := [(Pv r.t.b)]) (cap := #[]) (d := (some 32)) (by kernel_rfl) Try.call37 #[(Pv r.t.b)] (by kernel_rfl) (Cursor_any r.t.b w') ?_
    rintro _ wc ⟨rfl, hwc⟩
    have hEn : Ext [] w' wc := by rw [hwc]; exact (Ext.refl _ _).alloc _
    refine ⟨_, rfl, (w'.heap.size, x7_15, x7_17), by kernel_rfl, by kernel_rfl, hE.trans0 hEn, fun _ => ⟨fun _ => ⟨(by rw [hwc]; exact Blk.new _ _ _), hE.size⟩, fun h => ⟨(hA15 h).1.ext hEn (by simp), (hA15 h).2⟩, fun h => ⟨(hA17 h).1.ext hEn (by simp), (hA17 h).2⟩, fun _ h => (Nat.ne_of_gt (hA15 h).1.lt), fun _ h => (Nat.ne_of_gt (hA17 h).1.lt), hP15_17, trivial⟩, fun h => ?_⟩
    rw [show setS D 7 18 = D 18 from rfl, hDf] at h; cases h
   ·rintro D ⟨x7_7, x7_15, x7_17⟩ w' ⟨hE, hA, hB⟩ hDi hdp hnd
    have hDf : D 18 = false := hnd 18 (by simp) (by decide)
    obtain ⟨hA7, hA15, hA17, hP7_15, hP7_17, hP15_17, _⟩ := hA hDf
    refine upon_call (f := 37) (vs := [(Pv r.t.b)]) (cap := #[]) (d := (some 40)) (by kernel_rfl) Try.call37 #[(Pv r.t.b)] (by kernel_rfl) (Cursor_any r.t.b w') ?_
    rintro _ wc ⟨rfl, hwc⟩
    have hEn : Ext [] w' wc := by rw [hwc]; exact (Ext.refl _ _).alloc _
    refine ⟨_, rfl, (x7_7, w'.heap.size, x7_17), by kernel_rfl, by kernel_rfl, hE.trans0 hEn, fun _ => ⟨fun h => ⟨(hA7 h).1.ext hEn (by simp), (hA7 h).2⟩, fun _ => ⟨(by rw [hwc]; exact Blk.new _ _ _), hE.size⟩, fun h => ⟨(hA17 h).1.ext hEn (by simp), (hA17 h).2⟩, fun h _ => (Nat.ne_of_lt (hA7 h).1.lt), hP7_17, fun _ h => (Nat.ne_of_gt (hA17 h).1.lt), trivial⟩, fun h => ?_⟩
    rw [show setS D 15 18 = D 18 from rfl, hDf] at h; cases h
   ·rintro D ⟨x7_7, x7_15, x7_17⟩ w' ⟨hE, hA, hB⟩ hDi hdp hnd
    have hDf : D 18 = false := hnd 18 (by simp) (by decide)
    obtain ⟨hA7, hA15, hA17, hP7_15, hP7_17, hP15_17, _⟩ := hA hDf
    have hEn : Ext [] w' (w'.alloc (.cells #[.pointer none, .pointer none] 92)) := (Ext.refl _ _).alloc _
    refine upon_box (nb := w'.heap.size) (cs := #[.pointer none, .pointer none]) (T := 92) (d := (some 8)) (by kernel_rfl) rfl ⟨(x7_7, x7_15, w'.heap.size), by kernel_rfl, by kernel_rfl, hE.trans0 hEn, fun _ => ⟨fun h => ⟨(hA7 h).1.ext hEn (by simp), (hA7 h).2⟩, fun h => ⟨(hA15 h).1.ext hEn (by simp), (hA15 h).2⟩, fun _ => ⟨Blk.new _ _ _, hE.size⟩, hP7_15, fun h _ => (Nat.ne_of_lt (hA7 h).1.lt), fun h _ => (Nat.ne_of_lt (hA15 h).1.lt), trivial⟩, fun h => ?_⟩
    rw [show setS D 17 18 = D 18 from rfl, hDf] at h; cases h
   ·rintro D ⟨x7_7, x7_15, x7_17⟩ w' ⟨hE, hA, hB⟩ hDi hdp hnd
    obtain ⟨hA7, hA15, hA17, hP7_15, hP7_17, hP15_17, _⟩ := hA hDi
    obtain ⟨hf7, hs7⟩ := hA7 (hdp 7 (by simp) (by decide))
    obtain ⟨hf15, hs15⟩ := hA15 (hdp 15 (by simp) (by decide))
    obtain ⟨hf17, hs17⟩ := hA17 (hdp 17 (by simp) (by decide))
    have hq7_15 := hP7_15 (hdp 7 (by simp) (by decide)) (hdp 15 (by simp) (by decide))
    have hq7_17 := hP7_17 (hdp 7 (by simp) (by decide)) (hdp 17 (by simp) (by decide))
    have hq15_17 := hP15_17 (hdp 15 (by simp) (by decide)) (hdp 17 (by simp) (by decide))
    refine upon_store (b := x7_17) (off := 0) (vs := [(Pv x7_7), (Pv x7_15)]) (by kernel_rfl) hf17 (by simp) ⟨(x7_7, x7_15, x7_17), by kernel_rfl, by kernel_rfl, hE.updIn (.inr hs17) _ _, fun h => ?_, fun _ => ⟨⟨hf7.updNe (hq7_17.symm) _ _, hs7⟩, ⟨hf15.updNe (hq15_17.symm) _ _, hs15⟩, ⟨hf17.upd _ _, hs17⟩, hq7_15, hq7_17, hq15_17, trivial⟩⟩
    rw [setS_self] at h; cases h
  rintro D ⟨x7_7, x7_15, x7_17⟩ a wz9 hS hall ⟨hEz9, _, hB⟩
  obtain ⟨⟨hz9_7, hy9_7⟩, ⟨hz9_15, hy9_15⟩, ⟨hz9_17, hy9_17⟩, hx9_7_15, hx9_7_17, hx9_15_17, _⟩ := hB (hall 18 (by simp))
  have hB10 := hF.f.ext hEz9 (by simp)
  have hB12 := hF.R.ext hEz9 (by simp)
  have hw9_7 : w.heap.size ≤ x7_7 := Nat.le_trans hE1.size hy9_7
  have hw9_15 : w.heap.size ≤ x7_15 := Nat.le_trans hE1.size hy9_15
  have hw9_17 : w.heap.size ≤ x7_17 := Nat.le_trans hE1.size hy9_17
  have hE13 := hE1.trans0 hEz9
  have hG14 : Ext [] w1 wz9 := (Ext.refl [] w1).trans0 hEz9
  replace hS := hS.kp [(0, v), (1, mv), (4, .bool false), (5, (Pv F.fb)), (6, .bool true), (20, .bool false), (7, I6 ↑i), (24, .bool false), (8, (Pv x7_17))]
  have hyn15 : w1.heap.size ≤ x7_7 := Nat.le_trans (Ext.refl [] w1).size hy9_7
  have hyn16 : w1.heap.size ≤ x7_15 := Nat.le_trans (Ext.refl [] w1).size hy9_15
  refine hK8 _ _ ?_
  refine sq fun K17 hK17 => ?_
  refine region_set (G := Nat × Nat × Nat) wide_wide [.q .p, .q .p, .q .p, .q (.ld (.slice F.qb F.L.length F.qc)), .q .p, .q (.run ((Po (bof (.slice F.qb F.L.length F.qc)) (0 + i * 1)))), .q (.ld ((Pv r.rb))), .q .p, .e, .q .p, .q .p, .q .p, .q (.ld (.slice F.qb F.L.length F.qc)), .q .p, .q (.run ((Po (bof (.slice F.qb F.L.length F.qc)) (0 + i * 1)))), .q (.ld ((Pv r.rb))), .q .p, .e, .q .p, .e, .e] [0, 1, 3, 7, 0, 31, 63, 127, 255, 0, 512, 1536, 3584, 0, 15872, 32256, 65024, 130560, 262143, 0, 1048575] [8, 17, 19, 20] (fun ⟨x8_8, x8_17, x8_19⟩ => ([(0, v), (1, mv), (4, .bool false), (5, (Pv F.fb)), (6, .bool true), (20, .bool false), (7, I6 ↑i), (24, .bool false), (8, (Pv x7_17)), (42, (Pv F.fb)), (43, (Pv F.fb)), (44, (Po F.fb 3)), (45, .slice F.qb F.L.length F.qc), (46, I6 ↑i), (47, (Po (bof (.slice F.qb F.L.length F.qc)) (0 + i * 1))), (48, (Pv r.rb)), (49, .agg #[(Pv r.rb), .slice none 0 0]), (50, (Pv x8_8)), (51, (Pv F.fb)), (52, (Pv F.fb)), (53, (Po F.fb 3)), (54, .slice F.qb F.L.length F.qc), (55, I6 ↑i), (56, (Po (bof (.slice F.qb F.L.length F.qc)) (0 + i * 1))), (57, (Pv r.rb)), (58, .agg #[(Pv r.rb), .slice none 0 0]), (59, (Pv x8_17)), (60, .agg #[(Pv x8_8), (Pv x8_17)]), (9, (Pv x8_19))] : Fm)) (fun D ⟨x8_8, x8_17, x8_19⟩ w' => Ext [] wz9 w' ∧ (D 20 = false → (D 8 = true → (Blk w' x8_8 85 (#[(Pv r.rb), .slice none 0 0]) ∧ wz9.heap.size ≤ x8_8)) ∧ (D 17 = true → (Blk w' x8_17 85 (#[(Pv r.rb), .slice none 0 0]) ∧ wz9.heap.size ≤ x8_17)) ∧ (D 19 = true → (Blk w' x8_19 93 (#[.pointer none, .pointer none]) ∧ wz9.heap.size ≤ x8_19)) ∧ (D 8 = true → D 17 = true → x8_8 ≠ x8_17) ∧ (D 8 = true → D 19 = true → x8_8 ≠ x8_19) ∧ (D 17 = true → D 19 = true → x8_17 ≠ x8_19) ∧ True) ∧ (D 20 = true → (Blk w' x8_8 85 (#[(Pv r.rb), .slice none 0 0]) ∧ wz9.heap.size ≤ x8_8) ∧ (Blk w' x8_17 85 (#[(Pv r.rb), .slice none 0 0]) ∧ wz9.heap.size ≤ x8_17) ∧ (Blk w' x8_19 93 (#[(Pv x8_8), (Pv x8_17)]) ∧ wz9.heap.size ≤ x8_19) ∧ x8_8 ≠ x8_17 ∧ x8_8 ≠ x8_19 ∧ x8_17 ≠ x8_19 ∧ True)) (fun ⟨x8_8, x8_17, x8_19⟩ w' => [(3, [w'.cell? ⟨F.fb, 3, none⟩ = some (.slice F.qb F.L.length F.qc)]), (5, [Ru Try.prog (vS (Instr.indexAt 33 (.slice F.qb F.L.length F.qc) (I6 ↑i))) ((Po (bof (.slice F.qb F.L.length F.qc)) (0 + i * 1))) w']), (6, [w'.cell? ⟨bof (.slice F.qb F.L.length F.qc), 0 + i * 1, none⟩ = some ((Pv r.rb))]), (12, [w'.cell? ⟨F.fb, 3, none⟩ = some (.slice F.qb F.L.length F.qc)]), (14, [Ru Try.prog (vS (Instr.indexAt 33 (.slice F.qb F.L.length F.qc) (I6 ↑i))) ((Po (bof (.slice F.qb F.L.length F.qc)) (0 + i * 1))) w']), (15, [w'.cell? ⟨bof (.slice F.qb F.L.length F.qc), 0 + i * 1, none⟩ = some ((Pv r.rb))])]) (0, 0, 0) [0, 1, 4, 5, 6, 20, 7, 24, 8] [] hS (by kernel_rfl) (by kernel_rfl) (by kernel_rfl) (by kernel_rfl) (fun ⟨x8_8, x8_17, x8_19⟩ _ => by kernel_rfl) (by kernel_rfl) (by kernel_rfl) ⟨(Ext.refl _ _).drew, fun _ => ⟨fun h => (by cases h), fun h => (by cases h), fun h => (by cases h), fun h => (by cases h), fun h => (by cases h), fun h => (by cases h), trivial⟩, fun h => by cases h⟩ ?_ ?_ ?_
  ·rintro D ⟨x8_8, x8_17, x8_19⟩ w' ⟨hE, _, _⟩ x hx _ _
   refine AllI.mem ?_ x hx
   exact (.cons (.cons (((hB10.ext hE (by simp)) : Blk w' F.fb 35 (#[(Pv F.s0), (Pv F.s1), .slice F.pb F.L.length F.pc, .slice F.qb F.L.length F.qc, .slice F.bb F.bn F.bc])).cell 3 rfl) .nil) (.cons (.cons (ix_own (j := i) ((hB12.ext hE (by simp))) (by kernel_rfl) (by kernel_rfl) rfl hi) .nil) (.cons (.cons (((hB12.ext hE (by simp)) : OwnV w' 29 1 (.slice F.qb F.L.length F.qc) F.L.length (F.L.map Rf.ptr)).cellAt _ (by simp [hr, Rf.ptr])) .nil) (.cons (.cons (((hB10.ext hE (by simp)) : Blk w' F.fb 35 (#[(Pv F.s0), (Pv F.s1), .slice F.pb F.L.length F.pc, .slice F.qb F.L.length F.qc, .slice F.bb F.bn F.bc])).cell 3 rfl) .nil) (.cons (.cons (ix_own (j := i) ((hB12.ext hE (by simp))) (by kernel_rfl) (by kernel_rfl) rfl hi) .nil) (.cons (.cons (((hB12.ext hE (by simp)) : OwnV w' 29 1 (.slice F.qb F.L.length F.qc) F.L.length (F.L.map Rf.ptr)).cellAt _ (by simp [hr, Rf.ptr])) .nil) .nil))))))
  ·refine (.cons ?_ (.cons ?_ (.cons ?_ (.cons ?_ .nil))))
   ·rintro D ⟨x8_8, x8_17, x8_19⟩ w' ⟨hE, hA, hB⟩ hDi hdp hnd
    have hDf : D 20 = false := hnd 20 (by simp) (by decide)
    obtain ⟨hA8, hA17, hA19, hP8_17, hP8_19, hP17_19, _⟩ := hA hDf
    have hEn : Ext [] w' (w'.alloc (.cells #[(Pv r.rb), .slice none 0 0] 85)) := (Ext.refl _ _).alloc _
    refine upon_box (nb := w'.heap.size) (cs := #[(Pv r.rb), .slice none 0 0]) (T := 85) (d := (some 50)) (by kernel_rfl) rfl ⟨(w'.heap.size, x8_17, x8_19), by kernel_rfl, by kernel_rfl, hE.trans0 hEn, fun _ => ⟨fun _ => ⟨Blk.new _ _ _, hE.size⟩, fun h => ⟨(hA17 h).1.ext hEn (by simp), (hA17 h).2⟩, fun h => ⟨(hA19 h).1.ext hEn (by simp), (hA19 h).2⟩, fun _ h => (Nat.ne_of_gt (hA17 h).1.lt), fun _ h => (Nat.ne_of_gt (hA19 h).1.lt), hP17_19, trivial⟩, fun h => ?_⟩
    rw [show setS D 8 20 = D 20 from rfl, hDf] at h; cases h
   ·rintro D ⟨x8_8, x8_17, x8_19⟩ w' ⟨hE, hA, hB⟩ hDi hdp hnd
    have hDf : D 20 = false := hnd 20 (by simp) (by decide)
    obtain ⟨hA8, hA17, hA19, hP8_17, hP8_19, hP17_19, _⟩ := hA hDf
    have hEn : Ext [] w' (w'.alloc (.cells #[(Pv r.rb), .slice none 0 0] 85)) := (Ext.refl _ _).alloc _
    refine upon_box (nb := w'.heap.size) (cs := #[(Pv r.rb), .slice none 0 0]) (T := 85) (d := (some 59)) (by kernel_rfl) rfl ⟨(x8_8, w'.heap.size, x8_19), by kernel_rfl, by kernel_rfl, hE.trans0 hEn, fun _ => ⟨fun h => ⟨(hA8 h).1.ext hEn (by simp), (hA8 h).2⟩, fun _ => ⟨Blk.new _ _ _, hE.size⟩, fun h => ⟨(hA19 h).1.ext hEn (by simp), (hA19 h).2⟩, fun h _ => (Nat.ne_of_lt (hA8 h).1.lt), hP8_19, fun _ h => (Nat.ne_of_gt (hA19 h).1.lt), trivial⟩, fun h => ?_⟩
    rw [show setS D 17 20 = D 20 from rfl, hDf] at h; cases h
   ·rintro D ⟨x8_8, x8_17, x8_19⟩ w' ⟨hE, hA, hB⟩ hDi hdp hnd
    have hDf : D 20 = false := hnd 20 (by simp) (by decide)
    obtain ⟨hA8, hA17, hA19, hP8_17, hP8_19, hP17_19, _⟩ := hA hDf
    have hEn : Ext [] w' (w'.alloc (.cells #[.pointer none, .pointer none] 93)) := (Ext.refl _ _).alloc _
    refine upon_box (nb := w'.heap.size) (cs := #[.pointer none, .pointer none]) (T := 93) (d := (some 9)) (by kernel_rfl) rfl ⟨(x8_8, x8_17, w'.heap.size), by kernel_rfl, by kernel_rfl, hE.trans0 hEn, fun _ => ⟨fun h => ⟨(hA8 h).1.ext hEn (by simp), (hA8 h).2⟩, fun h => ⟨(hA17 h).1.ext hEn (by simp), (hA17 h).2⟩, fun _ => ⟨Blk.new _ _ _, hE.size⟩, hP8_17, fun h _ => (Nat.ne_of_lt (hA8 h).1.lt), fun h _ => (Nat.ne_of_lt (hA17 h).1.lt), trivial⟩, fun h => ?_⟩
    rw [show setS D 19 20 = D 20 from rfl, hDf] at h; cases h
   ·rintro D ⟨x8_8, x8_17, x8_19⟩ w' ⟨hE, hA, hB⟩ hDi hdp hnd
    obtain ⟨hA8, hA17, hA19, hP8_17, hP8_19, hP17_19, _⟩ := hA hDi
    obtain ⟨hf8, hs8⟩ := hA8 (hdp 8 (by simp) (by decide))
    obtain ⟨hf17, hs17⟩ := hA17 (hdp 17 (by simp) (by decide))
    obtain ⟨hf19, hs19⟩ := hA19 (hdp 19 (by simp) (by decide))
    have hq8_17 := hP8_17 (hdp 8 (by simp) (by decide)) (hdp 17 (by simp) (by decide))
    have hq8_19 := hP8_19 (hdp 8 (by simp) (by decide)) (hdp 19 (by simp) (by decide))
    have hq17_19 := hP17_19 (hdp 17 (by simp) (by decide)) (hdp 19 (by simp) (by decide))
    refine upon_store (b := x8_19) (off := 0) (vs := [(Pv x8_8), (Pv x8_17)]) (by kernel_rfl) hf19 (by simp) ⟨(x8_8, x8_17, x8_19), by kernel_rfl, by kernel_rfl, hE.updIn (.inr hs19) _ _, fun h => ?_, fun _ => ⟨⟨hf8.updNe (hq8_19.symm) _ _, hs8⟩, ⟨hf17.updNe (hq17_19.symm) _ _, hs17⟩, ⟨hf19.upd _ _, hs19⟩, hq8_17, hq8_19, hq17_19, trivial⟩⟩
    rw [setS_self] at h; cases h
  rintro D ⟨x8_8, x8_17, x8_19⟩ a wz18 hS hall ⟨hEz18, _, hB⟩
  obtain ⟨⟨hz18_8, hy18_8⟩, ⟨hz18_17, hy18_17⟩, ⟨hz18_19, hy18_19⟩, hx18_8_17, hx18_8_19, hx18_17_19, _⟩ := hB (hall 20 (by simp))
  have hB22 := hz9_7.ext hEz18 (by simp)
  have hB23 := hz9_15.ext hEz18 (by simp)
  have hB24 := hz9_17.ext hEz18 (by simp)
  have hw18_8 : w.heap.size ≤ x8_8 := Nat.le_trans hE13.size hy18_8
  have hw18_17 : w.heap.size ≤ x8_17 := Nat.le_trans hE13.size hy18_17
  have hw18_19 : w.heap.size ≤ x8_19 := Nat.le_trans hE13.size hy18_19
  have hE25 := hE13.trans0 hEz18
  have hG26 : Ext [] w1 wz18 := hG14.trans0 hEz18
  replace hS := hS.kp [(0, v), (1, mv), (4, .bool false), (5, (Pv F.fb)), (6, .bool true), (20, .bool false), (7, I6 ↑i), (24, .bool false), (8, (Pv x7_17)), (9, (Pv x8_19))]
  have hyn27 : w1.heap.size ≤ x8_8 := Nat.le_trans hG14.size hy18_8
  have hyn28 : w1.heap.size ≤ x8_17 := Nat.le_trans hG14.size hy18_17
  refine hK17 _ _ ?_
  refine sq fun K29 hK29 => ?_
  refine sq fun K30 hK30 => ?_
  refine rgn 8 ?_
  refine sg wide_wide [.p, .ld ((Pv x7_7)), .p, .p, .p, .ld ((Pv x7_15)), .p, .p] [wz18.cell? ⟨x7_17, 0, none⟩ = some ((Pv x7_7)), wz18.cell? ⟨x7_17, 1, none⟩ = some ((Pv x7_15))] [(0, v), (1, mv), (4, .bool false), (5, (Pv F.fb)), (6, .bool true), (20, .bool false), (7, I6 ↑i), (24, .bool false), (8, (Pv x7_17)), (9, (Pv x8_19)), (68, .bool false)] 8 0 hS (.cons (hB24.cell 0 rfl) (.cons (hB24.cell 1 rfl) .nil)) fun a hS => ?_
  refine seg_end ?_
  refine hK30 _ _ ?_
  refine cond_f hS rfl ?_
  refine wpIn_skip ?_
  refine hK29 _ _ ?_
  refine sq fun K31 hK31 => ?_
  refine sq fun K32 hK32 => ?_
  refine rgn 1 ?_
  refine sg wide_wide [.p] [] [(0, v), (1, mv), (4, .bool false), (5, (Pv F.fb)), (6, .bool true), (20, .bool false), (7, I6 ↑i), (24, .bool false), (8, (Pv x7_17)), (9, (Pv x8_19)), (68, .bool false), (10, I6 0)] 1 0 hS .nil fun a hS => ?_
  refine seg_end ?_
  refine hK32 _ _ ?_
  refine wpIn_block ?_
  have he1 := hG26
  have hS0 : Sp2 w1 wz18 x7_7 x8_8 r none := ⟨⟨[], r, 0, 0, none, 0, .nil, ⟨hB22, .inl ⟨rfl, rfl, rfl⟩, .inr (Nat.le_trans hyn15 (Nat.le_refl _)), fun x hx => (by cases hx), he1⟩, ⟨hz18_8, .inl ⟨rfl, rfl, rfl⟩⟩⟩, hyn27⟩
  have hS1 : Sp2 w1 wz18 x7_15 x8_17 r none := ⟨⟨[], r, 0, 0, none, 0, .nil, ⟨hB23, .inl ⟨rfl, rfl, rfl⟩, .inr (Nat.le_trans hyn16 (Nat.le_refl _)), fun x hx => (by cases hx), he1⟩, ⟨hz18_17, .inl ⟨rfl, rfl, rfl⟩⟩⟩, hyn28⟩
  have hcne : x7_7 ≠ x7_15 := hx9_7_15
  have hrne : x8_8 ≠ x8_17 := hx18_8_17
  refine loop_ghost (fun ((k, bs0, bs1) : Nat × Option Addr × Option Addr) a' w' => St 142 [] [(1, mv), (5, (Pv F.fb)), (8, (Pv x7_17)), (9, (Pv x8_19)), (10, I6 ↑k)] a' ∧ k ≤ ms.length ∧ Sp2 w1 w' x7_7 x8_8 r bs0 ∧ Sp2 w1 w' x7_15 x8_17 r bs1 ∧ (∀ x ∈ oa bs0, x ∉ oa bs1) ∧ Blk w' x7_17 92 #[(Pv x7_7), (Pv x7_15)] ∧ Blk w' x8_19 93 #[(Pv x8_8), (Pv x8_17)] ∧ Ext [] w w') (fun ((k, bs0, bs1) : Nat × Option Addr × Option Addr) => ms.length - k) (0, none, none) ⟨hS.keepTo [1, 5, 8, 9, 10] (by kernel_rfl), Nat.zero_le _, hS0, hS1, (fun x hx => by cases hx), hB24, hz18_19, hE25⟩ ?_
  rintro ⟨k, bs0, bs1⟩ a w2 ⟨hS, hkl, hS0, hS1, hd01, hap, har, hEx⟩
  have hrd := hms.ext0 hEx
  refine sq fun K33 hK33 => ?_
  refine sq fun K34 hK34 => ?_
  refine rgn 4 ?_
  refine sg wide_wide [.p, .p, .run (I6 ↑ms.length), .p] [Ru Try.prog (vS (Builtin.len_ #[80] 3 #[mv])) (I6 ↑ms.length) w2] [(1, mv), (5, (Pv F.fb)), (8, (Pv x7_17)), (9, (Pv x8_19)), (10, I6 ↑k), (72, .bool (decide ((↑k : Int) < ↑ms.length)))] 4 0 hS (.cons (run_len_rd (e := 88) hrd (by kernel_rfl)) .nil) fun a hS => ?_
  refine seg_end ?_
  refine hK34 _ _ ?_
  refine cond_b hS rfl (fun hb35 => ?_) (fun hb35 => ?_)
  ·
   replace hb35 := of_decide_eq_true hb35
   have hk : k < ms.length := by omega
   obtain ⟨m, hm⟩ : ∃ m, ms[k]? = some m := ⟨_, List.getElem?_eq_getElem hk⟩
   refine wpIn_skip ?_
   refine hK33 _ _ ?_
   refine sq fun K36 hK36 => ?_
   refine wpIn_block ?_
   refine sq fun K37 hK37 => ?_
   rcases (show m.1 % 2 = 0 ∨ m.1 % 2 = 1 by omega) with hk2 | hk2
   ·
    refine rgn 7 ?_
    refine sg wide_wide [.p, .p, .run ((Po (bof mv) (oof mv + k * 3))), .p, .ld (I6 m.1), .run (I6 0), .p] [Ru Try.prog (vS (Instr.indexAt 80 (mv) (I6 ↑k))) ((Po (bof mv) (oof mv + k * 3))) w2, w2.cell? ⟨bof mv, oof mv + k * 3, none⟩ = some (I6 m.1), Ru Try.prog (vS (do eqGuard .and 3 (.tmp 79) (.const (I6 1)) (I6 m.1) (I6 1); binOp .and 3 (I6 m.1) (I6 1))) (I6 0) w2] [(1, mv), (5, (Pv F.fb)), (8, (Pv x7_17)), (9, (Pv x8_19)), (10, I6 ↑k), (11, I6 0)] 7 0 hS (.cons (ix_rd (e := 88) (j := k) hrd (by kernel_rfl) (by kernel_rfl) rfl hk) (.cons (hrd.cellAt (k * 3 + 0) (by omega) (mvc_at ms k 0 m hm (by omega))) (.cons (and_k hk2) .nil))) fun a hS => ?_
    refine seg_end ?_
    refine hK37 _ _ ?_
    refine sq fun K38 hK38 => ?_
    refine sq fun K39 hK39 => ?_
    refine region_gh2 (G := (Option Addr) × World) wide_wide [.q .p, .q .p, .q (.ld ((Pv x7_7))), .q .p, .q .p, .q (.ld ((Pv x8_8))), .q .p, .q .p, .q (.run ((Po (bof mv) (oof mv + k * 3)))), .q (.lds [I6 m.1, I6 m.2.1, I6 m.2.2]), .e, .q .p] [0, 0, 0, 0, 0, 0, 0, 0, 0, 0, 0, 1] [0, 0, 0, 0, 0, 0, 0, 0, 0, 0, 0, 1] [0, 1, 3, 0, 8, 24, 0, 0, 192, 448, 1023, 2047] [10] [(10, 0)] 1 (fun ⟨bm, wm⟩ => ([(1, mv), (5, (Pv F.fb)), (8, (Pv x7_17)), (9, (Pv x8_19)), (10, I6 ↑k), (11, I6 0), (81, I6 0), (82, (Pv x7_17)), (83, (Pv x7_7)), (84, I6 0), (85, (Pv x8_19)), (86, (Pv x8_8)), (87, mv), (88, I6 ↑k), (89, (Po (bof mv) (oof mv + k * 3))), (90, .agg #[I6 m.1, I6 m.2.1, I6 m.2.2]), (91, .bool true), (92, .bool false)] : Fm)) (fun ⟨bm, wm⟩ => [w2.drew, wm]) (w2.drew) (fun e ⟨bm, wm⟩ => hAt [True, (Sp2 w1 wm x7_7 x8_8 r bm) ∧ (Ext (x7_7 :: x8_8 :: oa bs0) (w2.drew) wm) ∧ (∀ x ∈ oa bm, x ∈ oa bs0 ∨ (w2.drew).heap.size ≤ x) ∧ True] e) (fun ⟨bm, wm⟩ w' => [(2, [w'.cell? ⟨x7_17, 0, none⟩ = some ((Pv x7_7))]), (5, [w'.cell? ⟨x8_19, 0, none⟩ = some ((Pv x8_8))]), (8, [Ru Try.prog (vS (Instr.indexAt 80 (mv) (I6 ↑k))) ((Po (bof mv) (oof mv + k * 3))) w']), (9, [w'.cell? ⟨bof mv, oof mv + k * 3, none⟩ = some (I6 m.1), w'.cell? ⟨bof mv, oof mv + k * 3 + 1, none⟩ = some (I6 m.2.1), w'.cell? ⟨bof mv, oof mv + k * 3 + 2, none⟩ = some (I6 m.2.2)])]) (none, w2) [1, 5, 8, 9, 10, 11] [] hS (by kernel_rfl) (by kernel_rfl) (by kernel_rfl) (by kernel_rfl) (fun ⟨bm, wm⟩ _ => by kernel_rfl) (by kernel_rfl) (by kernel_rfl) (by kernel_rfl) trivial ?_ (by kernel_rfl) ?_ ?_
    ·rintro e ⟨bm, wm⟩ w' hw hH
     refine (.cons ?_ (.cons ?_ (.cons ?_ (.cons ?_ .nil))))
     ·intro h1 h2
      obtain rfl : e = 0 := Nat.le_antisymm h2 h1
      have hwe : w2.drew = w' := (hw.trans (by kernel_rfl)).symm
      subst hwe
      clear hH
      exact (.cons ((hap.drew : Blk w2.drew x7_17 92 (#[(Pv x7_7), (Pv x7_15)])).cell 0 rfl) .nil)
     ·intro h1 h2
      obtain rfl : e = 0 := Nat.le_antisymm h2 h1
      have hwe : w2.drew = w' := (hw.trans (by kernel_rfl)).symm
      subst hwe
      clear hH
      exact (.cons ((har.drew : Blk w2.drew x8_19 93 (#[(Pv x8_8), (Pv x8_17)])).cell 0 rfl) .nil)
     ·intro h1 h2
      obtain rfl : e = 0 := Nat.le_antisymm h2 h1
      have hwe : w2.drew = w' := (hw.trans (by kernel_rfl)).symm
      subst hwe
      clear hH
      exact (.cons (ix_rd (e := 88) (j := k) hrd (by kernel_rfl) (by kernel_rfl) rfl hk) .nil)
     ·intro h1 h2
      obtain rfl : e = 0 := Nat.le_antisymm h2 h1
      have hwe : w2.drew = w' := (hw.trans (by kernel_rfl)).symm
      subst hwe
      clear hH
      exact (.cons ((hrd.ext0 ((Ext.refl _ _).drew)).cellAt (k * 3 + 0) (by omega) (mvc_at ms k 0 m hm (by omega))) (.cons ((hrd.ext0 ((Ext.refl _ _).drew)).cellAt (k * 3 + 1) (by omega) (mvc_at ms k 1 m hm (by omega))) (.cons ((hrd.ext0 ((Ext.refl _ _).drew)).cellAt (k * 3 + 2) (by omega) (mvc_at ms k 2 m hm (by omega))) .nil)))
    ·refine (.cons ?eq40_10 .nil)
     ·rintro ⟨bm, wm⟩ hH
      clear hH
      refine eff_gh (w2.drew) (by kernel_rfl) ?_
      refine upon_call (f := 47) (vs := [(Pv x7_7), (Pv x8_8), .agg #[I6 m.1, I6 m.2.1, I6 m.2.2]]) (cap := #[]) (d := (some 91)) (by kernel_rfl) Try.call47 #[(Pv x7_7), (Pv x8_8), .agg #[I6 m.1, I6 m.2.1, I6 m.2.2]] (by kernel_rfl) (Sp2.moved hF.ok hrm (hS0.ext0 ((Ext.refl _ _).drew)) m.1 m.2.1 m.2.2) ?_
      rintro _ wm ⟨rfl, bm, hm1, hm2, hm3⟩
      exact ⟨_, rfl, ⟨(bm, wm), by kernel_rfl, by kernel_rfl, by kernel_rfl, ⟨hm1, hm2, hm3, trivial⟩⟩⟩
    rintro ⟨bm, wm⟩ a w41 hS hw42 hH
    obtain ⟨hm1, hm2, hm3, _⟩ := hH
    replace hw42 : w41 = wm := hw42.trans (by kernel_rfl)
    have hB43 := Blk.at' hw42 ((hap.drew : Blk w2.drew x7_17 92 (#[(Pv x7_7), (Pv x7_15)])).ext hm2 ((hS0.ext0 ((Ext.refl _ _).drew)).notin (hap.drew : Blk w2.drew x7_17 92 (#[(Pv x7_7), (Pv x7_15)])) (by decide) (by decide) (by decide)))
    have hB44 := Blk.at' hw42 ((har.drew : Blk w2.drew x8_19 93 (#[(Pv x8_8), (Pv x8_17)])).ext hm2 ((hS0.ext0 ((Ext.refl _ _).drew)).notin (har.drew : Blk w2.drew x8_19 93 (#[(Pv x8_8), (Pv x8_17)])) (by decide) (by decide) (by decide)))
    have hE45 : Ext [] w w41 := by rw [hw42]; exact (hEx.drew).trans hm2 (fun b hb => .inr (Nat.le_trans hE1.size (hS0.new b hb)))
    replace hS := hS.kp [(1, mv), (5, (Pv F.fb)), (8, (Pv x7_17)), (9, (Pv x8_19)), (10, I6 ↑k), (11, I6 0), (92, .bool false)]
    refine hK39 _ _ ?_
    refine cond_f hS rfl ?_
    refine wpIn_skip ?_
    refine hK38 _ _ ?_
    refine sq fun K46 hK46 => ?_
    have hT0 : Sp2 w1 w41 x7_7 x8_8 r bm := by rw [hw42]; exact hm1
    have hT1 : Sp2 w1 w41 x7_15 x8_17 r bs1 := by rw [hw42]; exact (hS1.ext0 ((Ext.refl _ _).drew)).other (hS0.ext0 ((Ext.refl _ _).drew)) hm2 hcne.symm hrne.symm (fun x hx hx' => hd01 x hx' hx)
    have hdd : ∀ x ∈ oa bm, x ∉ oa bs1 := fun x hx hx' => by
     rcases hm3 x hx with h | h
     ·exact hd01 x h hx'
     ·have h1 := hS1.lie x hx'
      have h2 : w2.heap.size ≤ x := h
      omega
    refine rgn 1 ?_
    refine sg wide_wide [.p] [] [(1, mv), (5, (Pv F.fb)), (8, (Pv x7_17)), (9, (Pv x8_19)), (10, I6 ↑k), (11, I6 0), (92, .bool false), (12, I6 0)] 1 0 hS .nil fun a hS => ?_
    refine seg_end ?_
    refine hK46 _ _ ?_
    refine wpIn_block ?_
    refine loop_ghost (fun (j : Nat) a' w' => St 142 [] [(1, mv), (5, (Pv F.fb)), (8, (Pv x7_17)), (9, (Pv x8_19)), (10, I6 ↑k), (12, I6 ↑j)] a' ∧ j ≤ 2 ∧ Ext [] w41 w') (fun (j : Nat) => 2 - j) 0 ⟨hS.keepTo [1, 5, 8, 9, 10, 12] (by kernel_rfl), by omega, Ext.refl _ _⟩ ?_
    rintro j a w4 ⟨hS, hj2, hE34⟩
    have hE4 := hE45.trans0 hE34
    have hap4 := hB43.ext hE34 (by simp)
    have har4 := hB44.ext hE34 (by simp)
    have hS0' := hT0.ext0 hE34
    have hS1' := hT1.ext0 hE34
    have hF4 := hF.ext0 hS0'.ext
    refine sq fun K47 hK47 => ?_
    refine sq fun K48 hK48 => ?_
    refine rgn 2 ?_
    refine sg wide_wide [.p, .p] [] [(1, mv), (5, (Pv F.fb)), (8, (Pv x7_17)), (9, (Pv x8_19)), (10, I6 ↑k), (12, I6 ↑j), (94, .bool (decide ((↑j : Int) < 2)))] 2 0 hS .nil fun a hS => ?_
    refine seg_end ?_
    refine hK48 _ _ ?_
    refine cond_b hS rfl (fun hb49 => ?_) (fun hb49 => ?_)
    ·
     replace hb49 := of_decide_eq_true hb49
     refine wpIn_skip ?_
     refine hK47 _ _ ?_
     refine sq fun K50 hK50 => ?_
     refine wpIn_block ?_
     refine sq fun K51 hK51 => ?_
     rcases (show j = 0 ∨ j = 1 by omega) with rfl | rfl
     ·
      obtain ⟨st, q, p, cap, pb, pc, hJ, hcu, hpc⟩ := hS0'.ex
      have hqm := hJ.mem hF4.ok hrm
      have hbd := hJ.bd hF4.ok hrm
      have hrtt := hF4.ok.tt hrm
      have hqtt := hF4.ok.tt hqm
      have hqi := (hF4.ok.one q hqm).ki
      have hqL := hF4.ok.at hqm
      refine rgn 6 ?_
      refine sg wide_wide [.p, .p, .ld ((Pv x8_8))] [w4.cell? ⟨x8_19, 0, none⟩ = some ((Pv x8_8))] [(1, mv), (5, (Pv F.fb)), (8, (Pv x7_17)), (9, (Pv x8_19)), (10, I6 ↑k), (12, I6 0), (99, (Pv x8_8))] 3 3 hS (.cons (har4.cell 0 rfl) .nil) fun a hS => ?_
      refine eff_call wide_wide (r := 2) (f := 50) (vs := [(Pv x8_8)]) (cap := #[]) (d := (some 100)) hS (by kernel_rfl) Try.call50 #[(Pv x8_8)] (by kernel_rfl) (Spot_any hF4.ok hrm hJ hpc.blk hpc.row) ?_
      rintro _ w5 ⟨rfl, hE50⟩
      refine ⟨_, rfl, fun a hS => ?_⟩
      have hE5 := hE4.trans0 hE50
      have hcu5 := hcu.mv0 hE50
      have hpc5 := hpc.ext0 hE50
      have hF5 := hF4.ext0 hE50
      have hcB5 := hcu5.blk
      have hcR5 := hcu5.row
      have hpR5 := hpc5.row
      have hB52 := hap4.ext hE50 (by simp)
      have hB54 := hF4.f.ext hE50 (by simp)
      have hB55 := hF4.P.ext hE50 (by simp)
      have hG57 : Ext [] w41 w5 := hE34.trans0 hE50
      have hrowq := (hF5.ok.one q hqm).row
      have hBq : Blk w5 q.rb 40 #[I6 q.k, I6 ↑q.i, I6 q.t.kd, I6 q.t.nn, I6 q.t.lk, I6 q.t.ls, I6 q.t.ll, I6 q.t.lr, q.kv, I6 q.t.tt] := (hF5.ok.one q hqm).blk
      have hTq : Blk w5 q.t.b 106 #[(Po (sOf F.s0 F.s1 q.k) 0), I6 q.t.num, I6 q.t.kd, I6 q.t.nn, I6 q.t.lk, I6 q.t.ls, I6 q.t.ll, I6 q.t.lr, q.t.ks, I6 q.t.wd, I6 q.t.lf, I6 q.t.tt, .bool q.t.fl] := (hF5.ok.one q hqm).ok.blk
      refine eff_box wide_wide (r := 1) (cs := #[.pointer none, I6 0, .slice none 0 0]) (T := 43) (d := (some 13)) hS (by kernel_rfl) fun a w58 hw59 hS => ?_
      have hn60 : x7_17 ≠ w5.heap.size := Nat.ne_of_lt hB52.lt
      have hn62 : F.fb ≠ w5.heap.size := Nat.ne_of_lt hB54.lt
      have hn63 : ∀ x ∈ ob (.slice F.pb F.L.length F.pc), w5.heap.size ≠ x := fun x hx => Nat.ne_of_gt (hB55.lie x hx)
      have hn65 : x7_7 ≠ w5.heap.size := Nat.ne_of_lt hcB5.lt
      have hn66 : ∀ x ∈ ob (.slice bm st.length cap), w5.heap.size ≠ x := fun x hx => Nat.ne_of_gt (hcR5.lie x hx)
      have hn67 : ∀ x ∈ ob (.slice pb st.length pc), w5.heap.size ≠ x := fun x hx => Nat.ne_of_gt (hpR5.lie x hx)
      have hn68 : q.rb ≠ w5.heap.size := Nat.ne_of_lt hBq.lt
      have hn69 : q.t.b ≠ w5.heap.size := Nat.ne_of_lt hTq.lt
      have hB70 := Blk.at' hw59 (hB52.alloc _)
      have hB72 := Blk.at' hw59 (hB54.alloc _)
      have hB73 := OwnV.at' hw59 (hB55.alloc _)
      have hB75 := Blk.at' hw59 (hcB5.alloc _)
      have hB76 := OwnV.at' hw59 (hcR5.alloc _)
      have hB77 := OwnV.at' hw59 (hpR5.alloc _)
      have hB78 := Blk.at' hw59 (hBq.alloc _)
      have hB79 := Blk.at' hw59 (hTq.alloc _)
      have hX80 : Ext [] w5 w58 := by rw [hw59]; exact (Ext.refl _ _).alloc _
      have hG81 : Ext [] w41 w58 := hG57.trans0 hX80
      have hB82 : Blk w58 (w5.heap.size) 43 #[.pointer none, I6 0, .slice none 0 0] := by rw [hw59]; exact Blk.new _ _ _
      have hs83 : w.heap.size ≤ w5.heap.size := hE5.size
      refine eff_store wide_wide (r := 0) (b := w5.heap.size) (off := 0) (vs := [(Pv q.rb), I6 p, .slice pb st.length pc]) hS (by kernel_rfl) hB82 (by simp) fun a w85 hw86 hS => ?_
      have hB87 := Blk.at' hw86 (hB70.updNe (Ne.symm hn60) _ _)
      have hB89 := Blk.at' hw86 (hB72.updNe (Ne.symm hn62) _ _)
      have hB90 := OwnV.at' hw86 (hB73.updNe hn63 _ _)
      have hB92 := Blk.at' hw86 (hB75.updNe (Ne.symm hn65) _ _)
      have hB93 := OwnV.at' hw86 (hB76.updNe hn66 _ _)
      have hB94 := OwnV.at' hw86 (hB77.updNe hn67 _ _)
      have hB95 := Blk.at' hw86 (hB78.updNe (Ne.symm hn68) _ _)
      have hB96 := Blk.at' hw86 (hB79.updNe (Ne.symm hn69) _ _)
      have hB97 : Blk w85 w5.heap.size 43 (#[(Pv q.rb), I6 p, .slice pb st.length pc]) := by rw [hw86]; exact hB82.upd _ _
      have hX98 : Ext [w5.heap.size] w58 w85 := by rw [hw86]; exact (Ext.refl _ _).updIn (.inl (by simp)) _ _
      have hG99 : Ext [] w41 w85 := hG81.trans hX98 (fun b hb => by simp at hb; subst hb; exact .inr hG57.size)
      refine seg_end ?_
      refine hK51 _ _ ?_
      refine sq fun K101 hK101 => ?_
      refine region_gh2 (G := (Option Addr) × Nat × World × World) wide_wide [.q .p, .q .p, .q (.ld ((Pv x7_7))), .q .p, .q .p, .e, .q .p, .q .p, .q .p, .q (.ld (.slice F.pb F.L.length F.pc)), .q .p, .q (.ld ((Pv q.rb))), .q .p, .q .p, .q (.ld (I6 ↑q.i)), .q (.run ((Po (bof (.slice F.pb F.L.length F.pc)) (0 + q.i * 1)))), .q (.ld ((Pv q.t.b))), .q (.run (.bool false)), .q .p, .q .p, .q .p, .q (.ld ((Pv x7_7))), .q .p, .q .p, .e, .q .p, .q (.ld (I6 p)), .q (.as (.bool false)), .q .p, .q .p, .q .p, .q .p, .q (.ld ((Pv x7_7))), .q .p, .q .p, .e, .q .p, .q (.ld (.slice pb st.length pc)), .e, .q .p, .q .p] [0, 0, 0, 0, 0, 0, 0, 0, 0, 0, 0, 0, 0, 0, 0, 0, 0, 1, 1, 1, 1, 1, 1, 1, 1, 1, 1, 2, 2, 2, 2, 2, 2, 2, 2, 2, 2, 2, 3, 4, 4] [0, 0, 0, 0, 0, 0, 1, 1, 1, 1, 1, 1, 1, 1, 1, 1, 1, 1, 1, 1, 1, 1, 1, 1, 1, 2, 2, 2, 2, 2, 2, 2, 2, 2, 2, 2, 3, 3, 3, 4, 4] [0, 1, 3, 7, 15, 31, 0, 64, 192, 448, 0, 1024, 3072, 7168, 15360, 32704, 65472, 131071, 262143, 524287, 1048575, 2097151, 4194303, 8388607, 16777215, 524287, 34078719, 134217727, 268435455, 536870911, 1073741823, 2147483647, 4294967295, 8589934591, 17179869183, 34359738367, 1073741823, 69793218559, 274877906943, 549755813887, 1099511627775] [5, 24, 35, 38] [(5, 0), (24, 1), (35, 2), (38, 3)] 4 (fun ⟨b2, c2, wt, wu⟩ => ([(1, mv), (5, (Pv F.fb)), (8, (Pv x7_17)), (9, (Pv x8_19)), (10, I6 ↑k), (12, I6 0), (13, (Pv w5.heap.size)), (101, I6 0), (102, (Pv x7_17)), (103, (Pv x7_7)), (104, (Pv x7_7)), (105, (Pv x7_7)), (106, (Pv q.t.b)), (107, (Pv F.fb)), (108, (Pv F.fb)), (109, (Po F.fb 2)), (110, .slice F.pb F.L.length F.pc), (111, (Pv w5.heap.size)), (112, (Pv q.rb)), (113, (Pv q.rb)), (114, (Po q.rb 1)), (115, I6 ↑q.i), (116, (Po (bof (.slice F.pb F.L.length F.pc)) (0 + q.i * 1))), (117, (Pv q.t.b)), (118, .bool false), (119, .bool false), (120, I6 0), (121, (Pv x7_17)), (122, (Pv x7_7)), (123, (Pv x7_7)), (124, (Pv x7_7)), (125, I6 p), (126, (Po w5.heap.size 1)), (127, I6 p), (128, .bool false), (129, .bool false), (130, .bool false), (131, I6 0), (132, (Pv x7_17)), (133, (Pv x7_7)), (134, (Pv x7_7)), (135, (Pv x7_7)), (136, .slice b2 st.length c2), (137, (Po w5.heap.size 2)), (138, .slice pb st.length pc), (139, .bool true), (140, .bool false), (141, .bool false)] : Fm)) (fun ⟨b2, c2, wt, wu⟩ => [w85.drew, w85.drew, w85.drew, wt, wu]) (w85.drew) (fun e ⟨b2, c2, wt, wu⟩ => hAt [True, True, True, (OwnV wt 3 1 (.slice b2 st.length c2) st.length (kidsOf st)) ∧ (Ext [] (w85.drew) wt) ∧ True, (OwnV wt 3 1 (.slice b2 st.length c2) st.length (kidsOf st)) ∧ (Ext [] (w85.drew) wt) ∧ (Ext [] wt wu) ∧ True] e) (fun ⟨b2, c2, wt, wu⟩ w' => [(2, [w'.cell? ⟨x7_17, 0, none⟩ = some ((Pv x7_7))]), (9, [w'.cell? ⟨F.fb, 2, none⟩ = some (.slice F.pb F.L.length F.pc)]), (11, [w'.cell? ⟨w5.heap.size, 0, none⟩ = some ((Pv q.rb))]), (14, [w'.cell? ⟨q.rb, 1, none⟩ = some (I6 ↑q.i)]), (15, [Ru Try.prog (vS (Instr.indexAt 32 (.slice F.pb F.L.length F.pc) (I6 ↑q.i))) ((Po (bof (.slice F.pb F.L.length F.pc)) (0 + q.i * 1))) w']), (16, [w'.cell? ⟨bof (.slice F.pb F.L.length F.pc), 0 + q.i * 1, none⟩ = some ((Pv q.t.b))]), (17, [Ru Try.prog (vS (do eqGuard .neq 47 (.tmp 106) (.tmp 117) ((Pv q.t.b)) ((Pv q.t.b)); binOp .neq 47 ((Pv q.t.b)) ((Pv q.t.b)))) (.bool false) w']), (21, [w'.cell? ⟨x7_17, 0, none⟩ = some ((Pv x7_7))]), (26, [w'.cell? ⟨w5.heap.size, 1, none⟩ = some (I6 p)]), (27, [Value.bool (((p : Int) != p)) = .bool false]), (32, [w'.cell? ⟨x7_17, 0, none⟩ = some ((Pv x7_7))]), (37, [w'.cell? ⟨w5.heap.size, 2, none⟩ = some (.slice pb st.length pc)])]) (none, 0, w5, w5) [1, 5, 8, 9, 10, 12, 13] [] hS (by kernel_rfl) (by kernel_rfl) (by kernel_rfl) (by kernel_rfl) (fun ⟨b2, c2, wt, wu⟩ _ => by kernel_rfl) (by kernel_rfl) (by kernel_rfl) (by kernel_rfl) trivial ?_ (by kernel_rfl) ?_ ?_
      ·rintro e ⟨b2, c2, wt, wu⟩ w' hw hH
       refine (.cons ?_ (.cons ?_ (.cons ?_ (.cons ?_ (.cons ?_ (.cons ?_ (.cons ?_ (.cons ?_ (.cons ?_ (.cons ?_ (.cons ?_ (.cons ?_ .nil))))))))))))
       ·intro h1 h2
        obtain rfl : e = 0 := Nat.le_antisymm h2 h1
        have hwe : w85.drew = w' := (hw.trans (by kernel_rfl)).symm
        subst hwe
        clear hH
        exact (.cons ((hB87.drew : Blk w85.drew x7_17 92 (#[(Pv x7_7), (Pv x7_15)])).cell 0 rfl) .nil)
       ·intro h1 h2
        replace h1 : 0 ≤ e := h1
        replace h2 : e ≤ 1 := h2
        have he : e = 0 ∨ e = 1 := by omega
        rcases he with rfl | rfl
        ·have hwe : w85.drew = w' := (hw.trans (by kernel_rfl)).symm
         subst hwe
         clear hH
         exact (.cons ((hB89.drew : Blk w85.drew F.fb 35 (#[(Pv F.s0), (Pv F.s1), .slice F.pb F.L.length F.pc, .slice F.qb F.L.length F.qc, .slice F.bb F.bn F.bc])).cell 2 rfl) .nil)
        ·have hwe : w85.drew = w' := (hw.trans (by kernel_rfl)).symm
         subst hwe
         clear hH
         exact (.cons ((hB89.drew : Blk w85.drew F.fb 35 (#[(Pv F.s0), (Pv F.s1), .slice F.pb F.L.length F.pc, .slice F.qb F.L.length F.qc, .slice F.bb F.bn F.bc])).cell 2 rfl) .nil)
       ·intro h1 h2
        replace h1 : 0 ≤ e := h1
        replace h2 : e ≤ 1 := h2
        have he : e = 0 ∨ e = 1 := by omega
        rcases he with rfl | rfl
        ·have hwe : w85.drew = w' := (hw.trans (by kernel_rfl)).symm
         subst hwe
         clear hH
         exact (.cons ((hB97.drew : Blk w85.drew w5.heap.size 43 (#[(Pv q.rb), I6 p, .slice pb st.length pc])).cell 0 rfl) .nil)
        ·have hwe : w85.drew = w' := (hw.trans (by kernel_rfl)).symm
         subst hwe
         clear hH
         exact (.cons ((hB97.drew : Blk w85.drew w5.heap.size 43 (#[(Pv q.rb), I6 p, .slice pb st.length pc])).cell 0 rfl) .nil)
       ·intro h1 h2
        replace h1 : 0 ≤ e := h1
        replace h2 : e ≤ 1 := h2
        have he : e = 0 ∨ e = 1 := by omega
        rcases he with rfl | rfl
        ·have hwe : w85.drew = w' := (hw.trans (by kernel_rfl)).symm
         subst hwe
         clear hH
         exact (.cons ((hB95.drew : Blk w85.drew q.rb 40 (#[I6 q.k, I6 ↑q.i, I6 q.t.kd, I6 q.t.nn, I6 q.t.lk, I6 q.t.ls, I6 q.t.ll, I6 q.t.lr, q.kv, I6 q.t.tt])).cell 1 rfl) .nil)
        ·have hwe : w85.drew = w' := (hw.trans (by kernel_rfl)).symm
         subst hwe
         clear hH
         exact (.cons ((hB95.drew : Blk w85.drew q.rb 40 (#[I6 q.k, I6 ↑q.i, I6 q.t.kd, I6 q.t.nn, I6 q.t.lk, I6 q.t.ls, I6 q.t.ll, I6 q.t.lr, q.kv, I6 q.t.tt])).cell 1 rfl) .nil)
       ·intro h1 h2
        replace h1 : 0 ≤ e := h1
        replace h2 : e ≤ 1 := h2
        have he : e = 0 ∨ e = 1 := by omega
        rcases he with rfl | rfl
        ·have hwe : w85.drew = w' := (hw.trans (by kernel_rfl)).symm
         subst hwe
         clear hH
         exact (.cons (ix_own (j := q.i) (hB90) (by kernel_rfl) (by kernel_rfl) rfl hqi) .nil)
        ·have hwe : w85.drew = w' := (hw.trans (by kernel_rfl)).symm
         subst hwe
         clear hH
         exact (.cons (ix_own (j := q.i) (hB90) (by kernel_rfl) (by kernel_rfl) rfl hqi) .nil)
       ·intro h1 h2
        replace h1 : 0 ≤ e := h1
        replace h2 : e ≤ 1 := h2
        have he : e = 0 ∨ e = 1 := by omega
        rcases he with rfl | rfl
        ·have hwe : w85.drew = w' := (hw.trans (by kernel_rfl)).symm
         subst hwe
         clear hH
         exact (.cons ((hB90.drew : OwnV w85.drew 47 1 (.slice F.pb F.L.length F.pc) F.L.length (F.L.map fun r => r.t.ptr)).cellAt _ (by simp [hqL, Tr.ptr])) .nil)
        ·have hwe : w85.drew = w' := (hw.trans (by kernel_rfl)).symm
         subst hwe
         clear hH
         exact (.cons ((hB90.drew : OwnV w85.drew 47 1 (.slice F.pb F.L.length F.pc) F.L.length (F.L.map fun r => r.t.ptr)).cellAt _ (by simp [hqL, Tr.ptr])) .nil)
       ·intro h1 h2
        obtain rfl : e = 1 := Nat.le_antisymm h2 h1
        have hwe : w85.drew = w' := (hw.trans (by kernel_rfl)).symm
        subst hwe
        clear hH
        exact (.cons (bin_ptr_neq (E := 106) (by kernel_rfl) ⟨12, by kernel_rfl⟩ (hB96.drew) (hB96.drew) (by simp)) .nil)
       ·intro h1 h2
        obtain rfl : e = 1 := Nat.le_antisymm h2 h1
        have hwe : w85.drew = w' := (hw.trans (by kernel_rfl)).symm
        subst hwe
        clear hH
        exact (.cons ((hB87.drew : Blk w85.drew x7_17 92 (#[(Pv x7_7), (Pv x7_15)])).cell 0 rfl) .nil)
       ·intro h1 h2
        replace h1 : 1 ≤ e := h1
        replace h2 : e ≤ 2 := h2
        have he : e = 1 ∨ e = 2 := by omega
        rcases he with rfl | rfl
        ·have hwe : w85.drew = w' := (hw.trans (by kernel_rfl)).symm
         subst hwe
         clear hH
         exact (.cons ((hB97.drew : Blk w85.drew w5.heap.size 43 (#[(Pv q.rb), I6 p, .slice pb st.length pc])).cell 1 rfl) .nil)
        ·have hwe : w85.drew = w' := (hw.trans (by kernel_rfl)).symm
         subst hwe
         clear hH
         exact (.cons ((hB97.drew : Blk w85.drew w5.heap.size 43 (#[(Pv q.rb), I6 p, .slice pb st.length pc])).cell 1 rfl) .nil)
       ·intro h1 h2
        obtain rfl : e = 2 := Nat.le_antisymm h2 h1
        have hwe : w85.drew = w' := (hw.trans (by kernel_rfl)).symm
        subst hwe
        clear hH
        exact (.cons (as_ne_f (rfl)) .nil)
       ·intro h1 h2
        obtain rfl : e = 2 := Nat.le_antisymm h2 h1
        have hwe : w85.drew = w' := (hw.trans (by kernel_rfl)).symm
        subst hwe
        clear hH
        exact (.cons ((hB87.drew : Blk w85.drew x7_17 92 (#[(Pv x7_7), (Pv x7_15)])).cell 0 rfl) .nil)
       ·intro h1 h2
        replace h1 : 2 ≤ e := h1
        replace h2 : e ≤ 3 := h2
        have he : e = 2 ∨ e = 3 := by omega
        rcases he with rfl | rfl
        ·have hwe : w85.drew = w' := (hw.trans (by kernel_rfl)).symm
         subst hwe
         clear hH
         exact (.cons ((hB97.drew : Blk w85.drew w5.heap.size 43 (#[(Pv q.rb), I6 p, .slice pb st.length pc])).cell 2 rfl) .nil)
        ·have hwe : wt = w' := (hw.trans (by kernel_rfl)).symm
         subst hwe
         obtain ⟨hv2, hEt, _⟩ := hH
         exact (.cons (((hB97.drew : Blk w85.drew w5.heap.size 43 (#[(Pv q.rb), I6 p, .slice pb st.length pc])).ext hEt (by simp) : Blk wt w5.heap.size 43 (#[(Pv q.rb), I6 p, .slice pb st.length pc])).cell 2 rfl) .nil)
      ·refine (.cons ?eq102_5 (.cons ?eq102_24 (.cons ?eq102_35 (.cons ?eq102_38 .nil))))
       ·rintro ⟨b2, c2, wt, wu⟩ hH
        clear hH
        refine eff_gh (w85.drew) (by kernel_rfl) ?_
        refine upon_call (f := 41) (vs := [(Pv x7_7)]) (cap := #[]) (d := (some 106)) (by kernel_rfl) Try.call41 #[(Pv x7_7)] (by kernel_rfl) (PNode_any (hB92.drew : Blk w85.drew x7_7 77 (#[(Pv r.t.b), .slice bm st.length cap, (Pv q.t.b), I6 p]))) ?_
        rintro _ wq ⟨rfl, hwq⟩
        rw [hwq]
        exact ⟨_, rfl, ⟨(b2, c2, wt, wu), by kernel_rfl, by kernel_rfl, by kernel_rfl, trivial⟩⟩
       ·rintro ⟨b2, c2, wt, wu⟩ hH
        clear hH
        refine eff_gh (w85.drew) (by kernel_rfl) ?_
        refine upon_call (f := 40) (vs := [(Pv x7_7)]) (cap := #[]) (d := (some 125)) (by kernel_rfl) Try.call40 #[(Pv x7_7)] (by kernel_rfl) (Offset_any (hB92.drew : Blk w85.drew x7_7 77 (#[(Pv r.t.b), .slice bm st.length cap, (Pv q.t.b), I6 p]))) ?_
        rintro _ wq ⟨rfl, hwq⟩
        rw [hwq]
        exact ⟨_, rfl, ⟨(b2, c2, wt, wu), by kernel_rfl, by kernel_rfl, by kernel_rfl, trivial⟩⟩
       ·rintro ⟨b2, c2, wt, wu⟩ hH
        clear hH
        refine eff_gh (w85.drew) (by kernel_rfl) ?_
        refine upon_call (f := 39) (vs := [(Pv x7_7)]) (cap := #[]) (d := (some 136)) (by kernel_rfl) Try.call39 #[(Pv x7_7)] (by kernel_rfl) (Path_any (hB92.drew : Blk w85.drew x7_7 77 (#[(Pv r.t.b), .slice bm st.length cap, (Pv q.t.b), I6 p])) (hB93.drew : OwnV w85.drew 122 3 (.slice bm st.length cap) st.length (ways st)) (by omega)) ?_
        rintro _ wt ⟨b2, c2, rfl, hv2, hEt, _⟩
        exact ⟨_, rfl, ⟨(b2, c2, wt, wu), by kernel_rfl, by kernel_rfl, by kernel_rfl, ⟨hv2, hEt, trivial⟩⟩⟩
       ·rintro ⟨b2, c2, wt, wu⟩ hH
        obtain ⟨hv2, hEt, _⟩ := hH
        refine eff_gh (wt) (by kernel_rfl) ?_
        refine upon_call (f := 44) (vs := [.slice b2 st.length c2, .slice pb st.length pc]) (cap := #[]) (d := (some 139)) (by kernel_rfl) Try.call44 #[.slice b2 st.length c2, .slice pb st.length pc] (by kernel_rfl) (SameInts_eq (xs := idx st) (by have h := (hv2 : OwnV wt 3 1 (.slice b2 st.length c2) st.length (kidsOf st)).rd; rw [kidsOf_idx] at h; exact h) ((hB94.drew : OwnV w85.drew 3 1 (.slice pb st.length pc) st.length (ints (idx st))).ext hEt (by simp) : OwnV wt 3 1 (.slice pb st.length pc) st.length (ints (idx st))).rd (by omega)) ?_
        rintro _ wu ⟨rfl, hEu⟩
        exact ⟨_, rfl, ⟨(b2, c2, wt, wu), by kernel_rfl, by kernel_rfl, by kernel_rfl, ⟨hv2, hEt, hEu, trivial⟩⟩⟩
      rintro ⟨b2, c2, wt, wu⟩ a w103 hS hw104 hH
      obtain ⟨hv2, hEt, hEu, _⟩ := hH
      replace hw104 : w103 = wu := hw104.trans (by kernel_rfl)
      have hX118 : Ext [] w85 w103 := by rw [hw104]; exact (((Ext.refl _ _).drew).trans0 hEt).trans0 hEu
      have hG119 : Ext [] w41 w103 := hG99.trans0 hX118
      replace hS := hS.kp [(1, mv), (5, (Pv F.fb)), (8, (Pv x7_17)), (9, (Pv x8_19)), (10, I6 ↑k), (12, I6 0), (13, (Pv w5.heap.size)), (141, .bool false)]
      refine hK101 _ _ ?_
      refine cond_f hS rfl ?_
      refine wpIn_skip ?_
      refine inBlock_normal ?_
      refine hK50 _ _ ?_
      refine rgn 3 ?_
      refine sg wide_wide [.p, .p, .p] [] [(1, mv), (5, (Pv F.fb)), (8, (Pv x7_17)), (9, (Pv x8_19)), (10, I6 ↑k), (12, I6 1), (13, (Pv w5.heap.size)), (141, .bool false)] 3 0 hS .nil fun a hS => ?_
      refine seg_end ?_
      exact ⟨0 + 1, ⟨hS.keepTo [1, 5, 8, 9, 10, 12] (by kernel_rfl), by omega, hG119⟩, by omega⟩
     ·
      obtain ⟨st, q, p, cap, pb, pc, hJ, hcu, hpc⟩ := hS1'.ex
      have hqm := hJ.mem hF4.ok hrm
      have hbd := hJ.bd hF4.ok hrm
      have hrtt := hF4.ok.tt hrm
      have hqtt := hF4.ok.tt hqm
      have hqi := (hF4.ok.one q hqm).ki
      have hqL := hF4.ok.at hqm
      refine rgn 6 ?_
      refine sg wide_wide [.p, .p, .ld ((Pv x8_17))] [w4.cell? ⟨x8_19, 1, none⟩ = some ((Pv x8_17))] [(1, mv), (5, (Pv F.fb)), (8, (Pv x7_17)), (9, (Pv x8_19)), (10, I6 ↑k), (12, I6 1), (99, (Pv x8_17))] 3 3 hS (.cons (har4.cell 1 rfl) .nil) fun a hS => ?_
      refine eff_call wide_wide (r := 2) (f := 50) (vs := [(Pv x8_17)]) (cap := #[]) (d := (some 100)) hS (by kernel_rfl) Try.call50 #[(Pv x8_17)] (by kernel_rfl) (Spot_any hF4.ok hrm hJ hpc.blk hpc.row) ?_
      rintro _ w5 ⟨rfl, hE50⟩
      refine ⟨_, rfl, fun a hS => ?_⟩
      have hE5 := hE4.trans0 hE50
      have hcu5 := hcu.mv0 hE50
      have hpc5 := hpc.ext0 hE50
      have hF5 := hF4.ext0 hE50
      have hcB5 := hcu5.blk
      have hcR5 := hcu5.row
      have hpR5 := hpc5.row
      have hB120 := hap4.ext hE50 (by simp)
      have hB122 := hF4.f.ext hE50 (by simp)
      have hB123 := hF4.P.ext hE50 (by simp)
      have hG125 : Ext [] w41 w5 := hE34.trans0 hE50
      have hrowq := (hF5.ok.one q hqm).row
      have hBq : Blk w5 q.rb 40 #[I6 q.k, I6 ↑q.i, I6 q.t.kd, I6 q.t.nn, I6 q.t.lk, I6 q.t.ls, I6 q.t.ll, I6 q.t.lr, q.kv, I6 q.t.tt] := (hF5.ok.one q hqm).blk
      have hTq : Blk w5 q.t.b 106 #[(Po (sOf F.s0 F.s1 q.k) 0), I6 q.t.num, I6 q.t.kd, I6 q.t.nn, I6 q.t.lk, I6 q.t.ls, I6 q.t.ll, I6 q.t.lr, q.t.ks, I6 q.t.wd, I6 q.t.lf, I6 q.t.tt, .bool q.t.fl] := (hF5.ok.one q hqm).ok.blk
      refine eff_box wide_wide (r := 1) (cs := #[.pointer none, I6 0, .slice none 0 0]) (T := 43) (d := (some 13)) hS (by kernel_rfl) fun a w126 hw127 hS => ?_
      have hn128 : x7_17 ≠ w5.heap.size := Nat.ne_of_lt hB120.lt
      have hn130 : F.fb ≠ w5.heap.size := Nat.ne_of_lt hB122.lt
      have hn131 : ∀ x ∈ ob (.slice F.pb F.L.length F.pc), w5.heap.size ≠ x := fun x hx => Nat.ne_of_gt (hB123.lie x hx)
      have hn133 : x7_15 ≠ w5.heap.size := Nat.ne_of_lt hcB5.lt
      have hn134 : ∀ x ∈ ob (.slice bs1 st.length cap), w5.heap.size ≠ x := fun x hx => Nat.ne_of_gt (hcR5.lie x hx)
      have hn135 : ∀ x ∈ ob (.slice pb st.length pc), w5.heap.size ≠ x := fun x hx => Nat.ne_of_gt (hpR5.lie x hx)
      have hn136 : q.rb ≠ w5.heap.size := Nat.ne_of_lt hBq.lt
      have hn137 : q.t.b ≠ w5.heap.size := Nat.ne_of_lt hTq.lt
      have hB138 := Blk.at' hw127 (hB120.alloc _)
      have hB140 := Blk.at' hw127 (hB122.alloc _)
      have hB141 := OwnV.at' hw127 (hB123.alloc _)
      have hB143 := Blk.at' hw127 (hcB5.alloc _)
      have hB144 := OwnV.at' hw127 (hcR5.alloc _)
      have hB145 := OwnV.at' hw127 (hpR5.alloc _)
      have hB146 := Blk.at' hw127 (hBq.alloc _)
      have hB147 := Blk.at' hw127 (hTq.alloc _)
      have hX148 : Ext [] w5 w126 := by rw [hw127]; exact (Ext.refl _ _).alloc _
      have hG149 : Ext [] w41 w126 := hG125.trans0 hX148
      have hB150 : Blk w126 (w5.heap.size) 43 #[.pointer none, I6 0, .slice none 0 0] := by rw [hw127]; exact Blk.new _ _ _
      have hs151 : w.heap.size ≤ w5.heap.size := hE5.size
      refine eff_store wide_wide (r := 0) (b := w5.heap.size) (off := 0) (vs := [(Pv q.rb), I6 p, .slice pb st.length pc]) hS (by kernel_rfl) hB150 (by simp) fun a w153 hw154 hS => ?_
      have hB155 := Blk.at' hw154 (hB138.updNe (Ne.symm hn128) _ _)
      have hB157 := Blk.at' hw154 (hB140.updNe (Ne.symm hn130) _ _)
      have hB158 := OwnV.at' hw154 (hB141.updNe hn131 _ _)
      have hB160 := Blk.at' hw154 (hB143.updNe (Ne.symm hn133) _ _)
      have hB161 := OwnV.at' hw154 (hB144.updNe hn134 _ _)
      have hB162 := OwnV.at' hw154 (hB145.updNe hn135 _ _)
      have hB163 := Blk.at' hw154 (hB146.updNe (Ne.symm hn136) _ _)
      have hB164 := Blk.at' hw154 (hB147.updNe (Ne.symm hn137) _ _)
      have hB165 : Blk w153 w5.heap.size 43 (#[(Pv q.rb), I6 p, .slice pb st.length pc]) := by rw [hw154]; exact hB150.upd _ _
      have hX166 : Ext [w5.heap.size] w126 w153 := by rw [hw154]; exact (Ext.refl _ _).updIn (.inl (by simp)) _ _
      have hG167 : Ext [] w41 w153 := hG149.trans hX166 (fun b hb => by simp at hb; subst hb; exact .inr hG125.size)
      refine seg_end ?_
      refine hK51 _ _ ?_
      refine sq fun K169 hK169 => ?_
      refine region_gh2 (G := (Option Addr) × Nat × World × World) wide_wide [.q .p, .q .p, .q (.ld ((Pv x7_15))), .q .p, .q .p, .e, .q .p, .q .p, .q .p, .q (.ld (.slice F.pb F.L.length F.pc)), .q .p, .q (.ld ((Pv q.rb))), .q .p, .q .p, .q (.ld (I6 ↑q.i)), .q (.run ((Po (bof (.slice F.pb F.L.length F.pc)) (0 + q.i * 1)))), .q (.ld ((Pv q.t.b))), .q (.run (.bool false)), .q .p, .q .p, .q .p, .q (.ld ((Pv x7_15))), .q .p, .q .p, .e, .q .p, .q (.ld (I6 p)), .q (.as (.bool false)), .q .p, .q .p, .q .p, .q .p, .q (.ld ((Pv x7_15))), .q .p, .q .p, .e, .q .p, .q (.ld (.slice pb st.length pc)), .e, .q .p, .q .p] [0, 0, 0, 0, 0, 0, 0, 0, 0, 0, 0, 0, 0, 0, 0, 0, 0, 1, 1, 1, 1, 1, 1, 1, 1, 1, 1, 2, 2, 2, 2, 2, 2, 2, 2, 2, 2, 2, 3, 4, 4] [0, 0, 0, 0, 0, 0, 1, 1, 1, 1, 1, 1, 1, 1, 1, 1, 1, 1, 1, 1, 1, 1, 1, 1, 1, 2, 2, 2, 2, 2, 2, 2, 2, 2, 2, 2, 3, 3, 3, 4, 4] [0, 1, 3, 7, 15, 31, 0, 64, 192, 448, 0, 1024, 3072, 7168, 15360, 32704, 65472, 131071, 262143, 524287, 1048575, 2097151, 4194303, 8388607, 16777215, 524287, 34078719, 134217727, 268435455, 536870911, 1073741823, 2147483647, 4294967295, 8589934591, 17179869183, 34359738367, 1073741823, 69793218559, 274877906943, 549755813887, 1099511627775] [5, 24, 35, 38] [(5, 0), (24, 1), (35, 2), (38, 3)] 4 (fun ⟨b2, c2, wt, wu⟩ => ([(1, mv), (5, (Pv F.fb)), (8, (Pv x7_17)), (9, (Pv x8_19)), (10, I6 ↑k), (12, I6 1), (13, (Pv w5.heap.size)), (101, I6 1), (102, (Po x7_17 1)), (103, (Pv x7_15)), (104, (Pv x7_15)), (105, (Pv x7_15)), (106, (Pv q.t.b)), (107, (Pv F.fb)), (108, (Pv F.fb)), (109, (Po F.fb 2)), (110, .slice F.pb F.L.length F.pc), (111, (Pv w5.heap.size)), (112, (Pv q.rb)), (113, (Pv q.rb)), (114, (Po q.rb 1)), (115, I6 ↑q.i), (116, (Po (bof (.slice F.pb F.L.length F.pc)) (0 + q.i * 1))), (117, (Pv q.t.b)), (118, .bool false), (119, .bool false), (120, I6 1), (121, (Po x7_17 1)), (122, (Pv x7_15)), (123, (Pv x7_15)), (124, (Pv x7_15)), (125, I6 p), (126, (Po w5.heap.size 1)), (127, I6 p), (128, .bool false), (129, .bool false), (130, .bool false), (131, I6 1), (132, (Po x7_17 1)), (133, (Pv x7_15)), (134, (Pv x7_15)), (135, (Pv x7_15)), (136, .slice b2 st.length c2), (137, (Po w5.heap.size 2)), (138, .slice pb st.length pc), (139, .bool true), (140, .bool false), (141, .bool false)] : Fm)) (fun ⟨b2, c2, wt, wu⟩ => [w153.drew, w153.drew, w153.drew, wt, wu]) (w153.drew) (fun e ⟨b2, c2, wt, wu⟩ => hAt [True, True, True, (OwnV wt 3 1 (.slice b2 st.length c2) st.length (kidsOf st)) ∧ (Ext [] (w153.drew) wt) ∧ True, (OwnV wt 3 1 (.slice b2 st.length c2) st.length (kidsOf st)) ∧ (Ext [] (w153.drew) wt) ∧ (Ext [] wt wu) ∧ True] e) (fun ⟨b2, c2, wt, wu⟩ w' => [(2, [w'.cell? ⟨x7_17, 1, none⟩ = some ((Pv x7_15))]), (9, [w'.cell? ⟨F.fb, 2, none⟩ = some (.slice F.pb F.L.length F.pc)]), (11, [w'.cell? ⟨w5.heap.size, 0, none⟩ = some ((Pv q.rb))]), (14, [w'.cell? ⟨q.rb, 1, none⟩ = some (I6 ↑q.i)]), (15, [Ru Try.prog (vS (Instr.indexAt 32 (.slice F.pb F.L.length F.pc) (I6 ↑q.i))) ((Po (bof (.slice F.pb F.L.length F.pc)) (0 + q.i * 1))) w']), (16, [w'.cell? ⟨bof (.slice F.pb F.L.length F.pc), 0 + q.i * 1, none⟩ = some ((Pv q.t.b))]), (17, [Ru Try.prog (vS (do eqGuard .neq 47 (.tmp 106) (.tmp 117) ((Pv q.t.b)) ((Pv q.t.b)); binOp .neq 47 ((Pv q.t.b)) ((Pv q.t.b)))) (.bool false) w']), (21, [w'.cell? ⟨x7_17, 1, none⟩ = some ((Pv x7_15))]), (26, [w'.cell? ⟨w5.heap.size, 1, none⟩ = some (I6 p)]), (27, [Value.bool (((p : Int) != p)) = .bool false]), (32, [w'.cell? ⟨x7_17, 1, none⟩ = some ((Pv x7_15))]), (37, [w'.cell? ⟨w5.heap.size, 2, none⟩ = some (.slice pb st.length pc)])]) (none, 0, w5, w5) [1, 5, 8, 9, 10, 12, 13] [] hS (by kernel_rfl) (by kernel_rfl) (by kernel_rfl) (by kernel_rfl) (fun ⟨b2, c2, wt, wu⟩ _ => by kernel_rfl) (by kernel_rfl) (by kernel_rfl) (by kernel_rfl) trivial ?_ (by kernel_rfl) ?_ ?_
      ·rintro e ⟨b2, c2, wt, wu⟩ w' hw hH
       refine (.cons ?_ (.cons ?_ (.cons ?_ (.cons ?_ (.cons ?_ (.cons ?_ (.cons ?_ (.cons ?_ (.cons ?_ (.cons ?_ (.cons ?_ (.cons ?_ .nil))))))))))))
       ·intro h1 h2
        obtain rfl : e = 0 := Nat.le_antisymm h2 h1
        have hwe : w153.drew = w' := (hw.trans (by kernel_rfl)).symm
        subst hwe
        clear hH
        exact (.cons ((hB155.drew : Blk w153.drew x7_17 92 (#[(Pv x7_7), (Pv x7_15)])).cell 1 rfl) .nil)
       ·intro h1 h2
        replace h1 : 0 ≤ e := h1
        replace h2 : e ≤ 1 := h2
        have he : e = 0 ∨ e = 1 := by omega
        rcases he with rfl | rfl
        ·have hwe : w153.drew = w' := (hw.trans (by kernel_rfl)).symm
         subst hwe
         clear hH
         exact (.cons ((hB157.drew : Blk w153.drew F.fb 35 (#[(Pv F.s0), (Pv F.s1), .slice F.pb F.L.length F.pc, .slice F.qb F.L.length F.qc, .slice F.bb F.bn F.bc])).cell 2 rfl) .nil)
        ·have hwe : w153.drew = w' := (hw.trans (by kernel_rfl)).symm
         subst hwe
         clear hH
         exact (.cons ((hB157.drew : Blk w153.drew F.fb 35 (#[(Pv F.s0), (Pv F.s1), .slice F.pb F.L.length F.pc, .slice F.qb F.L.length F.qc, .slice F.bb F.bn F.bc])).cell 2 rfl) .nil)
       ·intro h1 h2
        replace h1 : 0 ≤ e := h1
        replace h2 : e ≤ 1 := h2
        have he : e = 0 ∨ e = 1 := by omega
        rcases he with rfl | rfl
        ·have hwe : w153.drew = w' := (hw.trans (by kernel_rfl)).symm
         subst hwe
         clear hH
         exact (.cons ((hB165.drew : Blk w153.drew w5.heap.size 43 (#[(Pv q.rb), I6 p, .slice pb st.length pc])).cell 0 rfl) .nil)
        ·have hwe : w153.drew = w' := (hw.trans (by kernel_rfl)).symm
         subst hwe
         clear hH
         exact (.cons ((hB165.drew : Blk w153.drew w5.heap.size 43 (#[(Pv q.rb), I6 p, .slice pb st.length pc])).cell 0 rfl) .nil)
       ·intro h1 h2
        replace h1 : 0 ≤ e := h1
        replace h2 : e ≤ 1 := h2
        have he : e = 0 ∨ e = 1 := by omega
        rcases he with rfl | rfl
        ·have hwe : w153.drew = w' := (hw.trans (by kernel_rfl)).symm
         subst hwe
         clear hH
         exact (.cons ((hB163.drew : Blk w153.drew q.rb 40 (#[I6 q.k, I6 ↑q.i, I6 q.t.kd, I6 q.t.nn, I6 q.t.lk, I6 q.t.ls, I6 q.t.ll, I6 q.t.lr, q.kv, I6 q.t.tt])).cell 1 rfl) .nil)
        ·have hwe : w153.drew = w' := (hw.trans (by kernel_rfl)).symm
         subst hwe
         clear hH
         exact (.cons ((hB163.drew : Blk w153.drew q.rb 40 (#[I6 q.k, I6 ↑q.i, I6 q.t.kd, I6 q.t.nn, I6 q.t.lk, I6 q.t.ls, I6 q.t.ll, I6 q.t.lr, q.kv, I6 q.t.tt])).cell 1 rfl) .nil)
       ·intro h1 h2
        replace h1 : 0 ≤ e := h1
        replace h2 : e ≤ 1 := h2
        have he : e = 0 ∨ e = 1 := by omega
        rcases he with rfl | rfl
        ·have hwe : w153.drew = w' := (hw.trans (by kernel_rfl)).symm
         subst hwe
         clear hH
         exact (.cons (ix_own (j := q.i) (hB158) (by kernel_rfl) (by kernel_rfl) rfl hqi) .nil)
        ·have hwe : w153.drew = w' := (hw.trans (by kernel_rfl)).symm
         subst hwe
         clear hH
         exact (.cons (ix_own (j := q.i) (hB158) (by kernel_rfl) (by kernel_rfl) rfl hqi) .nil)
       ·intro h1 h2
        replace h1 : 0 ≤ e := h1
        replace h2 : e ≤ 1 := h2
        have he : e = 0 ∨ e = 1 := by omega
        rcases he with rfl | rfl
        ·have hwe : w153.drew = w' := (hw.trans (by kernel_rfl)).symm
         subst hwe
         clear hH
         exact (.cons ((hB158.drew : OwnV w153.drew 47 1 (.slice F.pb F.L.length F.pc) F.L.length (F.L.map fun r => r.t.ptr)).cellAt _ (by simp [hqL, Tr.ptr])) .nil)
        ·have hwe : w153.drew = w' := (hw.trans (by kernel_rfl)).symm
         subst hwe
         clear hH
         exact (.cons ((hB158.drew : OwnV w153.drew 47 1 (.slice F.pb F.L.length F.pc) F.L.length (F.L.map fun r => r.t.ptr)).cellAt _ (by simp [hqL, Tr.ptr])) .nil)
       ·intro h1 h2
        obtain rfl : e = 1 := Nat.le_antisymm h2 h1
        have hwe : w153.drew = w' := (hw.trans (by kernel_rfl)).symm
        subst hwe
        clear hH
        exact (.cons (bin_ptr_neq (E := 106) (by kernel_rfl) ⟨12, by kernel_rfl⟩ (hB164.drew) (hB164.drew) (by simp)) .nil)
       ·intro h1 h2
        obtain rfl : e = 1 := Nat.le_antisymm h2 h1
        have hwe : w153.drew = w' := (hw.trans (by kernel_rfl)).symm
        subst hwe
        clear hH
        exact (.cons ((hB155.drew : Blk w153.drew x7_17 92 (#[(Pv x7_7), (Pv x7_15)])).cell 1 rfl) .nil)
       ·intro h1 h2
        replace h1 : 1 ≤ e := h1
        replace h2 : e ≤ 2 := h2
        have he : e = 1 ∨ e = 2 := by omega
        rcases he with rfl | rfl
        ·have hwe : w153.drew = w' := (hw.trans (by kernel_rfl)).symm
         subst hwe
         clear hH
         exact (.cons ((hB165.drew : Blk w153.drew w5.heap.size 43 (#[(Pv q.rb), I6 p, .slice pb st.length pc])).cell 1 rfl) .nil)
        ·have hwe : w153.drew = w' := (hw.trans (by kernel_rfl)).symm
         subst hwe
         clear hH
         exact (.cons ((hB165.drew : Blk w153.drew w5.heap.size 43 (#[(Pv q.rb), I6 p, .slice pb st.length pc])).cell 1 rfl) .nil)
       ·intro h1 h2
        obtain rfl : e = 2 := Nat.le_antisymm h2 h1
        have hwe : w153.drew = w' := (hw.trans (by kernel_rfl)).symm
        subst hwe
        clear hH
        exact (.cons (as_ne_f (rfl)) .nil)
       ·intro h1 h2
        obtain rfl : e = 2 := Nat.le_antisymm h2 h1
        have hwe : w153.drew = w' := (hw.trans (by kernel_rfl)).symm
        subst hwe
        clear hH
        exact (.cons ((hB155.drew : Blk w153.drew x7_17 92 (#[(Pv x7_7), (Pv x7_15)])).cell 1 rfl) .nil)
       ·intro h1 h2
        replace h1 : 2 ≤ e := h1
        replace h2 : e ≤ 3 := h2
        have he : e = 2 ∨ e = 3 := by omega
        rcases he with rfl | rfl
        ·have hwe : w153.drew = w' := (hw.trans (by kernel_rfl)).symm
         subst hwe
         clear hH
         exact (.cons ((hB165.drew : Blk w153.drew w5.heap.size 43 (#[(Pv q.rb), I6 p, .slice pb st.length pc])).cell 2 rfl) .nil)
        ·have hwe : wt = w' := (hw.trans (by kernel_rfl)).symm
         subst hwe
         obtain ⟨hv2, hEt, _⟩ := hH
         exact (.cons (((hB165.drew : Blk w153.drew w5.heap.size 43 (#[(Pv q.rb), I6 p, .slice pb st.length pc])).ext hEt (by simp) : Blk wt w5.heap.size 43 (#[(Pv q.rb), I6 p, .slice pb st.length pc])).cell 2 rfl) .nil)
      ·refine (.cons ?eq170_5 (.cons ?eq170_24 (.cons ?eq170_35 (.cons ?eq170_38 .nil))))
       ·rintro ⟨b2, c2, wt, wu⟩ hH
        clear hH
        refine eff_gh (w153.drew) (by kernel_rfl) ?_
        refine upon_call (f := 41) (vs := [(Pv x7_15)]) (cap := #[]) (d := (some 106)) (by kernel_rfl) Try.call41 #[(Pv x7_15)] (by kernel_rfl) (PNode_any (hB160.drew : Blk w153.drew x7_15 77 (#[(Pv r.t.b), .slice bs1 st.length cap, (Pv q.t.b), I6 p]))) ?_
        rintro _ wq ⟨rfl, hwq⟩
        rw [hwq]
        exact ⟨_, rfl, ⟨(b2, c2, wt, wu), by kernel_rfl, by kernel_rfl, by kernel_rfl, trivial⟩⟩
       ·rintro ⟨b2, c2, wt, wu⟩ hH
        clear hH
        refine eff_gh (w153.drew) (by kernel_rfl) ?_
        refine upon_call (f := 40) (vs := [(Pv x7_15)]) (cap := #[]) (d := (some 125)) (by kernel_rfl) Try.call40 #[(Pv x7_15)] (by kernel_rfl) (Offset_any (hB160.drew : Blk w153.drew x7_15 77 (#[(Pv r.t.b), .slice bs1 st.length cap, (Pv q.t.b), I6 p]))) ?_
        rintro _ wq ⟨rfl, hwq⟩
        rw [hwq]
        exact ⟨_, rfl, ⟨(b2, c2, wt, wu), by kernel_rfl, by kernel_rfl, by kernel_rfl, trivial⟩⟩
       ·rintro ⟨b2, c2, wt, wu⟩ hH
        clear hH
        refine eff_gh (w153.drew) (by kernel_rfl) ?_
        refine upon_call (f := 39) (vs := [(Pv x7_15)]) (cap := #[]) (d := (some 136)) (by kernel_rfl) Try.call39 #[(Pv x7_15)] (by kernel_rfl) (Path_any (hB160.drew : Blk w153.drew x7_15 77 (#[(Pv r.t.b), .slice bs1 st.length cap, (Pv q.t.b), I6 p])) (hB161.drew : OwnV w153.drew 122 3 (.slice bs1 st.length cap) st.length (ways st)) (by omega)) ?_
        rintro _ wt ⟨b2, c2, rfl, hv2, hEt, _⟩
        exact ⟨_, rfl, ⟨(b2, c2, wt, wu), by kernel_rfl, by kernel_rfl, by kernel_rfl, ⟨hv2, hEt, trivial⟩⟩⟩
       ·rintro ⟨b2, c2, wt, wu⟩ hH
        obtain ⟨hv2, hEt, _⟩ := hH
        refine eff_gh (wt) (by kernel_rfl) ?_
        refine upon_call (f := 44) (vs := [.slice b2 st.length c2, .slice pb st.length pc]) (cap := #[]) (d := (some 139)) (by kernel_rfl) Try.call44 #[.slice b2 st.length c2, .slice pb st.length pc] (by kernel_rfl) (SameInts_eq (xs := idx st) (by have h := (hv2 : OwnV wt 3 1 (.slice b2 st.length c2) st.length (kidsOf st)).rd; rw [kidsOf_idx] at h; exact h) ((hB162.drew : OwnV w153.drew 3 1 (.slice pb st.length pc) st.length (ints (idx st))).ext hEt (by simp) : OwnV wt 3 1 (.slice pb st.length pc) st.length (ints (idx st))).rd (by omega)) ?_
        rintro _ wu ⟨rfl, hEu⟩
        exact ⟨_, rfl, ⟨(b2, c2, wt, wu), by kernel_rfl, by kernel_rfl, by kernel_rfl, ⟨hv2, hEt, hEu, trivial⟩⟩⟩
      rintro ⟨b2, c2, wt, wu⟩ a w171 hS hw172 hH
      obtain ⟨hv2, hEt, hEu, _⟩ := hH
      replace hw172 : w171 = wu := hw172.trans (by kernel_rfl)
      have hX186 : Ext [] w153 w171 := by rw [hw172]; exact (((Ext.refl _ _).drew).trans0 hEt).trans0 hEu
      have hG187 : Ext [] w41 w171 := hG167.trans0 hX186
      replace hS := hS.kp [(1, mv), (5, (Pv F.fb)), (8, (Pv x7_17)), (9, (Pv x8_19)), (10, I6 ↑k), (12, I6 1), (13, (Pv w5.heap.size)), (141, .bool false)]
      refine hK169 _ _ ?_
      refine cond_f hS rfl ?_
      refine wpIn_skip ?_
      refine inBlock_normal ?_
      refine hK50 _ _ ?_
      refine rgn 3 ?_
      refine sg wide_wide [.p, .p, .p] [] [(1, mv), (5, (Pv F.fb)), (8, (Pv x7_17)), (9, (Pv x8_19)), (10, I6 ↑k), (12, I6 2), (13, (Pv w5.heap.size)), (141, .bool false)] 3 0 hS .nil fun a hS => ?_
      refine seg_end ?_
      exact ⟨1 + 1, ⟨hS.keepTo [1, 5, 8, 9, 10, 12] (by kernel_rfl), by omega, hG187⟩, by omega⟩
    ·
     replace hb49 := of_decide_eq_false hb49
     refine wpIn_exit ?_
     refine then_exit ?_
     refine then_exit ?_
     refine inBlock_hit ?_
     refine inBlock_normal ?_
     refine hK36 _ _ ?_
     refine rgn 3 ?_
     refine sg wide_wide [.p, .as (I6 (↑k + 1)), .p] [Value.int .i64 (IntKind.i64.wrap (↑k + 1)) = I6 (↑k + 1)] [(1, mv), (5, (Pv F.fb)), (8, (Pv x7_17)), (9, (Pv x8_19)), (10, I6 (↑k + 1))] 3 0 hS (.cons (as_i64 (by omega)) .nil) fun a hS => ?_
     refine seg_end ?_
     exact ⟨(k + 1, bm, bs1), ⟨hS.keepTo [1, 5, 8, 9, 10] (by kernel_rfl), by omega, hS0', hS1', hdd, hap4, har4, hE4⟩, by simp only; omega⟩
   ·
    refine rgn 7 ?_
    refine sg wide_wide [.p, .p, .run ((Po (bof mv) (oof mv + k * 3))), .p, .ld (I6 m.1), .run (I6 1), .p] [Ru Try.prog (vS (Instr.indexAt 80 (mv) (I6 ↑k))) ((Po (bof mv) (oof mv + k * 3))) w2, w2.cell? ⟨bof mv, oof mv + k * 3, none⟩ = some (I6 m.1), Ru Try.prog (vS (do eqGuard .and 3 (.tmp 79) (.const (I6 1)) (I6 m.1) (I6 1); binOp .and 3 (I6 m.1) (I6 1))) (I6 1) w2] [(1, mv), (5, (Pv F.fb)), (8, (Pv x7_17)), (9, (Pv x8_19)), (10, I6 ↑k), (11, I6 1)] 7 0 hS (.cons (ix_rd (e := 88) (j := k) hrd (by kernel_rfl) (by kernel_rfl) rfl hk) (.cons (hrd.cellAt (k * 3 + 0) (by omega) (mvc_at ms k 0 m hm (by omega))) (.cons (and_k hk2) .nil))) fun a hS => ?_
    refine seg_end ?_
    refine hK37 _ _ ?_
    refine sq fun K188 hK188 => ?_
    refine sq fun K189 hK189 => ?_
    refine region_gh2 (G := (Option Addr) × World) wide_wide [.q .p, .q .p, .q (.ld ((Pv x7_15))), .q .p, .q .p, .q (.ld ((Pv x8_17))), .q .p, .q .p, .q (.run ((Po (bof mv) (oof mv + k * 3)))), .q (.lds [I6 m.1, I6 m.2.1, I6 m.2.2]), .e, .q .p] [0, 0, 0, 0, 0, 0, 0, 0, 0, 0, 0, 1] [0, 0, 0, 0, 0, 0, 0, 0, 0, 0, 0, 1] [0, 1, 3, 0, 8, 24, 0, 0, 192, 448, 1023, 2047] [10] [(10, 0)] 1 (fun ⟨bm, wm⟩ => ([(1, mv), (5, (Pv F.fb)), (8, (Pv x7_17)), (9, (Pv x8_19)), (10, I6 ↑k), (11, I6 1), (81, I6 1), (82, (Po x7_17 1)), (83, (Pv x7_15)), (84, I6 1), (85, (Po x8_19 1)), (86, (Pv x8_17)), (87, mv), (88, I6 ↑k), (89, (Po (bof mv) (oof mv + k * 3))), (90, .agg #[I6 m.1, I6 m.2.1, I6 m.2.2]), (91, .bool true), (92, .bool false)] : Fm)) (fun ⟨bm, wm⟩ => [w2.drew, wm]) (w2.drew) (fun e ⟨bm, wm⟩ => hAt [True, (Sp2 w1 wm x7_15 x8_17 r bm) ∧ (Ext (x7_15 :: x8_17 :: oa bs1) (w2.drew) wm) ∧ (∀ x ∈ oa bm, x ∈ oa bs1 ∨ (w2.drew).heap.size ≤ x) ∧ True] e) (fun ⟨bm, wm⟩ w' => [(2, [w'.cell? ⟨x7_17, 1, none⟩ = some ((Pv x7_15))]), (5, [w'.cell? ⟨x8_19, 1, none⟩ = some ((Pv x8_17))]), (8, [Ru Try.prog (vS (Instr.indexAt 80 (mv) (I6 ↑k))) ((Po (bof mv) (oof mv + k * 3))) w']), (9, [w'.cell? ⟨bof mv, oof mv + k * 3, none⟩ = some (I6 m.1), w'.cell? ⟨bof mv, oof mv + k * 3 + 1, none⟩ = some (I6 m.2.1), w'.cell? ⟨bof mv, oof mv + k * 3 + 2, none⟩ = some (I6 m.2.2)])]) (none, w2) [1, 5, 8, 9, 10, 11] [] hS (by kernel_rfl) (by kernel_rfl) (by kernel_rfl) (by kernel_rfl) (fun ⟨bm, wm⟩ _ => by kernel_rfl) (by kernel_rfl) (by kernel_rfl) (by kernel_rfl) trivial ?_ (by kernel_rfl) ?_ ?_
    ·rintro e ⟨bm, wm⟩ w' hw hH
     refine (.cons ?_ (.cons ?_ (.cons ?_ (.cons ?_ .nil))))
     ·intro h1 h2
      obtain rfl : e = 0 := Nat.le_antisymm h2 h1
      have hwe : w2.drew = w' := (hw.trans (by kernel_rfl)).symm
      subst hwe
      clear hH
      exact (.cons ((hap.drew : Blk w2.drew x7_17 92 (#[(Pv x7_7), (Pv x7_15)])).cell 1 rfl) .nil)
     ·intro h1 h2
      obtain rfl : e = 0 := Nat.le_antisymm h2 h1
      have hwe : w2.drew = w' := (hw.trans (by kernel_rfl)).symm
      subst hwe
      clear hH
      exact (.cons ((har.drew : Blk w2.drew x8_19 93 (#[(Pv x8_8), (Pv x8_17)])).cell 1 rfl) .nil)
     ·intro h1 h2
      obtain rfl : e = 0 := Nat.le_antisymm h2 h1
      have hwe : w2.drew = w' := (hw.trans (by kernel_rfl)).symm
      subst hwe
      clear hH
      exact (.cons (ix_rd (e := 88) (j := k) hrd (by kernel_rfl) (by kernel_rfl) rfl hk) .nil)
     ·intro h1 h2
      obtain rfl : e = 0 := Nat.le_antisymm h2 h1
      have hwe : w2.drew = w' := (hw.trans (by kernel_rfl)).symm
      subst hwe
      clear hH
      exact (.cons ((hrd.ext0 ((Ext.refl _ _).drew)).cellAt (k * 3 + 0) (by omega) (mvc_at ms k 0 m hm (by omega))) (.cons ((hrd.ext0 ((Ext.refl _ _).drew)).cellAt (k * 3 + 1) (by omega) (mvc_at ms k 1 m hm (by omega))) (.cons ((hrd.ext0 ((Ext.refl _ _).drew)).cellAt (k * 3 + 2) (by omega) (mvc_at ms k 2 m hm (by omega))) .nil)))
    ·refine (.cons ?eq190_10 .nil)
     ·rintro ⟨bm, wm⟩ hH
      clear hH
      refine eff_gh (w2.drew) (by kernel_rfl) ?_
      refine upon_call (f := 47) (vs := [(Pv x7_15), (Pv x8_17), .agg #[I6 m.1, I6 m.2.1, I6 m.2.2]]) (cap := #[]) (d := (some 91)) (by kernel_rfl) Try.call47 #[(Pv x7_15), (Pv x8_17), .agg #[I6 m.1, I6 m.2.1, I6 m.2.2]] (by kernel_rfl) (Sp2.moved hF.ok hrm (hS1.ext0 ((Ext.refl _ _).drew)) m.1 m.2.1 m.2.2) ?_
      rintro _ wm ⟨rfl, bm, hm1, hm2, hm3⟩
      exact ⟨_, rfl, ⟨(bm, wm), by kernel_rfl, by kernel_rfl, by kernel_rfl, ⟨hm1, hm2, hm3, trivial⟩⟩⟩
    rintro ⟨bm, wm⟩ a w191 hS hw192 hH
    obtain ⟨hm1, hm2, hm3, _⟩ := hH
    replace hw192 : w191 = wm := hw192.trans (by kernel_rfl)
    have hB193 := Blk.at' hw192 ((hap.drew : Blk w2.drew x7_17 92 (#[(Pv x7_7), (Pv x7_15)])).ext hm2 ((hS1.ext0 ((Ext.refl _ _).drew)).notin (hap.drew : Blk w2.drew x7_17 92 (#[(Pv x7_7), (Pv x7_15)])) (by decide) (by decide) (by decide)))
    have hB194 := Blk.at' hw192 ((har.drew : Blk w2.drew x8_19 93 (#[(Pv x8_8), (Pv x8_17)])).ext hm2 ((hS1.ext0 ((Ext.refl _ _).drew)).notin (har.drew : Blk w2.drew x8_19 93 (#[(Pv x8_8), (Pv x8_17)])) (by decide) (by decide) (by decide)))
    have hE195 : Ext [] w w191 := by rw [hw192]; exact (hEx.drew).trans hm2 (fun b hb => .inr (Nat.le_trans hE1.size (hS1.new b hb)))
    replace hS := hS.kp [(1, mv), (5, (Pv F.fb)), (8, (Pv x7_17)), (9, (Pv x8_19)), (10, I6 ↑k), (11, I6 1), (92, .bool false)]
    refine hK189 _ _ ?_
    refine cond_f hS rfl ?_
    refine wpIn_skip ?_
    refine hK188 _ _ ?_
    refine sq fun K196 hK196 => ?_
    have hT1 : Sp2 w1 w191 x7_15 x8_17 r bm := by rw [hw192]; exact hm1
    have hT0 : Sp2 w1 w191 x7_7 x8_8 r bs0 := by rw [hw192]; exact (hS0.ext0 ((Ext.refl _ _).drew)).other (hS1.ext0 ((Ext.refl _ _).drew)) hm2 hcne hrne hd01
    have hdd : ∀ x ∈ oa bs0, x ∉ oa bm := fun x hx hx' => by
     rcases hm3 x hx' with h | h
     ·exact hd01 x hx h
     ·have h1 := hS0.lie x hx
      have h2 : w2.heap.size ≤ x := h
      omega
    refine rgn 1 ?_
    refine sg wide_wide [.p] [] [(1, mv), (5, (Pv F.fb)), (8, (Pv x7_17)), (9, (Pv x8_19)), (10, I6 ↑k), (11, I6 1), (92, .bool false), (12, I6 0)] 1 0 hS .nil fun a hS => ?_
    refine seg_end ?_
    refine hK196 _ _ ?_
    refine wpIn_block ?_
    refine loop_ghost (fun (j : Nat) a' w' => St 142 [] [(1, mv), (5, (Pv F.fb)), (8, (Pv x7_17)), (9, (Pv x8_19)), (10, I6 ↑k), (12, I6 ↑j)] a' ∧ j ≤ 2 ∧ Ext [] w191 w') (fun (j : Nat) => 2 - j) 0 ⟨hS.keepTo [1, 5, 8, 9, 10, 12] (by kernel_rfl), by omega, Ext.refl _ _⟩ ?_
    rintro j a w4 ⟨hS, hj2, hE34⟩
    have hE4 := hE195.trans0 hE34
    have hap4 := hB193.ext hE34 (by simp)
    have har4 := hB194.ext hE34 (by simp)
    have hS0' := hT0.ext0 hE34
    have hS1' := hT1.ext0 hE34
    have hF4 := hF.ext0 hS0'.ext
    refine sq fun K197 hK197 => ?_
    refine sq fun K198 hK198 => ?_
    refine rgn 2 ?_
    refine sg wide_wide [.p, .p] [] [(1, mv), (5, (Pv F.fb)), (8, (Pv x7_17)), (9, (Pv x8_19)), (10, I6 ↑k), (12, I6 ↑j), (94, .bool (decide ((↑j : Int) < 2)))] 2 0 hS .nil fun a hS => ?_
    refine seg_end ?_
    refine hK198 _ _ ?_
    refine cond_b hS rfl (fun hb199 => ?_) (fun hb199 => ?_)
    ·
     replace hb199 := of_decide_eq_true hb199
     refine wpIn_skip ?_
     refine hK197 _ _ ?_
     refine sq fun K200 hK200 => ?_
     refine wpIn_block ?_
     refine sq fun K201 hK201 => ?_
     rcases (show j = 0 ∨ j = 1 by omega) with rfl | rfl
     ·
      obtain ⟨st, q, p, cap, pb, pc, hJ, hcu, hpc⟩ := hS0'.ex
      have hqm := hJ.mem hF4.ok hrm
      have hbd := hJ.bd hF4.ok hrm
      have hrtt := hF4.ok.tt hrm
      have hqtt := hF4.ok.tt hqm
      have hqi := (hF4.ok.one q hqm).ki
      have hqL := hF4.ok.at hqm
      refine rgn 6 ?_
      refine sg wide_wide [.p, .p, .ld ((Pv x8_8))] [w4.cell? ⟨x8_19, 0, none⟩ = some ((Pv x8_8))] [(1, mv), (5, (Pv F.fb)), (8, (Pv x7_17)), (9, (Pv x8_19)), (10, I6 ↑k), (12, I6 0), (99, (Pv x8_8))] 3 3 hS (.cons (har4.cell 0 rfl) .nil) fun a hS => ?_
      refine eff_call wide_wide (r := 2) (f := 50) (vs := [(Pv x8_8)]) (cap := #[]) (d := (some 100)) hS (by kernel_rfl) Try.call50 #[(Pv x8_8)] (by kernel_rfl) (Spot_any hF4.ok hrm hJ hpc.blk hpc.row) ?_
      rintro _ w5 ⟨rfl, hE50⟩
      refine ⟨_, rfl, fun a hS => ?_⟩
      have hE5 := hE4.trans0 hE50
      have hcu5 := hcu.mv0 hE50
      have hpc5 := hpc.ext0 hE50
      have hF5 := hF4.ext0 hE50
      have hcB5 := hcu5.blk
      have hcR5 := hcu5.row
      have hpR5 := hpc5.row
      have hB202 := hap4.ext hE50 (by simp)
      have hB204 := hF4.f.ext hE50 (by simp)
      have hB205 := hF4.P.ext hE50 (by simp)
      have hG207 : Ext [] w191 w5 := hE34.trans0 hE50
      have hrowq := (hF5.ok.one q hqm).row
      have hBq : Blk w5 q.rb 40 #[I6 q.k, I6 ↑q.i, I6 q.t.kd, I6 q.t.nn, I6 q.t.lk, I6 q.t.ls, I6 q.t.ll, I6 q.t.lr, q.kv, I6 q.t.tt] := (hF5.ok.one q hqm).blk
      have hTq : Blk w5 q.t.b 106 #[(Po (sOf F.s0 F.s1 q.k) 0), I6 q.t.num, I6 q.t.kd, I6 q.t.nn, I6 q.t.lk, I6 q.t.ls, I6 q.t.ll, I6 q.t.lr, q.t.ks, I6 q.t.wd, I6 q.t.lf, I6 q.t.tt, .bool q.t.fl] := (hF5.ok.one q hqm).ok.blk
      refine eff_box wide_wide (r := 1) (cs := #[.pointer none, I6 0, .slice none 0 0]) (T := 43) (d := (some 13)) hS (by kernel_rfl) fun a w208 hw209 hS => ?_
      have hn210 : x7_17 ≠ w5.heap.size := Nat.ne_of_lt hB202.lt
      have hn212 : F.fb ≠ w5.heap.size := Nat.ne_of_lt hB204.lt
      have hn213 : ∀ x ∈ ob (.slice F.pb F.L.length F.pc), w5.heap.size ≠ x := fun x hx => Nat.ne_of_gt (hB205.lie x hx)
      have hn215 : x7_7 ≠ w5.heap.size := Nat.ne_of_lt hcB5.lt
      have hn216 : ∀ x ∈ ob (.slice bs0 st.length cap), w5.heap.size ≠ x := fun x hx => Nat.ne_of_gt (hcR5.lie x hx)
      have hn217 : ∀ x ∈ ob (.slice pb st.length pc), w5.heap.size ≠ x := fun x hx => Nat.ne_of_gt (hpR5.lie x hx)
      have hn218 : q.rb ≠ w5.heap.size := Nat.ne_of_lt hBq.lt
      have hn219 : q.t.b ≠ w5.heap.size := Nat.ne_of_lt hTq.lt
      have hB220 := Blk.at' hw209 (hB202.alloc _)
      have hB222 := Blk.at' hw209 (hB204.alloc _)
      have hB223 := OwnV.at' hw209 (hB205.alloc _)
      have hB225 := Blk.at' hw209 (hcB5.alloc _)
      have hB226 := OwnV.at' hw209 (hcR5.alloc _)
      have hB227 := OwnV.at' hw209 (hpR5.alloc _)
      have hB228 := Blk.at' hw209 (hBq.alloc _)
      have hB229 := Blk.at' hw209 (hTq.alloc _)
      have hX230 : Ext [] w5 w208 := by rw [hw209]; exact (Ext.refl _ _).alloc _
      have hG231 : Ext [] w191 w208 := hG207.trans0 hX230
      have hB232 : Blk w208 (w5.heap.size) 43 #[.pointer none, I6 0, .slice none 0 0] := by rw [hw209]; exact Blk.new _ _ _
      have hs233 : w.heap.size ≤ w5.heap.size := hE5.size
      refine eff_store wide_wide (r := 0) (b := w5.heap.size) (off := 0) (vs := [(Pv q.rb), I6 p, .slice pb st.length pc]) hS (by kernel_rfl) hB232 (by simp) fun a w235 hw236 hS => ?_
      have hB237 := Blk.at' hw236 (hB220.updNe (Ne.symm hn210) _ _)
      have hB239 := Blk.at' hw236 (hB222.updNe (Ne.symm hn212) _ _)
      have hB240 := OwnV.at' hw236 (hB223.updNe hn213 _ _)
      have hB242 := Blk.at' hw236 (hB225.updNe (Ne.symm hn215) _ _)
      have hB243 := OwnV.at' hw236 (hB226.updNe hn216 _ _)
      have hB244 := OwnV.at' hw236 (hB227.updNe hn217 _ _)
      have hB245 := Blk.at' hw236 (hB228.updNe (Ne.symm hn218) _ _)
      have hB246 := Blk.at' hw236 (hB229.updNe (Ne.symm hn219) _ _)
      have hB247 : Blk w235 w5.heap.size 43 (#[(Pv q.rb), I6 p, .slice pb st.length pc]) := by rw [hw236]; exact hB232.upd _ _
      have hX248 : Ext [w5.heap.size] w208 w235 := by rw [hw236]; exact (Ext.refl _ _).updIn (.inl (by simp)) _ _
      have hG249 : Ext [] w191 w235 := hG231.trans hX248 (fun b hb => by simp at hb; subst hb; exact .inr hG207.size)
      refine seg_end ?_
      refine hK201 _ _ ?_
      refine sq fun K251 hK251 => ?_
      refine region_gh2 (G := (Option Addr) × Nat × World × World) wide_wide [.q .p, .q .p, .q (.ld ((Pv x7_7))), .q .p, .q .p, .e, .q .p, .q .p, .q .p, .q (.ld (.slice F.pb F.L.length F.pc)), .q .p, .q (.ld ((Pv q.rb))), .q .p, .q .p, .q (.ld (I6 ↑q.i)), .q (.run ((Po (bof (.slice F.pb F.L.length F.pc)) (0 + q.i * 1)))), .q (.ld ((Pv q.t.b))), .q (.run (.bool false)), .q .p, .q .p, .q .p, .q (.ld ((Pv x7_7))), .q .p, .q .p, .e, .q .p, .q (.ld (I6 p)), .q (.as (.bool false)), .q .p, .q .p, .q .p, .q .p, .q (.ld ((Pv x7_7))), .q .p, .q .p, .e, .q .p, .q (.ld (.slice pb st.length pc)), .e, .q .p, .q .p] [0, 0, 0, 0, 0, 0, 0, 0, 0, 0, 0, 0, 0, 0, 0, 0, 0, 1, 1, 1, 1, 1, 1, 1, 1, 1, 1, 2, 2, 2, 2, 2, 2, 2, 2, 2, 2, 2, 3, 4, 4] [0, 0, 0, 0, 0, 0, 1, 1, 1, 1, 1, 1, 1, 1, 1, 1, 1, 1, 1, 1, 1, 1, 1, 1, 1, 2, 2, 2, 2, 2, 2, 2, 2, 2, 2, 2, 3, 3, 3, 4, 4] [0, 1, 3, 7, 15, 31, 0, 64, 192, 448, 0, 1024, 3072, 7168, 15360, 32704, 65472, 131071, 262143, 524287, 1048575, 2097151, 4194303, 8388607, 16777215, 524287, 34078719, 134217727, 268435455, 536870911, 1073741823, 2147483647, 4294967295, 8589934591, 17179869183, 34359738367, 1073741823, 69793218559, 274877906943, 549755813887, 1099511627775] [5, 24, 35, 38] [(5, 0), (24, 1), (35, 2), (38, 3)] 4 (fun ⟨b2, c2, wt, wu⟩ => ([(1, mv), (5, (Pv F.fb)), (8, (Pv x7_17)), (9, (Pv x8_19)), (10, I6 ↑k), (12, I6 0), (13, (Pv w5.heap.size)), (101, I6 0), (102, (Pv x7_17)), (103, (Pv x7_7)), (104, (Pv x7_7)), (105, (Pv x7_7)), (106, (Pv q.t.b)), (107, (Pv F.fb)), (108, (Pv F.fb)), (109, (Po F.fb 2)), (110, .slice F.pb F.L.length F.pc), (111, (Pv w5.heap.size)), (112, (Pv q.rb)), (113, (Pv q.rb)), (114, (Po q.rb 1)), (115, I6 ↑q.i), (116, (Po (bof (.slice F.pb F.L.length F.pc)) (0 + q.i * 1))), (117, (Pv q.t.b)), (118, .bool false), (119, .bool false), (120, I6 0), (121, (Pv x7_17)), (122, (Pv x7_7)), (123, (Pv x7_7)), (124, (Pv x7_7)), (125, I6 p), (126, (Po w5.heap.size 1)), (127, I6 p), (128, .bool false), (129, .bool false), (130, .bool false), (131, I6 0), (132, (Pv x7_17)), (133, (Pv x7_7)), (134, (Pv x7_7)), (135, (Pv x7_7)), (136, .slice b2 st.length c2), (137, (Po w5.heap.size 2)), (138, .slice pb st.length pc), (139, .bool true), (140, .bool false), (141, .bool false)] : Fm)) (fun ⟨b2, c2, wt, wu⟩ => [w235.drew, w235.drew, w235.drew, wt, wu]) (w235.drew) (fun e ⟨b2, c2, wt, wu⟩ => hAt [True, True, True, (OwnV wt 3 1 (.slice b2 st.length c2) st.length (kidsOf st)) ∧ (Ext [] (w235.drew) wt) ∧ True, (OwnV wt 3 1 (.slice b2 st.length c2) st.length (kidsOf st)) ∧ (Ext [] (w235.drew) wt) ∧ (Ext [] wt wu) ∧ True] e) (fun ⟨b2, c2, wt, wu⟩ w' => [(2, [w'.cell? ⟨x7_17, 0, none⟩ = some ((Pv x7_7))]), (9, [w'.cell? ⟨F.fb, 2, none⟩ = some (.slice F.pb F.L.length F.pc)]), (11, [w'.cell? ⟨w5.heap.size, 0, none⟩ = some ((Pv q.rb))]), (14, [w'.cell? ⟨q.rb, 1, none⟩ = some (I6 ↑q.i)]), (15, [Ru Try.prog (vS (Instr.indexAt 32 (.slice F.pb F.L.length F.pc) (I6 ↑q.i))) ((Po (bof (.slice F.pb F.L.length F.pc)) (0 + q.i * 1))) w']), (16, [w'.cell? ⟨bof (.slice F.pb F.L.length F.pc), 0 + q.i * 1, none⟩ = some ((Pv q.t.b))]), (17, [Ru Try.prog (vS (do eqGuard .neq 47 (.tmp 106) (.tmp 117) ((Pv q.t.b)) ((Pv q.t.b)); binOp .neq 47 ((Pv q.t.b)) ((Pv q.t.b)))) (.bool false) w']), (21, [w'.cell? ⟨x7_17, 0, none⟩ = some ((Pv x7_7))]), (26, [w'.cell? ⟨w5.heap.size, 1, none⟩ = some (I6 p)]), (27, [Value.bool (((p : Int) != p)) = .bool false]), (32, [w'.cell? ⟨x7_17, 0, none⟩ = some ((Pv x7_7))]), (37, [w'.cell? ⟨w5.heap.size, 2, none⟩ = some (.slice pb st.length pc)])]) (none, 0, w5, w5) [1, 5, 8, 9, 10, 12, 13] [] hS (by kernel_rfl) (by kernel_rfl) (by kernel_rfl) (by kernel_rfl) (fun ⟨b2, c2, wt, wu⟩ _ => by kernel_rfl) (by kernel_rfl) (by kernel_rfl) (by kernel_rfl) trivial ?_ (by kernel_rfl) ?_ ?_
      ·rintro e ⟨b2, c2, wt, wu⟩ w' hw hH
       refine (.cons ?_ (.cons ?_ (.cons ?_ (.cons ?_ (.cons ?_ (.cons ?_ (.cons ?_ (.cons ?_ (.cons ?_ (.cons ?_ (.cons ?_ (.cons ?_ .nil))))))))))))
       ·intro h1 h2
        obtain rfl : e = 0 := Nat.le_antisymm h2 h1
        have hwe : w235.drew = w' := (hw.trans (by kernel_rfl)).symm
        subst hwe
        clear hH
        exact (.cons ((hB237.drew : Blk w235.drew x7_17 92 (#[(Pv x7_7), (Pv x7_15)])).cell 0 rfl) .nil)
       ·intro h1 h2
        replace h1 : 0 ≤ e := h1
        replace h2 : e ≤ 1 := h2
        have he : e = 0 ∨ e = 1 := by omega
        rcases he with rfl | rfl
        ·have hwe : w235.drew = w' := (hw.trans (by kernel_rfl)).symm
         subst hwe
         clear hH
         exact (.cons ((hB239.drew : Blk w235.drew F.fb 35 (#[(Pv F.s0), (Pv F.s1), .slice F.pb F.L.length F.pc, .slice F.qb F.L.length F.qc, .slice F.bb F.bn F.bc])).cell 2 rfl) .nil)
        ·have hwe : w235.drew = w' := (hw.trans (by kernel_rfl)).symm
         subst hwe
         clear hH
         exact (.cons ((hB239.drew : Blk w235.drew F.fb 35 (#[(Pv F.s0), (Pv F.s1), .slice F.pb F.L.length F.pc, .slice F.qb F.L.length F.qc, .slice F.bb F.bn F.bc])).cell 2 rfl) .nil)
       ·intro h1 h2
        replace h1 : 0 ≤ e := h1
        replace h2 : e ≤ 1 := h2
        have he : e = 0 ∨ e = 1 := by omega
        rcases he with rfl | rfl
        ·have hwe : w235.drew = w' := (hw.trans (by kernel_rfl)).symm
         subst hwe
         clear hH
         exact (.cons ((hB247.drew : Blk w235.drew w5.heap.size 43 (#[(Pv q.rb), I6 p, .slice pb st.length pc])).cell 0 rfl) .nil)
        ·have hwe : w235.drew = w' := (hw.trans (by kernel_rfl)).symm
         subst hwe
         clear hH
         exact (.cons ((hB247.drew : Blk w235.drew w5.heap.size 43 (#[(Pv q.rb), I6 p, .slice pb st.length pc])).cell 0 rfl) .nil)
       ·intro h1 h2
        replace h1 : 0 ≤ e := h1
        replace h2 : e ≤ 1 := h2
        have he : e = 0 ∨ e = 1 := by omega
        rcases he with rfl | rfl
        ·have hwe : w235.drew = w' := (hw.trans (by kernel_rfl)).symm
         subst hwe
         clear hH
         exact (.cons ((hB245.drew : Blk w235.drew q.rb 40 (#[I6 q.k, I6 ↑q.i, I6 q.t.kd, I6 q.t.nn, I6 q.t.lk, I6 q.t.ls, I6 q.t.ll, I6 q.t.lr, q.kv, I6 q.t.tt])).cell 1 rfl) .nil)
        ·have hwe : w235.drew = w' := (hw.trans (by kernel_rfl)).symm
         subst hwe
         clear hH
         exact (.cons ((hB245.drew : Blk w235.drew q.rb 40 (#[I6 q.k, I6 ↑q.i, I6 q.t.kd, I6 q.t.nn, I6 q.t.lk, I6 q.t.ls, I6 q.t.ll, I6 q.t.lr, q.kv, I6 q.t.tt])).cell 1 rfl) .nil)
       ·intro h1 h2
        replace h1 : 0 ≤ e := h1
        replace h2 : e ≤ 1 := h2
        have he : e = 0 ∨ e = 1 := by omega
        rcases he with rfl | rfl
        ·have hwe : w235.drew = w' := (hw.trans (by kernel_rfl)).symm
         subst hwe
         clear hH
         exact (.cons (ix_own (j := q.i) (hB240) (by kernel_rfl) (by kernel_rfl) rfl hqi) .nil)
        ·have hwe : w235.drew = w' := (hw.trans (by kernel_rfl)).symm
         subst hwe
         clear hH
         exact (.cons (ix_own (j := q.i) (hB240) (by kernel_rfl) (by kernel_rfl) rfl hqi) .nil)
       ·intro h1 h2
        replace h1 : 0 ≤ e := h1
        replace h2 : e ≤ 1 := h2
        have he : e = 0 ∨ e = 1 := by omega
        rcases he with rfl | rfl
        ·have hwe : w235.drew = w' := (hw.trans (by kernel_rfl)).symm
         subst hwe
         clear hH
         exact (.cons ((hB240.drew : OwnV w235.drew 47 1 (.slice F.pb F.L.length F.pc) F.L.length (F.L.map fun r => r.t.ptr)).cellAt _ (by simp [hqL, Tr.ptr])) .nil)
        ·have hwe : w235.drew = w' := (hw.trans (by kernel_rfl)).symm
         subst hwe
         clear hH
         exact (.cons ((hB240.drew : OwnV w235.drew 47 1 (.slice F.pb F.L.length F.pc) F.L.length (F.L.map fun r => r.t.ptr)).cellAt _ (by simp [hqL, Tr.ptr])) .nil)
       ·intro h1 h2
        obtain rfl : e = 1 := Nat.le_antisymm h2 h1
        have hwe : w235.drew = w' := (hw.trans (by kernel_rfl)).symm
        subst hwe
        clear hH
        exact (.cons (bin_ptr_neq (E := 106) (by kernel_rfl) ⟨12, by kernel_rfl⟩ (hB246.drew) (hB246.drew) (by simp)) .nil)
       ·intro h1 h2
        obtain rfl : e = 1 := Nat.le_antisymm h2 h1
        have hwe : w235.drew = w' := (hw.trans (by kernel_rfl)).symm
        subst hwe
        clear hH
        exact (.cons ((hB237.drew : Blk w235.drew x7_17 92 (#[(Pv x7_7), (Pv x7_15)])).cell 0 rfl) .nil)
       ·intro h1 h2
        replace h1 : 1 ≤ e := h1
        replace h2 : e ≤ 2 := h2
        have he : e = 1 ∨ e = 2 := by omega
        rcases he with rfl | rfl
        ·have hwe : w235.drew = w' := (hw.trans (by kernel_rfl)).symm
         subst hwe
         clear hH
         exact (.cons ((hB247.drew : Blk w235.drew w5.heap.size 43 (#[(Pv q.rb), I6 p, .slice pb st.length pc])).cell 1 rfl) .nil)
        ·have hwe : w235.drew = w' := (hw.trans (by kernel_rfl)).symm
         subst hwe
         clear hH
         exact (.cons ((hB247.drew : Blk w235.drew w5.heap.size 43 (#[(Pv q.rb), I6 p, .slice pb st.length pc])).cell 1 rfl) .nil)
       ·intro h1 h2
        obtain rfl : e = 2 := Nat.le_antisymm h2 h1
        have hwe : w235.drew = w' := (hw.trans (by kernel_rfl)).symm
        subst hwe
        clear hH
        exact (.cons (as_ne_f (rfl)) .nil)
       ·intro h1 h2
        obtain rfl : e = 2 := Nat.le_antisymm h2 h1
        have hwe : w235.drew = w' := (hw.trans (by kernel_rfl)).symm
        subst hwe
        clear hH
        exact (.cons ((hB237.drew : Blk w235.drew x7_17 92 (#[(Pv x7_7), (Pv x7_15)])).cell 0 rfl) .nil)
       ·intro h1 h2
        replace h1 : 2 ≤ e := h1
        replace h2 : e ≤ 3 := h2
        have he : e = 2 ∨ e = 3 := by omega
        rcases he with rfl | rfl
        ·have hwe : w235.drew = w' := (hw.trans (by kernel_rfl)).symm
         subst hwe
         clear hH
         exact (.cons ((hB247.drew : Blk w235.drew w5.heap.size 43 (#[(Pv q.rb), I6 p, .slice pb st.length pc])).cell 2 rfl) .nil)
        ·have hwe : wt = w' := (hw.trans (by kernel_rfl)).symm
         subst hwe
         obtain ⟨hv2, hEt, _⟩ := hH
         exact (.cons (((hB247.drew : Blk w235.drew w5.heap.size 43 (#[(Pv q.rb), I6 p, .slice pb st.length pc])).ext hEt (by simp) : Blk wt w5.heap.size 43 (#[(Pv q.rb), I6 p, .slice pb st.length pc])).cell 2 rfl) .nil)
      ·refine (.cons ?eq252_5 (.cons ?eq252_24 (.cons ?eq252_35 (.cons ?eq252_38 .nil))))
       ·rintro ⟨b2, c2, wt, wu⟩ hH
        clear hH
        refine eff_gh (w235.drew) (by kernel_rfl) ?_
        refine upon_call (f := 41) (vs := [(Pv x7_7)]) (cap := #[]) (d := (some 106)) (by kernel_rfl) Try.call41 #[(Pv x7_7)] (by kernel_rfl) (PNode_any (hB242.drew : Blk w235.drew x7_7 77 (#[(Pv r.t.b), .slice bs0 st.length cap, (Pv q.t.b), I6 p]))) ?_
        rintro _ wq ⟨rfl, hwq⟩
        rw [hwq]
        exact ⟨_, rfl, ⟨(b2, c2, wt, wu), by kernel_rfl, by kernel_rfl, by kernel_rfl, trivial⟩⟩
       ·rintro ⟨b2, c2, wt, wu⟩ hH
        clear hH
        refine eff_gh (w235.drew) (by kernel_rfl) ?_
        refine upon_call (f := 40) (vs := [(Pv x7_7)]) (cap := #[]) (d := (some 125)) (by kernel_rfl) Try.call40 #[(Pv x7_7)] (by kernel_rfl) (Offset_any (hB242.drew : Blk w235.drew x7_7 77 (#[(Pv r.t.b), .slice bs0 st.length cap, (Pv q.t.b), I6 p]))) ?_
        rintro _ wq ⟨rfl, hwq⟩
        rw [hwq]
        exact ⟨_, rfl, ⟨(b2, c2, wt, wu), by kernel_rfl, by kernel_rfl, by kernel_rfl, trivial⟩⟩
       ·rintro ⟨b2, c2, wt, wu⟩ hH
        clear hH
        refine eff_gh (w235.drew) (by kernel_rfl) ?_
        refine upon_call (f := 39) (vs := [(Pv x7_7)]) (cap := #[]) (d := (some 136)) (by kernel_rfl) Try.call39 #[(Pv x7_7)] (by kernel_rfl) (Path_any (hB242.drew : Blk w235.drew x7_7 77 (#[(Pv r.t.b), .slice bs0 st.length cap, (Pv q.t.b), I6 p])) (hB243.drew : OwnV w235.drew 122 3 (.slice bs0 st.length cap) st.length (ways st)) (by omega)) ?_
        rintro _ wt ⟨b2, c2, rfl, hv2, hEt, _⟩
        exact ⟨_, rfl, ⟨(b2, c2, wt, wu), by kernel_rfl, by kernel_rfl, by kernel_rfl, ⟨hv2, hEt, trivial⟩⟩⟩
       ·rintro ⟨b2, c2, wt, wu⟩ hH
        obtain ⟨hv2, hEt, _⟩ := hH
        refine eff_gh (wt) (by kernel_rfl) ?_
        refine upon_call (f := 44) (vs := [.slice b2 st.length c2, .slice pb st.length pc]) (cap := #[]) (d := (some 139)) (by kernel_rfl) Try.call44 #[.slice b2 st.length c2, .slice pb st.length pc] (by kernel_rfl) (SameInts_eq (xs := idx st) (by have h := (hv2 : OwnV wt 3 1 (.slice b2 st.length c2) st.length (kidsOf st)).rd; rw [kidsOf_idx] at h; exact h) ((hB244.drew : OwnV w235.drew 3 1 (.slice pb st.length pc) st.length (ints (idx st))).ext hEt (by simp) : OwnV wt 3 1 (.slice pb st.length pc) st.length (ints (idx st))).rd (by omega)) ?_
        rintro _ wu ⟨rfl, hEu⟩
        exact ⟨_, rfl, ⟨(b2, c2, wt, wu), by kernel_rfl, by kernel_rfl, by kernel_rfl, ⟨hv2, hEt, hEu, trivial⟩⟩⟩
      rintro ⟨b2, c2, wt, wu⟩ a w253 hS hw254 hH
      obtain ⟨hv2, hEt, hEu, _⟩ := hH
      replace hw254 : w253 = wu := hw254.trans (by kernel_rfl)
      have hX268 : Ext [] w235 w253 := by rw [hw254]; exact (((Ext.refl _ _).drew).trans0 hEt).trans0 hEu
      have hG269 : Ext [] w191 w253 := hG249.trans0 hX268
      replace hS := hS.kp [(1, mv), (5, (Pv F.fb)), (8, (Pv x7_17)), (9, (Pv x8_19)), (10, I6 ↑k), (12, I6 0), (13, (Pv w5.heap.size)), (141, .bool false)]
      refine hK251 _ _ ?_
      refine cond_f hS rfl ?_
      refine wpIn_skip ?_
      refine inBlock_normal ?_
      refine hK200 _ _ ?_
      refine rgn 3 ?_
      refine sg wide_wide [.p, .p, .p] [] [(1, mv), (5, (Pv F.fb)), (8, (Pv x7_17)), (9, (Pv x8_19)), (10, I6 ↑k), (12, I6 1), (13, (Pv w5.heap.size)), (141, .bool false)] 3 0 hS .nil fun a hS => ?_
      refine seg_end ?_
      exact ⟨0 + 1, ⟨hS.keepTo [1, 5, 8, 9, 10, 12] (by kernel_rfl), by omega, hG269⟩, by omega⟩
     ·
      obtain ⟨st, q, p, cap, pb, pc, hJ, hcu, hpc⟩ := hS1'.ex
      have hqm := hJ.mem hF4.ok hrm
      have hbd := hJ.bd hF4.ok hrm
      have hrtt := hF4.ok.tt hrm
      have hqtt := hF4.ok.tt hqm
      have hqi := (hF4.ok.one q hqm).ki
      have hqL := hF4.ok.at hqm
      refine rgn 6 ?_
      refine sg wide_wide [.p, .p, .ld ((Pv x8_17))] [w4.cell? ⟨x8_19, 1, none⟩ = some ((Pv x8_17))] [(1, mv), (5, (Pv F.fb)), (8, (Pv x7_17)), (9, (Pv x8_19)), (10, I6 ↑k), (12, I6 1), (99, (Pv x8_17))] 3 3 hS (.cons (har4.cell 1 rfl) .nil) fun a hS => ?_
      refine eff_call wide_wide (r := 2) (f := 50) (vs := [(Pv x8_17)]) (cap := #[]) (d := (some 100)) hS (by kernel_rfl) Try.call50 #[(Pv x8_17)] (by kernel_rfl) (Spot_any hF4.ok hrm hJ hpc.blk hpc.row) ?_
      rintro _ w5 ⟨rfl, hE50⟩
      refine ⟨_, rfl, fun a hS => ?_⟩
      have hE5 := hE4.trans0 hE50
      have hcu5 := hcu.mv0 hE50
      have hpc5 := hpc.ext0 hE50
      have hF5 := hF4.ext0 hE50
      have hcB5 := hcu5.blk
      have hcR5 := hcu5.row
      have hpR5 := hpc5.row
      have hB270 := hap4.ext hE50 (by simp)
      have hB272 := hF4.f.ext hE50 (by simp)
      have hB273 := hF4.P.ext hE50 (by simp)
      have hG275 : Ext [] w191 w5 := hE34.trans0 hE50
      have hrowq := (hF5.ok.one q hqm).row
      have hBq : Blk w5 q.rb 40 #[I6 q.k, I6 ↑q.i, I6 q.t.kd, I6 q.t.nn, I6 q.t.lk, I6 q.t.ls, I6 q.t.ll, I6 q.t.lr, q.kv, I6 q.t.tt] := (hF5.ok.one q hqm).blk
      have hTq : Blk w5 q.t.b 106 #[(Po (sOf F.s0 F.s1 q.k) 0), I6 q.t.num, I6 q.t.kd, I6 q.t.nn, I6 q.t.lk, I6 q.t.ls, I6 q.t.ll, I6 q.t.lr, q.t.ks, I6 q.t.wd, I6 q.t.lf, I6 q.t.tt, .bool q.t.fl] := (hF5.ok.one q hqm).ok.blk
      refine eff_box wide_wide (r := 1) (cs := #[.pointer none, I6 0, .slice none 0 0]) (T := 43) (d := (some 13)) hS (by kernel_rfl) fun a w276 hw277 hS => ?_
      have hn278 : x7_17 ≠ w5.heap.size := Nat.ne_of_lt hB270.lt
      have hn280 : F.fb ≠ w5.heap.size := Nat.ne_of_lt hB272.lt
      have hn281 : ∀ x ∈ ob (.slice F.pb F.L.length F.pc), w5.heap.size ≠ x := fun x hx => Nat.ne_of_gt (hB273.lie x hx)
      have hn283 : x7_15 ≠ w5.heap.size := Nat.ne_of_lt hcB5.lt
      have hn284 : ∀ x ∈ ob (.slice bm st.length cap), w5.heap.size ≠ x := fun x hx => Nat.ne_of_gt (hcR5.lie x hx)
      have hn285 : ∀ x ∈ ob (.slice pb st.length pc), w5.heap.size ≠ x := fun x hx => Nat.ne_of_gt (hpR5.lie x hx)
      have hn286 : q.rb ≠ w5.heap.size := Nat.ne_of_lt hBq.lt
      have hn287 : q.t.b ≠ w5.heap.size := Nat.ne_of_lt hTq.lt
      have hB288 := Blk.at' hw277 (hB270.alloc _)
      have hB290 := Blk.at' hw277 (hB272.alloc _)
      have hB291 := OwnV.at' hw277 (hB273.alloc _)
      have hB293 := Blk.at' hw277 (hcB5.alloc _)
      have hB294 := OwnV.at' hw277 (hcR5.alloc _)
      have hB295 := OwnV.at' hw277 (hpR5.alloc _)
      have hB296 := Blk.at' hw277 (hBq.alloc _)
      have hB297 := Blk.at' hw277 (hTq.alloc _)
      have hX298 : Ext [] w5 w276 := by rw [hw277]; exact (Ext.refl _ _).alloc _
      have hG299 : Ext [] w191 w276 := hG275.trans0 hX298
      have hB300 : Blk w276 (w5.heap.size) 43 #[.pointer none, I6 0, .slice none 0 0] := by rw [hw277]; exact Blk.new _ _ _
      have hs301 : w.heap.size ≤ w5.heap.size := hE5.size
      refine eff_store wide_wide (r := 0) (b := w5.heap.size) (off := 0) (vs := [(Pv q.rb), I6 p, .slice pb st.length pc]) hS (by kernel_rfl) hB300 (by simp) fun a w303 hw304 hS => ?_
      have hB305 := Blk.at' hw304 (hB288.updNe (Ne.symm hn278) _ _)
      have hB307 := Blk.at' hw304 (hB290.updNe (Ne.symm hn280) _ _)
      have hB308 := OwnV.at' hw304 (hB291.updNe hn281 _ _)
      have hB310 := Blk.at' hw304 (hB293.updNe (Ne.symm hn283) _ _)
      have hB311 := OwnV.at' hw304 (hB294.updNe hn284 _ _)
      have hB312 := OwnV.at' hw304 (hB295.updNe hn285 _ _)
      have hB313 := Blk.at' hw304 (hB296.updNe (Ne.symm hn286) _ _)
      have hB314 := Blk.at' hw304 (hB297.updNe (Ne.symm hn287) _ _)
      have hB315 : Blk w303 w5.heap.size 43 (#[(Pv q.rb), I6 p, .slice pb st.length pc]) := by rw [hw304]; exact hB300.upd _ _
      have hX316 : Ext [w5.heap.size] w276 w303 := by rw [hw304]; exact (Ext.refl _ _).updIn (.inl (by simp)) _ _
      have hG317 : Ext [] w191 w303 := hG299.trans hX316 (fun b hb => by simp at hb; subst hb; exact .inr hG275.size)
      refine seg_end ?_
      refine hK201 _ _ ?_
      refine sq fun K319 hK319 => ?_
      refine region_gh2 (G := (Option Addr) × Nat × World × World) wide_wide [.q .p, .q .p, .q (.ld ((Pv x7_15))), .q .p, .q .p, .e, .q .p, .q .p, .q .p, .q (.ld (.slice F.pb F.L.length F.pc)), .q .p, .q (.ld ((Pv q.rb))), .q .p, .q .p, .q (.ld (I6 ↑q.i)), .q (.run ((Po (bof (.slice F.pb F.L.length F.pc)) (0 + q.i * 1)))), .q (.ld ((Pv q.t.b))), .q (.run (.bool false)), .q .p, .q .p, .q .p, .q (.ld ((Pv x7_15))), .q .p, .q .p, .e, .q .p, .q (.ld (I6 p)), .q (.as (.bool false)), .q .p, .q .p, .q .p, .q .p, .q (.ld ((Pv x7_15))), .q .p, .q .p, .e, .q .p, .q (.ld (.slice pb st.length pc)), .e, .q .p, .q .p] [0, 0, 0, 0, 0, 0, 0, 0, 0, 0, 0, 0, 0, 0, 0, 0, 0, 1, 1, 1, 1, 1, 1, 1, 1, 1, 1, 2, 2, 2, 2, 2, 2, 2, 2, 2, 2, 2, 3, 4, 4] [0, 0, 0, 0, 0, 0, 1, 1, 1, 1, 1, 1, 1, 1, 1, 1, 1, 1, 1, 1, 1, 1, 1, 1, 1, 2, 2, 2, 2, 2, 2, 2, 2, 2, 2, 2, 3, 3, 3, 4, 4] [0, 1, 3, 7, 15, 31, 0, 64, 192, 448, 0, 1024, 3072, 7168, 15360, 32704, 65472, 131071, 262143, 524287, 1048575, 2097151, 4194303, 8388607, 16777215, 524287, 34078719, 134217727, 268435455, 536870911, 1073741823, 2147483647, 4294967295, 8589934591, 17179869183, 34359738367, 1073741823, 69793218559, 274877906943, 549755813887, 1099511627775] [5, 24, 35, 38] [(5, 0), (24, 1), (35, 2), (38, 3)] 4 (fun ⟨b2, c2, wt, wu⟩ => ([(1, mv), (5, (Pv F.fb)), (8, (Pv x7_17)), (9, (Pv x8_19)), (10, I6 ↑k), (12, I6 1), (13, (Pv w5.heap.size)), (101, I6 1), (102, (Po x7_17 1)), (103, (Pv x7_15)), (104, (Pv x7_15)), (105, (Pv x7_15)), (106, (Pv q.t.b)), (107, (Pv F.fb)), (108, (Pv F.fb)), (109, (Po F.fb 2)), (110, .slice F.pb F.L.length F.pc), (111, (Pv w5.heap.size)), (112, (Pv q.rb)), (113, (Pv q.rb)), (114, (Po q.rb 1)), (115, I6 ↑q.i), (116, (Po (bof (.slice F.pb F.L.length F.pc)) (0 + q.i * 1))), (117, (Pv q.t.b)), (118, .bool false), (119, .bool false), (120, I6 1), (121, (Po x7_17 1)), (122, (Pv x7_15)), (123, (Pv x7_15)), (124, (Pv x7_15)), (125, I6 p), (126, (Po w5.heap.size 1)), (127, I6 p), (128, .bool false), (129, .bool false), (130, .bool false), (131, I6 1), (132, (Po x7_17 1)), (133, (Pv x7_15)), (134, (Pv x7_15)), (135, (Pv x7_15)), (136, .slice b2 st.length c2), (137, (Po w5.heap.size 2)), (138, .slice pb st.length pc), (139, .bool true), (140, .bool false), (141, .bool false)] : Fm)) (fun ⟨b2, c2, wt, wu⟩ => [w303.drew, w303.drew, w303.drew, wt, wu]) (w303.drew) (fun e ⟨b2, c2, wt, wu⟩ => hAt [True, True, True, (OwnV wt 3 1 (.slice b2 st.length c2) st.length (kidsOf st)) ∧ (Ext [] (w303.drew) wt) ∧ True, (OwnV wt 3 1 (.slice b2 st.length c2) st.length (kidsOf st)) ∧ (Ext [] (w303.drew) wt) ∧ (Ext [] wt wu) ∧ True] e) (fun ⟨b2, c2, wt, wu⟩ w' => [(2, [w'.cell? ⟨x7_17, 1, none⟩ = some ((Pv x7_15))]), (9, [w'.cell? ⟨F.fb, 2, none⟩ = some (.slice F.pb F.L.length F.pc)]), (11, [w'.cell? ⟨w5.heap.size, 0, none⟩ = some ((Pv q.rb))]), (14, [w'.cell? ⟨q.rb, 1, none⟩ = some (I6 ↑q.i)]), (15, [Ru Try.prog (vS (Instr.indexAt 32 (.slice F.pb F.L.length F.pc) (I6 ↑q.i))) ((Po (bof (.slice F.pb F.L.length F.pc)) (0 + q.i * 1))) w']), (16, [w'.cell? ⟨bof (.slice F.pb F.L.length F.pc), 0 + q.i * 1, none⟩ = some ((Pv q.t.b))]), (17, [Ru Try.prog (vS (do eqGuard .neq 47 (.tmp 106) (.tmp 117) ((Pv q.t.b)) ((Pv q.t.b)); binOp .neq 47 ((Pv q.t.b)) ((Pv q.t.b)))) (.bool false) w']), (21, [w'.cell? ⟨x7_17, 1, none⟩ = some ((Pv x7_15))]), (26, [w'.cell? ⟨w5.heap.size, 1, none⟩ = some (I6 p)]), (27, [Value.bool (((p : Int) != p)) = .bool false]), (32, [w'.cell? ⟨x7_17, 1, none⟩ = some ((Pv x7_15))]), (37, [w'.cell? ⟨w5.heap.size, 2, none⟩ = some (.slice pb st.length pc)])]) (none, 0, w5, w5) [1, 5, 8, 9, 10, 12, 13] [] hS (by kernel_rfl) (by kernel_rfl) (by kernel_rfl) (by kernel_rfl) (fun ⟨b2, c2, wt, wu⟩ _ => by kernel_rfl) (by kernel_rfl) (by kernel_rfl) (by kernel_rfl) trivial ?_ (by kernel_rfl) ?_ ?_
      ·rintro e ⟨b2, c2, wt, wu⟩ w' hw hH
       refine (.cons ?_ (.cons ?_ (.cons ?_ (.cons ?_ (.cons ?_ (.cons ?_ (.cons ?_ (.cons ?_ (.cons ?_ (.cons ?_ (.cons ?_ (.cons ?_ .nil))))))))))))
       ·intro h1 h2
        obtain rfl : e = 0 := Nat.le_antisymm h2 h1
        have hwe : w303.drew = w' := (hw.trans (by kernel_rfl)).symm
        subst hwe
        clear hH
        exact (.cons ((hB305.drew : Blk w303.drew x7_17 92 (#[(Pv x7_7), (Pv x7_15)])).cell 1 rfl) .nil)
       ·intro h1 h2
        replace h1 : 0 ≤ e := h1
        replace h2 : e ≤ 1 := h2
        have he : e = 0 ∨ e = 1 := by omega
        rcases he with rfl | rfl
        ·have hwe : w303.drew = w' := (hw.trans (by kernel_rfl)).symm
         subst hwe
         clear hH
         exact (.cons ((hB307.drew : Blk w303.drew F.fb 35 (#[(Pv F.s0), (Pv F.s1), .slice F.pb F.L.length F.pc, .slice F.qb F.L.length F.qc, .slice F.bb F.bn F.bc])).cell 2 rfl) .nil)
        ·have hwe : w303.drew = w' := (hw.trans (by kernel_rfl)).symm
         subst hwe
         clear hH
         exact (.cons ((hB307.drew : Blk w303.drew F.fb 35 (#[(Pv F.s0), (Pv F.s1), .slice F.pb F.L.length F.pc, .slice F.qb F.L.length F.qc, .slice F.bb F.bn F.bc])).cell 2 rfl) .nil)
       ·intro h1 h2
        replace h1 : 0 ≤ e := h1
        replace h2 : e ≤ 1 := h2
        have he : e = 0 ∨ e = 1 := by omega
        rcases he with rfl | rfl
        ·have hwe : w303.drew = w' := (hw.trans (by kernel_rfl)).symm
         subst hwe
         clear hH
         exact (.cons ((hB315.drew : Blk w303.drew w5.heap.size 43 (#[(Pv q.rb), I6 p, .slice pb st.length pc])).cell 0 rfl) .nil)
        ·have hwe : w303.drew = w' := (hw.trans (by kernel_rfl)).symm
         subst hwe
         clear hH
         exact (.cons ((hB315.drew : Blk w303.drew w5.heap.size 43 (#[(Pv q.rb), I6 p, .slice pb st.length pc])).cell 0 rfl) .nil)
       ·intro h1 h2
        replace h1 : 0 ≤ e := h1
        replace h2 : e ≤ 1 := h2
        have he : e = 0 ∨ e = 1 := by omega
        rcases he with rfl | rfl
        ·have hwe : w303.drew = w' := (hw.trans (by kernel_rfl)).symm
         subst hwe
         clear hH
         exact (.cons ((hB313.drew : Blk w303.drew q.rb 40 (#[I6 q.k, I6 ↑q.i, I6 q.t.kd, I6 q.t.nn, I6 q.t.lk, I6 q.t.ls, I6 q.t.ll, I6 q.t.lr, q.kv, I6 q.t.tt])).cell 1 rfl) .nil)
        ·have hwe : w303.drew = w' := (hw.trans (by kernel_rfl)).symm
         subst hwe
         clear hH
         exact (.cons ((hB313.drew : Blk w303.drew q.rb 40 (#[I6 q.k, I6 ↑q.i, I6 q.t.kd, I6 q.t.nn, I6 q.t.lk, I6 q.t.ls, I6 q.t.ll, I6 q.t.lr, q.kv, I6 q.t.tt])).cell 1 rfl) .nil)
       ·intro h1 h2
        replace h1 : 0 ≤ e := h1
        replace h2 : e ≤ 1 := h2
        have he : e = 0 ∨ e = 1 := by omega
        rcases he with rfl | rfl
        ·have hwe : w303.drew = w' := (hw.trans (by kernel_rfl)).symm
         subst hwe
         clear hH
         exact (.cons (ix_own (j := q.i) (hB308) (by kernel_rfl) (by kernel_rfl) rfl hqi) .nil)
        ·have hwe : w303.drew = w' := (hw.trans (by kernel_rfl)).symm
         subst hwe
         clear hH
         exact (.cons (ix_own (j := q.i) (hB308) (by kernel_rfl) (by kernel_rfl) rfl hqi) .nil)
       ·intro h1 h2
        replace h1 : 0 ≤ e := h1
        replace h2 : e ≤ 1 := h2
        have he : e = 0 ∨ e = 1 := by omega
        rcases he with rfl | rfl
        ·have hwe : w303.drew = w' := (hw.trans (by kernel_rfl)).symm
         subst hwe
         clear hH
         exact (.cons ((hB308.drew : OwnV w303.drew 47 1 (.slice F.pb F.L.length F.pc) F.L.length (F.L.map fun r => r.t.ptr)).cellAt _ (by simp [hqL, Tr.ptr])) .nil)
        ·have hwe : w303.drew = w' := (hw.trans (by kernel_rfl)).symm
         subst hwe
         clear hH
         exact (.cons ((hB308.drew : OwnV w303.drew 47 1 (.slice F.pb F.L.length F.pc) F.L.length (F.L.map fun r => r.t.ptr)).cellAt _ (by simp [hqL, Tr.ptr])) .nil)
       ·intro h1 h2
        obtain rfl : e = 1 := Nat.le_antisymm h2 h1
        have hwe : w303.drew = w' := (hw.trans (by kernel_rfl)).symm
        subst hwe
        clear hH
        exact (.cons (bin_ptr_neq (E := 106) (by kernel_rfl) ⟨12, by kernel_rfl⟩ (hB314.drew) (hB314.drew) (by simp)) .nil)
       ·intro h1 h2
        obtain rfl : e = 1 := Nat.le_antisymm h2 h1
        have hwe : w303.drew = w' := (hw.trans (by kernel_rfl)).symm
        subst hwe
        clear hH
        exact (.cons ((hB305.drew : Blk w303.drew x7_17 92 (#[(Pv x7_7), (Pv x7_15)])).cell 1 rfl) .nil)
       ·intro h1 h2
        replace h1 : 1 ≤ e := h1
        replace h2 : e ≤ 2 := h2
        have he : e = 1 ∨ e = 2 := by omega
        rcases he with rfl | rfl
        ·have hwe : w303.drew = w' := (hw.trans (by kernel_rfl)).symm
         subst hwe
         clear hH
         exact (.cons ((hB315.drew : Blk w303.drew w5.heap.size 43 (#[(Pv q.rb), I6 p, .slice pb st.length pc])).cell 1 rfl) .nil)
        ·have hwe : w303.drew = w' := (hw.trans (by kernel_rfl)).symm
         subst hwe
         clear hH
         exact (.cons ((hB315.drew : Blk w303.drew w5.heap.size 43 (#[(Pv q.rb), I6 p, .slice pb st.length pc])).cell 1 rfl) .nil)
       ·intro h1 h2
        obtain rfl : e = 2 := Nat.le_antisymm h2 h1
        have hwe : w303.drew = w' := (hw.trans (by kernel_rfl)).symm
        subst hwe
        clear hH
        exact (.cons (as_ne_f (rfl)) .nil)
       ·intro h1 h2
        obtain rfl : e = 2 := Nat.le_antisymm h2 h1
        have hwe : w303.drew = w' := (hw.trans (by kernel_rfl)).symm
        subst hwe
        clear hH
        exact (.cons ((hB305.drew : Blk w303.drew x7_17 92 (#[(Pv x7_7), (Pv x7_15)])).cell 1 rfl) .nil)
       ·intro h1 h2
        replace h1 : 2 ≤ e := h1
        replace h2 : e ≤ 3 := h2
        have he : e = 2 ∨ e = 3 := by omega
        rcases he with rfl | rfl
        ·have hwe : w303.drew = w' := (hw.trans (by kernel_rfl)).symm
         subst hwe
         clear hH
         exact (.cons ((hB315.drew : Blk w303.drew w5.heap.size 43 (#[(Pv q.rb), I6 p, .slice pb st.length pc])).cell 2 rfl) .nil)
        ·have hwe : wt = w' := (hw.trans (by kernel_rfl)).symm
         subst hwe
         obtain ⟨hv2, hEt, _⟩ := hH
         exact (.cons (((hB315.drew : Blk w303.drew w5.heap.size 43 (#[(Pv q.rb), I6 p, .slice pb st.length pc])).ext hEt (by simp) : Blk wt w5.heap.size 43 (#[(Pv q.rb), I6 p, .slice pb st.length pc])).cell 2 rfl) .nil)
      ·refine (.cons ?eq320_5 (.cons ?eq320_24 (.cons ?eq320_35 (.cons ?eq320_38 .nil))))
       ·rintro ⟨b2, c2, wt, wu⟩ hH
        clear hH
        refine eff_gh (w303.drew) (by kernel_rfl) ?_
        refine upon_call (f := 41) (vs := [(Pv x7_15)]) (cap := #[]) (d := (some 106)) (by kernel_rfl) Try.call41 #[(Pv x7_15)] (by kernel_rfl) (PNode_any (hB310.drew : Blk w303.drew x7_15 77 (#[(Pv r.t.b), .slice bm st.length cap, (Pv q.t.b), I6 p]))) ?_
        rintro _ wq ⟨rfl, hwq⟩
        rw [hwq]
        exact ⟨_, rfl, ⟨(b2, c2, wt, wu), by kernel_rfl, by kernel_rfl, by kernel_rfl, trivial⟩⟩
       ·rintro ⟨b2, c2, wt, wu⟩ hH
        clear hH
        refine eff_gh (w303.drew) (by kernel_rfl) ?_
        refine upon_call (f := 40) (vs := [(Pv x7_15)]) (cap := #[]) (d := (some 125)) (by kernel_rfl) Try.call40 #[(Pv x7_15)] (by kernel_rfl) (Offset_any (hB310.drew : Blk w303.drew x7_15 77 (#[(Pv r.t.b), .slice bm st.length cap, (Pv q.t.b), I6 p]))) ?_
        rintro _ wq ⟨rfl, hwq⟩
        rw [hwq]
        exact ⟨_, rfl, ⟨(b2, c2, wt, wu), by kernel_rfl, by kernel_rfl, by kernel_rfl, trivial⟩⟩
       ·rintro ⟨b2, c2, wt, wu⟩ hH
        clear hH
        refine eff_gh (w303.drew) (by kernel_rfl) ?_
        refine upon_call (f := 39) (vs := [(Pv x7_15)]) (cap := #[]) (d := (some 136)) (by kernel_rfl) Try.call39 #[(Pv x7_15)] (by kernel_rfl) (Path_any (hB310.drew : Blk w303.drew x7_15 77 (#[(Pv r.t.b), .slice bm st.length cap, (Pv q.t.b), I6 p])) (hB311.drew : OwnV w303.drew 122 3 (.slice bm st.length cap) st.length (ways st)) (by omega)) ?_
        rintro _ wt ⟨b2, c2, rfl, hv2, hEt, _⟩
        exact ⟨_, rfl, ⟨(b2, c2, wt, wu), by kernel_rfl, by kernel_rfl, by kernel_rfl, ⟨hv2, hEt, trivial⟩⟩⟩
       ·rintro ⟨b2, c2, wt, wu⟩ hH
        obtain ⟨hv2, hEt, _⟩ := hH
        refine eff_gh (wt) (by kernel_rfl) ?_
        refine upon_call (f := 44) (vs := [.slice b2 st.length c2, .slice pb st.length pc]) (cap := #[]) (d := (some 139)) (by kernel_rfl) Try.call44 #[.slice b2 st.length c2, .slice pb st.length pc] (by kernel_rfl) (SameInts_eq (xs := idx st) (by have h := (hv2 : OwnV wt 3 1 (.slice b2 st.length c2) st.length (kidsOf st)).rd; rw [kidsOf_idx] at h; exact h) ((hB312.drew : OwnV w303.drew 3 1 (.slice pb st.length pc) st.length (ints (idx st))).ext hEt (by simp) : OwnV wt 3 1 (.slice pb st.length pc) st.length (ints (idx st))).rd (by omega)) ?_
        rintro _ wu ⟨rfl, hEu⟩
        exact ⟨_, rfl, ⟨(b2, c2, wt, wu), by kernel_rfl, by kernel_rfl, by kernel_rfl, ⟨hv2, hEt, hEu, trivial⟩⟩⟩
      rintro ⟨b2, c2, wt, wu⟩ a w321 hS hw322 hH
      obtain ⟨hv2, hEt, hEu, _⟩ := hH
      replace hw322 : w321 = wu := hw322.trans (by kernel_rfl)
      have hX336 : Ext [] w303 w321 := by rw [hw322]; exact (((Ext.refl _ _).drew).trans0 hEt).trans0 hEu
      have hG337 : Ext [] w191 w321 := hG317.trans0 hX336
      replace hS := hS.kp [(1, mv), (5, (Pv F.fb)), (8, (Pv x7_17)), (9, (Pv x8_19)), (10, I6 ↑k), (12, I6 1), (13, (Pv w5.heap.size)), (141, .bool false)]
      refine hK319 _ _ ?_
      refine cond_f hS rfl ?_
      refine wpIn_skip ?_
      refine inBlock_normal ?_
      refine hK200 _ _ ?_
      refine rgn 3 ?_
      refine sg wide_wide [.p, .p, .p] [] [(1, mv), (5, (Pv F.fb)), (8, (Pv x7_17)), (9, (Pv x8_19)), (10, I6 ↑k), (12, I6 2), (13, (Pv w5.heap.size)), (141, .bool false)] 3 0 hS .nil fun a hS => ?_
      refine seg_end ?_
      exact ⟨1 + 1, ⟨hS.keepTo [1, 5, 8, 9, 10, 12] (by kernel_rfl), by omega, hG337⟩, by omega⟩
    ·
     replace hb199 := of_decide_eq_false hb199
     refine wpIn_exit ?_
     refine then_exit ?_
     refine then_exit ?_
     refine inBlock_hit ?_
     refine inBlock_normal ?_
     refine hK36 _ _ ?_
     refine rgn 3 ?_
     refine sg wide_wide [.p, .as (I6 (↑k + 1)), .p] [Value.int .i64 (IntKind.i64.wrap (↑k + 1)) = I6 (↑k + 1)] [(1, mv), (5, (Pv F.fb)), (8, (Pv x7_17)), (9, (Pv x8_19)), (10, I6 (↑k + 1))] 3 0 hS (.cons (as_i64 (by omega)) .nil) fun a hS => ?_
     refine seg_end ?_
     exact ⟨(k + 1, bs0, bm), ⟨hS.keepTo [1, 5, 8, 9, 10] (by kernel_rfl), by omega, hS0', hS1', hdd, hap4, har4, hE4⟩, by simp only; omega⟩
  ·
   replace hb35 := of_decide_eq_false hb35
   refine wpIn_exit ?_
   refine then_exit ?_
   refine then_exit ?_
   refine inBlock_hit ?_
   refine hK31 _ _ ?_
   refine sq fun K338 hK338 => ?_
   refine rgn 1 ?_
   refine sg wide_wide [.p] [] [(1, mv), (5, (Pv F.fb)), (8, (Pv x7_17)), (9, (Pv x8_19)), (10, I6 ↑k), (4, .bool true)] 1 0 hS .nil fun a hS => ?_
   refine seg_end ?_
   refine hK338 _ _ ?_
   refine wpIn_ret ?_
   refine ret1 hS Try.results11 rfl ?_
   exact ⟨rfl, hEx⟩
 ·
  refine ⟨_, rfl, fun a hS => ?_⟩
  refine sg wide_wide [.p] [] [(0, v), (1, mv), (4, .bool false), (5, (Pv F.fb)), (6, .bool true), (20, .bool false), (7, I6 (-1))] 3 0 hS .nil fun a hS => ?_
  refine seg_end ?_
  refine hK5 _ _ ?_
  refine sq fun K339 hK339 => ?_
  refine sq fun K340 hK340 => ?_
  refine rgn 2 ?_
  refine sg wide_wide [.p, .p] [] [(0, v), (1, mv), (4, .bool false), (5, (Pv F.fb)), (6, .bool true), (20, .bool false), (7, I6 (-1)), (24, .bool true)] 2 0 hS .nil fun a hS => ?_
  refine seg_end ?_
  refine hK340 _ _ ?_
  refine cond_t hS rfl ?_
  refine sq fun K341 hK341 => ?_
  refine rgn 1 ?_
  refine sg wide_wide [.p] [] [(0, v), (1, mv), (4, .bool true), (5, (Pv F.fb)), (6, .bool true), (20, .bool false), (7, I6 (-1)), (24, .bool true)] 1 0 hS .nil fun a hS => ?_
  refine seg_end ?_
  refine hK341 _ _ ?_
  refine wpIn_ret ?_
  refine then_ret ?_
  refine ret1 hS Try.results11 rfl ?_
  exact ⟨rfl, hE1⟩

end Go.Proofs.Ytpglmeeledmkoaa
