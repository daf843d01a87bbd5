import Derived.Test.YtkdbfjomjlhfbaaProg
import Derived.Test.YtkdbfjomjlhfbaaR20
namespace Go.Proofs.Ytkdbfjomjlhfbaa
open Go.Vc
set_option linter.unusedSectionVars false
variable [Inhabited Zt]

theorem lent_rd2 {w : World} {g n m : Nat} {xs : List Int} (h : OwnR w 5 1 g m (n + 5) (bv (xs ++ marks 5))) (hl : xs.length = n) : RdV w 1 (.slice (some ⟨g, 0, none⟩) n m) n (bv xs) :=
 .inr ⟨g, 0, m, rfl, by simp [hl], by have := h.le; omega, fun j u hu => by
  rw [Nat.zero_add]
  refine h.cellAt j ?_
  rw [bv_app, List.getElem?_append_left (List.getElem?_eq_some_iff.1 hu).1]; exact hu⟩

theorem lend_keep {t bn n : Nat} {pv qv v : Value} {xs : List Int} {w0 w : World} (hv0 : RdV w0 1 v n (bv xs)) (ht0 : w0.heap.size ≤ t) (hv : RdV w 1 v n (bv xs)) (hn : n ≤ 10000000000) (hb : bn ≤ 1000000000000) {g : Nat} (hB : Blk w t 46 #[pv, qv, .slice (some ⟨g, 0, none⟩) bn bn]) {ys : List Value} (hO : OwnR w 5 1 g bn (n + 5) ys) :
  Calls Try.prog 57 #[(Pv t), v] w fun e w' => e = .returned (.slice (some ⟨g, 0, none⟩) n bn) ∧ Blk w' t 46 #[pv, qv, .slice (some ⟨g, 0, none⟩) bn bn] ∧ OwnR w' 5 1 g bn (n + 5) (bv (xs ++ marks 5)) ∧ Ext [g] w w' := by
 have hl : xs.length = n := by have := hv.len; simpa using this
 have htg : ¬t = g := fun h => OwnR.ne_type hO hB (by decide) h.symm
 have hle0 := hO.le
 refine calls_body 50 [(0, (Pv t)), (1, v)] Try.func57 rfl (by kernel_rfl) (by kernel_rfl) (by kernel_rfl) fun a hS => ?_
 have hE0 : Ext [g] w w := Ext.refl _ _
 refine sq fun K1 hK1 => ?_
 refine rgn 1 ?_
 refine sg wide_wide [.p] [] [(0, (Pv t)), (1, v), (4, .slice none 0 0)] 1 0 hS .nil fun a hS => ?_
 refine seg_end ?_
 refine hK1 _ _ ?_
 refine sq fun K2 hK2 => ?_
 refine sq fun K3 hK3 => ?_
 refine rgn 9 ?_
 refine sg wide_wide [.p, .p, .p, .ld (.slice (some ⟨g, 0, none⟩) bn bn), .p, .p, .run (I6 ↑n), .as (I6 ((n + 5 : Nat) : Int)), .as (.bool false)] [w.cell? ⟨t, 2, none⟩ = some (.slice (some ⟨g, 0, none⟩) bn bn), Ru Try.prog (vS (Builtin.len_ #[23] 3 #[v])) (I6 ↑n) w, Value.int .i64 (IntKind.i64.wrap (↑n + 5)) = I6 ((n + 5 : Nat) : Int), Value.bool (decide ((↑bn : Int) < ((n + 5 : Nat) : Int))) = .bool false] [(0, (Pv t)), (1, v), (4, .slice none 0 0), (15, .bool false)] 9 0 hS (.cons (hB.cell 2 rfl) (.cons (run_len_rd (e := 5) hv (by kernel_rfl)) (.cons ((by rw [show (↑n + 5 : Int) = ((n + 5 : Nat) : Int) from by omega]; exact as_i64 (by omega))) (.cons (as_f (by omega)) .nil)))) fun a hS => ?_
 refine seg_end ?_
 refine hK3 _ _ ?_
 refine cond_f hS rfl ?_
 refine wpIn_skip ?_
 refine hK2 _ _ ?_
 refine sq fun K4 hK4 => ?_
 refine rgn 9 ?_
 refine sg wide_wide [.p, .p, .p, .ld (.slice (some ⟨g, 0, none⟩) bn bn), .p, .run (I6 ↑n), .as (I6 ((n + 5 : Nat) : Int)), .run (.slice (some ⟨g, 0, none⟩) (n + 5) bn), .p] [w.cell? ⟨t, 2, none⟩ = some (.slice (some ⟨g, 0, none⟩) bn bn), Ru Try.prog (vS (Builtin.len_ #[23] 3 #[v])) (I6 ↑n) w, Value.int .i64 (IntKind.i64.wrap (↑n + 5)) = I6 ((n + 5 : Nat) : Int), Ru Try.prog (vS (Instr.sliceAt 23 (.slice (some ⟨g, 0, none⟩) bn bn) none (some (I6 ((n + 5 : Nat) : Int))) none)) (.slice (some ⟨g, 0, none⟩) (n + 5) bn) w] [(0, (Pv t)), (1, v), (4, .slice none 0 0), (15, .bool false), (5, .slice (some ⟨g, 0, none⟩) (n + 5) bn)] 9 0 hS (.cons (hB.cell 2 rfl) (.cons (run_len_rd (e := 5) hv (by kernel_rfl)) (.cons ((by rw [show (↑n + 5 : Int) = ((n + 5 : Nat) : Int) from by omega]; exact as_i64 (by omega))) (.cons (sl_h (E := 5) (size := 1) (h := (n + 5)) (by kernel_rfl) (by kernel_rfl) rfl (by have := hO.le; omega)) .nil)))) fun a hS => ?_
 refine seg_end ?_
 refine hK4 _ _ ?_
 refine sq fun K5 hK5 => ?_
 refine rgn 3 ?_
 refine sg wide_wide [.p, .p] [] [(0, (Pv t)), (1, v), (4, .slice none 0 0), (15, .bool false), (5, .slice (some ⟨g, 0, none⟩) (n + 5) bn), (32, .slice (some ⟨g, 0, none⟩) (n + 5) bn), (33, v)] 2 1 hS .nil fun a hS => ?_
 obtain ⟨wc, hrc, hOc, hEc, hsc⟩ := copy_own (P := Try.prog) (w := w) (dT := 23) (sT := 23) (ty := 3) (e := 5) (c := bn) (by kernel_rfl) (by kernel_rfl) hO hv (by omega) (bv_one _)
 refine eff_run wide_wide (r := 0) (s := vS (Builtin.copy_ #[23, 23] 3 #[.slice (some ⟨g, 0, none⟩) (n + 5) bn, v])) (d := (some 34)) (v := I6 n) hS (by kernel_rfl) hrc fun a hS => ?_
 have hE2 := hE0.trans hEc (fun b hb => by simp at hb; subst hb; exact .inl (by simp))
 have hBc := hB.ext hEc (by simp; exact htg)
 refine seg_end ?_
 refine hK5 _ _ ?_
 refine sq fun K6 hK6 => ?_
 refine sq fun K7 hK7 => ?_
 refine rgn 3 ?_
 refine sg wide_wide [.p, .run (I6 ↑n), .p] [Ru Try.prog (vS (Builtin.len_ #[23] 3 #[v])) (I6 ↑n) wc] [(0, (Pv t)), (1, v), (4, .slice none 0 0), (15, .bool false), (5, .slice (some ⟨g, 0, none⟩) (n + 5) bn), (6, I6 ↑n)] 3 0 hS (.cons (run_len_rd (e := 5) hv (by kernel_rfl)) .nil) fun a hS => ?_
 refine seg_end ?_
 refine hK7 _ _ ?_
 refine wpIn_block ?_
 have hzl : ys.length = n + 5 := by have := hO.len; simpa [hl] using this
 refine loop_ghost (fun ((i, R) : Nat × List Value) a' w' => St 50 [] [(0, (Pv t)), (1, v), (5, .slice (some ⟨g, 0, none⟩) (n + 5) bn), (6, I6 ↑i)] a' ∧ n ≤ i ∧ i ≤ n + 5 ∧ R.length = n + 5 - i ∧ OwnR w' 5 1 g bn (n + 5) (bv (xs ++ marks (i - n)) ++ R) ∧ Blk w' t 46 #[pv, qv, .slice (some ⟨g, 0, none⟩) bn bn] ∧ Ext [g] w w') (fun ((i, R) : Nat × List Value) => n + 5 - i) (n, ys.drop n) ⟨hS.keepTo [0, 1, 5, 6] (by kernel_rfl), Nat.le_refl _, by omega, by rw [List.length_drop]; omega, by rw [Nat.sub_self]; simpa [marks] using hOc, hBc, hE2⟩ ?_
 rintro ⟨i, R⟩ a w1 ⟨hS, h1, h2, hR, hO, hBx, hEx⟩
 have hle5 := hO.le
 refine sq fun K8 hK8 => ?_
 refine sq fun K9 hK9 => ?_
 refine rgn 4 ?_
 refine sg wide_wide [.p, .p, .p, .p] [] [(0, (Pv t)), (1, v), (5, .slice (some ⟨g, 0, none⟩) (n + 5) bn), (6, I6 ↑i), (40, .bool (decide ((↑i : Int) < ((n + 5 : Nat) : Int))))] 4 0 hS .nil fun a hS => ?_
 refine seg_end ?_
 refine hK9 _ _ ?_
 refine cond_b hS rfl (fun hb10 => ?_) (fun hb10 => ?_)
 ·
  replace hb10 := of_decide_eq_true hb10
  have hi : i < n + 5 := by omega
  refine wpIn_skip ?_
  refine hK8 _ _ ?_
  refine sq fun K11 hK11 => ?_
  refine wpIn_block ?_
  refine rgn 4 ?_
  refine sg wide_wide [.p, .p, .run ((Po g (0 + i * 1)))] [Ru Try.prog (vS (Instr.indexAt 23 (.slice (some ⟨g, 0, none⟩) (n + 5) bn) (I6 ↑i))) ((Po g (0 + i * 1))) w1] [(0, (Pv t)), (1, v), (5, .slice (some ⟨g, 0, none⟩) (n + 5) bn), (6, I6 ↑i), (45, (Po g (0 + i * 1)))] 3 1 hS (.cons (ix_slice (E := 5) (size := 1) (j := i) (by kernel_rfl) (by kernel_rfl) rfl hi) .nil) fun a hS => ?_
  refine eff_store_own wide_wide (r := 0) (b := g) (off := 0 + i * 1) (u := Value.int .u8 169) (xs := (bv (xs ++ marks (i - n)) ++ R)) hS (by kernel_rfl) hO (by omega) fun a ws12 hOs12 hEs12 hsz12 hS => ?_
  have hB13 := hBx.ext hEs12 (by simpa using htg)
  have hE14 : Ext [g] w ws12 := hEx.trans hEs12 (fun b hb => by simp at hb; subst hb; exact .inl (by simp))
  refine seg_end ?_
  refine inBlock_normal ?_
  refine hK11 _ _ ?_
  refine rgn 3 ?_
  refine sg wide_wide [.p, .as (I6 (↑i + 1)), .p] [Value.int .i64 (IntKind.i64.wrap (↑i + 1)) = I6 (↑i + 1)] [(0, (Pv t)), (1, v), (5, .slice (some ⟨g, 0, none⟩) (n + 5) bn), (6, I6 (↑i + 1))] 3 0 hS (.cons (as_i64 (by omega)) .nil) fun a hS => ?_
  refine seg_end ?_
  have hO2 := hOs12
  rw [show 0 + i * 1 = i by omega, lend_step hl h1 hR hi] at hO2
  exact ⟨(i + 1, R.drop 1), ⟨hS.kp [(0, (Pv t)), (1, v), (5, .slice (some ⟨g, 0, none⟩) (n + 5) bn), (6, I6 (↑i + 1))], by omega, by omega, by rw [List.length_drop]; omega, hO2, hB13, hE14⟩, by simp only; omega⟩
 ·
  replace hb10 := of_decide_eq_false hb10
  have hi5 : i - n = 5 := by omega
  obtain rfl : R = [] := List.eq_nil_of_length_eq_zero (by omega)
  rw [hi5, List.append_nil] at hO
  refine wpIn_exit ?_
  refine then_exit ?_
  refine then_exit ?_
  refine inBlock_hit ?_
  refine hK6 _ _ ?_
  refine sq fun K15 hK15 => ?_
  refine rgn 5 ?_
  refine sg wide_wide [.p, .p, .run (I6 ↑n), .run (.slice (some ⟨g, 0, none⟩) n bn), .p] [Ru Try.prog (vS (Builtin.len_ #[23] 3 #[v])) (I6 ↑n) w1, Ru Try.prog (vS (Instr.sliceAt 23 (.slice (some ⟨g, 0, none⟩) (n + 5) bn) none (some (I6 ↑n)) none)) (.slice (some ⟨g, 0, none⟩) n bn) w1] [(0, (Pv t)), (1, v), (5, .slice (some ⟨g, 0, none⟩) (n + 5) bn), (6, I6 ↑i), (4, .slice (some ⟨g, 0, none⟩) n bn)] 5 0 hS (.cons (run_len_rd (e := 5) hv (by kernel_rfl)) (.cons (sl_h (E := 5) (size := 1) (h := n) (by kernel_rfl) (by kernel_rfl) rfl (by omega)) .nil)) fun a hS => ?_
  refine seg_end ?_
  refine hK15 _ _ ?_
  refine wpIn_ret ?_
  refine ret1 hS Try.results57 rfl ?_
  exact ⟨rfl, hBx, hO, hEx⟩

theorem lend_new {t bn n : Nat} {pv qv v : Value} {xs : List Int} {w0 w : World} (hv0 : RdV w0 1 v n (bv xs)) (ht0 : w0.heap.size ≤ t) (hv : RdV w 1 v n (bv xs)) (hn : n ≤ 10000000000) (hb : bn ≤ 1000000000000) {bb : Option Addr} (hB : Blk w t 46 #[pv, qv, .slice bb bn bn]) (hlt : bn < n + 5) :
  Calls Try.prog 57 #[(Pv t), v] w fun e w' => ∃ g m, e = .returned (.slice (some ⟨g, 0, none⟩) n m) ∧ Blk w' t 46 #[pv, qv, .slice (some ⟨g, 0, none⟩) m m] ∧ OwnR w' 5 1 g m (n + 5) (bv (xs ++ marks 5)) ∧ w.heap.size ≤ g ∧ m = 2 * n + 64 ∧ Ext [t] w w' := by
 have hl : xs.length = n := by have := hv.len; simpa using this
 refine calls_body 50 [(0, (Pv t)), (1, v)] Try.func57 rfl (by kernel_rfl) (by kernel_rfl) (by kernel_rfl) fun a hS => ?_
 have hE0 : Ext [t] w w := Ext.refl _ _
 refine sq fun K1 hK1 => ?_
 refine rgn 1 ?_
 refine sg wide_wide [.p] [] [(0, (Pv t)), (1, v), (4, .slice none 0 0)] 1 0 hS .nil fun a hS => ?_
 refine seg_end ?_
 refine hK1 _ _ ?_
 refine sq fun K2 hK2 => ?_
 refine sq fun K3 hK3 => ?_
 refine rgn 9 ?_
 refine sg wide_wide [.p, .p, .p, .ld (.slice bb bn bn), .p, .p, .run (I6 ↑n), .as (I6 ((n + 5 : Nat) : Int)), .as (.bool true)] [w.cell? ⟨t, 2, none⟩ = some (.slice bb bn bn), Ru Try.prog (vS (Builtin.len_ #[23] 3 #[v])) (I6 ↑n) w, Value.int .i64 (IntKind.i64.wrap (↑n + 5)) = I6 ((n + 5 : Nat) : Int), Value.bool (decide ((↑bn : Int) < ((n + 5 : Nat) : Int))) = .bool true] [(0, (Pv t)), (1, v), (4, .slice none 0 0), (15, .bool true)] 9 0 hS (.cons (hB.cell 2 rfl) (.cons (run_len_rd (e := 5) hv (by kernel_rfl)) (.cons ((by rw [show (↑n + 5 : Int) = ((n + 5 : Nat) : Int) from by omega]; exact as_i64 (by omega))) (.cons (as_t (by omega)) .nil)))) fun a hS => ?_
 refine seg_end ?_
 refine hK3 _ _ ?_
 refine cond_t hS rfl ?_
 refine rgn 9 ?_
 refine sg wide_wide [.p, .p, .run (I6 ↑n), .as (I6 ((2 * n : Nat) : Int)), .as (I6 ((2 * n + 64 : Nat) : Int))] [Ru Try.prog (vS (Builtin.len_ #[23] 3 #[v])) (I6 ↑n) w, Value.int .i64 (IntKind.i64.wrap (2 * ↑n)) = I6 ((2 * n : Nat) : Int), Value.int .i64 (IntKind.i64.wrap (((2 * n : Nat) : Int) + 64)) = I6 ((2 * n + 64 : Nat) : Int)] [(0, (Pv t)), (1, v), (4, .slice none 0 0), (15, .bool true), (16, (Pv t)), (20, I6 ((2 * n + 64 : Nat) : Int))] 5 4 hS (.cons (run_len_rd (e := 5) hv (by kernel_rfl)) (.cons ((by rw [show (2 * ↑n : Int) = ((2 * n : Nat) : Int) from by omega]; exact as_i64 (by omega))) (.cons ((by rw [show (((2 * n : Nat) : Int) + 64 : Int) = ((2 * n + 64 : Nat) : Int) from by omega]; exact as_i64 (by omega))) .nil))) fun a hS => ?_
 obtain ⟨wm, zs, hrm, hOm, hEm, hsm⟩ := make_len (P := Try.prog) (w := w) (T := 23) (E := 5) (size := 1) (bytes := 1) (z := #[.int .u8 0]) (l := ((2 * n + 64 : Nat) : Int)) (by kernel_rfl) (by kernel_rfl) (by omega) (by omega) (by omega)
 refine eff_run wide_wide (r := 3) (s := vS (Instr.makeSlice 23 (I6 ((2 * n + 64 : Nat) : Int)) (I6 ((2 * n + 64 : Nat) : Int)))) (d := (some 21)) (v := .slice (some ⟨w.heap.size, 0, none⟩) (((2 * n + 64 : Nat) : Int)).toNat (((2 * n + 64 : Nat) : Int)).toNat) hS (by kernel_rfl) hrm fun a hS => ?_
 rw [show (((2 * n + 64 : Nat) : Int)).toNat = 2 * n + 64 by omega] at hOm hS
 have hE1 := hE0.trans0 hEm
 have hgm : w.heap.size ≤ w.heap.size := hE0.size
 have htg : ¬t = w.heap.size := Nat.ne_of_lt hB.lt
 have hB4 := hB.ext hEm (by simp)
 have hG5 : RdV wm 1 v n (bv xs) := hv.ext0 hEm
 have hOt := hOm.take (k := n + 5) (by omega)
 rw [Nat.mul_one] at hOt
 refine sg wide_wide [.p, .p] [] [(0, (Pv t)), (1, v), (4, .slice none 0 0), (15, .bool true), (21, .slice (some ⟨w.heap.size, 0, none⟩) (2 * n + 64) (2 * n + 64)), (23, (Po t 2))] 8 1 hS .nil fun a hS => ?_
 refine eff_store wide_wide (r := 0) (b := t) (off := 2) (vs := [.slice (some ⟨w.heap.size, 0, none⟩) (2 * n + 64) (2 * n + 64)]) hS (by kernel_rfl) hB4 (by simp) fun a w6 hw7 hS => ?_
 have hB8 : Blk w6 t 46 (#[pv, qv, .slice (some ⟨w.heap.size, 0, none⟩) (2 * n + 64) (2 * n + 64)]) := by rw [hw7]; exact hB4.upd _ _
 have hB9 := OwnR.at' hw7 (hOt.updNe htg _ _)
 have hX10 : Ext [t] wm w6 := by rw [hw7]; exact (Ext.refl _ _).updIn (.inl (by simp)) _ _
 have hG11 : RdV w6 1 v n (bv xs) := RdV.extL (by decide) hG5 hv0 hX10 (fun x hx => by simp at hx; subst hx; exact ht0)
 have hE12 : Ext [t] w w6 := by rw [hw7]; exact hE1.updIn (.inl (by simp)) _ _
 refine seg_end ?_
 refine hK2 _ _ ?_
 refine sq fun K13 hK13 => ?_
 refine rgn 9 ?_
 refine sg wide_wide [.p, .p, .p, .ld (.slice (some ⟨w.heap.size, 0, none⟩) (2 * n + 64) (2 * n + 64)), .p, .run (I6 ↑n), .as (I6 ((n + 5 : Nat) : Int)), .run (.slice (some ⟨w.heap.size, 0, none⟩) (n + 5) (2 * n + 64)), .p] [w6.cell? ⟨t, 2, none⟩ = some (.slice (some ⟨w.heap.size, 0, none⟩) (2 * n + 64) (2 * n + 64)), Ru Try.prog (vS (Builtin.len_ #[23] 3 #[v])) (I6 ↑n) w6, Value.int .i64 (IntKind.i64.wrap (↑n + 5)) = I6 ((n + 5 : Nat) : Int), Ru Try.prog (vS (Instr.sliceAt 23 (.slice (some ⟨w.heap.size, 0, none⟩) (2 * n + 64) (2 * n + 64)) none (some (I6 ((n + 5 : Nat) : Int))) none)) (.slice (some ⟨w.heap.size, 0, none⟩) (n + 5) (2 * n + 64)) w6] [(0, (Pv t)), (1, v), (4, .slice none 0 0), (15, .bool true), (5, .slice (some ⟨w.heap.size, 0, none⟩) (n + 5) (2 * n + 64))] 9 0 hS (.cons (hB8.cell 2 rfl) (.cons (run_len_rd (e := 5) hv (by kernel_rfl)) (.cons ((by rw [show (↑n + 5 : Int) = ((n + 5 : Nat) : Int) from by omega]; exact as_i64 (by omega))) (.cons (sl_h (E := 5) (size := 1) (h := (n + 5)) (by kernel_rfl) (by kernel_rfl) rfl (by omega)) .nil)))) fun a hS => ?_
 refine seg_end ?_
 refine hK13 _ _ ?_
 refine sq fun K14 hK14 => ?_
 refine rgn 3 ?_
 refine sg wide_wide [.p, .p] [] [(0, (Pv t)), (1, v), (4, .slice none 0 0), (15, .bool true), (5, .slice (some ⟨w.heap.size, 0, none⟩) (n + 5) (2 * n + 64)), (32, .slice (some ⟨w.heap.size, 0, none⟩) (n + 5) (2 * n + 64)), (33, v)] 2 1 hS .nil fun a hS => ?_
 obtain ⟨wc, hrc, hOc, hEc, hsc⟩ := copy_own (P := Try.prog) (w := w6) (dT := 23) (sT := 23) (ty := 3) (e := 5) (c := (2 * n + 64)) (by kernel_rfl) (by kernel_rfl) hB9 hG11 (by omega) (bv_one _)
 refine eff_run wide_wide (r := 0) (s := vS (Builtin.copy_ #[23, 23] 3 #[.slice (some ⟨w.heap.size, 0, none⟩) (n + 5) (2 * n + 64), v])) (d := (some 34)) (v := I6 n) hS (by kernel_rfl) hrc fun a hS => ?_
 have hE2 := hE12.trans hEc (fun b hb => by simp at hb; subst hb; exact .inr hgm)
 have hBc := hB8.ext hEc (by simp; exact htg)
 refine seg_end ?_
 refine hK14 _ _ ?_
 refine sq fun K15 hK15 => ?_
 refine sq fun K16 hK16 => ?_
 refine rgn 3 ?_
 refine sg wide_wide [.p, .run (I6 ↑n), .p] [Ru Try.prog (vS (Builtin.len_ #[23] 3 #[v])) (I6 ↑n) wc] [(0, (Pv t)), (1, v), (4, .slice none 0 0), (15, .bool true), (5, .slice (some ⟨w.heap.size, 0, none⟩) (n + 5) (2 * n + 64)), (6, I6 ↑n)] 3 0 hS (.cons (run_len_rd (e := 5) hv (by kernel_rfl)) .nil) fun a hS => ?_
 refine seg_end ?_
 refine hK16 _ _ ?_
 refine wpIn_block ?_
 have hzl : (zs.take (n + 5)).length = n + 5 := by have := hOt.len; simpa [hl] using this
 refine loop_ghost (fun ((i, R) : Nat × List Value) a' w' => St 50 [] [(0, (Pv t)), (1, v), (5, .slice (some ⟨w.heap.size, 0, none⟩) (n + 5) (2 * n + 64)), (6, I6 ↑i)] a' ∧ n ≤ i ∧ i ≤ n + 5 ∧ R.length = n + 5 - i ∧ OwnR w' 5 1 w.heap.size (2 * n + 64) (n + 5) (bv (xs ++ marks (i - n)) ++ R) ∧ Blk w' t 46 #[pv, qv, .slice (some ⟨w.heap.size, 0, none⟩) (2 * n + 64) (2 * n + 64)] ∧ Ext [t] w w') (fun ((i, R) : Nat × List Value) => n + 5 - i) (n, (zs.take (n + 5)).drop n) ⟨hS.keepTo [0, 1, 5, 6] (by kernel_rfl), Nat.le_refl _, by omega, by rw [List.length_drop]; omega, by rw [Nat.sub_self]; simpa [marks] using hOc, hBc, hE2⟩ ?_
 rintro ⟨i, R⟩ a w1 ⟨hS, h1, h2, hR, hO, hBx, hEx⟩
 have hle5 := hO.le
 refine sq fun K17 hK17 => ?_
 refine sq fun K18 hK18 => ?_
 refine rgn 4 ?_
 refine sg wide_wide [.p, .p, .p, .p] [] [(0, (Pv t)), (1, v), (5, .slice (some ⟨w.heap.size, 0, none⟩) (n + 5) (2 * n + 64)), (6, I6 ↑i), (40, .bool (decide ((↑i : Int) < ((n + 5 : Nat) : Int))))] 4 0 hS .nil fun a hS => ?_
 refine seg_end ?_
 refine hK18 _ _ ?_
 refine cond_b hS rfl (fun hb19 => ?_) (fun hb19 => ?_)
 ·
  replace hb19 := of_decide_eq_true hb19
  have hi : i < n + 5 := by omega
  refine wpIn_skip ?_
  refine hK17 _ _ ?_
  refine sq fun K20 hK20 => ?_
  refine wpIn_block ?_
  refine rgn 4 ?_
  refine sg wide_wide [.p, .p, .run ((Po w.heap.size (0 + i * 1)))] [Ru Try.prog (vS (Instr.indexAt 23 (.slice (some ⟨w.heap.size, 0, none⟩) (n + 5) (2 * n + 64)) (I6 ↑i))) ((Po w.heap.size (0 + i * 1))) w1] [(0, (Pv t)), (1, v), (5, .slice (some ⟨w.heap.size, 0, none⟩) (n + 5) (2 * n + 64)), (6, I6 ↑i), (45, (Po w.heap.size (0 + i * 1)))] 3 1 hS (.cons (ix_slice (E := 5) (size := 1) (j := i) (by kernel_rfl) (by kernel_rfl) rfl hi) .nil) fun a hS => ?_
  refine eff_store_own wide_wide (r := 0) (b := w.heap.size) (off := 0 + i * 1) (u := Value.int .u8 169) (xs := (bv (xs ++ marks (i - n)) ++ R)) hS (by kernel_rfl) hO (by omega) fun a ws21 hOs21 hEs21 hsz21 hS => ?_
  have hB22 := hBx.ext hEs21 (by simpa using htg)
  have hE23 : Ext [t] w ws21 := hEx.trans hEs21 (fun b hb => by simp at hb; subst hb; exact .inr hgm)
  refine seg_end ?_
  refine inBlock_normal ?_
  refine hK20 _ _ ?_
  refine rgn 3 ?_
  refine sg wide_wide [.p, .as (I6 (↑i + 1)), .p] [Value.int .i64 (IntKind.i64.wrap (↑i + 1)) = I6 (↑i + 1)] [(0, (Pv t)), (1, v), (5, .slice (some ⟨w.heap.size, 0, none⟩) (n + 5) (2 * n + 64)), (6, I6 (↑i + 1))] 3 0 hS (.cons (as_i64 (by omega)) .nil) fun a hS => ?_
  refine seg_end ?_
  have hO2 := hOs21
  rw [show 0 + i * 1 = i by omega, lend_step hl h1 hR hi] at hO2
  exact ⟨(i + 1, R.drop 1), ⟨hS.kp [(0, (Pv t)), (1, v), (5, .slice (some ⟨w.heap.size, 0, none⟩) (n + 5) (2 * n + 64)), (6, I6 (↑i + 1))], by omega, by omega, by rw [List.length_drop]; omega, hO2, hB22, hE23⟩, by simp only; omega⟩
 ·
  replace hb19 := of_decide_eq_false hb19
  have hi5 : i - n = 5 := by omega
  obtain rfl : R = [] := List.eq_nil_of_length_eq_zero (by omega)
  rw [hi5, List.append_nil] at hO
  refine wpIn_exit ?_
  refine then_exit ?_
  refine then_exit ?_
  refine inBlock_hit ?_
  refine hK15 _ _ ?_
  refine sq fun K24 hK24 => ?_
  refine rgn 5 ?_
  refine sg wide_wide [.p, .p, .run (I6 ↑n), .run (.slice (some ⟨w.heap.size, 0, none⟩) n (2 * n + 64)), .p] [Ru Try.prog (vS (Builtin.len_ #[23] 3 #[v])) (I6 ↑n) w1, Ru Try.prog (vS (Instr.sliceAt 23 (.slice (some ⟨w.heap.size, 0, none⟩) (n + 5) (2 * n + 64)) none (some (I6 ↑n)) none)) (.slice (some ⟨w.heap.size, 0, none⟩) n (2 * n + 64)) w1] [(0, (Pv t)), (1, v), (5, .slice (some ⟨w.heap.size, 0, none⟩) (n + 5) (2 * n + 64)), (6, I6 ↑i), (4, .slice (some ⟨w.heap.size, 0, none⟩) n (2 * n + 64))] 5 0 hS (.cons (run_len_rd (e := 5) hv (by kernel_rfl)) (.cons (sl_h (E := 5) (size := 1) (h := n) (by kernel_rfl) (by kernel_rfl) rfl (by omega)) .nil)) fun a hS => ?_
  refine seg_end ?_
  refine hK24 _ _ ?_
  refine wpIn_ret ?_
  refine ret1 hS Try.results57 rfl ?_
  exact ⟨_, _, rfl, hBx, hO, hgm, rfl, hEx⟩

end Go.Proofs.Ytkdbfjomjlhfbaa
