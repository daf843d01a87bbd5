import Derived.Test.YtkdbfjomjlhfbaaProg
import Derived.Test.YtkdbfjomjlhfbaaR4
namespace Go.Proofs.Ytkdbfjomjlhfbaa
open Go.Vc
set_option linter.unusedSectionVars false
variable [Inhabited Zt]

def cat (os : List (Option Nd)) : List Int := os.flatMap obs
theorem cat_snoc (os : List (Option Nd)) (o : Option Nd) : cat (os ++ [o]) = cat os ++ obs o := by simp [cat]
theorem cat_le {os : List (Option Nd)} {k : Nat} : (cat (os.take k)).length ≤ (cat os).length := by
 have h : cat os = cat (os.take k) ++ cat (os.drop k) := by rw [cat, cat, cat, ← List.flatMap_append, List.take_append_drop]
 rw [h, List.length_append]; omega

theorem joined_any {v : Value} {os : List (Option Nd)} {w : World} (hv : RdV w 1 v os.length (os.map op)) (hos : ∀ o ∈ os, okO w o) (hn : (cat os).length ≤ 100000000000) (hl : os.length ≤ 1000000) (hz : Zb w) :
  Calls Try.prog 43 #[v] w fun e w' => NdO w (cat os) e w' := by
 refine calls_body 17 [(0, v)] Try.func43 rfl (by kernel_rfl) (by kernel_rfl) (by kernel_rfl) fun a hS => ?_
 have hE0 : Ext [] w w := Ext.refl _ _
 refine sq fun K1 hK1 => ?_
 refine rgn 1 ?_
 refine sg wide_wide [.p] [] [(0, v), (2, .pointer none)] 1 0 hS .nil fun a hS => ?_
 refine seg_end ?_
 refine hK1 _ _ ?_
 refine sq fun K2 hK2 => ?_
 refine rgn 1 ?_
 refine sg wide_wide [.p] [] [(0, v), (2, .pointer none), (3, .pointer none)] 1 0 hS .nil fun a hS => ?_
 refine seg_end ?_
 refine hK2 _ _ ?_
 refine sq fun K3 hK3 => ?_
 refine sq fun K4 hK4 => ?_
 refine rgn 3 ?_
 refine sg wide_wide [.p, .run (I6 ↑os.length), .p] [Ru Try.prog (vS (Builtin.len_ #[103] 3 #[v])) (I6 ↑os.length) w] [(0, v), (2, .pointer none), (3, .pointer none), (6, v), (7, I6 ↑os.length), (8, I6 0)] 3 0 hS (.cons (run_len_rd (e := 81) hv (by kernel_rfl)) .nil) fun a hS => ?_
 refine seg_end ?_
 refine hK4 _ _ ?_
 refine wpIn_block ?_
 refine loop_ghost (fun ((k, o) : Nat × Option Nd) a' w' => St 17 [] [(3, (op o)), (6, v), (7, I6 ↑os.length), (8, I6 ↑k)] a' ∧ k ≤ os.length ∧ okO w' o ∧ obs o = cat (os.take k) ∧ Ext [] w w') (fun ((k, o) : Nat × Option Nd) => os.length - k) (0, none) ⟨hS.keepTo [3, 6, 7, 8] (by kernel_rfl), Nat.zero_le _, hz, rfl, hE0⟩ ?_
 rintro ⟨k, o⟩ a w1 ⟨hS, hkl, ho1, ho2, hEx⟩
 have hv1 := hv.ext0 hEx
 refine sq fun K5 hK5 => ?_
 refine rgn 1 ?_
 refine sg wide_wide [.p] [] [(3, (op o)), (6, v), (7, I6 ↑os.length), (8, I6 ↑k), (9, .bool (decide ((↑k : Int) < ↑os.length)))] 1 0 hS .nil fun a hS => ?_
 refine seg_end ?_
 refine hK5 _ _ ?_
 refine sq fun K6 hK6 => ?_
 refine cond_b hS rfl (fun hb7 => ?_) (fun hb7 => ?_)
 ·
  replace hb7 := of_decide_eq_true hb7
  have hk : k < os.length := by omega
  obtain ⟨q, hq⟩ : ∃ q, os[k]? = some q := ⟨_, List.getElem?_eq_getElem hk⟩
  have hqm := List.mem_of_getElem? hq
  have htk : os.take (k + 1) = os.take k ++ [q] := by rw [List.take_add_one, hq]; rfl
  have hbd := cat_le (os := os) (k := k + 1)
  rw [htk, cat_snoc, List.length_append, ← ho2] at hbd
  refine wpIn_skip ?_
  refine hK6 _ _ ?_
  refine sq fun K8 hK8 => ?_
  refine wpIn_block ?_
  refine sq fun K9 hK9 => ?_
  refine rgn 3 ?_
  refine sg wide_wide [.run ((Po (bof v) (oof v + k * 1))), .ld ((op q)), .p] [Ru Try.prog (vS (Instr.indexAt 103 (v) (I6 ↑k))) ((Po (bof v) (oof v + k * 1))) w1, w1.cell? ⟨bof v, oof v + k * 1, none⟩ = some ((op q))] [(3, (op o)), (6, v), (7, I6 ↑os.length), (8, I6 ↑k), (5, (op q))] 3 0 hS (.cons (ix_rd (e := 81) (j := k) hv (by kernel_rfl) (by kernel_rfl) rfl hk) (.cons (hv1.cellAt (k * 1) (by omega) (by simp [hq])) .nil)) fun a hS => ?_
  refine seg_end ?_
  refine hK9 _ _ ?_
  refine rgn 4 ?_
  refine sg wide_wide [.p, .p] [] [(3, (op o)), (6, v), (7, I6 ↑os.length), (8, I6 ↑k), (5, (op q)), (12, (op o)), (13, (op q))] 2 2 hS .nil fun a hS => ?_
  refine eff_call wide_wide (r := 1) (f := 56) (vs := [(op o), (op q), .func (.func 54) #[] #[]]) (cap := #[]) (d := (some 14)) hS (by kernel_rfl) Try.call56 #[(op o), (op q), .func (.func 54) #[] #[]] (by kernel_rfl) (join_any ho1 ((hos q hqm).ext0 hEx) (by omega)) ?_
  rintro _ w9 ⟨o2, rfl, ho3, ho4, hE8⟩
  refine ⟨_, rfl, fun a hS => ?_⟩
  have hE9 := hEx.trans0 hE8
  have hv9 := hv1.ext0 hE8
  refine sg wide_wide [.p] [] [(3, (op o2)), (6, v), (7, I6 ↑os.length), (8, I6 ↑k), (5, (op q))] 4 0 hS .nil fun a hS => ?_
  refine seg_end ?_
  refine inBlock_normal ?_
  refine hK8 _ _ ?_
  refine rgn 2 ?_
  refine sg wide_wide [.as (I6 (↑k + 1)), .p] [Value.int .i64 (IntKind.i64.wrap (↑k + 1)) = I6 (↑k + 1)] [(3, (op o2)), (6, v), (7, I6 ↑os.length), (8, I6 (↑k + 1)), (5, (op q))] 2 0 hS (.cons (as_i64 (by omega)) .nil) fun a hS => ?_
  refine seg_end ?_
  exact ⟨(k + 1, o2), ⟨hS.keepTo [3, 6, 7, 8] (by kernel_rfl), by omega, ho3, by rw [ho4, ho2, htk, cat_snoc], hE9⟩, by simp only; omega⟩
 ·
  replace hb7 := of_decide_eq_false hb7
  have hke : k = os.length := by omega
  refine wpIn_exit ?_
  refine then_exit ?_
  refine then_exit ?_
  refine inBlock_hit ?_
  refine hK3 _ _ ?_
  refine sq fun K10 hK10 => ?_
  refine rgn 2 ?_
  refine sg wide_wide [.p, .p] [] [(3, (op o)), (6, v), (7, I6 ↑os.length), (8, I6 ↑k), (2, (op o))] 2 0 hS .nil fun a hS => ?_
  refine seg_end ?_
  refine hK10 _ _ ?_
  refine wpIn_ret ?_
  refine ret1 hS Try.results43 rfl ?_
  exact ⟨o, rfl, ho1, by rw [ho2, hke, List.take_length], hEx⟩

theorem made_0 {v : Value} {n : Nat} {xs : List Int} {w : World} (hv : RdV w 1 v n (bv xs)) (hB : BR xs) (hn : n ≤ 10000000000) (hz : Zb w) (h : n = 0) :
  Calls Try.prog 40 #[v] w fun e w' => NdO w xs e w' := by
 refine calls_body 26 [(0, v)] Try.func40 rfl (by kernel_rfl) (by kernel_rfl) (by kernel_rfl) fun a hS => ?_
 have hE0 : Ext [] w w := Ext.refl _ _
 refine sq fun K1 hK1 => ?_
 refine rgn 1 ?_
 refine sg wide_wide [.p] [] [(0, v), (2, .pointer none)] 1 0 hS .nil fun a hS => ?_
 refine seg_end ?_
 refine hK1 _ _ ?_
 refine sq fun K2 hK2 => ?_
 refine sq fun K3 hK3 => ?_
 refine rgn 3 ?_
 refine sg wide_wide [.p, .run (I6 ↑n), .as (.bool true)] [Ru Try.prog (vS (Builtin.len_ #[23] 3 #[v])) (I6 ↑n) w, Value.bool (((↑n : Int) == 0)) = .bool true] [(0, v), (2, .pointer none), (6, .bool true)] 3 0 hS (.cons (run_len_rd (e := 5) hv (by kernel_rfl)) (.cons (as_eq_t (by omega)) .nil)) fun a hS => ?_
 refine seg_end ?_
 refine hK3 _ _ ?_
 refine cond_t hS rfl ?_
 refine sq fun K4 hK4 => ?_
 refine rgn 1 ?_
 refine sg wide_wide [.p] [] [(0, v), (2, .pointer none), (6, .bool true)] 1 0 hS .nil fun a hS => ?_
 refine seg_end ?_
 refine hK4 _ _ ?_
 refine wpIn_ret ?_
 refine then_ret ?_
 refine ret1 hS Try.results40 rfl ?_
 exact ⟨none, rfl, hz.ext hE0, (List.eq_nil_of_length_eq_zero (by have := hv.len; simp at this; omega)).symm, hE0⟩

theorem made_1 {v : Value} {n : Nat} {xs : List Int} {w : World} (hv : RdV w 1 v n (bv xs)) (hB : BR xs) (hn : n ≤ 10000000000) (hz : Zb w) (h : n ≠ 0) (h2 : n ≤ 512) :
  Calls Try.prog 40 #[v] w fun e w' => NdO w xs e w' := by
 refine calls_body 26 [(0, v)] Try.func40 rfl (by kernel_rfl) (by kernel_rfl) (by kernel_rfl) fun a hS => ?_
 have hE0 : Ext [] w w := Ext.refl _ _
 refine sq fun K1 hK1 => ?_
 refine rgn 1 ?_
 refine sg wide_wide [.p] [] [(0, v), (2, .pointer none)] 1 0 hS .nil fun a hS => ?_
 refine seg_end ?_
 refine hK1 _ _ ?_
 refine sq fun K2 hK2 => ?_
 refine sq fun K3 hK3 => ?_
 refine rgn 3 ?_
 refine sg wide_wide [.p, .run (I6 ↑n), .as (.bool false)] [Ru Try.prog (vS (Builtin.len_ #[23] 3 #[v])) (I6 ↑n) w, Value.bool (((↑n : Int) == 0)) = .bool false] [(0, v), (2, .pointer none), (6, .bool false)] 3 0 hS (.cons (run_len_rd (e := 5) hv (by kernel_rfl)) (.cons (as_eq_f (by omega)) .nil)) fun a hS => ?_
 refine seg_end ?_
 refine hK3 _ _ ?_
 refine cond_f hS rfl ?_
 refine wpIn_skip ?_
 refine hK2 _ _ ?_
 refine sq fun K4 hK4 => ?_
 refine sq fun K5 hK5 => ?_
 refine rgn 3 ?_
 refine sg wide_wide [.p, .run (I6 ↑n), .as (.bool true)] [Ru Try.prog (vS (Builtin.len_ #[23] 3 #[v])) (I6 ↑n) w, Value.bool (decide ((↑n : Int) ≤ 512)) = .bool true] [(0, v), (2, .pointer none), (6, .bool false), (9, .bool true)] 3 0 hS (.cons (run_len_rd (e := 5) hv (by kernel_rfl)) (.cons (as_t (by omega)) .nil)) fun a hS => ?_
 refine seg_end ?_
 refine hK5 _ _ ?_
 refine cond_t hS rfl ?_
 refine sq fun K6 hK6 => ?_
 refine rgn 4 ?_
 refine sg wide_wide [.p] [] [(0, v), (2, .pointer none), (6, .bool false), (9, .bool true), (10, v)] 1 3 hS .nil fun a hS => ?_
 refine eff_call wide_wide (r := 2) (f := 55) (vs := [v]) (cap := #[]) (d := (some 11)) hS (by kernel_rfl) Try.call55 #[v] (by kernel_rfl) (Clone_any hv (by omega)) ?_
 rintro _ wc7 ⟨zq7, zc7, rfl, hO7, hN7, hEc7⟩
 refine ⟨_, rfl, fun a hS => ?_⟩
 have hG8 : RdV wc7 1 v n (bv xs) := hv.ext0 hEc7
 have hE9 := hE0.trans0 hEc7
 refine eff_call wide_wide (r := 1) (f := 54) (vs := [.slice zq7 n zc7]) (cap := #[]) (d := (some 12)) hS (by kernel_rfl) Try.call54 #[.slice zq7 n zc7] (by kernel_rfl) (leaf_any (v := .slice zq7 n zc7) (n := n) (xs := xs) hO7.rd hB (by omega) (by omega) (hz.ext hE9) (fun x hx => hz.new ((fun x hx => Nat.le_trans hE0.size (hN7 x hx)) x hx))) ?_
 rintro _ wc10 ⟨t10, rfl, ho10, hb10, hEc10⟩
 refine ⟨_, rfl, fun a hS => ?_⟩
 have hG12 : RdV wc10 1 v n (bv xs) := hG8.ext0 hEc10
 have hE13 := hE9.trans0 hEc10
 refine sg wide_wide [.p] [] [(0, v), (2, (Pv t10.b)), (6, .bool false), (9, .bool true)] 4 0 hS .nil fun a hS => ?_
 refine seg_end ?_
 refine hK6 _ _ ?_
 refine wpIn_ret ?_
 refine then_ret ?_
 refine ret1 hS Try.results40 rfl ?_
 exact ⟨some t10, rfl, ho10, hb10, hE13⟩

theorem made_2 {v : Value} {n : Nat} {xs : List Int} {w : World} (hv : RdV w 1 v n (bv xs)) (hB : BR xs) (hn : n ≤ 10000000000) (hz : Zb w) (h : n ≠ 0) (h2 : ¬n ≤ 512) (ih : ∀ W v' n' xs', Ext [] w W → n' < n → RdV W 1 v' n' (bv xs') → BR xs' → Calls Try.prog 40 #[v'] W (NdO W xs')) :
  Calls Try.prog 40 #[v] w fun e w' => NdO w xs e w' := by
 have hlen : xs.length = n := by have := hv.len; simpa using this
 refine calls_body 26 [(0, v)] Try.func40 rfl (by kernel_rfl) (by kernel_rfl) (by kernel_rfl) fun a hS => ?_
 have hE0 : Ext [] w w := Ext.refl _ _
 refine sq fun K1 hK1 => ?_
 refine rgn 1 ?_
 refine sg wide_wide [.p] [] [(0, v), (2, .pointer none)] 1 0 hS .nil fun a hS => ?_
 refine seg_end ?_
 refine hK1 _ _ ?_
 refine sq fun K2 hK2 => ?_
 refine sq fun K3 hK3 => ?_
 refine rgn 3 ?_
 refine sg wide_wide [.p, .run (I6 ↑n), .as (.bool false)] [Ru Try.prog (vS (Builtin.len_ #[23] 3 #[v])) (I6 ↑n) w, Value.bool (((↑n : Int) == 0)) = .bool false] [(0, v), (2, .pointer none), (6, .bool false)] 3 0 hS (.cons (run_len_rd (e := 5) hv (by kernel_rfl)) (.cons (as_eq_f (by omega)) .nil)) fun a hS => ?_
 refine seg_end ?_
 refine hK3 _ _ ?_
 refine cond_f hS rfl ?_
 refine wpIn_skip ?_
 refine hK2 _ _ ?_
 refine sq fun K4 hK4 => ?_
 refine sq fun K5 hK5 => ?_
 refine rgn 3 ?_
 refine sg wide_wide [.p, .run (I6 ↑n), .as (.bool false)] [Ru Try.prog (vS (Builtin.len_ #[23] 3 #[v])) (I6 ↑n) w, Value.bool (decide ((↑n : Int) ≤ 512)) = .bool false] [(0, v), (2, .pointer none), (6, .bool false), (9, .bool false)] 3 0 hS (.cons (run_len_rd (e := 5) hv (by kernel_rfl)) (.cons (as_f (by omega)) .nil)) fun a hS => ?_
 refine seg_end ?_
 refine hK5 _ _ ?_
 refine cond_f hS rfl ?_
 refine wpIn_skip ?_
 refine hK4 _ _ ?_
 refine sq fun K6 hK6 => ?_
 refine rgn 4 ?_
 refine sg wide_wide [.p, .run (I6 ↑n), .run (I6 (↑(n / 2))), .p] [Ru Try.prog (vS (Builtin.len_ #[23] 3 #[v])) (I6 ↑n) w, Ru Try.prog (vS (do eqGuard .quo 3 (.tmp 14) (.const (I6 2)) (I6 ↑n) (I6 2); binOp .quo 3 (I6 ↑n) (I6 2))) (I6 (↑(n / 2))) w] [(0, v), (2, .pointer none), (6, .bool false), (9, .bool false), (3, I6 (↑(n / 2)))] 4 0 hS (.cons (run_len_rd (e := 5) hv (by kernel_rfl)) (.cons (bin_quo2 (by omega)) .nil)) fun a hS => ?_
 refine seg_end ?_
 refine hK6 _ _ ?_
 refine sq fun K7 hK7 => ?_
 refine region_gh2 (G := (Option Nd) × World × (Option Nd) × World × (Option Nd) × World) wide_wide [.q .p, .q .p, .q (.run (rsub v 0 (n / 2) (capOf v))), .e, .q .p, .q .p, .q (.run (rsub v (n / 2) n (capOf v))), .e, .e, .e, .q .p] [0, 0, 0, 0, 0, 0, 0, 1, 2, 3, 4] [0, 0, 0, 0, 1, 1, 1, 1, 2, 3, 4] [0, 0, 3, 7, 0, 0, 48, 127, 255, 511, 1023] [3, 7, 8, 9] [(3, 0), (7, 1), (8, 2), (9, 3)] 4 (fun ⟨o8, wc8, o9, wc9, z10, wc10⟩ => ([(0, v), (6, .bool false), (9, .bool false), (3, I6 (↑(n / 2))), (2, (op z10)), (16, v), (17, I6 (↑(n / 2))), (18, (rsub v 0 (n / 2) (capOf v))), (19, (op o8)), (20, v), (21, I6 (↑(n / 2))), (22, (rsub v (n / 2) n (capOf v))), (23, (op o9)), (24, .slice (some ⟨wc9.heap.size, 0, none⟩) 2 2), (25, (op z10))] : Fm)) (fun ⟨o8, wc8, o9, wc9, z10, wc10⟩ => [w.drew, wc8, wc9, (wc9).alloc (.cells #[(op o8), (op o9)] 81), wc10]) (w.drew) (fun e ⟨o8, wc8, o9, wc9, z10, wc10⟩ => hAt [True, (okO wc8 o8) ∧ (obs o8 = (xs.take (n / 2))) ∧ (Ext [] w.drew wc8) ∧ True, (okO wc8 o8) ∧ (obs o8 = (xs.take (n / 2))) ∧ (Ext [] w.drew wc8) ∧ (okO wc9 o9) ∧ (obs o9 = ((xs.drop (n / 2)).take (n - n / 2))) ∧ (Ext [] wc8 wc9) ∧ True, (okO wc8 o8) ∧ (obs o8 = (xs.take (n / 2))) ∧ (Ext [] w.drew wc8) ∧ (okO wc9 o9) ∧ (obs o9 = ((xs.drop (n / 2)).take (n - n / 2))) ∧ (Ext [] wc8 wc9) ∧ True, (okO wc8 o8) ∧ (obs o8 = (xs.take (n / 2))) ∧ (Ext [] w.drew wc8) ∧ (okO wc9 o9) ∧ (obs o9 = ((xs.drop (n / 2)).take (n - n / 2))) ∧ (Ext [] wc8 wc9) ∧ (okO wc10 z10) ∧ (obs z10 = cat [o8, o9]) ∧ (Ext [] ((wc9).alloc (.cells #[(op o8), (op o9)] 81)) wc10) ∧ True] e) (fun ⟨o8, wc8, o9, wc9, z10, wc10⟩ w' => [(2, [Ru Try.prog (vS (Instr.sliceAt 23 v none (some (I6 (↑(n / 2)))) none)) (rsub v 0 (n / 2) (capOf v)) w']), (6, [Ru Try.prog (vS (Instr.sliceAt 23 v (some (I6 (↑(n / 2)))) none none)) (rsub v (n / 2) n (capOf v)) w'])]) (none, w.drew, none, w, none, w) [0, 6, 9, 3] [] hS (by kernel_rfl) (by kernel_rfl) (by kernel_rfl) (by kernel_rfl) (fun ⟨o8, wc8, o9, wc9, z10, wc10⟩ _ => by kernel_rfl) (by kernel_rfl) (by kernel_rfl) (by kernel_rfl) trivial ?_ (by kernel_rfl) ?_ ?_
 ·rintro e ⟨o8, wc8, o9, wc9, z10, wc10⟩ w' hw hH
  refine (.cons ?_ (.cons ?_ .nil))
  ·intro h1 h2
   obtain rfl : e = 0 := Nat.le_antisymm h2 h1
   have hwe : w.drew = w' := (hw.trans (by kernel_rfl)).symm
   subst hwe
   clear hH
   exact (.cons (sl_rd (e := 5) none (some (I6 (↑(n / 2)))) (l := 0) (k := (n / 2)) hv (by kernel_rfl) (by kernel_rfl) (.inl ⟨rfl, rfl⟩) (.inr ⟨_, rfl⟩) (by omega) (by omega)) .nil)
  ·intro h1 h2
   replace h1 : 0 ≤ e := h1
   replace h2 : e ≤ 1 := h2
   have he : e = 0 ∨ e = 1 := by omega
   rcases he with rfl | rfl
   ·have hwe : w.drew = w' := (hw.trans (by kernel_rfl)).symm
    subst hwe
    clear hH
    exact (.cons (sl_rd (e := 5) (some (I6 (↑(n / 2)))) none (l := (n / 2)) (k := n) hv (by kernel_rfl) (by kernel_rfl) (.inr ⟨_, rfl⟩) (.inl ⟨rfl, rfl⟩) (by omega) (by omega)) .nil)
   ·have hwe : wc8 = w' := (hw.trans (by kernel_rfl)).symm
    subst hwe
    obtain ⟨ho8, hb8, hEc8, _⟩ := hH
    exact (.cons (sl_rd (e := 5) (some (I6 (↑(n / 2)))) none (l := (n / 2)) (k := n) hv (by kernel_rfl) (by kernel_rfl) (.inr ⟨_, rfl⟩) (.inl ⟨rfl, rfl⟩) (by omega) (by omega)) .nil)
 ·refine (.cons ?eq11_3 (.cons ?eq11_7 (.cons ?eq11_8 (.cons ?eq11_9 .nil))))
  ·rintro ⟨o8, wc8, o9, wc9, z10, wc10⟩ hH
   clear hH
   refine eff_gh (w.drew) (by kernel_rfl) ?_
   refine upon_call (f := 40) (vs := [(rsub v 0 (n / 2) (capOf v))]) (cap := #[]) (d := (some 19)) (by kernel_rfl) Try.call40 #[(rsub v 0 (n / 2) (capOf v))] (by kernel_rfl) (ih w.drew (rsub v 0 (n / 2) (capOf v)) (n / 2) (xs.take (n / 2)) (hE0.trans0 ((Ext.refl [] _).drew)) (by omega) ((RdV.subt hv (k := (n / 2)) (m := (capOf v)) (by omega) (by have := hv.le_cap; omega)).ext0 ((Ext.refl [] _).drew)) (hB.take _)) ?_
   rintro _ wc8 ⟨o8, rfl, ho8, hb8, hEc8⟩
   exact ⟨_, rfl, ⟨(o8, wc8, o9, wc9, z10, wc10), by kernel_rfl, by kernel_rfl, by kernel_rfl, ⟨ho8, hb8, hEc8, trivial⟩⟩⟩
  ·rintro ⟨o8, wc8, o9, wc9, z10, wc10⟩ hH
   obtain ⟨ho8, hb8, hEc8, _⟩ := hH
   refine eff_gh (wc8) (by kernel_rfl) ?_
   refine upon_call (f := 40) (vs := [(rsub v (n / 2) n (capOf v))]) (cap := #[]) (d := (some 23)) (by kernel_rfl) Try.call40 #[(rsub v (n / 2) n (capOf v))] (by kernel_rfl) (ih wc8 (rsub v (n / 2) n (capOf v)) (n - n / 2) ((xs.drop (n / 2)).take (n - n / 2)) (hE0.trans0 ((((Ext.refl [] _).drew)).trans0 hEc8)) (by omega) (((RdV.subb hv (l := (n / 2)) (k := n) (m := (capOf v)) (by omega) (by omega) (by have := hv.le_cap; omega)).ext0 ((Ext.refl [] _).drew)).ext0 hEc8) ((hB.drop _).take _)) ?_
   rintro _ wc9 ⟨o9, rfl, ho9, hb9, hEc9⟩
   exact ⟨_, rfl, ⟨(o8, wc8, o9, wc9, z10, wc10), by kernel_rfl, by kernel_rfl, by kernel_rfl, ⟨ho8, hb8, hEc8, ho9, hb9, hEc9, trivial⟩⟩⟩
  ·rintro ⟨o8, wc8, o9, wc9, z10, wc10⟩ hH
   obtain ⟨ho8, hb8, hEc8, ho9, hb9, hEc9, _⟩ := hH
   refine eff_gh (wc9) (by kernel_rfl) ?_
   exact upon_new (nb := wc9.heap.size) (cs := #[(op o8), (op o9)]) (T := 81) (v := Value.slice (some ⟨wc9.heap.size, 0, none⟩) 2 2) (d := (some 24)) (by kernel_rfl) (by first | rfl | simp [upd_size]) ⟨(o8, wc8, o9, wc9, z10, wc10), by kernel_rfl, by kernel_rfl, by kernel_rfl, ⟨ho8, hb8, hEc8, ho9, hb9, hEc9, trivial⟩⟩
  ·rintro ⟨o8, wc8, o9, wc9, z10, wc10⟩ hH
   obtain ⟨ho8, hb8, hEc8, ho9, hb9, hEc9, _⟩ := hH
   refine eff_gh ((wc9).alloc (.cells #[(op o8), (op o9)] 81)) (by kernel_rfl) ?_
   refine upon_call (f := 43) (vs := [.slice (some ⟨wc9.heap.size, 0, none⟩) 2 2]) (cap := #[]) (d := (some 25)) (by kernel_rfl) Try.call43 #[.slice (some ⟨wc9.heap.size, 0, none⟩) 2 2] (by kernel_rfl) (joined_any (os := [o8, o9]) (RdV.of_blk (n := 2) (Blk.new' _ _ _ (by first | rfl | simp [upd_size]) : Blk ((wc9).alloc (.cells #[(op o8), (op o9)] 81)) wc9.heap.size 81 (#[(op o8), (op o9)])) rfl) (by intro q hq; simp at hq; rcases hq with rfl | rfl; exact ((ho8.ext0 hEc9).ext0 ((Ext.refl [] _).alloc _)); exact (ho9.ext0 ((Ext.refl [] _).alloc _))) (by simp [cat, hb8, hb9]; omega) (by simp) (((ho8.ext0 hEc9).ext0 ((Ext.refl [] _).alloc _))).zb) ?_
   rintro _ wc10 ⟨z10, rfl, hz10, hy10, hEc10⟩
   exact ⟨_, rfl, ⟨(o8, wc8, o9, wc9, z10, wc10), by kernel_rfl, by kernel_rfl, by kernel_rfl, ⟨ho8, hb8, hEc8, ho9, hb9, hEc9, hz10, hy10, hEc10, trivial⟩⟩⟩
 rintro ⟨o8, wc8, o9, wc9, z10, wc10⟩ a w12 hS hw13 hH
 obtain ⟨ho8, hb8, hEc8, ho9, hb9, hEc9, hz10, hy10, hEc10, _⟩ := hH
 replace hw13 : w12 = wc10 := hw13.trans (by kernel_rfl)
 have hE15 : Ext [] w w12 := by rw [hw13]; exact ((((hE0.drew).trans0 hEc8).trans0 hEc9).alloc _).trans0 hEc10
 have hX16 : Ext [] w w12 := by rw [hw13]; exact (((((Ext.refl _ _).drew).trans0 hEc8).trans0 hEc9).alloc _).trans0 hEc10
 have hG17 : RdV w12 1 v n (bv xs) := hv.ext0 hX16
 replace hS := hS.kp [(0, v), (6, .bool false), (9, .bool false), (3, I6 (↑(n / 2))), (2, (op z10))]
 refine hK7 _ _ ?_
 refine wpIn_ret ?_
 refine ret1 hS Try.results40 rfl ?_
 exact ⟨z10, rfl, by rw [hw13]; exact hz10, by rw [hy10, show cat [o8, o9] = obs o8 ++ obs o9 by simp [cat], hb8, hb9, List.take_of_length_le (show (xs.drop (n / 2)).length ≤ n - n / 2 by rw [List.length_drop]; omega), List.take_append_drop], hE15⟩

theorem made_any : ∀ (n : Nat) {v : Value} {xs : List Int} {w : World}, RdV w 1 v n (bv xs) → BR xs → n ≤ 10000000000 → Zb w → Calls Try.prog 40 #[v] w (NdO w xs) := by
 intro n
 induction n using Nat.strongRecOn with
 | _ n ih =>
  intro v xs w hv hB hn hz
  by_cases h : n = 0
  ·exact made_0 hv hB hn hz h
  ·by_cases h2 : n ≤ 512
   ·exact made_1 hv hB hn hz h h2
   ·exact made_2 hv hB hn hz h h2 fun W v' n' xs' hE hlt hv' hB' => ih n' hlt hv' hB' (by omega) (hz.ext hE)

end Go.Proofs.Ytkdbfjomjlhfbaa
