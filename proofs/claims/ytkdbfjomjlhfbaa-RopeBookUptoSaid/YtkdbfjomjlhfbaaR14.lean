import Derived.Test.YtkdbfjomjlhfbaaProg
import Derived.Test.YtkdbfjomjlhfbaaR13
namespace Go.Proofs.Ytkdbfjomjlhfbaa
open Go.Vc
set_option linter.unusedSectionVars false
variable [Inhabited Zt]

theorem SameB_ne {va vb : Value} {n k : Nat} {xs ys : List Int} {w : World} (ha : RdV w 1 va n (bv xs)) (hb : RdV w 1 vb k (bv ys)) (hne : n ≠ k) :
  Calls Try.prog 31 #[va, vb] w fun e w' => e = .returned (.bool false) ∧ w' = w := by
 refine calls_body 26 [(0, va), (1, vb)] Try.func31 rfl (by kernel_rfl) (by kernel_rfl) (by kernel_rfl) fun a hS => ?_
 refine sq fun K1 hK1 => ?_
 refine rgn 1 ?_
 refine sg wide_wide [.p] [] [(0, va), (1, vb), (4, .bool false)] 1 0 hS .nil fun a hS => ?_
 refine seg_end ?_
 refine hK1 _ _ ?_
 refine sq fun K2 hK2 => ?_
 refine sq fun K3 hK3 => ?_
 refine rgn 5 ?_
 refine sg wide_wide [.p, .run (I6 ↑n), .p, .run (I6 ↑k), .as (.bool true)] [Ru Try.prog (vS (Builtin.len_ #[23] 3 #[va])) (I6 ↑n) w, Ru Try.prog (vS (Builtin.len_ #[23] 3 #[vb])) (I6 ↑k) w, Value.bool (((↑n : Int) != ↑k)) = .bool true] [(0, va), (1, vb), (4, .bool false), (10, .bool true)] 5 0 hS (.cons (run_len_rd (e := 5) ha (by kernel_rfl)) (.cons (run_len_rd (e := 5) hb (by kernel_rfl)) (.cons (as_ne_t (by omega)) .nil))) fun a hS => ?_
 refine seg_end ?_
 refine hK3 _ _ ?_
 refine cond_t hS rfl ?_
 refine sq fun K4 hK4 => ?_
 refine rgn 1 ?_
 refine sg wide_wide [.p] [] [(0, va), (1, vb), (4, .bool false), (10, .bool true)] 1 0 hS .nil fun a hS => ?_
 refine seg_end ?_
 refine hK4 _ _ ?_
 refine wpIn_ret ?_
 refine then_ret ?_
 refine ret1 hS Try.results31 rfl ?_
 exact ⟨rfl, rfl⟩

theorem SameB_eq {va vb : Value} {n : Nat} {xs ys : List Int} {w : World} (ha : RdV w 1 va n (bv xs)) (hb : RdV w 1 vb n (bv ys)) (hn : n ≤ 100000000000) :
  Calls Try.prog 31 #[va, vb] w fun e w' => e = .returned (.bool (decide (xs = ys))) ∧ Ext [] w w' := by
 have hl : xs.length = n := by have := ha.len; simpa using this
 have hl2 : ys.length = n := by have := hb.len; simpa using this
 refine calls_body 26 [(0, va), (1, vb)] Try.func31 rfl (by kernel_rfl) (by kernel_rfl) (by kernel_rfl) fun a hS => ?_
 have hE0 : Ext [] w w := Ext.refl _ _
 refine sq fun K1 hK1 => ?_
 refine rgn 1 ?_
 refine sg wide_wide [.p] [] [(0, va), (1, vb), (4, .bool false)] 1 0 hS .nil fun a hS => ?_
 refine seg_end ?_
 refine hK1 _ _ ?_
 refine sq fun K2 hK2 => ?_
 refine sq fun K3 hK3 => ?_
 refine rgn 5 ?_
 refine sg wide_wide [.p, .run (I6 ↑n), .p, .run (I6 ↑n), .as (.bool false)] [Ru Try.prog (vS (Builtin.len_ #[23] 3 #[va])) (I6 ↑n) w, Ru Try.prog (vS (Builtin.len_ #[23] 3 #[vb])) (I6 ↑n) w, Value.bool (((↑n : Int) != ↑n)) = .bool false] [(0, va), (1, vb), (4, .bool false), (10, .bool false)] 5 0 hS (.cons (run_len_rd (e := 5) ha (by kernel_rfl)) (.cons (run_len_rd (e := 5) hb (by kernel_rfl)) (.cons (as_ne_f (rfl)) .nil))) fun a hS => ?_
 refine seg_end ?_
 refine hK3 _ _ ?_
 refine cond_f hS rfl ?_
 refine wpIn_skip ?_
 refine hK2 _ _ ?_
 refine sq fun K4 hK4 => ?_
 refine sq fun K5 hK5 => ?_
 refine rgn 1 ?_
 refine sg wide_wide [.p] [] [(0, va), (1, vb), (4, .bool false), (10, .bool false), (5, I6 0)] 1 0 hS .nil fun a hS => ?_
 refine seg_end ?_
 refine hK5 _ _ ?_
 refine wpIn_block ?_
 refine loop_ghost (fun (i : Nat) a' w' => St 26 [] [(0, va), (1, vb), (5, I6 ↑i)] a' ∧ i ≤ n ∧ xs.take i = ys.take i ∧ Ext [] w w') (fun (i : Nat) => n - i) 0 ⟨hS.keepTo [0, 1, 5] (by kernel_rfl), Nat.zero_le _, rfl, hE0⟩ ?_
 rintro i a w1 ⟨hS, hil, hpre, hEx⟩
 have ha1 := ha.ext0 hEx
 have hb1 := hb.ext0 hEx
 refine sq fun K6 hK6 => ?_
 refine sq fun K7 hK7 => ?_
 refine rgn 4 ?_
 refine sg wide_wide [.p, .p, .run (I6 ↑n), .p] [Ru Try.prog (vS (Builtin.len_ #[23] 3 #[va])) (I6 ↑n) w1] [(0, va), (1, vb), (5, I6 ↑i), (14, .bool (decide ((↑i : Int) < ↑n)))] 4 0 hS (.cons (run_len_rd (e := 5) ha (by kernel_rfl)) .nil) fun a hS => ?_
 refine seg_end ?_
 refine hK7 _ _ ?_
 refine cond_b hS rfl (fun hb8 => ?_) (fun hb8 => ?_)
 ·
  replace hb8 := of_decide_eq_true hb8
  have hi : i < n := by omega
  obtain ⟨x, hx⟩ : ∃ x, xs[i]? = some x := ⟨_, List.getElem?_eq_getElem (by omega)⟩
  obtain ⟨y, hy⟩ : ∃ y, ys[i]? = some y := ⟨_, List.getElem?_eq_getElem (by omega)⟩
  refine wpIn_skip ?_
  refine hK6 _ _ ?_
  refine sq fun K9 hK9 => ?_
  refine wpIn_block ?_
  refine sq fun K10 hK10 => ?_
  refine region_fn2 wide_wide [.q .p, .q .p, .q (.run ((Po (bof va) (oof va + i * 1)))), .q (.ld (.int .u8 x)), .q .p, .q .p, .q (.run ((Po (bof vb) (oof vb + i * 1)))), .q (.ld (.int .u8 y)), .q .p] [0, 0, 0, 0, 0, 0, 0, 0, 0] [0, 0, 0, 0, 0, 0, 0, 0, 0] [0, 0, 3, 7, 0, 0, 48, 112, 255] [] 0 ([(0, va), (1, vb), (5, I6 ↑i), (17, va), (18, I6 ↑i), (19, (Po (bof va) (oof va + i * 1))), (20, .int .u8 x), (21, vb), (22, I6 ↑i), (23, (Po (bof vb) (oof vb + i * 1))), (24, .int .u8 y), (25, .bool ((x : Int) != y))]) [w1.drew] w1.drew (fun w' => [(2, [Ru Try.prog (vS (Instr.indexAt 23 (va) (I6 ↑i))) ((Po (bof va) (oof va + i * 1))) w']), (3, [w'.cell? ⟨bof va, oof va + i * 1, none⟩ = some (.int .u8 x)]), (6, [Ru Try.prog (vS (Instr.indexAt 23 (vb) (I6 ↑i))) ((Po (bof vb) (oof vb + i * 1))) w']), (7, [w'.cell? ⟨bof vb, oof vb + i * 1, none⟩ = some (.int .u8 y)])]) [0, 1, 5] [] hS (by kernel_rfl) (by kernel_rfl) (by kernel_rfl) (by kernel_rfl) (fun _ => by kernel_rfl) (by kernel_rfl) (by kernel_rfl) (by kernel_rfl) ?_ ?_ ?_
  ·intro e w' hw
   refine (.cons ?_ (.cons ?_ (.cons ?_ (.cons ?_ .nil))))
   ·exact fun _ _ => (.cons (ix_rd (e := 5) (j := i) ha (by kernel_rfl) (by kernel_rfl) rfl hi) .nil)
   ·intro h1 h2
    obtain rfl : e = 0 := Nat.le_antisymm h2 h1
    obtain rfl : w' = w1.drew := hw.trans (by kernel_rfl)
    exact (.cons (((ha1.ext0 ((Ext.refl [] _).drew)) : RdV w1.drew 1 _ _ _).cellAt (i * 1) (by omega) (by rw [Nat.mul_one]; exact bv_at hx)) .nil)
   ·exact fun _ _ => (.cons (ix_rd (e := 5) (j := i) hb (by kernel_rfl) (by kernel_rfl) rfl hi) .nil)
   ·intro h1 h2
    obtain rfl : e = 0 := Nat.le_antisymm h2 h1
    obtain rfl : w' = w1.drew := hw.trans (by kernel_rfl)
    exact (.cons (((hb1.ext0 ((Ext.refl [] _).drew)) : RdV w1.drew 1 _ _ _).cellAt (i * 1) (by omega) (by rw [Nat.mul_one]; exact bv_at hy)) .nil)
  ·refine .nil
  rintro a w12 hS hw13
  replace hw13 : w12 = w1.drew := hw13.trans (by kernel_rfl)
  have hE14 : Ext [] w w12 := by rw [hw13]; exact hEx.drew
  have hX15 : Ext [] w1 w12 := by rw [hw13]; exact (Ext.refl _ _).drew
  have hG16 : RdV w12 1 va n (bv xs) := ha1.ext0 hX15
  have hG17 : RdV w12 1 vb n (bv ys) := hb1.ext0 hX15
  replace hS := hS.kp [(0, va), (1, vb), (5, I6 ↑i), (25, .bool ((x : Int) != y))]
  refine hK10 _ _ ?_
  refine cond_b hS rfl (fun hb18 => ?_) (fun hb18 => ?_)
  ·
   replace hb18 := test_ne_t hb18
   have hne : xs ≠ ys := fun he => by rw [he, hy] at hx; simp at hx; exact hb18 hx.symm
   refine sq fun K19 hK19 => ?_
   refine rgn 1 ?_
   refine sg wide_wide [.p] [] [(0, va), (1, vb), (5, I6 ↑i), (4, .bool false)] 1 0 hS .nil fun a hS => ?_
   refine seg_end ?_
   refine hK19 _ _ ?_
   refine wpIn_ret ?_
   refine inBlock_ret ?_
   refine then_ret ?_
   refine then_ret ?_
   refine inBlock_ret ?_
   refine then_ret ?_
   refine ret1 hS Try.results31 rfl ?_
   exact ⟨by rw [decide_eq_false hne], hE14⟩
  ·
   replace hb18 := test_ne_f hb18
   refine wpIn_skip ?_
   refine inBlock_normal ?_
   refine hK9 _ _ ?_
   refine rgn 3 ?_
   refine sg wide_wide [.p, .as (I6 (↑i + 1)), .p] [Value.int .i64 (IntKind.i64.wrap (↑i + 1)) = I6 (↑i + 1)] [(0, va), (1, vb), (5, I6 (↑i + 1))] 3 0 hS (.cons (as_i64 (by omega)) .nil) fun a hS => ?_
   refine seg_end ?_
   exact ⟨i + 1, ⟨hS.kp [(0, va), (1, vb), (5, I6 (↑i + 1))], by omega, by rw [List.take_add_one, List.take_add_one, hx, hy, hpre, hb18], hE14⟩, by omega⟩
 ·
  replace hb8 := of_decide_eq_false hb8
  have hxy : xs = ys := by
   rw [List.take_of_length_le (by omega), List.take_of_length_le (by omega)] at hpre
   exact hpre
  refine wpIn_exit ?_
  refine then_exit ?_
  refine then_exit ?_
  refine inBlock_hit ?_
  refine hK4 _ _ ?_
  refine sq fun K20 hK20 => ?_
  refine rgn 1 ?_
  refine sg wide_wide [.p] [] [(0, va), (1, vb), (5, I6 ↑i), (4, .bool true)] 1 0 hS .nil fun a hS => ?_
  refine seg_end ?_
  refine hK20 _ _ ?_
  refine wpIn_ret ?_
  refine ret1 hS Try.results31 rfl ?_
  exact ⟨by rw [decide_eq_true hxy], hEx⟩

theorem SameB_any {va vb : Value} {n k : Nat} {xs ys : List Int} {w : World} (ha : RdV w 1 va n (bv xs)) (hb : RdV w 1 vb k (bv ys)) (hn : n ≤ 100000000000) : Calls Try.prog 31 #[va, vb] w fun e w' => e = .returned (.bool (decide (xs = ys))) ∧ Ext [] w w' := by
 by_cases h : n = k
 ·subst h; exact SameB_eq ha hb hn
 ·have hne : xs ≠ ys := fun he => h (by have h1 := ha.len; have h2 := hb.len; rw [he] at h1; simp at h1 h2; omega)
  rw [decide_eq_false hne]
  exact (SameB_ne ha hb h).mono fun e w' ⟨h1, h2⟩ => ⟨h1, by rw [h2]; exact Ext.refl _ _⟩

def rnd (k n : Int) : Int := if k.tmod n < 0 then k.tmod n + n else k.tmod n

theorem rnd_bd (k : Int) {n : Int} (hn : 0 < n) : 0 ≤ rnd k n ∧ rnd k n < n := by
 have h := tmod_bd k hn
 unfold rnd
 split <;> omega

theorem Round_a {k n : Int} {w : World} (hn : 0 < n ∧ n ≤ 1000000000000) (h : k.tmod n < 0) :
  Calls Try.prog 21 #[I6 k, I6 n] w fun e w' => e = .returned (I6 (k.tmod n + n)) ∧ w' = w := by
 have hb := tmod_bd k hn.1
 obtain ⟨m, hm⟩ : ∃ m, k.tmod n = m := ⟨_, rfl⟩
 rw [hm] at h hb ⊢
 refine calls_body 14 [(0, I6 k), (1, I6 n)] Try.func21 rfl (by kernel_rfl) (by kernel_rfl) (by kernel_rfl) fun a hS => ?_
 refine sq fun K1 hK1 => ?_
 refine rgn 1 ?_
 refine sg wide_wide [.p] [] [(0, I6 k), (1, I6 n), (4, I6 0)] 1 0 hS .nil fun a hS => ?_
 refine seg_end ?_
 refine hK1 _ _ ?_
 refine sq fun K2 hK2 => ?_
 refine rgn 4 ?_
 refine sg wide_wide [.p, .p, .run (I6 m), .p] [Ru Try.prog (vS (do eqGuard .rem 3 (.tmp 5) (.tmp 6) (I6 k) (I6 n); binOp .rem 3 (I6 k) (I6 n))) (I6 m) w] [(0, I6 m), (1, I6 n), (4, I6 0)] 4 0 hS (.cons ((by rw [← hm]; exact bin_rem (by omega))) .nil) fun a hS => ?_
 refine seg_end ?_
 refine hK2 _ _ ?_
 refine sq fun K3 hK3 => ?_
 refine sq fun K4 hK4 => ?_
 refine rgn 2 ?_
 refine sg wide_wide [.p, .as (.bool true)] [Value.bool (decide ((m : Int) < 0)) = .bool true] [(0, I6 m), (1, I6 n), (4, I6 0), (9, .bool true)] 2 0 hS (.cons (as_t (by omega)) .nil) fun a hS => ?_
 refine seg_end ?_
 refine hK4 _ _ ?_
 refine cond_t hS rfl ?_
 refine rgn 4 ?_
 refine sg wide_wide [.p, .p, .as (I6 (m + n)), .p] [Value.int .i64 (IntKind.i64.wrap (m + n)) = I6 (m + n)] [(0, I6 (m + n)), (1, I6 n), (4, I6 0), (9, .bool true)] 4 0 hS (.cons (as_i64 (by omega)) .nil) fun a hS => ?_
 refine seg_end ?_
 refine hK3 _ _ ?_
 refine sq fun K5 hK5 => ?_
 refine rgn 2 ?_
 refine sg wide_wide [.p, .p] [] [(0, I6 (m + n)), (1, I6 n), (4, I6 (m + n)), (9, .bool true)] 2 0 hS .nil fun a hS => ?_
 refine seg_end ?_
 refine hK5 _ _ ?_
 refine wpIn_ret ?_
 refine ret1 hS Try.results21 rfl ?_
 exact ⟨rfl, rfl⟩

theorem Round_b {k n : Int} {w : World} (hn : 0 < n ∧ n ≤ 1000000000000) (h : ¬k.tmod n < 0) :
  Calls Try.prog 21 #[I6 k, I6 n] w fun e w' => e = .returned (I6 (k.tmod n)) ∧ w' = w := by
 have hb := tmod_bd k hn.1
 obtain ⟨m, hm⟩ : ∃ m, k.tmod n = m := ⟨_, rfl⟩
 rw [hm] at h hb ⊢
 refine calls_body 14 [(0, I6 k), (1, I6 n)] Try.func21 rfl (by kernel_rfl) (by kernel_rfl) (by kernel_rfl) fun a hS => ?_
 refine sq fun K1 hK1 => ?_
 refine rgn 1 ?_
 refine sg wide_wide [.p] [] [(0, I6 k), (1, I6 n), (4, I6 0)] 1 0 hS .nil fun a hS => ?_
 refine seg_end ?_
 refine hK1 _ _ ?_
 refine sq fun K2 hK2 => ?_
 refine rgn 4 ?_
 refine sg wide_wide [.p, .p, .run (I6 m), .p] [Ru Try.prog (vS (do eqGuard .rem 3 (.tmp 5) (.tmp 6) (I6 k) (I6 n); binOp .rem 3 (I6 k) (I6 n))) (I6 m) w] [(0, I6 m), (1, I6 n), (4, I6 0)] 4 0 hS (.cons ((by rw [← hm]; exact bin_rem (by omega))) .nil) fun a hS => ?_
 refine seg_end ?_
 refine hK2 _ _ ?_
 refine sq fun K3 hK3 => ?_
 refine sq fun K4 hK4 => ?_
 refine rgn 2 ?_
 refine sg wide_wide [.p, .as (.bool false)] [Value.bool (decide ((m : Int) < 0)) = .bool false] [(0, I6 m), (1, I6 n), (4, I6 0), (9, .bool false)] 2 0 hS (.cons (as_f (by omega)) .nil) fun a hS => ?_
 refine seg_end ?_
 refine hK4 _ _ ?_
 refine cond_f hS rfl ?_
 refine wpIn_skip ?_
 refine hK3 _ _ ?_
 refine sq fun K5 hK5 => ?_
 refine rgn 2 ?_
 refine sg wide_wide [.p, .p] [] [(0, I6 m), (1, I6 n), (4, I6 m), (9, .bool false)] 2 0 hS .nil fun a hS => ?_
 refine seg_end ?_
 refine hK5 _ _ ?_
 refine wpIn_ret ?_
 refine ret1 hS Try.results21 rfl ?_
 exact ⟨rfl, rfl⟩

theorem Round_any {k n : Int} {w : World} (hn : 0 < n ∧ n ≤ 1000000000000) : Calls Try.prog 21 #[I6 k, I6 n] w fun e w' => e = .returned (I6 (rnd k n)) ∧ w' = w := by
 unfold rnd
 by_cases h : k.tmod n < 0
 ·rw [if_pos h]; exact Round_a hn h
 ·rw [if_neg h]; exact Round_b hn h

def marks (k : Nat) : List Int := List.replicate k 169
theorem lend_step {xs : List Int} {R : List Value} {n i m : Nat} (hl : xs.length = n) (hi : n ≤ i) (hR : R.length = m - i) (him : i < m) :
  (bv (xs ++ marks (i - n)) ++ R).set i (.int .u8 169) = bv (xs ++ marks (i + 1 - n)) ++ R.drop 1 := by
 have hlen : (bv (xs ++ marks (i - n))).length = i := by simp [marks, hl]; omega
 rw [List.set_append_right _ _ (by omega), hlen, Nat.sub_self]
 cases R with
 | nil => simp at hR; omega
 | cons r R =>
  rw [List.set_cons_zero, List.drop_one, List.tail_cons, show i + 1 - n = (i - n) + 1 by omega]
  simp [marks, bv, List.replicate_succ']

theorem Lend_any {v : Value} {n : Nat} {xs : List Int} {w : World} (hv : RdV w 1 v n (bv xs)) (hn : n ≤ 10000000000) :
  Calls Try.prog 14 #[v] w fun e w' => ∃ g, e = .returned (.slice (some ⟨g, 0, none⟩) n (n + 5)) ∧ OwnR w' 5 1 g (n + 5) (n + 5) (bv (xs ++ marks 5)) ∧ w.heap.size ≤ g ∧ Ext [] w w' := by
 have hl : xs.length = n := by have := hv.len; simpa using this
 refine calls_body 27 [(0, v)] Try.func14 rfl (by kernel_rfl) (by kernel_rfl) (by kernel_rfl) fun a hS => ?_
 have hE0 : Ext [] w w := Ext.refl _ _
 refine sq fun K1 hK1 => ?_
 refine rgn 1 ?_
 refine sg wide_wide [.p] [] [(0, v), (2, .slice none 0 0)] 1 0 hS .nil fun a hS => ?_
 refine seg_end ?_
 refine hK1 _ _ ?_
 refine sq fun K2 hK2 => ?_
 refine rgn 5 ?_
 refine sg wide_wide [.p, .run (I6 ↑n), .as (I6 ((n + 5 : Nat) : Int))] [Ru Try.prog (vS (Builtin.len_ #[23] 3 #[v])) (I6 ↑n) w, Value.int .i64 (IntKind.i64.wrap (↑n + 5)) = I6 ((n + 5 : Nat) : Int)] [(0, v), (2, .slice none 0 0), (7, I6 ((n + 5 : Nat) : Int))] 3 2 hS (.cons (run_len_rd (e := 5) hv (by kernel_rfl)) (.cons ((by rw [show (↑n + 5 : Int) = ((n + 5 : Nat) : Int) from by omega]; exact as_i64 (by omega))) .nil)) fun a hS => ?_
 obtain ⟨wm, zs, hrm, hOm, hEm, hsm⟩ := make_len (P := Try.prog) (w := w) (T := 23) (E := 5) (size := 1) (bytes := 1) (z := #[.int .u8 0]) (l := ((n + 5 : Nat) : Int)) (by kernel_rfl) (by kernel_rfl) (by omega) (by omega) (by omega)
 refine eff_run wide_wide (r := 1) (s := vS (Instr.makeSlice 23 (I6 ((n + 5 : Nat) : Int)) (I6 ((n + 5 : Nat) : Int)))) (d := (some 8)) (v := .slice (some ⟨w.heap.size, 0, none⟩) ((n + 5 : Nat) : Int).toNat ((n + 5 : Nat) : Int).toNat) hS (by kernel_rfl) hrm fun a hS => ?_
 rw [show ((n + 5 : Nat) : Int).toNat = n + 5 by omega] at hOm hS
 have hE1 := hE0.trans0 hEm
 have hgm : w.heap.size ≤ w.heap.size := hE0.size
 have hG3 : RdV wm 1 v n (bv xs) := hv.ext0 hEm
 refine sg wide_wide [.p] [] [(0, v), (2, .slice none 0 0), (3, .slice (some ⟨w.heap.size, 0, none⟩) (n + 5) (n + 5))] 5 0 hS .nil fun a hS => ?_
 refine seg_end ?_
 refine hK2 _ _ ?_
 refine sq fun K4 hK4 => ?_
 refine rgn 3 ?_
 refine sg wide_wide [.p, .p] [] [(0, v), (2, .slice none 0 0), (3, .slice (some ⟨w.heap.size, 0, none⟩) (n + 5) (n + 5)), (9, .slice (some ⟨w.heap.size, 0, none⟩) (n + 5) (n + 5)), (10, v)] 2 1 hS .nil fun a hS => ?_
 obtain ⟨wc, hrc, hOc, hEc, hsc⟩ := copy_own (P := Try.prog) (w := wm) (dT := 23) (sT := 23) (ty := 3) (e := 5) (c := (n + 5)) (by kernel_rfl) (by kernel_rfl) hOm hG3 (by omega) (bv_one _)
 refine eff_run wide_wide (r := 0) (s := vS (Builtin.copy_ #[23, 23] 3 #[.slice (some ⟨w.heap.size, 0, none⟩) (n + 5) (n + 5), v])) (d := (some 11)) (v := I6 n) hS (by kernel_rfl) hrc fun a hS => ?_
 have hE2 := hE1.trans hEc (fun b hb => by simp at hb; subst hb; exact .inr hgm)
 refine seg_end ?_
 refine hK4 _ _ ?_
 refine sq fun K5 hK5 => ?_
 refine sq fun K6 hK6 => ?_
 refine rgn 3 ?_
 refine sg wide_wide [.p, .run (I6 ↑n), .p] [Ru Try.prog (vS (Builtin.len_ #[23] 3 #[v])) (I6 ↑n) wc] [(0, v), (2, .slice none 0 0), (3, .slice (some ⟨w.heap.size, 0, none⟩) (n + 5) (n + 5)), (4, I6 ↑n)] 3 0 hS (.cons (run_len_rd (e := 5) hv (by kernel_rfl)) .nil) fun a hS => ?_
 refine seg_end ?_
 refine hK6 _ _ ?_
 refine wpIn_block ?_
 have hzl : zs.length = n + 5 := by have := hOm.len; simpa using this
 refine loop_ghost (fun ((i, R) : Nat × List Value) a' w' => St 27 [] [(0, v), (3, .slice (some ⟨w.heap.size, 0, none⟩) (n + 5) (n + 5)), (4, I6 ↑i)] a' ∧ n ≤ i ∧ i ≤ n + 5 ∧ R.length = n + 5 - i ∧ OwnR w' 5 1 w.heap.size (n + 5) (n + 5) (bv (xs ++ marks (i - n)) ++ R) ∧ Ext [] w w') (fun ((i, R) : Nat × List Value) => n + 5 - i) (n, zs.drop n) ⟨hS.keepTo [0, 3, 4] (by kernel_rfl), Nat.le_refl _, by omega, by rw [List.length_drop]; omega, by rw [Nat.sub_self]; simpa [marks] using hOc, hE2⟩ ?_
 rintro ⟨i, R⟩ a w1 ⟨hS, h1, h2, hR, hO, hEx⟩
 refine sq fun K7 hK7 => ?_
 refine sq fun K8 hK8 => ?_
 refine rgn 4 ?_
 refine sg wide_wide [.p, .p, .p, .p] [] [(0, v), (3, .slice (some ⟨w.heap.size, 0, none⟩) (n + 5) (n + 5)), (4, I6 ↑i), (17, .bool (decide ((↑i : Int) < ((n + 5 : Nat) : Int))))] 4 0 hS .nil fun a hS => ?_
 refine seg_end ?_
 refine hK8 _ _ ?_
 refine cond_b hS rfl (fun hb9 => ?_) (fun hb9 => ?_)
 ·
  replace hb9 := of_decide_eq_true hb9
  have hi : i < n + 5 := by omega
  refine wpIn_skip ?_
  refine hK7 _ _ ?_
  refine sq fun K10 hK10 => ?_
  refine wpIn_block ?_
  refine rgn 4 ?_
  refine sg wide_wide [.p, .p, .run ((Po w.heap.size (0 + i * 1)))] [Ru Try.prog (vS (Instr.indexAt 23 (.slice (some ⟨w.heap.size, 0, none⟩) (n + 5) (n + 5)) (I6 ↑i))) ((Po w.heap.size (0 + i * 1))) w1] [(0, v), (3, .slice (some ⟨w.heap.size, 0, none⟩) (n + 5) (n + 5)), (4, I6 ↑i), (22, (Po w.heap.size (0 + i * 1)))] 3 1 hS (.cons (ix_slice (E := 5) (size := 1) (j := i) (by kernel_rfl) (by kernel_rfl) rfl hi) .nil) fun a hS => ?_
  refine eff_store_own wide_wide (r := 0) (b := w.heap.size) (off := 0 + i * 1) (u := Value.int .u8 169) (xs := (bv (xs ++ marks (i - n)) ++ R)) hS (by kernel_rfl) hO (by omega) fun a ws11 hOs11 hEs11 hsz11 hS => ?_
  have hE12 : Ext [] w ws11 := hEx.trans hEs11 (fun b hb => by simp at hb; subst hb; exact .inr hgm)
  refine seg_end ?_
  refine inBlock_normal ?_
  refine hK10 _ _ ?_
  refine rgn 3 ?_
  refine sg wide_wide [.p, .as (I6 (↑i + 1)), .p] [Value.int .i64 (IntKind.i64.wrap (↑i + 1)) = I6 (↑i + 1)] [(0, v), (3, .slice (some ⟨w.heap.size, 0, none⟩) (n + 5) (n + 5)), (4, I6 (↑i + 1))] 3 0 hS (.cons (as_i64 (by omega)) .nil) fun a hS => ?_
  refine seg_end ?_
  have hO2 := hOs11
  rw [show 0 + i * 1 = i by omega, lend_step hl h1 hR hi] at hO2
  exact ⟨(i + 1, R.drop 1), ⟨hS.kp [(0, v), (3, .slice (some ⟨w.heap.size, 0, none⟩) (n + 5) (n + 5)), (4, I6 (↑i + 1))], by omega, by omega, by rw [List.length_drop]; omega, hO2, hE12⟩, by simp only; omega⟩
 ·
  replace hb9 := of_decide_eq_false hb9
  have hi5 : i - n = 5 := by omega
  obtain rfl : R = [] := List.eq_nil_of_length_eq_zero (by omega)
  rw [hi5, List.append_nil] at hO
  refine wpIn_exit ?_
  refine then_exit ?_
  refine then_exit ?_
  refine inBlock_hit ?_
  refine hK5 _ _ ?_
  refine sq fun K13 hK13 => ?_
  refine rgn 5 ?_
  refine sg wide_wide [.p, .p, .run (I6 ↑n), .run (.slice (some ⟨w.heap.size, 0, none⟩) n (n + 5)), .p] [Ru Try.prog (vS (Builtin.len_ #[23] 3 #[v])) (I6 ↑n) w1, Ru Try.prog (vS (Instr.sliceAt 23 (.slice (some ⟨w.heap.size, 0, none⟩) (n + 5) (n + 5)) none (some (I6 ↑n)) none)) (.slice (some ⟨w.heap.size, 0, none⟩) n (n + 5)) w1] [(0, v), (3, .slice (some ⟨w.heap.size, 0, none⟩) (n + 5) (n + 5)), (4, I6 ↑i), (2, .slice (some ⟨w.heap.size, 0, none⟩) n (n + 5))] 5 0 hS (.cons (run_len_rd (e := 5) hv (by kernel_rfl)) (.cons (sl_h (E := 5) (size := 1) (h := n) (by kernel_rfl) (by kernel_rfl) rfl (by omega)) .nil)) fun a hS => ?_
  refine seg_end ?_
  refine hK13 _ _ ?_
  refine wpIn_ret ?_
  refine ret1 hS Try.results14 rfl ?_
  exact ⟨_, rfl, hO, hgm, hEx⟩

end Go.Proofs.Ytkdbfjomjlhfbaa
