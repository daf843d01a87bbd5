import Derived.Test.YtkdbfjomjlhfbaaProg
import Derived.Test.YtkdbfjomjlhfbaaR17
namespace Go.Proofs.Ytkdbfjomjlhfbaa
open Go.Vc

theorem bin_remN {P : Program} {w : World} {T : TypeId} {a b : Operand} {x y : Nat} (hy : y ≠ 0) :
  (vS (do eqGuard .rem T a b (I6 (x : Int)) (I6 (y : Int)); binOp .rem T (I6 (x : Int)) (I6 (y : Int)))).run P w = .ok (.value (I6 ((x % y : Nat) : Int))) w :=
 bin_rem (x := (x : Int)) (y := (y : Int)) (by omega)
/-- a piece again and again -/
structure Per (xs : List Int) (n : Nat) (zs : List Int) (N : Nat) : Prop where
 len : zs.length = N
 le : N ≤ 16777216
 ge : n ≤ N
 at_ : ∀ i, i < N → zs[i]? = xs[i % n]?
 dvd : n ∣ N
theorem Per.twice {xs zs : List Int} {n N : Nat} (h : Per xs n zs N) (h2 : 2 * N ≤ 16777216) : Per xs n (zs ++ zs) (2 * N) := by
 refine ⟨by rw [List.length_append, h.len]; omega, h2, by have := h.ge; omega, fun i hi => ?_, Nat.dvd_trans h.dvd (Nat.dvd_mul_left N 2)⟩
 by_cases hN : i < N
 ·rw [List.getElem?_append_left (by rw [h.len]; exact hN)]; exact h.at_ i hN
 ·rw [List.getElem?_append_right (by rw [h.len]; omega), h.len, h.at_ (i - N) (by omega)]
  congr 1
  obtain ⟨k, rfl⟩ := h.dvd
  rw [Nat.sub_mul_mod (by omega)]
theorem Per.one {xs : List Int} {n : Nat} (h : xs.length = n) (h1 : n ≤ 16777216) : Per xs n xs n :=
 ⟨h, h1, Nat.le_refl _, fun i hi => by rw [Nat.mod_eq_of_lt hi], Nat.dvd_refl _⟩
theorem Per.full {xs zs : List Int} {n N : Nat} (h : Per xs n zs N) (hN : 16777216 < 2 * N) {p : Nat} (hp : p < 16777216) : (zs ++ zs.take (16777216 - N))[p]? = xs[p % N % n]? := by
 have hle := h.le
 by_cases h1 : p < N
 ·rw [List.getElem?_append_left (by rw [h.len]; exact h1), h.at_ p h1, Nat.mod_eq_of_lt h1]
 ·have h2 : p % N = p - N := by rw [Nat.mod_eq_sub_mod (by omega), Nat.mod_eq_of_lt (by omega)]
  rw [List.getElem?_append_right (by rw [h.len]; omega), h.len, List.getElem?_take_of_lt (by omega), h.at_ (p - N) (by omega), h2]

set_option maxHeartbeats 2000000 in
theorem RopeBig_any {v : Value} {n : Nat} {xs : List Int} {x : Int} {w : World} (hv : RdV w 1 v n (bv xs)) (hB : BR xs) (hn : n ≤ 140737488355328) :
  Calls Try.prog 5 #[v, I6 x] w fun e w' => e = .returned (.bool true) ∧ Ext [] w w' := by
 have hl : xs.length = n := by have := hv.len; simpa using this
 refine calls_body 217 [(0, v), (1, I6 x)] Try.func5 rfl (by kernel_rfl) (by kernel_rfl) (by kernel_rfl) fun a hS => ?_
 have hE0 : Ext [] w w := Ext.refl _ _
 refine sq fun K1 hK1 => ?_
 refine rgn 1 ?_
 refine sg wide_wide [.p] [] [(0, v), (1, I6 x), (4, .bool false)] 1 0 hS .nil fun a hS => ?_
 refine seg_end ?_
 refine hK1 _ _ ?_
 refine sq fun K2 hK2 => ?_
 refine sq fun K3 hK3 => ?_
 refine rgn 2 ?_
 refine eff_call wide_wide (r := 1) (f := 12) (vs := []) (cap := #[]) (d := (some 28)) hS (by kernel_rfl) Try.call12 #[] (by kernel_rfl) (Head_any) ?_
 rintro _ wc4 ⟨rfl, hEc4⟩
 refine ⟨_, rfl, fun a hS => ?_⟩
 have hG5 : RdV wc4 1 v n (bv xs) := hv.ext0 hEc4
 have hE6 := hE0.trans0 hEc4
 refine sg wide_wide [.p] [] [(0, v), (1, I6 x), (4, .bool false), (29, .bool false)] 2 0 hS .nil fun a hS => ?_
 refine seg_end ?_
 refine hK3 _ _ ?_
 refine cond_f hS rfl ?_
 refine wpIn_skip ?_
 refine hK2 _ _ ?_
 refine sq fun K7 hK7 => ?_
 refine sq fun K8 hK8 => ?_
 rcases (show n = 0 ∨ n > 65536 ∨ (n ≠ 0 ∧ n ≤ 65536) by omega) with h0 | h0 | ⟨h0, h1⟩
 ·
  refine rgn 8 ?_
  refine sg wide_wide [.p, .run (I6 ↑n), .as (.bool true), .p, .no, .no, .no, .p] [Ru Try.prog (vS (Builtin.len_ #[23] 3 #[v])) (I6 ↑n) wc4, Value.bool (((↑n : Int) == 0)) = .bool true] [(0, v), (1, I6 x), (4, .bool false), (29, .bool false), (37, .bool true)] 8 0 hS (.cons (run_len_rd (e := 5) hv (by kernel_rfl)) (.cons (as_eq_t (by omega)) .nil)) fun a hS => ?_
  refine seg_end ?_
  refine hK8 _ _ ?_
  refine cond_t hS rfl ?_
  refine sq fun K9 hK9 => ?_
  refine rgn 1 ?_
  refine sg wide_wide [.p] [] [(0, v), (1, I6 x), (4, .bool true), (29, .bool false), (37, .bool true)] 1 0 hS .nil fun a hS => ?_
  refine seg_end ?_
  refine hK9 _ _ ?_
  refine wpIn_ret ?_
  refine then_ret ?_
  refine ret1 hS Try.results5 rfl ?_
  exact ⟨rfl, hE6⟩
 ·
  refine rgn 8 ?_
  refine sg wide_wide [.p, .run (I6 ↑n), .as (.bool false), .p, .p, .run (I6 ↑n), .as (.bool true), .p] [Ru Try.prog (vS (Builtin.len_ #[23] 3 #[v])) (I6 ↑n) wc4, Value.bool (((↑n : Int) == 0)) = .bool false, Ru Try.prog (vS (Builtin.len_ #[23] 3 #[v])) (I6 ↑n) wc4, Value.bool (decide ((↑n : Int) > 65536)) = .bool true] [(0, v), (1, I6 x), (4, .bool false), (29, .bool false), (37, .bool true)] 8 0 hS (.cons (run_len_rd (e := 5) hv (by kernel_rfl)) (.cons (as_eq_f (by omega)) (.cons (run_len_rd (e := 5) hv (by kernel_rfl)) (.cons (as_t (by omega)) .nil)))) fun a hS => ?_
  refine seg_end ?_
  refine hK8 _ _ ?_
  refine cond_t hS rfl ?_
  refine sq fun K10 hK10 => ?_
  refine rgn 1 ?_
  refine sg wide_wide [.p] [] [(0, v), (1, I6 x), (4, .bool true), (29, .bool false), (37, .bool true)] 1 0 hS .nil fun a hS => ?_
  refine seg_end ?_
  refine hK10 _ _ ?_
  refine wpIn_ret ?_
  refine then_ret ?_
  refine ret1 hS Try.results5 rfl ?_
  exact ⟨rfl, hE6⟩
 ·
  refine rgn 8 ?_
  refine sg wide_wide [.p, .run (I6 ↑n), .as (.bool false), .p, .p, .run (I6 ↑n), .as (.bool false), .p] [Ru Try.prog (vS (Builtin.len_ #[23] 3 #[v])) (I6 ↑n) wc4, Value.bool (((↑n : Int) == 0)) = .bool false, Ru Try.prog (vS (Builtin.len_ #[23] 3 #[v])) (I6 ↑n) wc4, Value.bool (decide ((↑n : Int) > 65536)) = .bool false] [(0, v), (1, I6 x), (4, .bool false), (29, .bool false), (37, .bool false)] 8 0 hS (.cons (run_len_rd (e := 5) hv (by kernel_rfl)) (.cons (as_eq_f (by omega)) (.cons (run_len_rd (e := 5) hv (by kernel_rfl)) (.cons (as_f (by omega)) .nil)))) fun a hS => ?_
  refine seg_end ?_
  refine hK8 _ _ ?_
  refine cond_f hS rfl ?_
  refine wpIn_skip ?_
  refine hK7 _ _ ?_
  refine sq fun K11 hK11 => ?_
  refine rgn 8 ?_
  refine sg wide_wide [.p] [] [(0, v), (1, I6 x), (4, .bool false), (29, .bool false), (37, .bool false), (39, v)] 1 7 hS .nil fun a hS => ?_
  refine eff_call wide_wide (r := 6) (f := 14) (vs := [v]) (cap := #[]) (d := (some 40)) hS (by kernel_rfl) Try.call14 #[v] (by kernel_rfl) (Lend_any hG5 (by omega)) ?_
  rintro _ wc12 ⟨g12, rfl, hL12, hgn12, hEc12⟩
  refine ⟨_, rfl, fun a hS => ?_⟩
  have hG13 : RdV wc12 1 v n (bv xs) := hG5.ext0 hEc12
  have hE14 := hE6.trans0 hEc12
  refine eff_call wide_wide (r := 5) (f := 13) (vs := [.slice (some ⟨g12, 0, none⟩) n (n + 5)]) (cap := #[]) (d := (some 41)) hS (by kernel_rfl) Try.call13 #[.slice (some ⟨g12, 0, none⟩) n (n + 5)] (by kernel_rfl) (New_any (lent_rd hL12 hl) hB (by omega)) ?_
  rintro _ wc15 ⟨b15, o15, rfl, hR15, kR15, hEc15⟩
  refine ⟨_, rfl, fun a hS => ?_⟩
  have hG16 : RdV wc15 1 v n (bv xs) := hG13.ext0 hEc15
  have hE17 := hE14.trans0 hEc15
  refine sg wide_wide [.p, .p, .p, .p, .p] [] [(0, v), (1, I6 x), (4, .bool false), (29, .bool false), (37, .bool false), (5, (Pv b15)), (6, I6 0)] 8 0 hS .nil fun a hS => ?_
  refine seg_end ?_
  refine hK11 _ _ ?_
  refine sq fun K18 hK18 => ?_
  refine sq fun K19 hK19 => ?_
  refine rgn 6 ?_
  refine sg wide_wide [.p, .p, .p, .p, .p, .p] [] [(0, v), (1, I6 x), (4, .bool false), (29, .bool false), (37, .bool false), (5, (Pv b15)), (6, I6 0), (49, .bool false)] 6 0 hS .nil fun a hS => ?_
  refine seg_end ?_
  refine hK19 _ _ ?_
  refine cond_f hS rfl ?_
  refine wpIn_skip ?_
  refine hK18 _ _ ?_
  refine sq fun K20 hK20 => ?_
  refine rgn 3 ?_
  refine sg wide_wide [.p, .run (I6 ↑n), .p] [Ru Try.prog (vS (Builtin.len_ #[23] 3 #[v])) (I6 ↑n) wc15] [(0, v), (1, I6 x), (4, .bool false), (29, .bool false), (37, .bool false), (5, (Pv b15)), (6, I6 0), (49, .bool false), (7, I6 ↑n)] 3 0 hS (.cons (run_len_rd (e := 5) hv (by kernel_rfl)) .nil) fun a hS => ?_
  refine seg_end ?_
  refine hK20 _ _ ?_
  refine sq fun K21 hK21 => ?_
  refine wpIn_block ?_
  refine loop_ghost (fun ((b, o, N) : Nat × Option Nd × Nat) a' w' => St 217 [] [(0, v), (1, I6 x), (5, (Pv b)), (7, I6 ↑N)] a' ∧ RpOk w' b o ∧ Per xs n (obs o) N ∧ RdV w' 1 v n (bv xs) ∧ Ext [] w w') (fun ((b, o, N) : Nat × Option Nd × Nat) => 16777216 - N) (b15, o15, n) ⟨hS.keepTo [0, 1, 5, 7] (by kernel_rfl), hR15, by rw [kR15]; exact Per.one hl (by omega), hG16, hE17⟩ ?_
  rintro ⟨b, o, N⟩ a w2 ⟨hS, hR2, hP, hv2, hE2⟩
  have hle := hP.le
  have hge := hP.ge
  have hlo : on o = N := hP.len
  refine sq fun K22 hK22 => ?_
  refine sq fun K23 hK23 => ?_
  refine rgn 4 ?_
  refine sg wide_wide [.p, .p, .as (I6 ((16777216 - N : Nat) : Int)), .p] [Value.int .i64 (IntKind.i64.wrap (16777216 - ↑N)) = I6 ((16777216 - N : Nat) : Int)] [(0, v), (1, I6 x), (5, (Pv b)), (7, I6 ↑N), (55, .bool (decide ((↑N : Int) ≤ ((16777216 - N : Nat) : Int))))] 4 0 hS (.cons ((by rw [show (16777216 - ↑N : Int) = ((16777216 - N : Nat) : Int) from by omega]; exact as_i64 (by omega))) .nil) fun a hS => ?_
  refine seg_end ?_
  refine hK23 _ _ ?_
  refine cond_b hS rfl (fun hb24 => ?_) (fun hb24 => ?_)
  ·
   replace hb24 := of_decide_eq_true hb24
   have hP2 := hP.twice (by omega)
   refine wpIn_skip ?_
   refine hK22 _ _ ?_
   refine wpIn_block ?_
   refine sq fun K25 hK25 => ?_
   refine rgn 8 ?_
   refine sg wide_wide [.p, .p] [] [(0, v), (1, I6 x), (5, (Pv b)), (7, I6 ↑N), (57, (Pv b)), (58, (Pv b))] 2 6 hS .nil fun a hS => ?_
   refine eff_call wide_wide (r := 5) (f := 18) (vs := [(Pv b), (Pv b)]) (cap := #[]) (d := (some 59)) hS (by kernel_rfl) Try.call18 #[(Pv b), (Pv b)] (by kernel_rfl) (Cat_any hR2 hR2 (by omega)) ?_
   rintro _ wc26 ⟨b26, o26, rfl, hR26, kR26, hEc26⟩
   refine ⟨_, rfl, fun a hS => ?_⟩
   have hG27 : RdV wc26 1 v n (bv xs) := hv2.ext0 hEc26
   have hG28 : RpOk wc26 b o := hR2.ext0 hEc26
   have hE29 := hE2.trans0 hEc26
   refine sg wide_wide [.p, .p, .p, .p, .p] [] [(0, v), (1, I6 x), (5, (Pv b)), (7, I6 ↑N), (8, (Pv b26)), (9, I6 0)] 8 0 hS .nil fun a hS => ?_
   refine seg_end ?_
   refine hK25 _ _ ?_
   refine sq fun K30 hK30 => ?_
   refine sq fun K31 hK31 => ?_
   refine rgn 13 ?_
   refine sg wide_wide [.p, .p, .p, .p, .p, .p, .p, .p] [] [(0, v), (1, I6 x), (5, (Pv b)), (7, I6 ↑N), (8, (Pv b26)), (9, I6 0), (68, .bool false), (69, (Pv b26))] 8 5 hS .nil fun a hS => ?_
   refine eff_call wide_wide (r := 4) (f := 19) (vs := [(Pv b26)]) (cap := #[]) (d := (some 70)) hS (by kernel_rfl) Try.call19 #[(Pv b26)] (by kernel_rfl) ((by have h := Len_any hR26; rw [on, kR26, hP2.len] at h; exact h : Calls Try.prog 19 _ _ fun e w' => e = .returned (I6 (2 * N : Nat)) ∧ Ext [] _ w')) ?_
   rintro _ wc32 ⟨rfl, hEc32⟩
   refine ⟨_, rfl, fun a hS => ?_⟩
   have hG34 : RdV wc32 1 v n (bv xs) := hG27.ext0 hEc32
   have hG35 : RpOk wc32 b o := hG28.ext0 hEc32
   have hG36 : RpOk wc32 b26 o26 := hR26.ext0 hEc32
   have hE37 := hE29.trans0 hEc32
   refine sg wide_wide [.p, .as (I6 ((2 * N : Nat) : Int)), .as (.bool false), .p] [Value.int .i64 (IntKind.i64.wrap (2 * ↑N)) = I6 ((2 * N : Nat) : Int), Value.bool (((((2 * N : Nat) : Int) : Int) != ((2 * N : Nat) : Int))) = .bool false] [(0, v), (1, I6 x), (5, (Pv b)), (7, I6 ↑N), (8, (Pv b26)), (9, I6 0), (74, .bool false)] 13 0 hS (.cons ((by rw [show (2 * ↑N : Int) = ((2 * N : Nat) : Int) from by omega]; exact as_i64 (by omega))) (.cons (as_ne_f (rfl)) .nil)) fun a hS => ?_
   refine seg_end ?_
   refine hK31 _ _ ?_
   refine cond_f hS rfl ?_
   refine wpIn_skip ?_
   refine hK30 _ _ ?_
   refine sq fun K38 hK38 => ?_
   refine rgn 2 ?_
   refine sg wide_wide [.p, .p] [] [(0, v), (1, I6 x), (5, (Pv b26)), (7, I6 ↑N), (8, (Pv b26)), (9, I6 0), (74, .bool false)] 2 0 hS .nil fun a hS => ?_
   refine seg_end ?_
   refine hK38 _ _ ?_
   refine rgn 3 ?_
   refine sg wide_wide [.p, .as (I6 ((2 * N : Nat) : Int)), .p] [Value.int .i64 (IntKind.i64.wrap (2 * ↑N)) = I6 ((2 * N : Nat) : Int)] [(0, v), (1, I6 x), (5, (Pv b26)), (7, I6 ((2 * N : Nat) : Int)), (8, (Pv b26)), (9, I6 0), (74, .bool false)] 3 0 hS (.cons ((by rw [show (2 * ↑N : Int) = ((2 * N : Nat) : Int) from by omega]; exact as_i64 (by omega))) .nil) fun a hS => ?_
   refine seg_end ?_
   refine inBlock_normal ?_
   exact ⟨(b26, o26, 2 * N), ⟨hS.kp [(0, v), (1, I6 x), (5, (Pv b26)), (7, I6 ((2 * N : Nat) : Int))], hG36, by rw [kR26]; exact hP2, hG34, hE37⟩, by simp only; omega⟩
  ·
   replace hb24 := of_decide_eq_false hb24
   have hN2 : 16777216 < 2 * N := by omega
   obtain ⟨p, hp, hpl⟩ : ∃ p : Nat, rnd x 16777216 = (p : Int) ∧ p < 16777216 := ⟨(rnd x 16777216).toNat, by have := rnd_bd x (n := 16777216) (by omega); omega, by have := rnd_bd x (n := 16777216) (by omega); omega⟩
   have hmod : p % N % n < n := Nat.mod_lt _ (by omega)
   obtain ⟨c, hc⟩ : ∃ c, xs[p % N % n]? = some c := ⟨_, List.getElem?_eq_getElem (by omega)⟩
   have hfc := (hP.full hN2 hpl).trans hc
   have hBo : BR (obs o ++ (obs o).take (16777216 - N)) := hR2.2.1.br.app (hR2.2.1.br.take _)
   have hfl : (obs o ++ (obs o).take (16777216 - N)).length = 16777216 := by rw [List.length_append, List.length_take, hP.len]; omega
   obtain ⟨fs, hfs⟩ : ∃ fs, obs o ++ (obs o).take (16777216 - N) = fs := ⟨_, rfl⟩
   rw [hfs] at hfc hfl hBo
   refine wpIn_exit ?_
   refine then_exit ?_
   refine then_exit ?_
   refine inBlock_hit ?_
   refine hK21 _ _ ?_
   refine sq fun K39 hK39 => ?_
   refine rgn 8 ?_
   refine sg wide_wide [.p, .p] [] [(0, v), (1, I6 x), (5, (Pv b)), (7, I6 ↑N), (79, (Pv b)), (80, (Pv b))] 2 6 hS .nil fun a hS => ?_
   refine eff_call wide_wide (r := 5) (f := 18) (vs := [(Pv b), (Pv b)]) (cap := #[]) (d := (some 81)) hS (by kernel_rfl) Try.call18 #[(Pv b), (Pv b)] (by kernel_rfl) (Cat_long hR2 hR2 (by omega)) ?_
   rintro _ wc40 ⟨rfl, hEc40⟩
   refine ⟨_, rfl, fun a hS => ?_⟩
   have hG41 : RdV wc40 1 v n (bv xs) := hv2.ext0 hEc40
   have hG42 : RpOk wc40 b o := hR2.ext0 hEc40
   have hE43 := hE2.trans0 hEc40
   refine sg wide_wide [.p, .p, .p, .p, .p] [] [(0, v), (1, I6 x), (5, (Pv b)), (7, I6 ↑N), (10, .pointer none), (11, I6 2)] 8 0 hS .nil fun a hS => ?_
   refine seg_end ?_
   refine hK39 _ _ ?_
   refine sq fun K44 hK44 => ?_
   refine sq fun K45 hK45 => ?_
   refine rgn 6 ?_
   refine sg wide_wide [.p, .p, .p, .p, .p, .p] [] [(0, v), (1, I6 x), (5, (Pv b)), (7, I6 ↑N), (10, .pointer none), (11, I6 2), (89, .bool false)] 6 0 hS .nil fun a hS => ?_
   refine seg_end ?_
   refine hK45 _ _ ?_
   refine cond_f hS rfl ?_
   refine wpIn_skip ?_
   refine hK44 _ _ ?_
   refine sq fun K46 hK46 => ?_
   refine rgn 3 ?_
   refine sg wide_wide [.p, .as (I6 ((16777216 - N : Nat) : Int)), .p] [Value.int .i64 (IntKind.i64.wrap (16777216 - ↑N)) = I6 ((16777216 - N : Nat) : Int)] [(0, v), (1, I6 x), (5, (Pv b)), (7, I6 ↑N), (10, .pointer none), (11, I6 2), (89, .bool false), (12, I6 ((16777216 - N : Nat) : Int))] 3 0 hS (.cons ((by rw [show (16777216 - ↑N : Int) = ((16777216 - N : Nat) : Int) from by omega]; exact as_i64 (by omega))) .nil) fun a hS => ?_
   refine seg_end ?_
   refine hK46 _ _ ?_
   refine sq fun K47 hK47 => ?_
   refine rgn 8 ?_
   refine sg wide_wide [.p, .p] [] [(0, v), (1, I6 x), (5, (Pv b)), (7, I6 ↑N), (10, .pointer none), (11, I6 2), (89, .bool false), (12, I6 ((16777216 - N : Nat) : Int)), (93, (Pv b)), (94, I6 ((16777216 - N : Nat) : Int))] 2 6 hS .nil fun a hS => ?_
   refine eff_call wide_wide (r := 5) (f := 20) (vs := [(Pv b), I6 0, I6 ((16777216 - N : Nat) : Int)]) (cap := #[]) (d := (some 95)) hS (by kernel_rfl) Try.call20 #[(Pv b), I6 0, I6 ((16777216 - N : Nat) : Int)] (by kernel_rfl) ((by have h := Cut_any (i := 0) (j := 16777216 - N) hG42 ⟨Nat.zero_le _, by omega⟩; rw [List.drop_zero, Nat.sub_zero] at h; exact h : Calls Try.prog 20 _ _ (RpR _ ((obs o).take (16777216 - N))))) ?_
   rintro _ wc48 ⟨b48, o48, rfl, hR48, kR48, hEc48⟩
   refine ⟨_, rfl, fun a hS => ?_⟩
   have hG49 : RdV wc48 1 v n (bv xs) := hG41.ext0 hEc48
   have hG50 : RpOk wc48 b o := hG42.ext0 hEc48
   have hE51 := hE43.trans0 hEc48
   refine sg wide_wide [.p, .p, .p, .p, .p] [] [(0, v), (1, I6 x), (5, (Pv b)), (7, I6 ↑N), (10, .pointer none), (11, I6 0), (89, .bool false), (12, I6 ((16777216 - N : Nat) : Int)), (13, (Pv b48))] 8 0 hS .nil fun a hS => ?_
   refine seg_end ?_
   refine hK47 _ _ ?_
   refine sq fun K52 hK52 => ?_
   refine sq fun K53 hK53 => ?_
   refine rgn 6 ?_
   refine sg wide_wide [.p, .p, .p, .p, .p, .p] [] [(0, v), (1, I6 x), (5, (Pv b)), (7, I6 ↑N), (10, .pointer none), (11, I6 0), (89, .bool false), (12, I6 ((16777216 - N : Nat) : Int)), (13, (Pv b48)), (103, .bool false)] 6 0 hS .nil fun a hS => ?_
   refine seg_end ?_
   refine hK53 _ _ ?_
   refine cond_f hS rfl ?_
   refine wpIn_skip ?_
   refine hK52 _ _ ?_
   refine sq fun K54 hK54 => ?_
   refine rgn 8 ?_
   refine sg wide_wide [.p, .p] [] [(0, v), (1, I6 x), (5, (Pv b)), (7, I6 ↑N), (10, .pointer none), (11, I6 0), (89, .bool false), (12, I6 ((16777216 - N : Nat) : Int)), (13, (Pv b48)), (103, .bool false), (105, (Pv b)), (106, (Pv b48))] 2 6 hS .nil fun a hS => ?_
   refine eff_call wide_wide (r := 5) (f := 18) (vs := [(Pv b), (Pv b48)]) (cap := #[]) (d := (some 107)) hS (by kernel_rfl) Try.call18 #[(Pv b), (Pv b48)] (by kernel_rfl) ((by have h := Cat_any hG50 hR48 (by rw [hlo, on, kR48, List.length_take, hP.len]; omega); rw [kR48, hfs] at h; exact h : Calls Try.prog 18 _ _ (RpR _ (fs)))) ?_
   rintro _ wc55 ⟨b55, o55, rfl, hR55, kR55, hEc55⟩
   refine ⟨_, rfl, fun a hS => ?_⟩
   have hG57 : RdV wc55 1 v n (bv xs) := hG49.ext0 hEc55
   have hG58 : RpOk wc55 b o := hG50.ext0 hEc55
   have hG59 : RpOk wc55 b48 o48 := hR48.ext0 hEc55
   have hE60 := hE51.trans0 hEc55
   refine sg wide_wide [.p, .p, .p, .p, .p] [] [(0, v), (1, I6 x), (5, (Pv b)), (7, I6 ↑N), (10, .pointer none), (11, I6 0), (89, .bool false), (12, I6 ((16777216 - N : Nat) : Int)), (13, (Pv b48)), (103, .bool false), (14, (Pv b55))] 8 0 hS .nil fun a hS => ?_
   refine seg_end ?_
   refine hK54 _ _ ?_
   refine sq fun K61 hK61 => ?_
   refine sq fun K62 hK62 => ?_
   refine rgn 11 ?_
   refine sg wide_wide [.p, .p, .p, .p, .p, .p, .p, .p] [] [(0, v), (1, I6 x), (5, (Pv b)), (7, I6 ↑N), (10, .pointer none), (11, I6 0), (89, .bool false), (12, I6 ((16777216 - N : Nat) : Int)), (13, (Pv b48)), (103, .bool false), (14, (Pv b55)), (116, .bool false), (117, (Pv b55))] 8 3 hS .nil fun a hS => ?_
   refine eff_call wide_wide (r := 2) (f := 19) (vs := [(Pv b55)]) (cap := #[]) (d := (some 118)) hS (by kernel_rfl) Try.call19 #[(Pv b55)] (by kernel_rfl) ((by have h := Len_any hR55; rw [on, kR55, hfl] at h; exact h : Calls Try.prog 19 _ _ fun e w' => e = .returned (I6 16777216) ∧ Ext [] _ w')) ?_
   rintro _ wc63 ⟨rfl, hEc63⟩
   refine ⟨_, rfl, fun a hS => ?_⟩
   have hG66 : RdV wc63 1 v n (bv xs) := hG57.ext0 hEc63
   have hG67 : RpOk wc63 b o := hG58.ext0 hEc63
   have hG68 : RpOk wc63 b48 o48 := hG59.ext0 hEc63
   have hG69 : RpOk wc63 b55 o55 := hR55.ext0 hEc63
   have hE70 := hE60.trans0 hEc63
   refine sg wide_wide [.p, .p] [] [(0, v), (1, I6 x), (5, (Pv b)), (7, I6 ↑N), (10, .pointer none), (11, I6 0), (89, .bool false), (12, I6 ((16777216 - N : Nat) : Int)), (13, (Pv b48)), (103, .bool false), (14, (Pv b55)), (120, .bool false)] 11 0 hS .nil fun a hS => ?_
   refine seg_end ?_
   refine hK62 _ _ ?_
   refine cond_f hS rfl ?_
   refine wpIn_skip ?_
   refine hK61 _ _ ?_
   refine sq fun K71 hK71 => ?_
   refine rgn 3 ?_
   refine sg wide_wide [.p] [] [(0, v), (1, I6 x), (5, (Pv b)), (7, I6 ↑N), (10, .pointer none), (11, I6 0), (89, .bool false), (12, I6 ((16777216 - N : Nat) : Int)), (13, (Pv b48)), (103, .bool false), (14, (Pv b55)), (120, .bool false), (121, I6 x)] 1 2 hS .nil fun a hS => ?_
   refine eff_call_ro wide_wide (r := 1) (f := 21) (vs := [I6 x, I6 16777216]) (cap := #[]) (d := (some 122)) (v := Value.int .i64 ↑p) hS (by kernel_rfl) Try.call21 #[I6 x, I6 16777216] (by kernel_rfl) ((by have h := Round_any (k := x) (n := 16777216) (w := wc63) (by omega); rw [hp] at h; exact h)) fun a hS => ?_
   refine sg wide_wide [.p] [] [(0, v), (1, I6 x), (5, (Pv b)), (7, I6 ↑N), (10, .pointer none), (11, I6 0), (89, .bool false), (12, I6 ((16777216 - N : Nat) : Int)), (13, (Pv b48)), (103, .bool false), (14, (Pv b55)), (120, .bool false), (15, I6 ↑p)] 3 0 hS .nil fun a hS => ?_
   refine seg_end ?_
   refine hK71 _ _ ?_
   refine sq fun K72 hK72 => ?_
   refine rgn 8 ?_
   refine sg wide_wide [.p, .p] [] [(0, v), (1, I6 x), (5, (Pv b)), (7, I6 ↑N), (10, .pointer none), (11, I6 0), (89, .bool false), (12, I6 ((16777216 - N : Nat) : Int)), (13, (Pv b48)), (103, .bool false), (14, (Pv b55)), (120, .bool false), (15, I6 ↑p), (124, (Pv b55)), (125, I6 ↑p)] 2 6 hS .nil fun a hS => ?_
   refine eff_call wide_wide (r := 5) (f := 22) (vs := [(Pv b55), I6 ↑p]) (cap := #[]) (d := (some 126)) hS (by kernel_rfl) Try.call22 #[(Pv b55), I6 ↑p] (by kernel_rfl) (At_any (i := p) (x := c) hG69 (by rw [kR55]; exact hfc)) ?_
   rintro _ wc73 ⟨rfl, hEc73⟩
   refine ⟨_, rfl, fun a hS => ?_⟩
   have hG76 : RdV wc73 1 v n (bv xs) := hG66.ext0 hEc73
   have hG77 : RpOk wc73 b o := hG67.ext0 hEc73
   have hG78 : RpOk wc73 b48 o48 := hG68.ext0 hEc73
   have hG79 : RpOk wc73 b55 o55 := hG69.ext0 hEc73
   have hE80 := hE70.trans0 hEc73
   refine sg wide_wide [.p, .p, .p, .p, .p] [] [(0, v), (1, I6 x), (5, (Pv b)), (7, I6 ↑N), (10, .pointer none), (11, I6 0), (89, .bool false), (12, I6 ((16777216 - N : Nat) : Int)), (13, (Pv b48)), (103, .bool false), (14, (Pv b55)), (120, .bool false), (15, I6 ↑p), (16, .int .u8 c), (17, .bool true)] 8 0 hS .nil fun a hS => ?_
   refine seg_end ?_
   refine hK72 _ _ ?_
   refine sq fun K81 hK81 => ?_
   refine rgn 10 ?_
   refine sg wide_wide [.p, .p, .p, .run (I6 ((p % N : Nat) : Int)), .p, .run (I6 ↑n), .run (I6 ((p % N % n : Nat) : Int)), .run ((Po (bof v) (oof v + (p % N % n) * 1))), .ld (.int .u8 c), .p] [Ru Try.prog (vS (do eqGuard .rem 3 (.tmp 130) (.tmp 131) (I6 ↑p) (I6 ↑N); binOp .rem 3 (I6 ↑p) (I6 ↑N))) (I6 ((p % N : Nat) : Int)) wc73, Ru Try.prog (vS (Builtin.len_ #[23] 3 #[v])) (I6 ↑n) wc73, Ru Try.prog (vS (do eqGuard .rem 3 (.tmp 132) (.tmp 134) (I6 ((p % N : Nat) : Int)) (I6 ↑n); binOp .rem 3 (I6 ((p % N : Nat) : Int)) (I6 ↑n))) (I6 ((p % N % n : Nat) : Int)) wc73, Ru Try.prog (vS (Instr.indexAt 23 (v) (I6 ((p % N % n : Nat) : Int)))) ((Po (bof v) (oof v + (p % N % n) * 1))) wc73, wc73.cell? ⟨bof v, oof v + (p % N % n) * 1, none⟩ = some (.int .u8 c)] [(0, v), (1, I6 x), (5, (Pv b)), (7, I6 ↑N), (10, .pointer none), (11, I6 0), (89, .bool false), (12, I6 ((16777216 - N : Nat) : Int)), (13, (Pv b48)), (103, .bool false), (14, (Pv b55)), (120, .bool false), (15, I6 ↑p), (16, .int .u8 c), (17, .bool true), (18, .int .u8 c)] 10 0 hS (.cons (bin_remN (by omega)) (.cons (run_len_rd (e := 5) hv (by kernel_rfl)) (.cons (bin_remN (by omega)) (.cons (ix_rd (e := 5) (j := (p % N % n)) hv (by kernel_rfl) (by kernel_rfl) rfl hmod) (.cons (hG76.cellAt ((p % N % n) * 1) (by omega) (by rw [Nat.mul_one]; exact bv_at hc)) .nil))))) fun a hS => ?_
   refine seg_end ?_
   refine hK81 _ _ ?_
   refine sq fun K82 hK82 => ?_
   refine rgn 9 ?_
   refine sg wide_wide [.p, .p] [] [(0, v), (1, I6 x), (5, (Pv b)), (7, I6 ↑N), (10, .pointer none), (11, I6 0), (89, .bool false), (12, I6 ((16777216 - N : Nat) : Int)), (13, (Pv b48)), (103, .bool false), (14, (Pv b55)), (120, .bool false), (15, I6 ↑p), (16, .int .u8 c), (17, .bool true), (18, .int .u8 c), (139, (Pv b55)), (140, I6 ↑p)] 2 7 hS .nil fun a hS => ?_
   refine eff_new wide_wide (r := 6) (cs := #[.int .u8 7]) (T := 5) (v := Value.slice (some ⟨wc73.heap.size, 0, none⟩) 1 1) (d := (some 141)) hS (by kernel_rfl) fun a w83 hw84 hS => ?_
   have hX89 : Ext [] wc73 w83 := by rw [hw84]; exact (Ext.refl _ _).alloc _
   have hG90 : RdV w83 1 v n (bv xs) := hG76.ext0 hX89
   have hG91 : RpOk w83 b o := hG77.ext0 hX89
   have hG92 : RpOk w83 b48 o48 := hG78.ext0 hX89
   have hG93 : RpOk w83 b55 o55 := hG79.ext0 hX89
   have hB94 : Blk w83 (wc73.heap.size) 5 #[.int .u8 7] := by rw [hw84]; exact Blk.new _ _ _
   have hs95 : w.heap.size ≤ wc73.heap.size := hE80.size
   have hE96 : Ext [] w w83 := by rw [hw84]; exact hE80.alloc _
   refine eff_call wide_wide (r := 5) (f := 23) (vs := [(Pv b55), I6 ↑p, I6 0, .slice (some ⟨wc73.heap.size, 0, none⟩) 1 1]) (cap := #[]) (d := (some 142)) hS (by kernel_rfl) Try.call23 #[(Pv b55), I6 ↑p, I6 0, .slice (some ⟨wc73.heap.size, 0, none⟩) 1 1] (by kernel_rfl) (Splice_long (i := p) (d := 0) hG93 (RdV.of_blk (n := 1) hB94 rfl : RdV _ 1 _ 1 (bv [7])) (BR_of (by decide) : BR [7]) (by decide) (by rw [on, kR55, hfl]; omega) (by rw [on, kR55, hfl]; omega)) ?_
   rintro _ wc97 ⟨rfl, hEc97⟩
   refine ⟨_, rfl, fun a hS => ?_⟩
   have hG101 : RdV wc97 1 v n (bv xs) := hG90.ext0 hEc97
   have hG102 : RpOk wc97 b o := hG91.ext0 hEc97
   have hG103 : RpOk wc97 b48 o48 := hG92.ext0 hEc97
   have hG104 : RpOk wc97 b55 o55 := hG93.ext0 hEc97
   have hE105 := hE96.trans0 hEc97
   refine sg wide_wide [.p, .p, .p, .p, .p] [] [(0, v), (1, I6 x), (5, (Pv b)), (7, I6 ↑N), (10, .pointer none), (11, I6 0), (89, .bool false), (12, I6 ((16777216 - N : Nat) : Int)), (13, (Pv b48)), (103, .bool false), (14, (Pv b55)), (120, .bool false), (15, I6 ↑p), (16, .int .u8 c), (17, .bool true), (18, .int .u8 c), (19, .pointer none), (20, I6 2)] 9 0 hS .nil fun a hS => ?_
   refine seg_end ?_
   refine hK82 _ _ ?_
   refine sq fun K106 hK106 => ?_
   refine rgn 9 ?_
   refine sg wide_wide [.p, .p] [] [(0, v), (1, I6 x), (5, (Pv b)), (7, I6 ↑N), (10, .pointer none), (11, I6 0), (89, .bool false), (12, I6 ((16777216 - N : Nat) : Int)), (13, (Pv b48)), (103, .bool false), (14, (Pv b55)), (120, .bool false), (15, I6 ↑p), (16, .int .u8 c), (17, .bool true), (18, .int .u8 c), (19, .pointer none), (20, I6 2), (146, (Pv b55)), (147, I6 ↑p)] 2 7 hS .nil fun a hS => ?_
   refine eff_new wide_wide (r := 6) (cs := #[.int .u8 7]) (T := 5) (v := Value.slice (some ⟨wc97.heap.size, 0, none⟩) 1 1) (d := (some 148)) hS (by kernel_rfl) fun a w107 hw108 hS => ?_
   have hX115 : Ext [] wc97 w107 := by rw [hw108]; exact (Ext.refl _ _).alloc _
   have hG116 : RdV w107 1 v n (bv xs) := hG101.ext0 hX115
   have hG117 : RpOk w107 b o := hG102.ext0 hX115
   have hG118 : RpOk w107 b48 o48 := hG103.ext0 hX115
   have hG119 : RpOk w107 b55 o55 := hG104.ext0 hX115
   have hB120 : Blk w107 (wc97.heap.size) 5 #[.int .u8 7] := by rw [hw108]; exact Blk.new _ _ _
   have hs121 : w.heap.size ≤ wc97.heap.size := hE105.size
   have hE122 : Ext [] w w107 := by rw [hw108]; exact hE105.alloc _
   have hsl : (fs.take p ++ ([7] ++ fs.drop (p + 1))).length = 16777216 := by
    rw [List.length_append, List.length_append, List.length_take, List.length_drop, hfl]; simp; omega
   have hs7 : (fs.take p ++ ([7] ++ fs.drop (p + 1)))[p]? = some 7 := by
    rw [List.getElem?_append_right (by rw [List.length_take]; omega), List.length_take, hfl, Nat.min_eq_left (by omega), Nat.sub_self]; rfl
   refine eff_call wide_wide (r := 5) (f := 23) (vs := [(Pv b55), I6 ↑p, I6 1, .slice (some ⟨wc97.heap.size, 0, none⟩) 1 1]) (cap := #[]) (d := (some 149)) hS (by kernel_rfl) Try.call23 #[(Pv b55), I6 ↑p, I6 1, .slice (some ⟨wc97.heap.size, 0, none⟩) 1 1] (by kernel_rfl) ((by have h := Splice_any (i := p) (d := 1) hG119 (RdV.of_blk (n := 1) hB120 rfl : RdV _ 1 _ 1 (bv [7])) (BR_of (by decide) : BR [7]) (by decide) (by rw [on, kR55, hfl]; omega) (by rw [on, kR55, hfl]; omega); rw [kR55] at h; exact h : Calls Try.prog 23 _ _ (RpR _ (fs.take p ++ ([7] ++ fs.drop (p + 1)))))) ?_
   rintro _ wc123 ⟨b123, o123, rfl, hR123, kR123, hEc123⟩
   refine ⟨_, rfl, fun a hS => ?_⟩
   have hG128 : RdV wc123 1 v n (bv xs) := hG116.ext0 hEc123
   have hG129 : RpOk wc123 b o := hG117.ext0 hEc123
   have hG130 : RpOk wc123 b48 o48 := hG118.ext0 hEc123
   have hG131 : RpOk wc123 b55 o55 := hG119.ext0 hEc123
   have hE132 := hE122.trans0 hEc123
   refine sg wide_wide [.p, .p, .p, .p, .p] [] [(0, v), (1, I6 x), (5, (Pv b)), (7, I6 ↑N), (10, .pointer none), (11, I6 0), (89, .bool false), (12, I6 ((16777216 - N : Nat) : Int)), (13, (Pv b48)), (103, .bool false), (14, (Pv b55)), (120, .bool false), (15, I6 ↑p), (16, .int .u8 c), (17, .bool true), (18, .int .u8 c), (19, .pointer none), (20, I6 2), (21, (Pv b123)), (22, I6 0)] 9 0 hS .nil fun a hS => ?_
   refine seg_end ?_
   refine hK106 _ _ ?_
   refine sq fun K133 hK133 => ?_
   refine rgn 8 ?_
   refine sg wide_wide [.p] [] [(0, v), (1, I6 x), (5, (Pv b)), (7, I6 ↑N), (10, .pointer none), (11, I6 0), (89, .bool false), (12, I6 ((16777216 - N : Nat) : Int)), (13, (Pv b48)), (103, .bool false), (14, (Pv b55)), (120, .bool false), (15, I6 ↑p), (16, .int .u8 c), (17, .bool true), (18, .int .u8 c), (19, .pointer none), (20, I6 2), (21, (Pv b123)), (22, I6 0), (153, (Pv b55))] 1 7 hS .nil fun a hS => ?_
   refine eff_new wide_wide (r := 6) (cs := #[.int .u8 7]) (T := 5) (v := Value.slice (some ⟨wc123.heap.size, 0, none⟩) 1 1) (d := (some 154)) hS (by kernel_rfl) fun a w134 hw135 hS => ?_
   have hX146 : Ext [] wc123 w134 := by rw [hw135]; exact (Ext.refl _ _).alloc _
   have hG147 : RdV w134 1 v n (bv xs) := hG128.ext0 hX146
   have hG148 : RpOk w134 b o := hG129.ext0 hX146
   have hG149 : RpOk w134 b48 o48 := hG130.ext0 hX146
   have hG150 : RpOk w134 b55 o55 := hG131.ext0 hX146
   have hG151 : RpOk w134 b123 o123 := hR123.ext0 hX146
   have hB152 : Blk w134 (wc123.heap.size) 5 #[.int .u8 7] := by rw [hw135]; exact Blk.new _ _ _
   have hs153 : w.heap.size ≤ wc123.heap.size := hE132.size
   have hE154 : Ext [] w w134 := by rw [hw135]; exact hE132.alloc _
   refine eff_call wide_wide (r := 5) (f := 23) (vs := [(Pv b55), I6 16777217, I6 0, .slice (some ⟨wc123.heap.size, 0, none⟩) 1 1]) (cap := #[]) (d := (some 155)) hS (by kernel_rfl) Try.call23 #[(Pv b55), I6 16777217, I6 0, .slice (some ⟨wc123.heap.size, 0, none⟩) 1 1] (by kernel_rfl) (Splice_no hG150 (RdV.of_blk (n := 1) hB152 rfl : RdV _ 1 _ 1 (bv [7])) (BR_of (by decide) : BR [7]) (by decide) (by rw [on, kR55, hfl]; omega)) ?_
   rintro _ wc155 ⟨rfl, hEc155⟩
   refine ⟨_, rfl, fun a hS => ?_⟩
   have hG162 : RdV wc155 1 v n (bv xs) := hG147.ext0 hEc155
   have hG163 : RpOk wc155 b o := hG148.ext0 hEc155
   have hG164 : RpOk wc155 b48 o48 := hG149.ext0 hEc155
   have hG165 : RpOk wc155 b55 o55 := hG150.ext0 hEc155
   have hG166 : RpOk wc155 b123 o123 := hG151.ext0 hEc155
   have hE167 := hE154.trans0 hEc155
   refine sg wide_wide [.p, .p, .p, .p, .p] [] [(0, v), (1, I6 x), (5, (Pv b)), (7, I6 ↑N), (10, .pointer none), (11, I6 0), (89, .bool false), (12, I6 ((16777216 - N : Nat) : Int)), (13, (Pv b48)), (103, .bool false), (14, (Pv b55)), (120, .bool false), (15, I6 ↑p), (16, .int .u8 c), (17, .bool true), (18, .int .u8 c), (19, .pointer none), (20, I6 2), (21, (Pv b123)), (22, I6 0), (23, .pointer none), (24, I6 3)] 8 0 hS .nil fun a hS => ?_
   refine seg_end ?_
   refine hK133 _ _ ?_
   refine sq fun K168 hK168 => ?_
   refine sq fun K169 hK169 => ?_
   refine rgn 6 ?_
   refine sg wide_wide [.p, .p, .p, .p, .p, .p] [] [(0, v), (1, I6 x), (5, (Pv b)), (7, I6 ↑N), (10, .pointer none), (11, I6 0), (89, .bool false), (12, I6 ((16777216 - N : Nat) : Int)), (13, (Pv b48)), (103, .bool false), (14, (Pv b55)), (120, .bool false), (15, I6 ↑p), (16, .int .u8 c), (17, .bool true), (18, .int .u8 c), (19, .pointer none), (20, I6 2), (21, (Pv b123)), (22, I6 0), (23, .pointer none), (24, I6 3), (163, .bool false)] 6 0 hS .nil fun a hS => ?_
   refine seg_end ?_
   refine hK169 _ _ ?_
   refine cond_f hS rfl ?_
   refine wpIn_skip ?_
   refine hK168 _ _ ?_
   refine sq fun K170 hK170 => ?_
   refine sq fun K171 hK171 => ?_
   refine rgn 28 ?_
   refine sg wide_wide [.p, .p, .p, .p, .p, .as (.bool false), .p, .p, .p, .p, .p, .p, .p, .p, .p, .p, .p, .p, .p, .p, .p, .p, .p, .p, .p] [Value.bool (((c : Int) != c)) = .bool false] [(0, v), (1, I6 x), (5, (Pv b)), (7, I6 ↑N), (10, .pointer none), (11, I6 0), (89, .bool false), (12, I6 ((16777216 - N : Nat) : Int)), (13, (Pv b48)), (103, .bool false), (14, (Pv b55)), (120, .bool false), (15, I6 ↑p), (16, .int .u8 c), (17, .bool true), (18, .int .u8 c), (19, .pointer none), (20, I6 2), (21, (Pv b123)), (22, I6 0), (23, .pointer none), (24, I6 3), (163, .bool false), (187, .bool false), (188, (Pv b123))] 25 3 hS (.cons (as_ne_f (rfl)) .nil) fun a hS => ?_
   refine eff_call wide_wide (r := 2) (f := 19) (vs := [(Pv b123)]) (cap := #[]) (d := (some 189)) hS (by kernel_rfl) Try.call19 #[(Pv b123)] (by kernel_rfl) ((by have h := Len_any hG166; rw [on, kR123, hsl] at h; exact h : Calls Try.prog 19 _ _ fun e w' => e = .returned (I6 16777216) ∧ Ext [] _ w')) ?_
   rintro _ wc172 ⟨rfl, hEc172⟩
   refine ⟨_, rfl, fun a hS => ?_⟩
   have hG179 : RdV wc172 1 v n (bv xs) := hG162.ext0 hEc172
   have hG180 : RpOk wc172 b o := hG163.ext0 hEc172
   have hG181 : RpOk wc172 b48 o48 := hG164.ext0 hEc172
   have hG182 : RpOk wc172 b55 o55 := hG165.ext0 hEc172
   have hG183 : RpOk wc172 b123 o123 := hG166.ext0 hEc172
   have hE184 := hE167.trans0 hEc172
   refine sg wide_wide [.p, .p] [] [(0, v), (1, I6 x), (5, (Pv b)), (7, I6 ↑N), (10, .pointer none), (11, I6 0), (89, .bool false), (12, I6 ((16777216 - N : Nat) : Int)), (13, (Pv b48)), (103, .bool false), (14, (Pv b55)), (120, .bool false), (15, I6 ↑p), (16, .int .u8 c), (17, .bool true), (18, .int .u8 c), (19, .pointer none), (20, I6 2), (21, (Pv b123)), (22, I6 0), (23, .pointer none), (24, I6 3), (163, .bool false), (191, .bool false)] 28 0 hS .nil fun a hS => ?_
   refine seg_end ?_
   refine hK171 _ _ ?_
   refine cond_f hS rfl ?_
   refine wpIn_skip ?_
   refine hK170 _ _ ?_
   refine sq fun K185 hK185 => ?_
   refine rgn 8 ?_
   refine sg wide_wide [.p, .p] [] [(0, v), (1, I6 x), (5, (Pv b)), (7, I6 ↑N), (10, .pointer none), (11, I6 0), (89, .bool false), (12, I6 ((16777216 - N : Nat) : Int)), (13, (Pv b48)), (103, .bool false), (14, (Pv b55)), (120, .bool false), (15, I6 ↑p), (16, .int .u8 c), (17, .bool true), (18, .int .u8 c), (19, .pointer none), (20, I6 2), (21, (Pv b123)), (22, I6 0), (23, .pointer none), (24, I6 3), (163, .bool false), (191, .bool false), (193, (Pv b123)), (194, I6 ↑p)] 2 6 hS .nil fun a hS => ?_
   refine eff_call wide_wide (r := 5) (f := 22) (vs := [(Pv b123), I6 ↑p]) (cap := #[]) (d := (some 195)) hS (by kernel_rfl) Try.call22 #[(Pv b123), I6 ↑p] (by kernel_rfl) (At_any (i := p) (x := 7) hG183 (by rw [kR123]; exact hs7)) ?_
   rintro _ wc186 ⟨rfl, hEc186⟩
   refine ⟨_, rfl, fun a hS => ?_⟩
   have hG193 : RdV wc186 1 v n (bv xs) := hG179.ext0 hEc186
   have hG194 : RpOk wc186 b o := hG180.ext0 hEc186
   have hG195 : RpOk wc186 b48 o48 := hG181.ext0 hEc186
   have hG196 : RpOk wc186 b55 o55 := hG182.ext0 hEc186
   have hG197 : RpOk wc186 b123 o123 := hG183.ext0 hEc186
   have hE198 := hE184.trans0 hEc186
   refine sg wide_wide [.p, .p, .p, .p, .p] [] [(0, v), (1, I6 x), (5, (Pv b)), (7, I6 ↑N), (10, .pointer none), (11, I6 0), (89, .bool false), (12, I6 ((16777216 - N : Nat) : Int)), (13, (Pv b48)), (103, .bool false), (14, (Pv b55)), (120, .bool false), (15, I6 ↑p), (16, .int .u8 c), (17, .bool true), (18, .int .u8 c), (19, .pointer none), (20, I6 2), (21, (Pv b123)), (22, I6 0), (23, .pointer none), (24, I6 3), (163, .bool false), (191, .bool false), (25, .int .u8 7)] 8 0 hS .nil fun a hS => ?_
   refine seg_end ?_
   refine hK185 _ _ ?_
   refine sq fun K199 hK199 => ?_
   refine rgn 8 ?_
   refine sg wide_wide [.p, .p] [] [(0, v), (1, I6 x), (5, (Pv b)), (7, I6 ↑N), (10, .pointer none), (11, I6 0), (89, .bool false), (12, I6 ((16777216 - N : Nat) : Int)), (13, (Pv b48)), (103, .bool false), (14, (Pv b55)), (120, .bool false), (15, I6 ↑p), (16, .int .u8 c), (17, .bool true), (18, .int .u8 c), (19, .pointer none), (20, I6 2), (21, (Pv b123)), (22, I6 0), (23, .pointer none), (24, I6 3), (163, .bool false), (191, .bool false), (25, .int .u8 7), (199, (Pv b55)), (200, I6 ↑p)] 2 6 hS .nil fun a hS => ?_
   refine eff_call wide_wide (r := 5) (f := 22) (vs := [(Pv b55), I6 ↑p]) (cap := #[]) (d := (some 201)) hS (by kernel_rfl) Try.call22 #[(Pv b55), I6 ↑p] (by kernel_rfl) (At_any (i := p) (x := c) hG196 (by rw [kR55]; exact hfc)) ?_
   rintro _ wc200 ⟨rfl, hEc200⟩
   refine ⟨_, rfl, fun a hS => ?_⟩
   have hG207 : RdV wc200 1 v n (bv xs) := hG193.ext0 hEc200
   have hG208 : RpOk wc200 b o := hG194.ext0 hEc200
   have hG209 : RpOk wc200 b48 o48 := hG195.ext0 hEc200
   have hG210 : RpOk wc200 b55 o55 := hG196.ext0 hEc200
   have hG211 : RpOk wc200 b123 o123 := hG197.ext0 hEc200
   have hE212 := hE198.trans0 hEc200
   refine sg wide_wide [.p, .p, .p, .p, .p] [] [(0, v), (1, I6 x), (5, (Pv b)), (7, I6 ↑N), (10, .pointer none), (11, I6 0), (89, .bool false), (12, I6 ((16777216 - N : Nat) : Int)), (13, (Pv b48)), (103, .bool false), (14, (Pv b55)), (120, .bool false), (15, I6 ↑p), (16, .int .u8 c), (17, .bool true), (18, .int .u8 c), (19, .pointer none), (20, I6 2), (21, (Pv b123)), (22, I6 0), (23, .pointer none), (24, I6 3), (163, .bool false), (191, .bool false), (25, .int .u8 7), (26, .int .u8 c), (27, .bool true)] 8 0 hS .nil fun a hS => ?_
   refine seg_end ?_
   refine hK199 _ _ ?_
   refine sq fun K213 hK213 => ?_
   refine rgn 14 ?_
   refine sg wide_wide [.p, .p, .p, .p, .p, .p, .p, .p, .p, .p, .p, .as (.bool true), .p, .p] [Value.bool (((c : Int) == c)) = .bool true] [(0, v), (1, I6 x), (5, (Pv b)), (7, I6 ↑N), (10, .pointer none), (11, I6 0), (89, .bool false), (12, I6 ((16777216 - N : Nat) : Int)), (13, (Pv b48)), (103, .bool false), (14, (Pv b55)), (120, .bool false), (15, I6 ↑p), (16, .int .u8 c), (17, .bool true), (18, .int .u8 c), (19, .pointer none), (20, I6 2), (21, (Pv b123)), (22, I6 0), (23, .pointer none), (24, I6 3), (163, .bool false), (191, .bool false), (25, .int .u8 7), (26, .int .u8 c), (27, .bool true), (4, .bool true)] 14 0 hS (.cons (as_eq_t (rfl)) .nil) fun a hS => ?_
   refine seg_end ?_
   refine hK213 _ _ ?_
   refine wpIn_ret ?_
   refine ret1 hS Try.results5 rfl ?_
   exact ⟨rfl, hE212⟩

end Go.Proofs.Ytkdbfjomjlhfbaa
