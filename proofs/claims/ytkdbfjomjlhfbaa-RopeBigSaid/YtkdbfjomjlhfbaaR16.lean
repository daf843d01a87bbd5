import Derived.Test.YtkdbfjomjlhfbaaProg
import Derived.Test.YtkdbfjomjlhfbaaR15
namespace Go.Proofs.Ytkdbfjomjlhfbaa
open Go.Vc

theorem rws_sof : ∀ (xs : List Int) (k : Nat), k ≤ rws xs → rws (xs.take (sof xs k)) = k
 | [], k, h => by simp at h; subst h; rfl
 | x :: xs, 0, _ => by rw [sof_0]; rfl
 | x :: xs, k + 1, h => by
  rw [rws_cons] at h
  rw [sof]
  by_cases hx : x = 10
  ·rw [if_pos hx] at h
   rw [if_pos hx, Nat.add_comm, List.take_succ_cons, rws_cons, if_pos hx, rws_sof xs k (by omega)]
  ·rw [if_neg hx] at h
   rw [if_neg hx, Nat.add_comm, List.take_succ_cons, rws_cons, if_neg hx, rws_sof xs (k + 1) (by omega)]
theorem sof_last : ∀ (xs : List Int) (k : Nat), 0 < k → k ≤ rws xs → 0 < sof xs k ∧ xs[sof xs k - 1]? = some 10
 | [], k, h, h' => by simp at h'; omega
 | x :: xs, k + 1, _, h => by
  rw [rws_cons] at h
  rw [sof]
  by_cases hx : x = 10
  ·rw [if_pos hx] at h ⊢
   by_cases hk : k = 0
   ·subst hk; rw [sof_0]; exact ⟨by omega, by simp [hx]⟩
   ·obtain ⟨h1, h2⟩ := sof_last xs k (by omega) (by omega)
    refine ⟨by omega, ?_⟩
    rw [show 1 + sof xs k - 1 = (sof xs k - 1) + 1 by omega, List.getElem?_cons_succ]; exact h2
  ·rw [if_neg hx] at h ⊢
   obtain ⟨h1, h2⟩ := sof_last xs (k + 1) (by omega) (by omega)
   refine ⟨by omega, ?_⟩
   rw [show 1 + sof xs (k + 1) - 1 = (sof xs (k + 1) - 1) + 1 by omega, List.getElem?_cons_succ]; exact h2
theorem rws_step {xs : List Int} {i : Nat} {x : Int} (h : xs[i]? = some x) : rws (xs.take (i + 1)) = rws (xs.take i) + if x = 10 then 1 else 0 := by
 rw [List.take_add_one, h, rws_app]
 congr 1
 simp only [Option.toList_some, rws_cons, rws_nil, Nat.zero_add]
theorem lent_rd {w : World} {g n : Nat} {xs : List Int} (h : OwnR w 5 1 g (n + 5) (n + 5) (bv (xs ++ marks 5))) (hl : xs.length = n) : RdV w 1 (.slice (some ⟨g, 0, none⟩) n (n + 5)) n (bv xs) :=
 .inr ⟨g, 0, n + 5, rfl, by simp [hl], by omega, fun j u hu => by
  rw [Nat.zero_add]
  refine h.cellAt j ?_
  rw [bv_app, List.getElem?_append_left (List.getElem?_eq_some_iff.1 hu).1]; exact hu⟩

set_option maxHeartbeats 1000000 in
theorem RopeTurns_any {v : Value} {n : Nat} {xs : List Int} {x : Int} {w : World} (hv : RdV w 1 v n (bv xs)) (hB : BR xs) (hn : n ≤ 140737488355328) :
  Calls Try.prog 4 #[v, I6 x] w fun e w' => e = .returned (.bool true) ∧ Ext [] w w' := by
 have hl : xs.length = n := by have := hv.len; simpa using this
 refine calls_body 143 [(0, v), (1, I6 x)] Try.func4 rfl (by kernel_rfl) (by kernel_rfl) (by kernel_rfl) fun a hS => ?_
 have hE0 : Ext [] w w := Ext.refl _ _
 refine sq fun K1 hK1 => ?_
 refine rgn 1 ?_
 refine sg wide_wide [.p] [] [(0, v), (1, I6 x), (4, .bool false)] 1 0 hS .nil fun a hS => ?_
 refine seg_end ?_
 refine hK1 _ _ ?_
 refine sq fun K2 hK2 => ?_
 refine sq fun K3 hK3 => ?_
 refine rgn 2 ?_
 refine eff_call wide_wide (r := 1) (f := 12) (vs := []) (cap := #[]) (d := (some 20)) hS (by kernel_rfl) Try.call12 #[] (by kernel_rfl) (Head_any) ?_
 rintro _ wc4 ⟨rfl, hEc4⟩
 refine ⟨_, rfl, fun a hS => ?_⟩
 have hG5 : RdV wc4 1 v n (bv xs) := hv.ext0 hEc4
 have hE6 := hE0.trans0 hEc4
 refine sg wide_wide [.p] [] [(0, v), (1, I6 x), (4, .bool false), (21, .bool false)] 2 0 hS .nil fun a hS => ?_
 refine seg_end ?_
 refine hK3 _ _ ?_
 refine cond_f hS rfl ?_
 refine wpIn_skip ?_
 refine hK2 _ _ ?_
 refine sq fun K7 hK7 => ?_
 refine sq fun K8 hK8 => ?_
 refine rgn 3 ?_
 refine sg wide_wide [.p, .run (I6 ↑n), .p] [Ru Try.prog (vS (Builtin.len_ #[23] 3 #[v])) (I6 ↑n) wc4] [(0, v), (1, I6 x), (4, .bool false), (21, .bool false), (24, .bool (decide ((↑n : Int) > 65536)))] 3 0 hS (.cons (run_len_rd (e := 5) hv (by kernel_rfl)) .nil) fun a hS => ?_
 refine seg_end ?_
 refine hK8 _ _ ?_
 refine cond_b hS rfl (fun hb9 => ?_) (fun hb9 => ?_)
 ·
  replace hb9 := of_decide_eq_true hb9
  refine sq fun K10 hK10 => ?_
  refine rgn 1 ?_
  refine sg wide_wide [.p] [] [(0, v), (1, I6 x), (4, .bool true), (21, .bool false)] 1 0 hS .nil fun a hS => ?_
  refine seg_end ?_
  refine hK10 _ _ ?_
  refine wpIn_ret ?_
  refine then_ret ?_
  refine ret1 hS Try.results4 rfl ?_
  exact ⟨rfl, hE6⟩
 ·
  replace hb9 := of_decide_eq_false hb9
  refine wpIn_skip ?_
  refine hK7 _ _ ?_
  refine sq fun K11 hK11 => ?_
  refine rgn 8 ?_
  refine sg wide_wide [.p] [] [(0, v), (1, I6 x), (4, .bool false), (21, .bool false), (26, v)] 1 7 hS .nil fun a hS => ?_
  refine eff_call wide_wide (r := 6) (f := 14) (vs := [v]) (cap := #[]) (d := (some 27)) hS (by kernel_rfl) Try.call14 #[v] (by kernel_rfl) (Lend_any hG5 (by omega)) ?_
  rintro _ wc12 ⟨g12, rfl, hL12, hgn12, hEc12⟩
  refine ⟨_, rfl, fun a hS => ?_⟩
  have hG13 : RdV wc12 1 v n (bv xs) := hG5.ext0 hEc12
  have hE14 := hE6.trans0 hEc12
  refine eff_call wide_wide (r := 5) (f := 13) (vs := [.slice (some ⟨g12, 0, none⟩) n (n + 5)]) (cap := #[]) (d := (some 28)) hS (by kernel_rfl) Try.call13 #[.slice (some ⟨g12, 0, none⟩) n (n + 5)] (by kernel_rfl) (New_any (lent_rd hL12 hl) hB (by omega)) ?_
  rintro _ wc15 ⟨b15, o15, rfl, hR15, kR15, hEc15⟩
  refine ⟨_, rfl, fun a hS => ?_⟩
  have hG16 : RdV wc15 1 v n (bv xs) := hG13.ext0 hEc15
  have hE17 := hE14.trans0 hEc15
  refine sg wide_wide [.p, .p, .p, .p, .p] [] [(0, v), (1, I6 x), (4, .bool false), (21, .bool false), (5, (Pv b15)), (6, I6 0)] 8 0 hS .nil fun a hS => ?_
  refine seg_end ?_
  refine hK11 _ _ ?_
  refine sq fun K18 hK18 => ?_
  refine sq fun K19 hK19 => ?_
  refine rgn 6 ?_
  refine sg wide_wide [.p, .p, .p, .p, .p, .p] [] [(0, v), (1, I6 x), (4, .bool false), (21, .bool false), (5, (Pv b15)), (6, I6 0), (36, .bool false)] 6 0 hS .nil fun a hS => ?_
  refine seg_end ?_
  refine hK19 _ _ ?_
  refine cond_f hS rfl ?_
  refine wpIn_skip ?_
  refine hK18 _ _ ?_
  refine sq fun K20 hK20 => ?_
  refine rgn 1 ?_
  refine sg wide_wide [.p] [] [(0, v), (1, I6 x), (4, .bool false), (21, .bool false), (5, (Pv b15)), (6, I6 0), (36, .bool false), (7, I6 1)] 1 0 hS .nil fun a hS => ?_
  refine seg_end ?_
  refine hK20 _ _ ?_
  refine sq fun K21 hK21 => ?_
  refine sq fun K22 hK22 => ?_
  refine rgn 1 ?_
  refine sg wide_wide [.p] [] [(0, v), (1, I6 x), (4, .bool false), (21, .bool false), (5, (Pv b15)), (6, I6 0), (36, .bool false), (7, I6 1), (8, I6 0)] 1 0 hS .nil fun a hS => ?_
  refine seg_end ?_
  refine hK22 _ _ ?_
  refine wpIn_block ?_
  have hrl := rws_le xs
  have hEn := hE17
  have hvn := hG16
  refine loop_ghost (fun (i : Nat) a' w' => St 143 [] [(0, v), (1, I6 x), (5, (Pv b15)), (7, I6 ((1 + rws (xs.take i) : Nat) : Int)), (8, I6 ↑i)] a' ∧ i ≤ n ∧ w' = wc15) (fun (i : Nat) => n - i) 0 ⟨hS.keepTo [0, 1, 5, 7, 8] (by kernel_rfl), Nat.zero_le _, rfl⟩ ?_
  rintro i a w1 ⟨hS, hil, hw1⟩
  replace hw1 := hw1.symm
  subst hw1
  have hrt := rws_take_le xs i
  refine sq fun K23 hK23 => ?_
  refine sq fun K24 hK24 => ?_
  refine rgn 4 ?_
  refine sg wide_wide [.p, .p, .run (I6 ↑n), .p] [Ru Try.prog (vS (Builtin.len_ #[23] 3 #[v])) (I6 ↑n) wc15] [(0, v), (1, I6 x), (5, (Pv b15)), (7, I6 ((1 + rws (xs.take i) : Nat) : Int)), (8, I6 ↑i), (40, .bool (decide ((↑i : Int) < ↑n)))] 4 0 hS (.cons (run_len_rd (e := 5) hv (by kernel_rfl)) .nil) fun a hS => ?_
  refine seg_end ?_
  refine hK24 _ _ ?_
  refine cond_b hS rfl (fun hb25 => ?_) (fun hb25 => ?_)
  ·
   replace hb25 := of_decide_eq_true hb25
   have hi : i < n := by omega
   obtain ⟨c, hc⟩ : ∃ c, xs[i]? = some c := ⟨_, List.getElem?_eq_getElem (by omega)⟩
   have hst := rws_step hc
   refine wpIn_skip ?_
   refine hK23 _ _ ?_
   refine sq fun K26 hK26 => ?_
   refine wpIn_block ?_
   refine sq fun K27 hK27 => ?_
   refine rgn 5 ?_
   refine sg wide_wide [.p, .p, .run ((Po (bof v) (oof v + i * 1))), .ld (.int .u8 c), .p] [Ru Try.prog (vS (Instr.indexAt 23 (v) (I6 ↑i))) ((Po (bof v) (oof v + i * 1))) wc15, wc15.cell? ⟨bof v, oof v + i * 1, none⟩ = some (.int .u8 c)] [(0, v), (1, I6 x), (5, (Pv b15)), (7, I6 ((1 + rws (xs.take i) : Nat) : Int)), (8, I6 ↑i), (47, .bool ((c : Int) == 10))] 5 0 hS (.cons (ix_rd (e := 5) (j := i) hv (by kernel_rfl) (by kernel_rfl) rfl hi) (.cons (hvn.cellAt (i * 1) (by omega) (by rw [Nat.mul_one]; exact bv_at hc)) .nil)) fun a hS => ?_
   refine seg_end ?_
   refine hK27 _ _ ?_
   refine cond_b hS rfl (fun hb28 => ?_) (fun hb28 => ?_)
   ·
    replace hb28 := test_eq_t hb28
    have hq : ((1 + rws (xs.take i) : Nat) : Int) + 1 = ((1 + rws (xs.take (i + 1)) : Nat) : Int) := by rw [hst, if_pos (by omega)]; omega
    refine rgn 3 ?_
    refine sg wide_wide [.p, .as (I6 (((1 + rws (xs.take i) : Nat) : Int) + 1)), .p] [Value.int .i64 (IntKind.i64.wrap (((1 + rws (xs.take i) : Nat) : Int) + 1)) = I6 (((1 + rws (xs.take i) : Nat) : Int) + 1)] [(0, v), (1, I6 x), (5, (Pv b15)), (7, I6 (((1 + rws (xs.take i) : Nat) : Int) + 1)), (8, I6 ↑i)] 3 0 hS (.cons (as_i64 (by omega)) .nil) fun a hS => ?_
    refine seg_end ?_
    refine inBlock_normal ?_
    refine hK26 _ _ ?_
    refine rgn 3 ?_
    refine sg wide_wide [.p, .as (I6 (↑i + 1)), .p] [Value.int .i64 (IntKind.i64.wrap (↑i + 1)) = I6 (↑i + 1)] [(0, v), (1, I6 x), (5, (Pv b15)), (7, I6 (((1 + rws (xs.take i) : Nat) : Int) + 1)), (8, I6 (↑i + 1))] 3 0 hS (.cons (as_i64 (by omega)) .nil) fun a hS => ?_
    refine seg_end ?_
    rw [hq] at hS
    exact ⟨i + 1, ⟨hS.kp [(0, v), (1, I6 x), (5, (Pv b15)), (7, I6 ((1 + rws (xs.take (i + 1)) : Nat) : Int)), (8, I6 (↑i + 1))], by omega, rfl⟩, by omega⟩
   ·
    replace hb28 := test_eq_f hb28
    have hq : ((1 + rws (xs.take i) : Nat) : Int) = ((1 + rws (xs.take (i + 1)) : Nat) : Int) := by rw [hst, if_neg (by omega)]; omega
    refine wpIn_skip ?_
    refine inBlock_normal ?_
    refine hK26 _ _ ?_
    refine rgn 3 ?_
    refine sg wide_wide [.p, .as (I6 (↑i + 1)), .p] [Value.int .i64 (IntKind.i64.wrap (↑i + 1)) = I6 (↑i + 1)] [(0, v), (1, I6 x), (5, (Pv b15)), (7, I6 ((1 + rws (xs.take i) : Nat) : Int)), (8, I6 (↑i + 1))] 3 0 hS (.cons (as_i64 (by omega)) .nil) fun a hS => ?_
    refine seg_end ?_
    rw [hq] at hS
    exact ⟨i + 1, ⟨hS.kp [(0, v), (1, I6 x), (5, (Pv b15)), (7, I6 ((1 + rws (xs.take (i + 1)) : Nat) : Int)), (8, I6 (↑i + 1))], by omega, rfl⟩, by omega⟩
  ·
   replace hb25 := of_decide_eq_false hb25
   have hin : i = n := by omega
   rw [hin, List.take_of_length_le (by omega)] at hS
   refine wpIn_exit ?_
   refine then_exit ?_
   refine then_exit ?_
   refine inBlock_hit ?_
   refine hK21 _ _ ?_
   refine sq fun K29 hK29 => ?_
   refine sq fun K30 hK30 => ?_
   refine rgn 4 ?_
   refine sg wide_wide [.p] [] [(0, v), (1, I6 x), (5, (Pv b15)), (7, I6 ((1 + rws xs : Nat) : Int)), (8, I6 ↑n), (50, (Pv b15))] 1 3 hS .nil fun a hS => ?_
   refine eff_call wide_wide (r := 2) (f := 15) (vs := [(Pv b15)]) (cap := #[]) (d := (some 51)) hS (by kernel_rfl) Try.call15 #[(Pv b15)] (by kernel_rfl) ((by have h := Rows_any hR15; rw [kR15] at h; exact h : Calls Try.prog 15 _ _ fun e w' => e = .returned (I6 ((rws xs : Nat) + 1)) ∧ Ext [] _ w')) ?_
   rintro _ wc31 ⟨rfl, hEc31⟩
   refine ⟨_, rfl, fun a hS => ?_⟩
   have hG32 : RdV wc31 1 v n (bv xs) := hvn.ext0 hEc31
   have hG33 : RpOk wc31 b15 o15 := hR15.ext0 hEc31
   have hE34 := hEn.trans0 hEc31
   refine sg wide_wide [.p, .as (.bool false)] [Value.bool (((↑(rws xs) + 1 : Int) != ((1 + rws xs : Nat) : Int))) = .bool false] [(0, v), (1, I6 x), (5, (Pv b15)), (7, I6 ((1 + rws xs : Nat) : Int)), (8, I6 ↑n), (53, .bool false)] 4 0 hS (.cons (as_ne_f (by omega)) .nil) fun a hS => ?_
   refine seg_end ?_
   refine hK30 _ _ ?_
   refine cond_f hS rfl ?_
   refine wpIn_skip ?_
   refine hK29 _ _ ?_
   refine sq fun K35 hK35 => ?_
   refine sq fun K36 hK36 => ?_
   refine rgn 1 ?_
   refine sg wide_wide [.p] [] [(0, v), (1, I6 x), (5, (Pv b15)), (7, I6 ((1 + rws xs : Nat) : Int)), (8, I6 ↑n), (53, .bool false), (9, I6 0)] 1 0 hS .nil fun a hS => ?_
   refine seg_end ?_
   refine hK36 _ _ ?_
   refine wpIn_block ?_
   refine loop_ghost (fun (k : Nat) a' w' => St 143 [] [(0, v), (1, I6 x), (5, (Pv b15)), (7, I6 ((1 + rws xs : Nat) : Int)), (9, I6 ↑k)] a' ∧ k ≤ 1 + rws xs ∧ RpOk w' b15 o15 ∧ RdV w' 1 v n (bv xs) ∧ Ext [] w w') (fun (k : Nat) => 1 + rws xs - k) 0 ⟨hS.keepTo [0, 1, 5, 7, 9] (by kernel_rfl), Nat.zero_le _, hG33, hG32, hE34⟩ ?_
   rintro k a w2 ⟨hS, hkl, hR2, hv2, hE2⟩
   refine sq fun K37 hK37 => ?_
   refine sq fun K38 hK38 => ?_
   refine rgn 3 ?_
   refine sg wide_wide [.p, .p, .p] [] [(0, v), (1, I6 x), (5, (Pv b15)), (7, I6 ((1 + rws xs : Nat) : Int)), (9, I6 ↑k), (56, .bool (decide ((↑k : Int) < ((1 + rws xs : Nat) : Int))))] 3 0 hS .nil fun a hS => ?_
   refine seg_end ?_
   refine hK38 _ _ ?_
   refine cond_b hS rfl (fun hb39 => ?_) (fun hb39 => ?_)
   ·
    replace hb39 := of_decide_eq_true hb39
    have hk : k ≤ rws xs := by omega
    have hsl := sof_le xs k
    have hrs := rws_sof xs k hk
    have hca : colAt xs (sof xs k) = 0 := by rw [colAt, hrs, Nat.sub_self]
    have hson : sof xs k ≤ on o15 := by rw [on, kR15]; exact hsl
    refine wpIn_skip ?_
    refine hK37 _ _ ?_
    refine sq fun K40 hK40 => ?_
    refine wpIn_block ?_
    refine sq fun K41 hK41 => ?_
    refine rgn 8 ?_
    refine sg wide_wide [.p, .p] [] [(0, v), (1, I6 x), (5, (Pv b15)), (7, I6 ((1 + rws xs : Nat) : Int)), (9, I6 ↑k), (60, (Pv b15)), (61, I6 ↑k)] 2 6 hS .nil fun a hS => ?_
    refine eff_call wide_wide (r := 5) (f := 16) (vs := [(Pv b15), I6 ↑k]) (cap := #[]) (d := (some 62)) hS (by kernel_rfl) Try.call16 #[(Pv b15), I6 ↑k] (by kernel_rfl) ((by have h := Start_any (k := k) hR2 (by rw [kR15]; exact hk); rw [kR15] at h; exact h : Calls Try.prog 16 _ _ fun e w' => e = .returned (.tuple #[I6 (sof xs k : Nat), I6 0]) ∧ Ext [] _ w')) ?_
    rintro _ wc42 ⟨rfl, hEc42⟩
    refine ⟨_, rfl, fun a hS => ?_⟩
    have hG43 : RdV wc42 1 v n (bv xs) := hv2.ext0 hEc42
    have hG44 : RpOk wc42 b15 o15 := hR2.ext0 hEc42
    have hE45 := hE2.trans0 hEc42
    refine sg wide_wide [.p, .p, .p, .p, .p] [] [(0, v), (1, I6 x), (5, (Pv b15)), (7, I6 ((1 + rws xs : Nat) : Int)), (9, I6 ↑k), (10, I6 (↑(sof xs k))), (11, I6 0)] 8 0 hS .nil fun a hS => ?_
    refine seg_end ?_
    refine hK41 _ _ ?_
    refine sq fun K46 hK46 => ?_
    refine rgn 10 ?_
    refine sg wide_wide [.p, .p] [] [(0, v), (1, I6 x), (5, (Pv b15)), (7, I6 ((1 + rws xs : Nat) : Int)), (9, I6 ↑k), (10, I6 (↑(sof xs k))), (11, I6 0), (66, (Pv b15)), (67, I6 (↑(sof xs k)))] 2 8 hS .nil fun a hS => ?_
    refine eff_call wide_wide (r := 7) (f := 17) (vs := [(Pv b15), I6 (↑(sof xs k))]) (cap := #[]) (d := (some 68)) hS (by kernel_rfl) Try.call17 #[(Pv b15), I6 (↑(sof xs k))] (by kernel_rfl) ((by have h := Row_any (i := sof xs k) hG44 hson; rw [kR15, hrs, hca] at h; exact h : Calls Try.prog 17 _ _ fun e w' => e = .returned (.tuple #[I6 k, I6 0, I6 0]) ∧ Ext [] _ w')) ?_
    rintro _ wc47 ⟨rfl, hEc47⟩
    refine ⟨_, rfl, fun a hS => ?_⟩
    have hG48 : RdV wc47 1 v n (bv xs) := hG43.ext0 hEc47
    have hG49 : RpOk wc47 b15 o15 := hG44.ext0 hEc47
    have hE50 := hE45.trans0 hEc47
    refine sg wide_wide [.p, .p, .p, .p, .p, .p, .p] [] [(0, v), (1, I6 x), (5, (Pv b15)), (7, I6 ((1 + rws xs : Nat) : Int)), (9, I6 ↑k), (10, I6 (↑(sof xs k))), (11, I6 0), (12, I6 ↑k), (13, I6 0), (14, I6 0)] 10 0 hS .nil fun a hS => ?_
    refine seg_end ?_
    refine hK46 _ _ ?_
    refine sq fun K51 hK51 => ?_
    by_cases hk0 : k = 0
    ·
     have hs0 : sof xs k = 0 := by rw [hk0, sof_0]
     refine rgn 27 ?_
     refine sg wide_wide [.p, .p, .p, .p, .p, .p, .p, .p, .p, .as (.bool false), .p, .p, .p, .p, .p, .p, .p, .as (.bool false), .p, .no, .no, .no, .no, .no, .no, .p, .p] [Value.bool (((↑k : Int) != ↑k)) = .bool false, Value.bool (decide ((↑(sof xs k) : Int) > 0)) = .bool false] [(0, v), (1, I6 x), (5, (Pv b15)), (7, I6 ((1 + rws xs : Nat) : Int)), (9, I6 ↑k), (10, I6 (↑(sof xs k))), (11, I6 0), (12, I6 ↑k), (13, I6 0), (14, I6 0), (98, .bool false)] 27 0 hS (.cons (as_ne_f (rfl)) (.cons (as_f (by omega)) .nil)) fun a hS => ?_
     refine seg_end ?_
     refine hK51 _ _ ?_
     refine cond_f hS rfl ?_
     refine wpIn_skip ?_
     refine inBlock_normal ?_
     refine hK40 _ _ ?_
     refine rgn 3 ?_
     refine sg wide_wide [.p, .as (I6 (↑k + 1)), .p] [Value.int .i64 (IntKind.i64.wrap (↑k + 1)) = I6 (↑k + 1)] [(0, v), (1, I6 x), (5, (Pv b15)), (7, I6 ((1 + rws xs : Nat) : Int)), (9, I6 (↑k + 1)), (10, I6 (↑(sof xs k))), (11, I6 0), (12, I6 ↑k), (13, I6 0), (14, I6 0), (98, .bool false)] 3 0 hS (.cons (as_i64 (by omega)) .nil) fun a hS => ?_
     refine seg_end ?_
     exact ⟨k + 1, ⟨hS.kp [(0, v), (1, I6 x), (5, (Pv b15)), (7, I6 ((1 + rws xs : Nat) : Int)), (9, I6 (↑k + 1))], by omega, hG49, hG48, hE50⟩, by omega⟩
    ·
     obtain ⟨hsp, hs10⟩ := sof_last xs k (by omega) hk
     have hci : ((sof xs k : Nat) : Int) - 1 = ((sof xs k - 1 : Nat) : Int) := by omega
     refine rgn 27 ?_
     refine sg wide_wide [.p, .p, .p, .p, .p, .p, .p, .p, .p, .as (.bool false), .p, .p, .p, .p, .p, .p, .p, .as (.bool true), .p, .p, .p, .as (I6 ((sof xs k - 1 : Nat) : Int)), .run ((Po (bof v) (oof v + (sof xs k - 1) * 1))), .ld (.int .u8 10), .p, .p, .p] [Value.bool (((↑k : Int) != ↑k)) = .bool false, Value.bool (decide ((↑(sof xs k) : Int) > 0)) = .bool true, Value.int .i64 (IntKind.i64.wrap ((↑(sof xs k)) - 1)) = I6 ((sof xs k - 1 : Nat) : Int), Ru Try.prog (vS (Instr.indexAt 23 (v) (I6 ((sof xs k - 1 : Nat) : Int)))) ((Po (bof v) (oof v + (sof xs k - 1) * 1))) wc47, wc47.cell? ⟨bof v, oof v + (sof xs k - 1) * 1, none⟩ = some (.int .u8 10)] [(0, v), (1, I6 x), (5, (Pv b15)), (7, I6 ((1 + rws xs : Nat) : Int)), (9, I6 ↑k), (10, I6 (↑(sof xs k))), (11, I6 0), (12, I6 ↑k), (13, I6 0), (14, I6 0), (98, .bool false)] 27 0 hS (.cons (as_ne_f (rfl)) (.cons (as_t (by omega)) (.cons ((by rw [show ((↑(sof xs k)) - 1 : Int) = ((sof xs k - 1 : Nat) : Int) from by omega]; exact as_i64 (by omega))) (.cons (ix_rd (e := 5) (j := (sof xs k - 1)) hv (by kernel_rfl) (by kernel_rfl) rfl (by omega)) (.cons (hG48.cellAt ((sof xs k - 1) * 1) (by omega) (by rw [Nat.mul_one]; exact bv_at hs10)) .nil))))) fun a hS => ?_
     refine seg_end ?_
     refine hK51 _ _ ?_
     refine cond_f hS rfl ?_
     refine wpIn_skip ?_
     refine inBlock_normal ?_
     refine hK40 _ _ ?_
     refine rgn 3 ?_
     refine sg wide_wide [.p, .as (I6 (↑k + 1)), .p] [Value.int .i64 (IntKind.i64.wrap (↑k + 1)) = I6 (↑k + 1)] [(0, v), (1, I6 x), (5, (Pv b15)), (7, I6 ((1 + rws xs : Nat) : Int)), (9, I6 (↑k + 1)), (10, I6 (↑(sof xs k))), (11, I6 0), (12, I6 ↑k), (13, I6 0), (14, I6 0), (98, .bool false)] 3 0 hS (.cons (as_i64 (by omega)) .nil) fun a hS => ?_
     refine seg_end ?_
     exact ⟨k + 1, ⟨hS.kp [(0, v), (1, I6 x), (5, (Pv b15)), (7, I6 ((1 + rws xs : Nat) : Int)), (9, I6 (↑k + 1))], by omega, hG49, hG48, hE50⟩, by omega⟩
   ·
    replace hb39 := of_decide_eq_false hb39
    have hon2 : on o15 = n := by rw [on, kR15, hl]
    refine wpIn_exit ?_
    refine then_exit ?_
    refine then_exit ?_
    refine inBlock_hit ?_
    refine hK35 _ _ ?_
    refine sq fun K52 hK52 => ?_
    rcases (show (x < 0 ∨ x > (n : Int)) ∨ ∃ i : Nat, x = (i : Int) ∧ i ≤ n by rcases Int.lt_or_le x 0 with h | h; exact .inl (.inl h); rcases Int.lt_or_le (n : Int) x with h2 | h2; exact .inl (.inr h2); exact .inr ⟨x.toNat, by omega, by omega⟩) with hx | ⟨i, hxi, hin⟩
    ·
     refine rgn 10 ?_
     refine sg wide_wide [.p, .p] [] [(0, v), (1, I6 x), (5, (Pv b15)), (7, I6 ((1 + rws xs : Nat) : Int)), (9, I6 ↑k), (100, (Pv b15)), (101, I6 x)] 2 8 hS .nil fun a hS => ?_
     refine eff_call wide_wide (r := 7) (f := 17) (vs := [(Pv b15), I6 x]) (cap := #[]) (d := (some 102)) hS (by kernel_rfl) Try.call17 #[(Pv b15), I6 x] (by kernel_rfl) (Row_no hR2 (by rw [hon2]; omega)) ?_
     rintro _ wc53 ⟨rfl, hEc53⟩
     refine ⟨_, rfl, fun a hS => ?_⟩
     have hG54 : RdV wc53 1 v n (bv xs) := hv2.ext0 hEc53
     have hG55 : RpOk wc53 b15 o15 := hR2.ext0 hEc53
     have hE56 := hE2.trans0 hEc53
     refine sg wide_wide [.p, .p, .p, .p, .p, .p, .p] [] [(0, v), (1, I6 x), (5, (Pv b15)), (7, I6 ((1 + rws xs : Nat) : Int)), (9, I6 ↑k), (15, I6 0), (16, I6 0), (17, I6 3)] 10 0 hS .nil fun a hS => ?_
     refine seg_end ?_
     refine hK52 _ _ ?_
     refine sq fun K57 hK57 => ?_
     refine sq fun K58 hK58 => ?_
     rcases hx with hx | hx
     ·
      refine rgn 8 ?_
      refine sg wide_wide [.p, .as (.bool true), .p, .no, .no, .no, .no, .p] [Value.bool (decide ((x : Int) < 0)) = .bool true] [(0, v), (1, I6 x), (5, (Pv b15)), (7, I6 ((1 + rws xs : Nat) : Int)), (9, I6 ↑k), (15, I6 0), (16, I6 0), (17, I6 3), (113, .bool true)] 8 0 hS (.cons (as_t (by omega)) .nil) fun a hS => ?_
      refine seg_end ?_
      refine hK58 _ _ ?_
      refine cond_t hS rfl ?_
      refine sq fun K59 hK59 => ?_
      refine rgn 11 ?_
      refine sg wide_wide [.p, .p, .p, .p, .p, .p, .p, .p, .p, .p, .p] [] [(0, v), (1, I6 x), (5, (Pv b15)), (7, I6 ((1 + rws xs : Nat) : Int)), (9, I6 ↑k), (15, I6 0), (16, I6 0), (17, I6 3), (113, .bool true), (4, .bool true)] 11 0 hS .nil fun a hS => ?_
      refine seg_end ?_
      refine hK59 _ _ ?_
      refine wpIn_ret ?_
      refine then_ret ?_
      refine ret1 hS Try.results4 rfl ?_
      exact ⟨rfl, hE56⟩
     ·
      have hx0 : ¬x < 0 := by omega
      refine rgn 8 ?_
      refine sg wide_wide [.p, .as (.bool false), .p, .p, .p, .run (I6 ↑n), .as (.bool true), .p] [Value.bool (decide ((x : Int) < 0)) = .bool false, Ru Try.prog (vS (Builtin.len_ #[23] 3 #[v])) (I6 ↑n) wc53, Value.bool (decide ((x : Int) > ↑n)) = .bool true] [(0, v), (1, I6 x), (5, (Pv b15)), (7, I6 ((1 + rws xs : Nat) : Int)), (9, I6 ↑k), (15, I6 0), (16, I6 0), (17, I6 3), (113, .bool true)] 8 0 hS (.cons (as_f (by omega)) (.cons (run_len_rd (e := 5) hv (by kernel_rfl)) (.cons (as_t (by omega)) .nil))) fun a hS => ?_
      refine seg_end ?_
      refine hK58 _ _ ?_
      refine cond_t hS rfl ?_
      refine sq fun K60 hK60 => ?_
      refine rgn 11 ?_
      refine sg wide_wide [.p, .p, .p, .p, .p, .p, .p, .p, .p, .p, .p] [] [(0, v), (1, I6 x), (5, (Pv b15)), (7, I6 ((1 + rws xs : Nat) : Int)), (9, I6 ↑k), (15, I6 0), (16, I6 0), (17, I6 3), (113, .bool true), (4, .bool true)] 11 0 hS .nil fun a hS => ?_
      refine seg_end ?_
      refine hK60 _ _ ?_
      refine wpIn_ret ?_
      refine then_ret ?_
      refine ret1 hS Try.results4 rfl ?_
      exact ⟨rfl, hE56⟩
    ·
     have hst := sof_take xs i
     have hrt := rws_take_le xs i
     rw [hxi] at hS
     have hcol : colAt xs i = i - sof xs (rws (xs.take i)) := rfl
     refine rgn 10 ?_
     refine sg wide_wide [.p, .p] [] [(0, v), (1, I6 ↑i), (5, (Pv b15)), (7, I6 ((1 + rws xs : Nat) : Int)), (9, I6 ↑k), (100, (Pv b15)), (101, I6 ↑i)] 2 8 hS .nil fun a hS => ?_
     refine eff_call wide_wide (r := 7) (f := 17) (vs := [(Pv b15), I6 ↑i]) (cap := #[]) (d := (some 102)) hS (by kernel_rfl) Try.call17 #[(Pv b15), I6 ↑i] (by kernel_rfl) ((by have h := Row_any (i := i) hR2 (by omega); rw [kR15] at h; exact h : Calls Try.prog 17 _ _ fun e w' => e = .returned (.tuple #[I6 ((rws (xs.take i)) : Nat), I6 ((colAt xs i) : Nat), I6 0]) ∧ Ext [] _ w')) ?_
     rintro _ wc61 ⟨rfl, hEc61⟩
     refine ⟨_, rfl, fun a hS => ?_⟩
     have hG62 : RdV wc61 1 v n (bv xs) := hv2.ext0 hEc61
     have hG63 : RpOk wc61 b15 o15 := hR2.ext0 hEc61
     have hE64 := hE2.trans0 hEc61
     refine sg wide_wide [.p, .p, .p, .p, .p, .p, .p] [] [(0, v), (1, I6 ↑i), (5, (Pv b15)), (7, I6 ((1 + rws xs : Nat) : Int)), (9, I6 ↑k), (15, I6 (↑(rws (xs.take i)))), (16, I6 (↑(colAt xs i))), (17, I6 0)] 10 0 hS .nil fun a hS => ?_
     refine seg_end ?_
     refine hK52 _ _ ?_
     refine sq fun K65 hK65 => ?_
     refine sq fun K66 hK66 => ?_
     refine rgn 8 ?_
     refine sg wide_wide [.p, .as (.bool false), .p, .p, .p, .run (I6 ↑n), .as (.bool false), .p] [Value.bool (decide ((↑i : Int) < 0)) = .bool false, Ru Try.prog (vS (Builtin.len_ #[23] 3 #[v])) (I6 ↑n) wc61, Value.bool (decide ((↑i : Int) > ↑n)) = .bool false] [(0, v), (1, I6 ↑i), (5, (Pv b15)), (7, I6 ((1 + rws xs : Nat) : Int)), (9, I6 ↑k), (15, I6 (↑(rws (xs.take i)))), (16, I6 (↑(colAt xs i))), (17, I6 0), (113, .bool false)] 8 0 hS (.cons (as_f (by omega)) (.cons (run_len_rd (e := 5) hv (by kernel_rfl)) (.cons (as_f (by omega)) .nil))) fun a hS => ?_
     refine seg_end ?_
     refine hK66 _ _ ?_
     refine cond_f hS rfl ?_
     refine wpIn_skip ?_
     refine hK65 _ _ ?_
     refine sq fun K67 hK67 => ?_
     refine rgn 8 ?_
     refine sg wide_wide [.p, .p] [] [(0, v), (1, I6 ↑i), (5, (Pv b15)), (7, I6 ((1 + rws xs : Nat) : Int)), (9, I6 ↑k), (15, I6 (↑(rws (xs.take i)))), (16, I6 (↑(colAt xs i))), (17, I6 0), (113, .bool false), (125, (Pv b15)), (126, I6 (↑(rws (xs.take i))))] 2 6 hS .nil fun a hS => ?_
     refine eff_call wide_wide (r := 5) (f := 16) (vs := [(Pv b15), I6 (↑(rws (xs.take i)))]) (cap := #[]) (d := (some 127)) hS (by kernel_rfl) Try.call16 #[(Pv b15), I6 (↑(rws (xs.take i)))] (by kernel_rfl) ((by have h := Start_any (k := (rws (xs.take i))) hG63 (by rw [kR15]; exact hrt); rw [kR15] at h; exact h : Calls Try.prog 16 _ _ fun e w' => e = .returned (.tuple #[I6 (sof xs (rws (xs.take i)) : Nat), I6 0]) ∧ Ext [] _ w')) ?_
     rintro _ wc68 ⟨rfl, hEc68⟩
     refine ⟨_, rfl, fun a hS => ?_⟩
     have hG69 : RdV wc68 1 v n (bv xs) := hG62.ext0 hEc68
     have hG70 : RpOk wc68 b15 o15 := hG63.ext0 hEc68
     have hE71 := hE64.trans0 hEc68
     refine sg wide_wide [.p, .p, .p, .p, .p] [] [(0, v), (1, I6 ↑i), (5, (Pv b15)), (7, I6 ((1 + rws xs : Nat) : Int)), (9, I6 ↑k), (15, I6 (↑(rws (xs.take i)))), (16, I6 (↑(colAt xs i))), (17, I6 0), (113, .bool false), (18, I6 (↑(sof xs (rws (xs.take i))))), (19, I6 0)] 8 0 hS .nil fun a hS => ?_
     refine seg_end ?_
     refine hK67 _ _ ?_
     refine sq fun K72 hK72 => ?_
     refine rgn 14 ?_
     refine sg wide_wide [.p, .p, .p, .p, .p, .p, .p, .p, .p, .as (I6 ((↑(sof xs (rws (xs.take i)))) + (↑(colAt xs i)))), .p, .as (.bool true), .p, .p] [Value.int .i64 (IntKind.i64.wrap ((↑(sof xs (rws (xs.take i)))) + (↑(colAt xs i)))) = I6 ((↑(sof xs (rws (xs.take i)))) + (↑(colAt xs i))), Value.bool ((((↑(sof xs (rws (xs.take i)))) + (↑(colAt xs i)) : Int) == ↑i)) = .bool true] [(0, v), (1, I6 ↑i), (5, (Pv b15)), (7, I6 ((1 + rws xs : Nat) : Int)), (9, I6 ↑k), (15, I6 (↑(rws (xs.take i)))), (16, I6 (↑(colAt xs i))), (17, I6 0), (113, .bool false), (18, I6 (↑(sof xs (rws (xs.take i))))), (19, I6 0), (4, .bool true)] 14 0 hS (.cons (as_i64 (by omega)) (.cons (as_eq_t (by omega)) .nil)) fun a hS => ?_
     refine seg_end ?_
     refine hK72 _ _ ?_
     refine wpIn_ret ?_
     refine ret1 hS Try.results4 rfl ?_
     exact ⟨rfl, hE71⟩

end Go.Proofs.Ytkdbfjomjlhfbaa
