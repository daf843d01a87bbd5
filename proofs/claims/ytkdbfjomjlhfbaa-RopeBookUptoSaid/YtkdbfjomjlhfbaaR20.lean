import Derived.Test.YtkdbfjomjlhfbaaProg
import Derived.Test.YtkdbfjomjlhfbaaR19
namespace Go.Proofs.Ytkdbfjomjlhfbaa
open Go.Vc
set_option linter.unusedSectionVars false
variable [Inhabited Zt]

theorem rws_sof : ∀ (xs : List Int) (k : Nat), k ≤ rws xs → rws (xs.take (sof xs k)) = k
 | [], k, h => by simp at h; subst h; rfl
 | x :: xs, 0, _ => by rw [sof_0]; rfl
 | x :: xs, k + 1, h => by
  rw [rws_cons] at h
  rw [sof]
  by_cases hx : x = 10
  ·rw [if_pos hx] at h
   rw [if_pos hx, Nat.add_comm, List.take_succ_cons, rws_cons, if_pos hx, rws_sof xs k (by omega)]
  ·rw [if_neg hx] at h
   rw [if_neg hx, Nat.add_comm, List.take_succ_cons, rws_cons, if_neg hx, rws_sof xs (k + 1) (by omega)]
theorem sof_last : ∀ (xs : List Int) (k : Nat), 0 < k → k ≤ rws xs → 0 < sof xs k ∧ xs[sof xs k - 1]? = some 10
 | [], k, h, h' => by simp at h'; omega
 | x :: xs, k + 1, _, h => by
  rw [rws_cons] at h
  rw [sof]
  by_cases hx : x = 10
  ·rw [if_pos hx] at h ⊢
   by_cases hk : k = 0
   ·subst hk; rw [sof_0]; exact ⟨by omega, by simp [hx]⟩
   ·obtain ⟨h1, h2⟩ := sof_last xs k (by omega) (by omega)
    refine ⟨by omega, ?_⟩
    rw [show 1 + sof xs k - 1 = (sof xs k - 1) + 1 by omega, List.getElem?_cons_succ]; exact h2
  ·rw [if_neg hx] at h ⊢
   obtain ⟨h1, h2⟩ := sof_last xs (k + 1) (by omega) (by omega)
   refine ⟨by omega, ?_⟩
   rw [show 1 + sof xs (k + 1) - 1 = (sof xs (k + 1) - 1) + 1 by omega, List.getElem?_cons_succ]; exact h2
theorem rws_step {xs : List Int} {i : Nat} {x : Int} (h : xs[i]? = some x) : rws (xs.take (i + 1)) = rws (xs.take i) + if x = 10 then 1 else 0 := by
 rw [List.take_add_one, h, rws_app]
 congr 1
 simp only [Option.toList_some, rws_cons, rws_nil, Nat.zero_add]
theorem lent_rd {w : World} {g n : Nat} {xs : List Int} (h : OwnR w 5 1 g (n + 5) (n + 5) (bv (xs ++ marks 5))) (hl : xs.length = n) : RdV w 1 (.slice (some ⟨g, 0, none⟩) n (n + 5)) n (bv xs) :=
 .inr ⟨g, 0, n + 5, rfl, by simp [hl], by omega, fun j u hu => by
  rw [Nat.zero_add]
  refine h.cellAt j ?_
  rw [bv_app, List.getElem?_append_left (List.getElem?_eq_some_iff.1 hu).1]; exact hu⟩

theorem sof_next : ∀ (xs : List Int) (i : Nat), xs[i]? = some 10 → sof xs (rws (xs.take i) + 1) = i + 1
 | [], i, h => by simp at h
 | x :: xs, 0, h => by simp at h; subst h; simp [sof, sof_0]
 | x :: xs, i + 1, h => by
  rw [List.getElem?_cons_succ] at h
  have ih := sof_next xs i h
  rw [List.take_succ_cons, rws_cons, sof]
  by_cases hx : x = 10
  ·rw [if_pos hx, if_pos hx, ih]; omega
  ·rw [if_neg hx, if_neg hx, Nat.add_zero, ih]; omega
theorem col_step {xs : List Int} {i : Nat} {x : Int} (h : xs[i]? = some x) : colAt xs (i + 1) = if x = 10 then 0 else colAt xs i + 1 := by
 have h1 := rws_step h
 have h2 := sof_take xs i
 unfold colAt
 rw [h1]
 by_cases hx : x = 10
 ·rw [if_pos hx, if_pos hx, sof_next xs i (hx ▸ h)]; omega
 ·simp only [if_neg hx, Nat.add_zero]; omega

theorem rAt_0 {c : Nat} {v : Value} {n : Nat} {xs : List Int} {w : World} (hc : Blk w c 56 #[v]) (hv : RdV w 1 v n (bv xs)) (hn : n ≤ 16777216) {x : Int} (h : x < 0) :
  Calls Try.prog 46 #[(Pv c), I6 x] w fun e w' => e = .returned (.tuple #[.int .u8 0, .bool false]) ∧ w' = w := by
 have hl : xs.length = n := by have := hv.len; simpa using this
 refine calls_body 24 [(0, (Pv c)), (1, I6 x)] Try.func46 rfl (by kernel_rfl) (by kernel_rfl) (by kernel_rfl) fun a hS => ?_
 refine sq fun K1 hK1 => ?_
 refine rgn 2 ?_
 refine sg wide_wide [.p, .p] [] [(0, (Pv c)), (1, I6 x), (4, .int .u8 0), (5, .bool false)] 2 0 hS .nil fun a hS => ?_
 refine seg_end ?_
 refine hK1 _ _ ?_
 refine sq fun K2 hK2 => ?_
 refine sq fun K3 hK3 => ?_
 refine rgn 11 ?_
 refine sg wide_wide [.p, .as (.bool true), .p, .no, .no, .no, .no, .no, .no, .no, .p] [Value.bool (decide ((x : Int) < 0)) = .bool true] [(0, (Pv c)), (1, I6 x), (4, .int .u8 0), (5, .bool false), (16, .bool true)] 11 0 hS (.cons (as_t (by omega)) .nil) fun a hS => ?_
 refine seg_end ?_
 refine hK3 _ _ ?_
 refine cond_t hS rfl ?_
 refine sq fun K4 hK4 => ?_
 refine rgn 2 ?_
 refine sg wide_wide [.p, .p] [] [(0, (Pv c)), (1, I6 x), (4, .int .u8 0), (5, .bool false), (16, .bool true)] 2 0 hS .nil fun a hS => ?_
 refine seg_end ?_
 refine hK4 _ _ ?_
 refine wpIn_ret ?_
 refine then_ret ?_
 refine ret2 hS Try.results46 rfl rfl ?_
 exact ⟨rfl, rfl⟩

theorem rAt_1 {c : Nat} {v : Value} {n : Nat} {xs : List Int} {w : World} (hc : Blk w c 56 #[v]) (hv : RdV w 1 v n (bv xs)) (hn : n ≤ 16777216) {x : Int} (h : 0 ≤ x ∧ x ≥ (n : Int)) :
  Calls Try.prog 46 #[(Pv c), I6 x] w fun e w' => e = .returned (.tuple #[.int .u8 0, .bool false]) ∧ w' = w := by
 have hl : xs.length = n := by have := hv.len; simpa using this
 refine calls_body 24 [(0, (Pv c)), (1, I6 x)] Try.func46 rfl (by kernel_rfl) (by kernel_rfl) (by kernel_rfl) fun a hS => ?_
 refine sq fun K1 hK1 => ?_
 refine rgn 2 ?_
 refine sg wide_wide [.p, .p] [] [(0, (Pv c)), (1, I6 x), (4, .int .u8 0), (5, .bool false)] 2 0 hS .nil fun a hS => ?_
 refine seg_end ?_
 refine hK1 _ _ ?_
 refine sq fun K2 hK2 => ?_
 refine sq fun K3 hK3 => ?_
 refine rgn 11 ?_
 refine sg wide_wide [.p, .as (.bool false), .p, .p, .p, .p, .p, .ld (v), .run (I6 ↑n), .as (.bool true), .p] [Value.bool (decide ((x : Int) < 0)) = .bool false, w.cell? ⟨c, 0, none⟩ = some (v), Ru Try.prog (vS (Builtin.len_ #[23] 3 #[v])) (I6 ↑n) w, Value.bool (decide ((x : Int) ≥ ↑n)) = .bool true] [(0, (Pv c)), (1, I6 x), (4, .int .u8 0), (5, .bool false), (16, .bool true)] 11 0 hS (.cons (as_f (by omega)) (.cons (hc.cell 0 rfl) (.cons (run_len_rd (e := 5) hv (by kernel_rfl)) (.cons (as_t (by omega)) .nil)))) fun a hS => ?_
 refine seg_end ?_
 refine hK3 _ _ ?_
 refine cond_t hS rfl ?_
 refine sq fun K4 hK4 => ?_
 refine rgn 2 ?_
 refine sg wide_wide [.p, .p] [] [(0, (Pv c)), (1, I6 x), (4, .int .u8 0), (5, .bool false), (16, .bool true)] 2 0 hS .nil fun a hS => ?_
 refine seg_end ?_
 refine hK4 _ _ ?_
 refine wpIn_ret ?_
 refine then_ret ?_
 refine ret2 hS Try.results46 rfl rfl ?_
 exact ⟨rfl, rfl⟩

theorem rAt_any {c : Nat} {v : Value} {n : Nat} {xs : List Int} {w : World} (hc : Blk w c 56 #[v]) (hv : RdV w 1 v n (bv xs)) (hn : n ≤ 16777216) {i : Nat} {x : Int} (hi : i < n) (hx : xs[i]? = some x) :
  Calls Try.prog 46 #[(Pv c), I6 ↑i] w fun e w' => e = .returned (.tuple #[.int .u8 x, .bool true]) ∧ w' = w := by
 have hl : xs.length = n := by have := hv.len; simpa using this
 refine calls_body 24 [(0, (Pv c)), (1, I6 ↑i)] Try.func46 rfl (by kernel_rfl) (by kernel_rfl) (by kernel_rfl) fun a hS => ?_
 refine sq fun K1 hK1 => ?_
 refine rgn 2 ?_
 refine sg wide_wide [.p, .p] [] [(0, (Pv c)), (1, I6 ↑i), (4, .int .u8 0), (5, .bool false)] 2 0 hS .nil fun a hS => ?_
 refine seg_end ?_
 refine hK1 _ _ ?_
 refine sq fun K2 hK2 => ?_
 refine sq fun K3 hK3 => ?_
 refine rgn 11 ?_
 refine sg wide_wide [.p, .as (.bool false), .p, .p, .p, .p, .p, .ld (v), .run (I6 ↑n), .as (.bool false), .p] [Value.bool (decide ((↑i : Int) < 0)) = .bool false, w.cell? ⟨c, 0, none⟩ = some (v), Ru Try.prog (vS (Builtin.len_ #[23] 3 #[v])) (I6 ↑n) w, Value.bool (decide ((↑i : Int) ≥ ↑n)) = .bool false] [(0, (Pv c)), (1, I6 ↑i), (4, .int .u8 0), (5, .bool false), (16, .bool false)] 11 0 hS (.cons (as_f (by omega)) (.cons (hc.cell 0 rfl) (.cons (run_len_rd (e := 5) hv (by kernel_rfl)) (.cons (as_f (by omega)) .nil)))) fun a hS => ?_
 refine seg_end ?_
 refine hK3 _ _ ?_
 refine cond_f hS rfl ?_
 refine wpIn_skip ?_
 refine hK2 _ _ ?_
 refine sq fun K4 hK4 => ?_
 refine rgn 9 ?_
 refine sg wide_wide [.p, .p, .p, .ld (v), .p, .run ((Po (bof v) (oof v + i * 1))), .ld (.int .u8 x), .p, .p] [w.cell? ⟨c, 0, none⟩ = some (v), Ru Try.prog (vS (Instr.indexAt 23 (v) (I6 ↑i))) ((Po (bof v) (oof v + i * 1))) w, w.cell? ⟨bof v, oof v + i * 1, none⟩ = some (.int .u8 x)] [(0, (Pv c)), (1, I6 ↑i), (4, .int .u8 x), (5, .bool true), (16, .bool false)] 9 0 hS (.cons (hc.cell 0 rfl) (.cons (ix_rd (e := 5) (j := i) hv (by kernel_rfl) (by kernel_rfl) rfl (by omega)) (.cons (hv.cellAt (i * 1) (by omega) (by rw [Nat.mul_one]; exact bv_at hx)) .nil))) fun a hS => ?_
 refine seg_end ?_
 refine hK4 _ _ ?_
 refine wpIn_ret ?_
 refine ret2 hS Try.results46 rfl rfl ?_
 exact ⟨rfl, rfl⟩

theorem rRows_any {c : Nat} {v : Value} {n : Nat} {xs : List Int} {w : World} (hc : Blk w c 56 #[v]) (hv : RdV w 1 v n (bv xs)) (hn : n ≤ 16777216) :
  Calls Try.prog 28 #[(Pv c)] w fun e w' => e = .returned (I6 ((rws xs : Nat) + 1)) ∧ w' = w := by
 have hl : xs.length = n := by have := hv.len; simpa using this
 refine calls_body 25 [(0, (Pv c))] Try.func28 rfl (by kernel_rfl) (by kernel_rfl) (by kernel_rfl) fun a hS => ?_
 refine sq fun K1 hK1 => ?_
 refine rgn 1 ?_
 refine sg wide_wide [.p] [] [(0, (Pv c)), (2, I6 0)] 1 0 hS .nil fun a hS => ?_
 refine seg_end ?_
 refine hK1 _ _ ?_
 refine sq fun K2 hK2 => ?_
 refine rgn 1 ?_
 refine sg wide_wide [.p] [] [(0, (Pv c)), (2, I6 0), (3, I6 1)] 1 0 hS .nil fun a hS => ?_
 refine seg_end ?_
 refine hK2 _ _ ?_
 refine sq fun K3 hK3 => ?_
 refine sq fun K4 hK4 => ?_
 refine rgn 1 ?_
 refine sg wide_wide [.p] [] [(0, (Pv c)), (2, I6 0), (3, I6 1), (4, I6 0)] 1 0 hS .nil fun a hS => ?_
 refine seg_end ?_
 refine hK4 _ _ ?_
 refine wpIn_block ?_
 refine loop_ghost (fun ((i, r) : Nat × Nat) a' w' => St 25 [] [(0, (Pv c)), (3, I6 (↑r + 1)), (4, I6 ↑i)] a' ∧ i ≤ n ∧ r = rws (xs.take i) ∧ w' = w) (fun ((i, r) : Nat × Nat) => n - i) (0, 0) ⟨hS.keepTo [0, 3, 4] (by kernel_rfl), Nat.zero_le _, rfl, rfl⟩ ?_
 rintro ⟨i, r⟩ a w1 ⟨hS, hin, hr, hw1⟩
 replace hw1 := hw1.symm
 subst hw1
 refine sq fun K5 hK5 => ?_
 refine sq fun K6 hK6 => ?_
 refine rgn 7 ?_
 refine sg wide_wide [.p, .p, .p, .p, .ld (v), .run (I6 ↑n), .p] [w.cell? ⟨c, 0, none⟩ = some (v), Ru Try.prog (vS (Builtin.len_ #[23] 3 #[v])) (I6 ↑n) w] [(0, (Pv c)), (3, I6 (↑r + 1)), (4, I6 ↑i), (11, .bool (decide ((↑i : Int) < ↑n)))] 7 0 hS (.cons (hc.cell 0 rfl) (.cons (run_len_rd (e := 5) hv (by kernel_rfl)) .nil)) fun a hS => ?_
 refine seg_end ?_
 refine hK6 _ _ ?_
 refine cond_b hS rfl (fun hb7 => ?_) (fun hb7 => ?_)
 ·
  replace hb7 := of_decide_eq_true hb7
  have hi : i < n := by omega
  obtain ⟨x, hx⟩ : ∃ x, xs[i]? = some x := ⟨_, List.getElem?_eq_getElem (by omega)⟩
  have hst := rws_step hx
  have hrb := rws_le (xs.take i)
  rw [List.length_take] at hrb
  refine wpIn_skip ?_
  refine hK5 _ _ ?_
  refine sq fun K8 hK8 => ?_
  refine wpIn_block ?_
  refine sq fun K9 hK9 => ?_
  refine rgn 8 ?_
  refine sg wide_wide [.p, .p, .p, .ld (v), .p, .run ((Po (bof v) (oof v + i * 1))), .ld (.int .u8 x), .p] [w.cell? ⟨c, 0, none⟩ = some (v), Ru Try.prog (vS (Instr.indexAt 23 (v) (I6 ↑i))) ((Po (bof v) (oof v + i * 1))) w, w.cell? ⟨bof v, oof v + i * 1, none⟩ = some (.int .u8 x)] [(0, (Pv c)), (3, I6 (↑r + 1)), (4, I6 ↑i), (21, .bool ((x : Int) == 10))] 8 0 hS (.cons (hc.cell 0 rfl) (.cons (ix_rd (e := 5) (j := i) hv (by kernel_rfl) (by kernel_rfl) rfl (by omega)) (.cons (hv.cellAt (i * 1) (by omega) (by rw [Nat.mul_one]; exact bv_at hx)) .nil))) fun a hS => ?_
  refine seg_end ?_
  refine hK9 _ _ ?_
  refine cond_b hS rfl (fun hb10 => ?_) (fun hb10 => ?_)
  ·
   replace hb10 := test_eq_t hb10
   rw [if_pos (by omega)] at hst
   refine rgn 3 ?_
   refine sg wide_wide [.p, .as (I6 (((r + 1 : Nat) : Int) + 1)), .p] [Value.int .i64 (IntKind.i64.wrap ((↑r + 1) + 1)) = I6 (((r + 1 : Nat) : Int) + 1)] [(0, (Pv c)), (3, I6 (((r + 1 : Nat) : Int) + 1)), (4, I6 ↑i)] 3 0 hS (.cons ((by rw [show ((↑r + 1) + 1 : Int) = ((r + 1 : Nat) : Int) + 1 from by omega]; exact as_i64 (by omega))) .nil) fun a hS => ?_
   refine seg_end ?_
   refine inBlock_normal ?_
   refine hK8 _ _ ?_
   refine rgn 3 ?_
   refine sg wide_wide [.p, .as (I6 ((i + 1 : Nat) : Int)), .p] [Value.int .i64 (IntKind.i64.wrap (↑i + 1)) = I6 ((i + 1 : Nat) : Int)] [(0, (Pv c)), (3, I6 (((r + 1 : Nat) : Int) + 1)), (4, I6 ((i + 1 : Nat) : Int))] 3 0 hS (.cons ((by rw [show (↑i + 1 : Int) = ((i + 1 : Nat) : Int) from by omega]; exact as_i64 (by omega))) .nil) fun a hS => ?_
   refine seg_end ?_
   exact ⟨(i + 1, r + 1), ⟨hS.kp [(0, (Pv c)), (3, I6 (((r + 1 : Nat) : Int) + 1)), (4, I6 ((i + 1 : Nat) : Int))], by omega, by omega, rfl⟩, by simp only; omega⟩
  ·
   replace hb10 := test_eq_f hb10
   rw [if_neg (by omega)] at hst
   refine wpIn_skip ?_
   refine inBlock_normal ?_
   refine hK8 _ _ ?_
   refine rgn 3 ?_
   refine sg wide_wide [.p, .as (I6 ((i + 1 : Nat) : Int)), .p] [Value.int .i64 (IntKind.i64.wrap (↑i + 1)) = I6 ((i + 1 : Nat) : Int)] [(0, (Pv c)), (3, I6 (↑r + 1)), (4, I6 ((i + 1 : Nat) : Int))] 3 0 hS (.cons ((by rw [show (↑i + 1 : Int) = ((i + 1 : Nat) : Int) from by omega]; exact as_i64 (by omega))) .nil) fun a hS => ?_
   refine seg_end ?_
   exact ⟨(i + 1, r), ⟨hS.kp [(0, (Pv c)), (3, I6 (↑r + 1)), (4, I6 ((i + 1 : Nat) : Int))], by omega, by omega, rfl⟩, by simp only; omega⟩
 ·
  replace hb7 := of_decide_eq_false hb7
  obtain rfl : i = n := by omega
  rw [List.take_of_length_le (by omega)] at hr
  refine wpIn_exit ?_
  refine then_exit ?_
  refine then_exit ?_
  refine inBlock_hit ?_
  refine hK3 _ _ ?_
  refine sq fun K11 hK11 => ?_
  refine rgn 2 ?_
  refine sg wide_wide [.p, .p] [] [(0, (Pv c)), (3, I6 (↑r + 1)), (4, I6 ↑i), (2, I6 (↑r + 1))] 2 0 hS .nil fun a hS => ?_
  refine seg_end ?_
  refine hK11 _ _ ?_
  refine wpIn_ret ?_
  refine ret1 hS Try.results28 rfl ?_
  exact ⟨by rw [hr], rfl⟩

theorem rRow_0 {c : Nat} {v : Value} {n : Nat} {xs : List Int} {w : World} (hc : Blk w c 56 #[v]) (hv : RdV w 1 v n (bv xs)) (hn : n ≤ 16777216) {x : Int} (h : x < 0) :
  Calls Try.prog 47 #[(Pv c), I6 x] w fun e w' => e = .returned (.tuple #[I6 0, I6 0, I6 3]) ∧ w' = w := by
 have hl : xs.length = n := by have := hv.len; simpa using this
 refine calls_body 40 [(0, (Pv c)), (1, I6 x)] Try.func47 rfl (by kernel_rfl) (by kernel_rfl) (by kernel_rfl) fun a hS => ?_
 refine sq fun K1 hK1 => ?_
 refine rgn 3 ?_
 refine sg wide_wide [.p, .p, .p] [] [(0, (Pv c)), (1, I6 x), (4, I6 0), (5, I6 0), (6, I6 0)] 3 0 hS .nil fun a hS => ?_
 refine seg_end ?_
 refine hK1 _ _ ?_
 refine sq fun K2 hK2 => ?_
 refine sq fun K3 hK3 => ?_
 refine rgn 11 ?_
 refine sg wide_wide [.p, .as (.bool true), .p, .no, .no, .no, .no, .no, .no, .no, .p] [Value.bool (decide ((x : Int) < 0)) = .bool true] [(0, (Pv c)), (1, I6 x), (4, I6 0), (5, I6 0), (6, I6 0), (20, .bool true)] 11 0 hS (.cons (as_t (by omega)) .nil) fun a hS => ?_
 refine seg_end ?_
 refine hK3 _ _ ?_
 refine cond_t hS rfl ?_
 refine sq fun K4 hK4 => ?_
 refine rgn 3 ?_
 refine sg wide_wide [.p, .p, .p] [] [(0, (Pv c)), (1, I6 x), (4, I6 0), (5, I6 0), (6, I6 3), (20, .bool true)] 3 0 hS .nil fun a hS => ?_
 refine seg_end ?_
 refine hK4 _ _ ?_
 refine wpIn_ret ?_
 refine then_ret ?_
 refine ret3 hS Try.results47 rfl rfl rfl ?_
 exact ⟨rfl, rfl⟩

theorem rRow_1 {c : Nat} {v : Value} {n : Nat} {xs : List Int} {w : World} (hc : Blk w c 56 #[v]) (hv : RdV w 1 v n (bv xs)) (hn : n ≤ 16777216) {x : Int} (h : 0 ≤ x ∧ x > (n : Int)) :
  Calls Try.prog 47 #[(Pv c), I6 x] w fun e w' => e = .returned (.tuple #[I6 0, I6 0, I6 3]) ∧ w' = w := by
 have hl : xs.length = n := by have := hv.len; simpa using this
 refine calls_body 40 [(0, (Pv c)), (1, I6 x)] Try.func47 rfl (by kernel_rfl) (by kernel_rfl) (by kernel_rfl) fun a hS => ?_
 refine sq fun K1 hK1 => ?_
 refine rgn 3 ?_
 refine sg wide_wide [.p, .p, .p] [] [(0, (Pv c)), (1, I6 x), (4, I6 0), (5, I6 0), (6, I6 0)] 3 0 hS .nil fun a hS => ?_
 refine seg_end ?_
 refine hK1 _ _ ?_
 refine sq fun K2 hK2 => ?_
 refine sq fun K3 hK3 => ?_
 refine rgn 11 ?_
 refine sg wide_wide [.p, .as (.bool false), .p, .p, .p, .p, .p, .ld (v), .run (I6 ↑n), .as (.bool true), .p] [Value.bool (decide ((x : Int) < 0)) = .bool false, w.cell? ⟨c, 0, none⟩ = some (v), Ru Try.prog (vS (Builtin.len_ #[23] 3 #[v])) (I6 ↑n) w, Value.bool (decide ((x : Int) > ↑n)) = .bool true] [(0, (Pv c)), (1, I6 x), (4, I6 0), (5, I6 0), (6, I6 0), (20, .bool true)] 11 0 hS (.cons (as_f (by omega)) (.cons (hc.cell 0 rfl) (.cons (run_len_rd (e := 5) hv (by kernel_rfl)) (.cons (as_t (by omega)) .nil)))) fun a hS => ?_
 refine seg_end ?_
 refine hK3 _ _ ?_
 refine cond_t hS rfl ?_
 refine sq fun K4 hK4 => ?_
 refine rgn 3 ?_
 refine sg wide_wide [.p, .p, .p] [] [(0, (Pv c)), (1, I6 x), (4, I6 0), (5, I6 0), (6, I6 3), (20, .bool true)] 3 0 hS .nil fun a hS => ?_
 refine seg_end ?_
 refine hK4 _ _ ?_
 refine wpIn_ret ?_
 refine then_ret ?_
 refine ret3 hS Try.results47 rfl rfl rfl ?_
 exact ⟨rfl, rfl⟩

theorem rRow_any {c : Nat} {v : Value} {n : Nat} {xs : List Int} {w : World} (hc : Blk w c 56 #[v]) (hv : RdV w 1 v n (bv xs)) (hn : n ≤ 16777216) {k : Nat} (h : k ≤ n) :
  Calls Try.prog 47 #[(Pv c), I6 ↑k] w fun e w' => e = .returned (.tuple #[I6 (rws (xs.take k) : Nat), I6 (colAt xs k : Nat), I6 0]) ∧ w' = w := by
 have hl : xs.length = n := by have := hv.len; simpa using this
 refine calls_body 40 [(0, (Pv c)), (1, I6 ↑k)] Try.func47 rfl (by kernel_rfl) (by kernel_rfl) (by kernel_rfl) fun a hS => ?_
 refine sq fun K1 hK1 => ?_
 refine rgn 3 ?_
 refine sg wide_wide [.p, .p, .p] [] [(0, (Pv c)), (1, I6 ↑k), (4, I6 0), (5, I6 0), (6, I6 0)] 3 0 hS .nil fun a hS => ?_
 refine seg_end ?_
 refine hK1 _ _ ?_
 refine sq fun K2 hK2 => ?_
 refine sq fun K3 hK3 => ?_
 refine rgn 11 ?_
 refine sg wide_wide [.p, .as (.bool false), .p, .p, .p, .p, .p, .ld (v), .run (I6 ↑n), .as (.bool false), .p] [Value.bool (decide ((↑k : Int) < 0)) = .bool false, w.cell? ⟨c, 0, none⟩ = some (v), Ru Try.prog (vS (Builtin.len_ #[23] 3 #[v])) (I6 ↑n) w, Value.bool (decide ((↑k : Int) > ↑n)) = .bool false] [(0, (Pv c)), (1, I6 ↑k), (4, I6 0), (5, I6 0), (6, I6 0), (20, .bool false)] 11 0 hS (.cons (as_f (by omega)) (.cons (hc.cell 0 rfl) (.cons (run_len_rd (e := 5) hv (by kernel_rfl)) (.cons (as_f (by omega)) .nil)))) fun a hS => ?_
 refine seg_end ?_
 refine hK3 _ _ ?_
 refine cond_f hS rfl ?_
 refine wpIn_skip ?_
 refine hK2 _ _ ?_
 refine sq fun K4 hK4 => ?_
 refine rgn 1 ?_
 refine sg wide_wide [.p] [] [(0, (Pv c)), (1, I6 ↑k), (4, I6 0), (5, I6 0), (6, I6 0), (20, .bool false), (7, I6 0)] 1 0 hS .nil fun a hS => ?_
 refine seg_end ?_
 refine hK4 _ _ ?_
 refine sq fun K5 hK5 => ?_
 refine rgn 1 ?_
 refine sg wide_wide [.p] [] [(0, (Pv c)), (1, I6 ↑k), (4, I6 0), (5, I6 0), (6, I6 0), (20, .bool false), (7, I6 0), (8, I6 0)] 1 0 hS .nil fun a hS => ?_
 refine seg_end ?_
 refine hK5 _ _ ?_
 refine sq fun K6 hK6 => ?_
 refine sq fun K7 hK7 => ?_
 refine rgn 1 ?_
 refine sg wide_wide [.p] [] [(0, (Pv c)), (1, I6 ↑k), (4, I6 0), (5, I6 0), (6, I6 0), (20, .bool false), (7, I6 0), (8, I6 0), (9, I6 0)] 1 0 hS .nil fun a hS => ?_
 refine seg_end ?_
 refine hK7 _ _ ?_
 refine wpIn_block ?_
 refine loop_ghost (fun ((i, r, q) : Nat × Nat × Nat) a' w' => St 40 [] [(0, (Pv c)), (1, I6 ↑k), (7, I6 ↑r), (8, I6 ↑q), (9, I6 ↑i)] a' ∧ i ≤ k ∧ r = rws (xs.take i) ∧ q = colAt xs i ∧ w' = w) (fun ((i, r, q) : Nat × Nat × Nat) => k - i) (0, 0, 0) ⟨hS.keepTo [0, 1, 7, 8, 9] (by kernel_rfl), Nat.zero_le _, rfl, (by simp [colAt]), rfl⟩ ?_
 rintro ⟨i, r, q⟩ a w1 ⟨hS, hin, hr, hq, hw1⟩
 replace hw1 := hw1.symm
 subst hw1
 have hqb : q ≤ i := by rw [hq, colAt]; omega
 refine sq fun K8 hK8 => ?_
 refine sq fun K9 hK9 => ?_
 refine rgn 3 ?_
 refine sg wide_wide [.p, .p, .p] [] [(0, (Pv c)), (1, I6 ↑k), (7, I6 ↑r), (8, I6 ↑q), (9, I6 ↑i), (23, .bool (decide ((↑i : Int) < ↑k)))] 3 0 hS .nil fun a hS => ?_
 refine seg_end ?_
 refine hK9 _ _ ?_
 refine cond_b hS rfl (fun hb10 => ?_) (fun hb10 => ?_)
 ·
  replace hb10 := of_decide_eq_true hb10
  have hi : i < n := by omega
  obtain ⟨x, hx⟩ : ∃ x, xs[i]? = some x := ⟨_, List.getElem?_eq_getElem (by omega)⟩
  have hst := rws_step hx
  have hct := col_step hx
  have hrb := rws_le (xs.take i)
  rw [List.length_take] at hrb
  refine wpIn_skip ?_
  refine hK8 _ _ ?_
  refine sq fun K11 hK11 => ?_
  refine wpIn_block ?_
  refine sq fun K12 hK12 => ?_
  refine rgn 3 ?_
  refine sg wide_wide [.p, .as (I6 ((q + 1 : Nat) : Int)), .p] [Value.int .i64 (IntKind.i64.wrap (↑q + 1)) = I6 ((q + 1 : Nat) : Int)] [(0, (Pv c)), (1, I6 ↑k), (7, I6 ↑r), (8, I6 ((q + 1 : Nat) : Int)), (9, I6 ↑i)] 3 0 hS (.cons ((by rw [show (↑q + 1 : Int) = ((q + 1 : Nat) : Int) from by omega]; exact as_i64 (by omega))) .nil) fun a hS => ?_
  refine seg_end ?_
  refine hK12 _ _ ?_
  refine sq fun K13 hK13 => ?_
  refine rgn 8 ?_
  refine sg wide_wide [.p, .p, .p, .ld (v), .p, .run ((Po (bof v) (oof v + i * 1))), .ld (.int .u8 x), .p] [w.cell? ⟨c, 0, none⟩ = some (v), Ru Try.prog (vS (Instr.indexAt 23 (v) (I6 ↑i))) ((Po (bof v) (oof v + i * 1))) w, w.cell? ⟨bof v, oof v + i * 1, none⟩ = some (.int .u8 x)] [(0, (Pv c)), (1, I6 ↑k), (7, I6 ↑r), (8, I6 ((q + 1 : Nat) : Int)), (9, I6 ↑i), (35, .bool ((x : Int) == 10))] 8 0 hS (.cons (hc.cell 0 rfl) (.cons (ix_rd (e := 5) (j := i) hv (by kernel_rfl) (by kernel_rfl) rfl (by omega)) (.cons (hv.cellAt (i * 1) (by omega) (by rw [Nat.mul_one]; exact bv_at hx)) .nil))) fun a hS => ?_
  refine seg_end ?_
  refine hK13 _ _ ?_
  refine cond_b hS rfl (fun hb14 => ?_) (fun hb14 => ?_)
  ·
   replace hb14 := test_eq_t hb14
   rw [if_pos (by omega)] at hst
   rw [if_pos (by omega)] at hct
   refine sq fun K15 hK15 => ?_
   refine rgn 3 ?_
   refine sg wide_wide [.p, .as (I6 ((r + 1 : Nat) : Int)), .p] [Value.int .i64 (IntKind.i64.wrap (↑r + 1)) = I6 ((r + 1 : Nat) : Int)] [(0, (Pv c)), (1, I6 ↑k), (7, I6 ((r + 1 : Nat) : Int)), (8, I6 ((q + 1 : Nat) : Int)), (9, I6 ↑i)] 3 0 hS (.cons ((by rw [show (↑r + 1 : Int) = ((r + 1 : Nat) : Int) from by omega]; exact as_i64 (by omega))) .nil) fun a hS => ?_
   refine seg_end ?_
   refine hK15 _ _ ?_
   refine rgn 1 ?_
   refine sg wide_wide [.p] [] [(0, (Pv c)), (1, I6 ↑k), (7, I6 ((r + 1 : Nat) : Int)), (8, I6 0), (9, I6 ↑i)] 1 0 hS .nil fun a hS => ?_
   refine seg_end ?_
   refine inBlock_normal ?_
   refine hK11 _ _ ?_
   refine rgn 3 ?_
   refine sg wide_wide [.p, .as (I6 ((i + 1 : Nat) : Int)), .p] [Value.int .i64 (IntKind.i64.wrap (↑i + 1)) = I6 ((i + 1 : Nat) : Int)] [(0, (Pv c)), (1, I6 ↑k), (7, I6 ((r + 1 : Nat) : Int)), (8, I6 0), (9, I6 ((i + 1 : Nat) : Int))] 3 0 hS (.cons ((by rw [show (↑i + 1 : Int) = ((i + 1 : Nat) : Int) from by omega]; exact as_i64 (by omega))) .nil) fun a hS => ?_
   refine seg_end ?_
   exact ⟨(i + 1, r + 1, 0), ⟨hS.kp [(0, (Pv c)), (1, I6 ↑k), (7, I6 ((r + 1 : Nat) : Int)), (8, I6 ((0 : Nat) : Int)), (9, I6 ((i + 1 : Nat) : Int))], by omega, by omega, by omega, rfl⟩, by simp only; omega⟩
  ·
   replace hb14 := test_eq_f hb14
   rw [if_neg (by omega)] at hst
   rw [if_neg (by omega)] at hct
   refine wpIn_skip ?_
   refine inBlock_normal ?_
   refine hK11 _ _ ?_
   refine rgn 3 ?_
   refine sg wide_wide [.p, .as (I6 ((i + 1 : Nat) : Int)), .p] [Value.int .i64 (IntKind.i64.wrap (↑i + 1)) = I6 ((i + 1 : Nat) : Int)] [(0, (Pv c)), (1, I6 ↑k), (7, I6 ↑r), (8, I6 ((q + 1 : Nat) : Int)), (9, I6 ((i + 1 : Nat) : Int))] 3 0 hS (.cons ((by rw [show (↑i + 1 : Int) = ((i + 1 : Nat) : Int) from by omega]; exact as_i64 (by omega))) .nil) fun a hS => ?_
   refine seg_end ?_
   exact ⟨(i + 1, r, q + 1), ⟨hS.kp [(0, (Pv c)), (1, I6 ↑k), (7, I6 ↑r), (8, I6 ((q + 1 : Nat) : Int)), (9, I6 ((i + 1 : Nat) : Int))], by omega, by omega, by omega, rfl⟩, by simp only; omega⟩
 ·
  replace hb10 := of_decide_eq_false hb10
  have hik : i = k := by omega
  rw [hik] at hr hq
  refine wpIn_exit ?_
  refine then_exit ?_
  refine then_exit ?_
  refine inBlock_hit ?_
  refine hK6 _ _ ?_
  refine sq fun K16 hK16 => ?_
  refine rgn 5 ?_
  refine sg wide_wide [.p, .p, .p, .p, .p] [] [(0, (Pv c)), (1, I6 ↑k), (7, I6 ↑r), (8, I6 ↑q), (9, I6 ↑i), (4, I6 ↑r), (5, I6 ↑q), (6, I6 0)] 5 0 hS .nil fun a hS => ?_
  refine seg_end ?_
  refine hK16 _ _ ?_
  refine wpIn_ret ?_
  refine ret3 hS Try.results47 rfl rfl rfl ?_
  exact ⟨by rw [hr, hq], rfl⟩

theorem rStart_0 {c : Nat} {v : Value} {n : Nat} {xs : List Int} {w : World} (hc : Blk w c 56 #[v]) (hv : RdV w 1 v n (bv xs)) (hn : n ≤ 16777216) {x : Int} (h : x < 0) :
  Calls Try.prog 29 #[(Pv c), I6 x] w fun e w' => e = .returned (.tuple #[I6 0, I6 3]) ∧ w' = w := by
 have hl : xs.length = n := by have := hv.len; simpa using this
 refine calls_body 38 [(0, (Pv c)), (1, I6 x)] Try.func29 rfl (by kernel_rfl) (by kernel_rfl) (by kernel_rfl) fun a hS => ?_
 refine sq fun K1 hK1 => ?_
 refine rgn 2 ?_
 refine sg wide_wide [.p, .p] [] [(0, (Pv c)), (1, I6 x), (4, I6 0), (5, I6 0)] 2 0 hS .nil fun a hS => ?_
 refine seg_end ?_
 refine hK1 _ _ ?_
 refine sq fun K2 hK2 => ?_
 refine sq fun K3 hK3 => ?_
 refine rgn 2 ?_
 refine sg wide_wide [.p, .as (.bool true)] [Value.bool (decide ((x : Int) < 0)) = .bool true] [(0, (Pv c)), (1, I6 x), (4, I6 0), (5, I6 0), (9, .bool true)] 2 0 hS (.cons (as_t (by omega)) .nil) fun a hS => ?_
 refine seg_end ?_
 refine hK3 _ _ ?_
 refine cond_t hS rfl ?_
 refine sq fun K4 hK4 => ?_
 refine rgn 2 ?_
 refine sg wide_wide [.p, .p] [] [(0, (Pv c)), (1, I6 x), (4, I6 0), (5, I6 3), (9, .bool true)] 2 0 hS .nil fun a hS => ?_
 refine seg_end ?_
 refine hK4 _ _ ?_
 refine wpIn_ret ?_
 refine then_ret ?_
 refine ret2 hS Try.results29 rfl rfl ?_
 exact ⟨rfl, rfl⟩

theorem rStart_any {c : Nat} {v : Value} {n : Nat} {xs : List Int} {w : World} (hc : Blk w c 56 #[v]) (hv : RdV w 1 v n (bv xs)) (hn : n ≤ 16777216) {k : Nat} (hk : k ≤ 9223372036854775807) :
  Calls Try.prog 29 #[(Pv c), I6 ↑k] w fun e w' => e = .returned (.tuple #[I6 ((if k ≤ rws xs then sof xs k else 0) : Nat), I6 (if k ≤ rws xs then 0 else 3)]) ∧ w' = w := by
 have hl : xs.length = n := by have := hv.len; simpa using this
 refine calls_body 38 [(0, (Pv c)), (1, I6 ↑k)] Try.func29 rfl (by kernel_rfl) (by kernel_rfl) (by kernel_rfl) fun a hS => ?_
 refine sq fun K1 hK1 => ?_
 refine rgn 2 ?_
 refine sg wide_wide [.p, .p] [] [(0, (Pv c)), (1, I6 ↑k), (4, I6 0), (5, I6 0)] 2 0 hS .nil fun a hS => ?_
 refine seg_end ?_
 refine hK1 _ _ ?_
 refine sq fun K2 hK2 => ?_
 refine sq fun K3 hK3 => ?_
 refine rgn 2 ?_
 refine sg wide_wide [.p, .as (.bool false)] [Value.bool (decide ((↑k : Int) < 0)) = .bool false] [(0, (Pv c)), (1, I6 ↑k), (4, I6 0), (5, I6 0), (9, .bool false)] 2 0 hS (.cons (as_f (by omega)) .nil) fun a hS => ?_
 refine seg_end ?_
 refine hK3 _ _ ?_
 refine cond_f hS rfl ?_
 refine wpIn_skip ?_
 refine hK2 _ _ ?_
 refine sq fun K4 hK4 => ?_
 refine rgn 1 ?_
 refine sg wide_wide [.p] [] [(0, (Pv c)), (1, I6 ↑k), (4, I6 0), (5, I6 0), (9, .bool false), (6, I6 0)] 1 0 hS .nil fun a hS => ?_
 refine seg_end ?_
 refine hK4 _ _ ?_
 refine sq fun K5 hK5 => ?_
 refine sq fun K6 hK6 => ?_
 refine rgn 1 ?_
 refine sg wide_wide [.p] [] [(0, (Pv c)), (1, I6 ↑k), (4, I6 0), (5, I6 0), (9, .bool false), (6, I6 0), (7, I6 0)] 1 0 hS .nil fun a hS => ?_
 refine seg_end ?_
 refine hK6 _ _ ?_
 refine wpIn_block ?_
 refine loop_ghost (fun ((i, q, p) : Nat × Nat × Nat) a' w' => St 38 [] [(0, (Pv c)), (1, I6 ↑q), (6, I6 ↑p), (7, I6 ↑i)] a' ∧ i ≤ n ∧ q + rws (xs.take i) = k ∧ p = sof xs (rws (xs.take i)) ∧ w' = w) (fun ((i, q, p) : Nat × Nat × Nat) => n - i) (0, k, 0) ⟨hS.keepTo [0, 1, 6, 7] (by kernel_rfl), Nat.zero_le _, (by simp), (by simp [sof_0]), rfl⟩ ?_
 rintro ⟨i, q, p⟩ a w1 ⟨hS, hin, hqk, hp, hw1⟩
 replace hw1 := hw1.symm
 subst hw1
 have hrt := rws_take_le xs i
 refine sq fun K7 hK7 => ?_
 refine sq fun K8 hK8 => ?_
 rcases (show (i = n ∧ q > 0) ∨ (i < n ∧ q > 0) ∨ (q = 0 ∧ i = n) ∨ (q = 0 ∧ i < n) by omega) with ⟨hi, hq⟩ | ⟨hi, hq⟩ | ⟨hq, hi⟩ | ⟨hq, hi⟩
 ·
  have hno : ¬k ≤ rws xs := by rw [hi, List.take_of_length_le (by omega)] at hqk; omega
  refine rgn 11 ?_
  refine sg wide_wide [.p, .p, .p, .p, .ld (v), .run (I6 ↑n), .as (.bool false), .p, .no, .no, .p] [w.cell? ⟨c, 0, none⟩ = some (v), Ru Try.prog (vS (Builtin.len_ #[23] 3 #[v])) (I6 ↑n) w, Value.bool (decide ((↑i : Int) < ↑n)) = .bool false] [(0, (Pv c)), (1, I6 ↑q), (6, I6 ↑p), (7, I6 ↑i), (20, .bool false)] 11 0 hS (.cons (hc.cell 0 rfl) (.cons (run_len_rd (e := 5) hv (by kernel_rfl)) (.cons (as_f (by omega)) .nil))) fun a hS => ?_
  refine seg_end ?_
  refine hK8 _ _ ?_
  refine cond_f hS rfl ?_
  refine wpIn_exit ?_
  refine then_exit ?_
  refine then_exit ?_
  refine inBlock_hit ?_
  refine hK5 _ _ ?_
  refine sq fun K9 hK9 => ?_
  refine sq fun K10 hK10 => ?_
  refine rgn 2 ?_
  refine sg wide_wide [.p, .as (.bool true)] [Value.bool (decide ((↑q : Int) > 0)) = .bool true] [(0, (Pv c)), (1, I6 ↑q), (6, I6 ↑p), (7, I6 ↑i), (20, .bool false), (36, .bool true)] 2 0 hS (.cons (as_t (by omega)) .nil) fun a hS => ?_
  refine seg_end ?_
  refine hK10 _ _ ?_
  refine cond_t hS rfl ?_
  refine sq fun K11 hK11 => ?_
  refine rgn 2 ?_
  refine sg wide_wide [.p, .p] [] [(0, (Pv c)), (1, I6 ↑q), (6, I6 ↑p), (7, I6 ↑i), (20, .bool false), (36, .bool true), (4, I6 0), (5, I6 3)] 2 0 hS .nil fun a hS => ?_
  refine seg_end ?_
  refine hK11 _ _ ?_
  refine wpIn_ret ?_
  refine then_ret ?_
  refine ret2 hS Try.results29 rfl rfl ?_
  exact ⟨by rw [if_neg hno, if_neg hno]; rfl, rfl⟩
 ·
  obtain ⟨x, hx⟩ : ∃ x, xs[i]? = some x := ⟨_, List.getElem?_eq_getElem (by omega)⟩
  have hst := rws_step hx
  refine rgn 11 ?_
  refine sg wide_wide [.p, .p, .p, .p, .ld (v), .run (I6 ↑n), .as (.bool true), .p, .p, .as (.bool true), .p] [w.cell? ⟨c, 0, none⟩ = some (v), Ru Try.prog (vS (Builtin.len_ #[23] 3 #[v])) (I6 ↑n) w, Value.bool (decide ((↑i : Int) < ↑n)) = .bool true, Value.bool (decide ((↑q : Int) > 0)) = .bool true] [(0, (Pv c)), (1, I6 ↑q), (6, I6 ↑p), (7, I6 ↑i), (20, .bool true)] 11 0 hS (.cons (hc.cell 0 rfl) (.cons (run_len_rd (e := 5) hv (by kernel_rfl)) (.cons (as_t (by omega)) (.cons (as_t (by omega)) .nil)))) fun a hS => ?_
  refine seg_end ?_
  refine hK8 _ _ ?_
  refine cond_t hS rfl ?_
  refine wpIn_skip ?_
  refine hK7 _ _ ?_
  refine sq fun K12 hK12 => ?_
  refine wpIn_block ?_
  refine sq fun K13 hK13 => ?_
  refine rgn 8 ?_
  refine sg wide_wide [.p, .p, .p, .ld (v), .p, .run ((Po (bof v) (oof v + i * 1))), .ld (.int .u8 x), .p] [w.cell? ⟨c, 0, none⟩ = some (v), Ru Try.prog (vS (Instr.indexAt 23 (v) (I6 ↑i))) ((Po (bof v) (oof v + i * 1))) w, w.cell? ⟨bof v, oof v + i * 1, none⟩ = some (.int .u8 x)] [(0, (Pv c)), (1, I6 ↑q), (6, I6 ↑p), (7, I6 ↑i), (20, .bool true), (30, .bool ((x : Int) == 10))] 8 0 hS (.cons (hc.cell 0 rfl) (.cons (ix_rd (e := 5) (j := i) hv (by kernel_rfl) (by kernel_rfl) rfl (by omega)) (.cons (hv.cellAt (i * 1) (by omega) (by rw [Nat.mul_one]; exact bv_at hx)) .nil))) fun a hS => ?_
  refine seg_end ?_
  refine hK13 _ _ ?_
  refine cond_b hS rfl (fun hb14 => ?_) (fun hb14 => ?_)
  ·
   replace hb14 := test_eq_t hb14
   rw [if_pos (by omega)] at hst
   have hsn := sof_next xs i (by rw [hx]; congr 1)
   obtain ⟨j, rfl⟩ : ∃ j, q = j + 1 := ⟨q - 1, by omega⟩
   refine sq fun K15 hK15 => ?_
   refine rgn 3 ?_
   refine sg wide_wide [.p, .as (I6 ↑j), .p] [Value.int .i64 (IntKind.i64.wrap ((↑(j + 1)) - 1)) = I6 ↑j] [(0, (Pv c)), (1, I6 ↑j), (6, I6 ↑p), (7, I6 ↑i), (20, .bool true)] 3 0 hS (.cons ((by rw [show ((↑(j + 1)) - 1 : Int) = ↑j from by omega]; exact as_i64 (by omega))) .nil) fun a hS => ?_
   refine seg_end ?_
   refine hK15 _ _ ?_
   refine rgn 3 ?_
   refine sg wide_wide [.p, .as (I6 ((i + 1 : Nat) : Int)), .p] [Value.int .i64 (IntKind.i64.wrap (↑i + 1)) = I6 ((i + 1 : Nat) : Int)] [(0, (Pv c)), (1, I6 ↑j), (6, I6 ((i + 1 : Nat) : Int)), (7, I6 ↑i), (20, .bool true)] 3 0 hS (.cons ((by rw [show (↑i + 1 : Int) = ((i + 1 : Nat) : Int) from by omega]; exact as_i64 (by omega))) .nil) fun a hS => ?_
   refine seg_end ?_
   refine inBlock_normal ?_
   refine hK12 _ _ ?_
   refine rgn 3 ?_
   refine sg wide_wide [.p, .as (I6 ((i + 1 : Nat) : Int)), .p] [Value.int .i64 (IntKind.i64.wrap (↑i + 1)) = I6 ((i + 1 : Nat) : Int)] [(0, (Pv c)), (1, I6 ↑j), (6, I6 ((i + 1 : Nat) : Int)), (7, I6 ((i + 1 : Nat) : Int)), (20, .bool true)] 3 0 hS (.cons ((by rw [show (↑i + 1 : Int) = ((i + 1 : Nat) : Int) from by omega]; exact as_i64 (by omega))) .nil) fun a hS => ?_
   refine seg_end ?_
   exact ⟨(i + 1, j, i + 1), ⟨hS.kp [(0, (Pv c)), (1, I6 ↑j), (6, I6 ((i + 1 : Nat) : Int)), (7, I6 ((i + 1 : Nat) : Int))], by omega, by omega, by rw [hst, hsn], rfl⟩, by simp only; omega⟩
  ·
   replace hb14 := test_eq_f hb14
   rw [if_neg (by omega)] at hst
   refine wpIn_skip ?_
   refine inBlock_normal ?_
   refine hK12 _ _ ?_
   refine rgn 3 ?_
   refine sg wide_wide [.p, .as (I6 ((i + 1 : Nat) : Int)), .p] [Value.int .i64 (IntKind.i64.wrap (↑i + 1)) = I6 ((i + 1 : Nat) : Int)] [(0, (Pv c)), (1, I6 ↑q), (6, I6 ↑p), (7, I6 ((i + 1 : Nat) : Int)), (20, .bool true)] 3 0 hS (.cons ((by rw [show (↑i + 1 : Int) = ((i + 1 : Nat) : Int) from by omega]; exact as_i64 (by omega))) .nil) fun a hS => ?_
   refine seg_end ?_
   exact ⟨(i + 1, q, p), ⟨hS.kp [(0, (Pv c)), (1, I6 ↑q), (6, I6 ↑p), (7, I6 ((i + 1 : Nat) : Int))], by omega, by omega, by rw [hst, hp, Nat.add_zero], rfl⟩, by simp only; omega⟩
 ·
  subst hq
  have hyes : k ≤ rws xs := by omega
  have hki : k = rws (xs.take i) := by omega
  refine rgn 11 ?_
  refine sg wide_wide [.p, .p, .p, .p, .ld (v), .run (I6 ↑n), .as (.bool false), .p, .no, .no, .p] [w.cell? ⟨c, 0, none⟩ = some (v), Ru Try.prog (vS (Builtin.len_ #[23] 3 #[v])) (I6 ↑n) w, Value.bool (decide ((↑i : Int) < ↑n)) = .bool false] [(0, (Pv c)), (1, I6 0), (6, I6 ↑p), (7, I6 ↑i), (20, .bool false)] 11 0 hS (.cons (hc.cell 0 rfl) (.cons (run_len_rd (e := 5) hv (by kernel_rfl)) (.cons (as_f (by omega)) .nil))) fun a hS => ?_
  refine seg_end ?_
  refine hK8 _ _ ?_
  refine cond_f hS rfl ?_
  refine wpIn_exit ?_
  refine then_exit ?_
  refine then_exit ?_
  refine inBlock_hit ?_
  refine hK5 _ _ ?_
  refine sq fun K16 hK16 => ?_
  refine sq fun K17 hK17 => ?_
  refine rgn 2 ?_
  refine sg wide_wide [.p, .as (.bool false)] [Value.bool (decide ((0 : Int) > 0)) = .bool false] [(0, (Pv c)), (1, I6 0), (6, I6 ↑p), (7, I6 ↑i), (20, .bool false), (36, .bool false)] 2 0 hS (.cons (as_f (by omega)) .nil) fun a hS => ?_
  refine seg_end ?_
  refine hK17 _ _ ?_
  refine cond_f hS rfl ?_
  refine wpIn_skip ?_
  refine hK16 _ _ ?_
  refine sq fun K18 hK18 => ?_
  refine rgn 3 ?_
  refine sg wide_wide [.p, .p, .p] [] [(0, (Pv c)), (1, I6 0), (6, I6 ↑p), (7, I6 ↑i), (20, .bool false), (36, .bool false), (4, I6 ↑p), (5, I6 0)] 3 0 hS .nil fun a hS => ?_
  refine seg_end ?_
  refine hK18 _ _ ?_
  refine wpIn_ret ?_
  refine ret2 hS Try.results29 rfl rfl ?_
  exact ⟨by rw [if_pos hyes, if_pos hyes, hki, hp], rfl⟩
 ·
  subst hq
  have hyes : k ≤ rws xs := by omega
  have hki : k = rws (xs.take i) := by omega
  refine rgn 11 ?_
  refine sg wide_wide [.p, .p, .p, .p, .ld (v), .run (I6 ↑n), .as (.bool true), .p, .p, .as (.bool false), .p] [w.cell? ⟨c, 0, none⟩ = some (v), Ru Try.prog (vS (Builtin.len_ #[23] 3 #[v])) (I6 ↑n) w, Value.bool (decide ((↑i : Int) < ↑n)) = .bool true, Value.bool (decide ((0 : Int) > 0)) = .bool false] [(0, (Pv c)), (1, I6 0), (6, I6 ↑p), (7, I6 ↑i), (20, .bool false)] 11 0 hS (.cons (hc.cell 0 rfl) (.cons (run_len_rd (e := 5) hv (by kernel_rfl)) (.cons (as_t (by omega)) (.cons (as_f (by omega)) .nil)))) fun a hS => ?_
  refine seg_end ?_
  refine hK8 _ _ ?_
  refine cond_f hS rfl ?_
  refine wpIn_exit ?_
  refine then_exit ?_
  refine then_exit ?_
  refine inBlock_hit ?_
  refine hK5 _ _ ?_
  refine sq fun K19 hK19 => ?_
  refine sq fun K20 hK20 => ?_
  refine rgn 2 ?_
  refine sg wide_wide [.p, .as (.bool false)] [Value.bool (decide ((0 : Int) > 0)) = .bool false] [(0, (Pv c)), (1, I6 0), (6, I6 ↑p), (7, I6 ↑i), (20, .bool false), (36, .bool false)] 2 0 hS (.cons (as_f (by omega)) .nil) fun a hS => ?_
  refine seg_end ?_
  refine hK20 _ _ ?_
  refine cond_f hS rfl ?_
  refine wpIn_skip ?_
  refine hK19 _ _ ?_
  refine sq fun K21 hK21 => ?_
  refine rgn 3 ?_
  refine sg wide_wide [.p, .p, .p] [] [(0, (Pv c)), (1, I6 0), (6, I6 ↑p), (7, I6 ↑i), (20, .bool false), (36, .bool false), (4, I6 ↑p), (5, I6 0)] 3 0 hS .nil fun a hS => ?_
  refine seg_end ?_
  refine hK21 _ _ ?_
  refine wpIn_ret ?_
  refine ret2 hS Try.results29 rfl rfl ?_
  exact ⟨by rw [if_pos hyes, if_pos hyes, hki, hp], rfl⟩

end Go.Proofs.Ytkdbfjomjlhfbaa
