import Derived.Test.YtkdbfjomjlhfbaaProg
import Derived.Test.YtkdbfjomjlhfbaaR21
namespace Go.Proofs.Ytkdbfjomjlhfbaa
open Go.Vc
set_option linter.unusedSectionVars false
variable [Inhabited Zt]

theorem mark_at {xs : List Int} {n i : Nat} (hl : xs.length = n) (h1 : n ≤ i) (h2 : i < n + 5) : (bv (xs ++ marks 5))[i]? = some (.int .u8 169) := by
 refine bv_at ?_
 rw [List.getElem?_append_right (by omega), hl, marks, List.getElem?_replicate]
 simp; omega
theorem drop_step {R Y : List Value} {i : Nat} {u : Value} (h : R.drop i = Y.drop i) : (R.set i u).drop (i + 1) = Y.drop (i + 1) := by
 rw [List.drop_set_of_lt (by omega)]
 have := congrArg (List.drop 1) h
 rwa [List.drop_drop, List.drop_drop] at this
theorem drop_get {R Y : List Value} {i : Nat} (h : R.drop i = Y.drop i) : R[i]? = Y[i]? := by
 have := congrArg (fun l => l[0]?) h
 simpa using this

theorem Back_any {g n m : Nat} {v : Value} {xs : List Int} {w0 w : World} (hv0 : RdV w0 1 v n (bv xs)) (hg0 : w0.heap.size ≤ g) (hO : OwnR w 5 1 g m (n + 5) (bv (xs ++ marks 5))) (hv : RdV w 1 v n (bv xs)) (hn : n ≤ 10000000000) :
  Calls Try.prog 59 #[.slice (some ⟨g, 0, none⟩) n m, v] w fun e w' => e = .returned (.bool true) ∧ (∃ ys, OwnR w' 5 1 g m (n + 5) ys) ∧ Ext [g] w w' := by
 have hl : xs.length = n := by have := hv.len; simpa using this
 have hle0 := hO.le
 refine calls_body 40 [(0, .slice (some ⟨g, 0, none⟩) n m), (1, v)] Try.func59 rfl (by kernel_rfl) (by kernel_rfl) (by kernel_rfl) fun a hS => ?_
 have hE0 : Ext [g] w w := Ext.refl _ _
 refine sq fun K1 hK1 => ?_
 refine rgn 1 ?_
 refine sg wide_wide [.p] [] [(0, .slice (some ⟨g, 0, none⟩) n m), (1, v), (4, .bool false)] 1 0 hS .nil fun a hS => ?_
 refine seg_end ?_
 refine hK1 _ _ ?_
 refine sq fun K2 hK2 => ?_
 refine rgn 4 ?_
 refine sg wide_wide [.p, .p] [] [(0, .slice (some ⟨g, 0, none⟩) n m), (1, v), (4, .bool false), (8, .slice (some ⟨g, 0, none⟩) n m), (9, v)] 2 2 hS .nil fun a hS => ?_
 refine eff_call wide_wide (r := 1) (f := 31) (vs := [.slice (some ⟨g, 0, none⟩) n m, v]) (cap := #[]) (d := (some 10)) hS (by kernel_rfl) Try.call31 #[.slice (some ⟨g, 0, none⟩) n m, v] (by kernel_rfl) ((by have h := SameB_any (lent_rd2 hO hl) hv (by omega); rw [decide_eq_true rfl] at h; exact h : Calls Try.prog 31 _ _ fun e w' => e = .returned (.bool true) ∧ Ext [] _ w')) ?_
 rintro _ wc3 ⟨rfl, hEc3⟩
 refine ⟨_, rfl, fun a hS => ?_⟩
 have hB4 := hO.ext hEc3 (by simp)
 have hG5 : RdV wc3 1 v n (bv xs) := hv.ext0 hEc3
 have hE6 := hE0.trans0 hEc3
 refine sg wide_wide [.p] [] [(0, .slice (some ⟨g, 0, none⟩) n m), (1, v), (4, .bool false), (5, .bool true)] 4 0 hS .nil fun a hS => ?_
 refine seg_end ?_
 refine hK2 _ _ ?_
 refine sq fun K7 hK7 => ?_
 refine rgn 6 ?_
 refine sg wide_wide [.p, .p, .run (I6 ↑n), .as (I6 ((n + 5 : Nat) : Int)), .run (.slice (some ⟨g, 0, none⟩) (n + 5) m), .p] [Ru Try.prog (vS (Builtin.len_ #[23] 3 #[v])) (I6 ↑n) wc3, Value.int .i64 (IntKind.i64.wrap (↑n + 5)) = I6 ((n + 5 : Nat) : Int), Ru Try.prog (vS (Instr.sliceAt 23 (.slice (some ⟨g, 0, none⟩) n m) none (some (I6 ((n + 5 : Nat) : Int))) none)) (.slice (some ⟨g, 0, none⟩) (n + 5) m) wc3] [(0, .slice (some ⟨g, 0, none⟩) n m), (1, v), (4, .bool false), (5, .bool true), (6, .slice (some ⟨g, 0, none⟩) (n + 5) m)] 6 0 hS (.cons (run_len_rd (e := 5) hv (by kernel_rfl)) (.cons ((by rw [show (↑n + 5 : Int) = ((n + 5 : Nat) : Int) from by omega]; exact as_i64 (by omega))) (.cons (sl_h (E := 5) (size := 1) (h := (n + 5)) (by kernel_rfl) (by kernel_rfl) rfl (by omega)) .nil))) fun a hS => ?_
 refine seg_end ?_
 refine hK7 _ _ ?_
 refine sq fun K8 hK8 => ?_
 refine sq fun K9 hK9 => ?_
 refine rgn 1 ?_
 refine sg wide_wide [.p] [] [(0, .slice (some ⟨g, 0, none⟩) n m), (1, v), (4, .bool false), (5, .bool true), (6, .slice (some ⟨g, 0, none⟩) (n + 5) m), (7, I6 0)] 1 0 hS .nil fun a hS => ?_
 refine seg_end ?_
 refine hK9 _ _ ?_
 refine wpIn_block ?_
 refine loop_ghost (fun ((i, R) : Nat × List Value) a' w' => St 40 [] [(0, .slice (some ⟨g, 0, none⟩) n m), (1, v), (5, .bool true), (6, .slice (some ⟨g, 0, none⟩) (n + 5) m), (7, I6 ↑i)] a' ∧ i ≤ n + 5 ∧ R.drop i = (bv (xs ++ marks 5)).drop i ∧ OwnR w' 5 1 g m (n + 5) R ∧ Ext [g] w w') (fun ((i, R) : Nat × List Value) => n + 5 - i) (0, (bv (xs ++ marks 5))) ⟨hS.keepTo [0, 1, 5, 6, 7] (by kernel_rfl), Nat.zero_le _, rfl, hB4, hE6⟩ ?_
 rintro ⟨i, R⟩ a w1 ⟨hS, hin5, hR, hO1, hEx⟩
 refine sq fun K10 hK10 => ?_
 refine sq fun K11 hK11 => ?_
 refine rgn 4 ?_
 refine sg wide_wide [.p, .p, .p, .p] [] [(0, .slice (some ⟨g, 0, none⟩) n m), (1, v), (5, .bool true), (6, .slice (some ⟨g, 0, none⟩) (n + 5) m), (7, I6 ↑i), (19, .bool (decide ((↑i : Int) < ((n + 5 : Nat) : Int))))] 4 0 hS .nil fun a hS => ?_
 refine seg_end ?_
 refine hK11 _ _ ?_
 refine cond_b hS rfl (fun hb12 => ?_) (fun hb12 => ?_)
 ·
  replace hb12 := of_decide_eq_true hb12
  have hi : i < n + 5 := by omega
  have hRi := drop_get hR
  refine wpIn_skip ?_
  refine hK10 _ _ ?_
  refine sq fun K13 hK13 => ?_
  refine wpIn_block ?_
  refine sq fun K14 hK14 => ?_
  rcases (show i < n ∨ n ≤ i by omega) with hin | hin
  ·
   refine rgn 15 ?_
   refine sg wide_wide [.p, .p, .p, .p, .run (I6 ↑n), .as (.bool true), .p, .no, .no, .no, .no, .no, .p, .p, .p] [Ru Try.prog (vS (Builtin.len_ #[23] 3 #[v])) (I6 ↑n) w1, Value.bool (decide ((↑i : Int) < ↑n)) = .bool true] [(0, .slice (some ⟨g, 0, none⟩) n m), (1, v), (5, .bool true), (6, .slice (some ⟨g, 0, none⟩) (n + 5) m), (7, I6 ↑i)] 15 0 hS (.cons (run_len_rd (e := 5) hv (by kernel_rfl)) (.cons (as_t (by omega)) .nil)) fun a hS => ?_
   refine seg_end ?_
   refine hK14 _ _ ?_
   refine rgn 4 ?_
   refine sg wide_wide [.p, .p, .run ((Po g (0 + i * 1)))] [Ru Try.prog (vS (Instr.indexAt 23 (.slice (some ⟨g, 0, none⟩) (n + 5) m) (I6 ↑i))) ((Po g (0 + i * 1))) w1] [(0, .slice (some ⟨g, 0, none⟩) n m), (1, v), (5, .bool true), (6, .slice (some ⟨g, 0, none⟩) (n + 5) m), (7, I6 ↑i), (38, (Po g (0 + i * 1)))] 3 1 hS (.cons (ix_slice (E := 5) (size := 1) (j := i) (by kernel_rfl) (by kernel_rfl) rfl hi) .nil) fun a hS => ?_
   refine eff_store_own wide_wide (r := 0) (b := g) (off := 0 + i * 1) (u := Value.int .u8 93) (xs := R) hS (by kernel_rfl) hO1 (by omega) fun a ws15 hOs15 hEs15 hsz15 hS => ?_
   have hE16 : Ext [g] w ws15 := hEx.trans hEs15 (fun b hb => by simp at hb; subst hb; exact .inl (by simp))
   refine seg_end ?_
   refine inBlock_normal ?_
   refine hK13 _ _ ?_
   refine rgn 3 ?_
   refine sg wide_wide [.p, .as (I6 (↑i + 1)), .p] [Value.int .i64 (IntKind.i64.wrap (↑i + 1)) = I6 (↑i + 1)] [(0, .slice (some ⟨g, 0, none⟩) n m), (1, v), (5, .bool true), (6, .slice (some ⟨g, 0, none⟩) (n + 5) m), (7, I6 (↑i + 1))] 3 0 hS (.cons (as_i64 (by omega)) .nil) fun a hS => ?_
   refine seg_end ?_
   have hO2 := hOs15
   rw [show 0 + i * 1 = i by omega] at hO2
   exact ⟨(i + 1, _), ⟨hS.kp [(0, .slice (some ⟨g, 0, none⟩) n m), (1, v), (5, .bool true), (6, .slice (some ⟨g, 0, none⟩) (n + 5) m), (7, I6 (↑i + 1))], by omega, drop_step hR, hO2, hE16⟩, by simp only; omega⟩
  ·
   rw [mark_at hl hin hi] at hRi
   refine rgn 15 ?_
   refine sg wide_wide [.p, .p, .p, .p, .run (I6 ↑n), .as (.bool false), .p, .p, .p, .run ((Po g (0 + i * 1))), .ld (.int .u8 169), .p, .p, .p, .p] [Ru Try.prog (vS (Builtin.len_ #[23] 3 #[v])) (I6 ↑n) w1, Value.bool (decide ((↑i : Int) < ↑n)) = .bool false, Ru Try.prog (vS (Instr.indexAt 23 (.slice (some ⟨g, 0, none⟩) (n + 5) m) (I6 ↑i))) ((Po g (0 + i * 1))) w1, w1.cell? ⟨g, 0 + i * 1, none⟩ = some (.int .u8 169)] [(0, .slice (some ⟨g, 0, none⟩) n m), (1, v), (5, .bool true), (6, .slice (some ⟨g, 0, none⟩) (n + 5) m), (7, I6 ↑i)] 15 0 hS (.cons (run_len_rd (e := 5) hv (by kernel_rfl)) (.cons (as_f (by omega)) (.cons (ix_slice (E := 5) (size := 1) (j := i) (by kernel_rfl) (by kernel_rfl) rfl hi) (.cons (hO1.cellAt _ (by rw [show (0 + i * 1) = i by omega]; exact hRi)) .nil)))) fun a hS => ?_
   refine seg_end ?_
   refine hK14 _ _ ?_
   refine rgn 4 ?_
   refine sg wide_wide [.p, .p, .run ((Po g (0 + i * 1)))] [Ru Try.prog (vS (Instr.indexAt 23 (.slice (some ⟨g, 0, none⟩) (n + 5) m) (I6 ↑i))) ((Po g (0 + i * 1))) w1] [(0, .slice (some ⟨g, 0, none⟩) n m), (1, v), (5, .bool true), (6, .slice (some ⟨g, 0, none⟩) (n + 5) m), (7, I6 ↑i), (38, (Po g (0 + i * 1)))] 3 1 hS (.cons (ix_slice (E := 5) (size := 1) (j := i) (by kernel_rfl) (by kernel_rfl) rfl hi) .nil) fun a hS => ?_
   refine eff_store_own wide_wide (r := 0) (b := g) (off := 0 + i * 1) (u := Value.int .u8 93) (xs := R) hS (by kernel_rfl) hO1 (by omega) fun a ws17 hOs17 hEs17 hsz17 hS => ?_
   have hE18 : Ext [g] w ws17 := hEx.trans hEs17 (fun b hb => by simp at hb; subst hb; exact .inl (by simp))
   refine seg_end ?_
   refine inBlock_normal ?_
   refine hK13 _ _ ?_
   refine rgn 3 ?_
   refine sg wide_wide [.p, .as (I6 (↑i + 1)), .p] [Value.int .i64 (IntKind.i64.wrap (↑i + 1)) = I6 (↑i + 1)] [(0, .slice (some ⟨g, 0, none⟩) n m), (1, v), (5, .bool true), (6, .slice (some ⟨g, 0, none⟩) (n + 5) m), (7, I6 (↑i + 1))] 3 0 hS (.cons (as_i64 (by omega)) .nil) fun a hS => ?_
   refine seg_end ?_
   have hO2 := hOs17
   rw [show 0 + i * 1 = i by omega] at hO2
   exact ⟨(i + 1, _), ⟨hS.kp [(0, .slice (some ⟨g, 0, none⟩) n m), (1, v), (5, .bool true), (6, .slice (some ⟨g, 0, none⟩) (n + 5) m), (7, I6 (↑i + 1))], by omega, drop_step hR, hO2, hE18⟩, by simp only; omega⟩
 ·
  replace hb12 := of_decide_eq_false hb12
  refine wpIn_exit ?_
  refine then_exit ?_
  refine then_exit ?_
  refine inBlock_hit ?_
  refine hK8 _ _ ?_
  refine sq fun K19 hK19 => ?_
  refine rgn 2 ?_
  refine sg wide_wide [.p, .p] [] [(0, .slice (some ⟨g, 0, none⟩) n m), (1, v), (5, .bool true), (6, .slice (some ⟨g, 0, none⟩) (n + 5) m), (7, I6 ↑i), (4, .bool true)] 2 0 hS .nil fun a hS => ?_
  refine seg_end ?_
  refine hK19 _ _ ?_
  refine wpIn_ret ?_
  refine ret1 hS Try.results59 rfl ?_
  exact ⟨rfl, ⟨_, hO1⟩, hEx⟩

end Go.Proofs.Ytkdbfjomjlhfbaa
