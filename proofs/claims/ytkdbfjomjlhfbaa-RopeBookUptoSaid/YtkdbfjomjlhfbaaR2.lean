import Derived.Test.YtkdbfjomjlhfbaaProg
import Derived.Test.YtkdbfjomjlhfbaaR1
namespace Go.Proofs.Ytkdbfjomjlhfbaa
open Go.Vc
set_option linter.unusedSectionVars false
variable [Inhabited Zt]

theorem Count_any {v : Value} {n : Nat} {xs : List Int} {g : Nat} {w : World} (hv : RdV w 1 v n (bv xs)) (hB : BR xs) (hg : Blk w g 5 #[.int .u8 10]) :
  Calls Try.prog 67 #[v, .slice (some ⟨g, 0, none⟩) 1 1] w fun e w' => e = .returned (I6 (rws xs : Nat)) ∧ w' = w := by
 refine calls_body 35 [(0, v), (1, .slice (some ⟨g, 0, none⟩) 1 1)] Try.func67 rfl (by kernel_rfl) (by kernel_rfl) (by kernel_rfl) fun a hS => ?_
 refine sq fun K1 hK1 => ?_
 refine rgn 1 ?_
 refine sg wide_wide [.p] [] [(0, v), (1, .slice (some ⟨g, 0, none⟩) 1 1), (4, I6 0)] 1 0 hS .nil fun a hS => ?_
 refine seg_end ?_
 refine hK1 _ _ ?_
 refine sq fun K2 hK2 => ?_
 refine sq fun K3 hK3 => ?_
 refine rgn 3 ?_
 refine sg wide_wide [.p, .p, .p] [] [(0, v), (1, .slice (some ⟨g, 0, none⟩) 1 1), (4, I6 0), (9, .bool false)] 3 0 hS .nil fun a hS => ?_
 refine seg_end ?_
 refine hK3 _ _ ?_
 refine cond_f hS rfl ?_
 refine wpIn_skip ?_
 refine hK2 _ _ ?_
 refine sq fun K4 hK4 => ?_
 refine sq fun K5 hK5 => ?_
 refine rgn 3 ?_
 refine sg wide_wide [.p, .p, .p] [] [(0, v), (1, .slice (some ⟨g, 0, none⟩) 1 1), (4, I6 0), (9, .bool false), (15, .bool true)] 3 0 hS .nil fun a hS => ?_
 refine seg_end ?_
 refine hK5 _ _ ?_
 refine cond_t hS rfl ?_
 refine sq fun K6 hK6 => ?_
 refine rgn 6 ?_
 refine sg wide_wide [.p, .p, .run ((Pv g)), .ld (.int .u8 10)] [Ru Try.prog (vS (Instr.indexAt 23 (.slice (some ⟨g, 0, none⟩) 1 1) (I6 0))) ((Pv g)) w, w.cell? ⟨g, 0, none⟩ = some (.int .u8 10)] [(0, v), (1, .slice (some ⟨g, 0, none⟩) 1 1), (4, I6 0), (9, .bool false), (15, .bool true), (16, v), (19, .int .u8 10)] 4 2 hS (.cons (ix_slice (E := 5) (size := 1) (j := 0) (by kernel_rfl) (by kernel_rfl) rfl (by omega)) (.cons (hg.cell 0 rfl) .nil)) fun a hS => ?_
 refine eff_run wide_wide (r := 1) (s := callFunc 71 #[v, .int .u8 10]) (d := (some 20)) (v := I6 (rws xs : Nat)) (w' := w) hS (by kernel_rfl) (run_countR Try.func71 (by kernel_rfl) (by kernel_rfl) (by kernel_rfl) (by kernel_rfl) hv hB) fun a hS => ?_
 refine sg wide_wide [.p] [] [(0, v), (1, .slice (some ⟨g, 0, none⟩) 1 1), (4, I6 (↑(rws xs))), (9, .bool false), (15, .bool true)] 6 0 hS .nil fun a hS => ?_
 refine seg_end ?_
 refine hK6 _ _ ?_
 refine wpIn_ret ?_
 refine then_ret ?_
 refine ret1 hS Try.results67 rfl ?_
 exact ⟨rfl, rfl⟩

theorem Clone_nil {c : Nat} {w : World} :
  Calls Try.prog 55 #[(.slice none 0 c)] w fun e w' => e = .returned (.slice none 0 0) ∧ w' = w := by
 refine calls_body 8 [(0, (.slice none 0 c))] Try.func55 rfl (by kernel_rfl) (by kernel_rfl) (by kernel_rfl) fun a hS => ?_
 refine sq fun K1 hK1 => ?_
 refine rgn 1 ?_
 refine sg wide_wide [.p] [] [(0, (.slice none 0 c)), (2, .slice none 0 0)] 1 0 hS .nil fun a hS => ?_
 refine seg_end ?_
 refine hK1 _ _ ?_
 refine sq fun K2 hK2 => ?_
 refine sq fun K3 hK3 => ?_
 refine rgn 2 ?_
 refine sg wide_wide [.p, .p] [] [(0, (.slice none 0 c)), (2, .slice none 0 0), (4, .bool true)] 2 0 hS .nil fun a hS => ?_
 refine seg_end ?_
 refine hK3 _ _ ?_
 refine cond_t hS rfl ?_
 refine sq fun K4 hK4 => ?_
 refine rgn 1 ?_
 refine sg wide_wide [.p] [] [(0, (.slice none 0 c)), (2, .slice none 0 0), (4, .bool true)] 1 0 hS .nil fun a hS => ?_
 refine seg_end ?_
 refine hK4 _ _ ?_
 refine wpIn_ret ?_
 refine then_ret ?_
 refine ret1 hS Try.results55 rfl ?_
 exact ⟨rfl, rfl⟩

theorem Clone_some {A : Addr} {n c : Nat} {xs : List Int} {w : World} (hv : RdV w 1 (.slice (some A) n c) n (bv xs)) (hn : n ≤ 100000000000000) :
  Calls Try.prog 55 #[(.slice (some A) n c)] w fun e w' => ∃ bs cap, e = .returned (.slice bs n cap) ∧ OwnV w' 5 1 (.slice bs n cap) n (bv xs) ∧ (∀ x ∈ ob (.slice bs n cap), w.heap.size ≤ x) ∧ Ext [] w w' := by
 refine calls_body 8 [(0, (.slice (some A) n c))] Try.func55 rfl (by kernel_rfl) (by kernel_rfl) (by kernel_rfl) fun a hS => ?_
 have hE0 : Ext [] w w := Ext.refl _ _
 refine sq fun K1 hK1 => ?_
 refine rgn 1 ?_
 refine sg wide_wide [.p] [] [(0, (.slice (some A) n c)), (2, .slice none 0 0)] 1 0 hS .nil fun a hS => ?_
 refine seg_end ?_
 refine hK1 _ _ ?_
 refine sq fun K2 hK2 => ?_
 refine sq fun K3 hK3 => ?_
 refine rgn 2 ?_
 refine sg wide_wide [.p, .p] [] [(0, (.slice (some A) n c)), (2, .slice none 0 0), (4, .bool false)] 2 0 hS .nil fun a hS => ?_
 refine seg_end ?_
 refine hK3 _ _ ?_
 refine cond_f hS rfl ?_
 refine wpIn_skip ?_
 refine hK2 _ _ ?_
 refine sq fun K4 hK4 => ?_
 refine rgn 4 ?_
 refine eff_new wide_wide (r := 3) (cs := #[]) (T := 5) (v := Value.slice (some ⟨w.heap.size, 0, none⟩) 0 0) (d := (some 5)) hS (by kernel_rfl) fun a w5 hw6 hS => ?_
 have hX7 : Ext [] w w5 := by rw [hw6]; exact (Ext.refl _ _).alloc _
 have hG8 : RdV w5 1 (.slice (some A) n c) n (bv xs) := hv.ext0 hX7
 have hB9 : Blk w5 (w.heap.size) 5 #[] := by rw [hw6]; exact Blk.new _ _ _
 have hs10 : w.heap.size ≤ w.heap.size := hE0.size
 have hE11 : Ext [] w w5 := by rw [hw6]; exact hE0.alloc _
 refine sg wide_wide [.p] [] [(0, (.slice (some A) n c)), (2, .slice none 0 0), (4, .bool false), (5, .slice (some ⟨w.heap.size, 0, none⟩) 0 0), (6, (.slice (some A) n c))] 2 2 hS .nil fun a hS => ?_
 refine eff_append_rd wide_wide (r := 1) (d := (some 7)) (t := 23) (ty := 23) (e := 5) (size := 1) (bytes := 1) (len := 0) (k := n) (z := #[.int .u8 0]) (v := Value.slice (some ⟨w.heap.size, 0, none⟩) 0 0) (u := (.slice (some A) n c)) (xs := ([])) (news := (bv xs)) hS (by kernel_rfl) (by kernel_rfl) (by kernel_rfl) (by kernel_rfl) (OwnR.of_blk hB9 (by simp) (by decide)).v hG8 (bv_one _) (by omega) (by omega) fun bs12 cp12 a wa12 hA12 hS => ?_
 have hEa12 : Ext [w.heap.size] w5 wa12 := hA12.ext
 rw [Nat.zero_add] at hS
 have hO12 : OwnV wa12 5 1 (.slice bs12 n cp12) n (bv xs) := by have h := hA12.own; simpa using h
 have hE13 : Ext [] w wa12 := hE11.trans hEa12 (fun b hb => by simp at hb; subst hb; exact .inr hs10)
 have hnw12 : ∀ x ∈ ob (.slice bs12 n cp12), w.heap.size ≤ x := fun x hx => by
  rcases hA12.fresh x (by simpa using hx) with h | h
  ·have h : x = w.heap.size := by simpa [ob] using h
   rw [h]; exact hs10
  ·exact Nat.le_trans hE11.size h
 have hG14 : RdV wa12 1 (.slice (some A) n c) n (bv xs) := RdV.extL (by decide) hG8 hv hEa12 (fun x hx => by simp at hx; subst hx; exact hs10)
 refine sg wide_wide [.p] [] [(0, (.slice (some A) n c)), (2, .slice bs12 n cp12), (4, .bool false)] 4 0 hS .nil fun a hS => ?_
 refine seg_end ?_
 refine hK4 _ _ ?_
 refine wpIn_ret ?_
 refine ret1 hS Try.results55 rfl ?_
 exact ⟨_, _, rfl, hO12, hnw12, hE13⟩

def ClR (w : World) (n : Nat) (xs : List Int) (e : Ending) (w' : World) : Prop := ∃ bs cap, e = .returned (.slice bs n cap) ∧ OwnV w' 5 1 (.slice bs n cap) n (bv xs) ∧ (∀ x ∈ ob (.slice bs n cap), w.heap.size ≤ x) ∧ Ext [] w w'
theorem Clone_any {v : Value} {n : Nat} {xs : List Int} {w : World} (hv : RdV w 1 v n (bv xs)) (hn : n ≤ 100000000000000) : Calls Try.prog 55 #[v] w (ClR w n xs) := by
 have key : ∀ (c : Nat), v = .slice none 0 c → n = 0 → Calls Try.prog 55 #[v] w (ClR w n xs) := fun c h1 h2 => by
  subst h1 h2
  have hx : xs = [] := by have := hv.len; simp at this; exact this
  subst hx
  exact Clone_nil.mono fun e w' ⟨h1, h2⟩ => ⟨none, 0, h1, .inl ⟨rfl, rfl, rfl⟩, fun x hx => by simp [ob] at hx, by rw [h2]; exact Ext.refl _ _⟩
 rcases hv with ⟨a, c, h1, h2, h3⟩ | ⟨b, off, cap, h1, h2⟩
 ·cases a with
  | none => exact key c h1 h2
  | some A =>
   subst h1 h2
   exact Clone_some (.inl ⟨_, _, rfl, rfl, h3⟩) hn
 ·subst h1
  exact Clone_some (.inr ⟨b, off, cap, rfl, h2⟩) hn

theorem leaf_1 {q : Option Addr} {n c : Nat} {xs : List Int} {w : World} (hv : RdV w 1 (.slice q n c) n (bv xs)) (hB : BR xs) (hp : 0 < n) (hn : n ≤ 100000000000000) (hz : Zb w) (hvz : ∀ x ∈ ob (.slice q n c), ¬ZZ x) :
  Calls Try.prog 54 #[(.slice q n c)] w fun e w' => NdR w xs e w' := by
 refine calls_body 12 [(0, (.slice q n c))] Try.func54 rfl (by kernel_rfl) (by kernel_rfl) (by kernel_rfl) fun a hS => ?_
 have hE0 : Ext [] w w := Ext.refl _ _
 refine sq fun K1 hK1 => ?_
 refine rgn 1 ?_
 refine sg wide_wide [.p] [] [(0, (.slice q n c)), (2, .pointer none)] 1 0 hS .nil fun a hS => ?_
 refine seg_end ?_
 refine hK1 _ _ ?_
 refine sq fun K2 hK2 => ?_
 refine rgn 10 ?_
 refine sg wide_wide [.p, .p, .run (I6 ↑n), .p] [Ru Try.prog (vS (Builtin.len_ #[23] 3 #[(.slice q n c)])) (I6 ↑n) w] [(0, (.slice q n c)), (2, .pointer none), (3, (.slice q n c)), (5, I6 ↑n), (6, (.slice q n c))] 4 6 hS (.cons (run_len_rd (e := 5) hv (by kernel_rfl)) .nil) fun a hS => ?_
 refine eff_new wide_wide (r := 5) (cs := #[.int .u8 10]) (T := 5) (v := Value.slice (some ⟨w.heap.size, 0, none⟩) 1 1) (d := (some 7)) hS (by kernel_rfl) fun a w3 hw4 hS => ?_
 have hX5 : Ext [] w w3 := by rw [hw4]; exact (Ext.refl _ _).alloc _
 have hG6 : RdV w3 1 (.slice q n c) n (bv xs) := hv.ext0 hX5
 have hB7 : Blk w3 (w.heap.size) 5 #[.int .u8 10] := by rw [hw4]; exact Blk.new _ _ _
 have hs8 : w.heap.size ≤ w.heap.size := hE0.size
 have hE9 : Ext [] w w3 := by rw [hw4]; exact hE0.alloc _
 refine eff_call_ro wide_wide (r := 4) (f := 67) (vs := [(.slice q n c), .slice (some ⟨w.heap.size, 0, none⟩) 1 1]) (cap := #[]) (d := (some 8)) (v := Value.int .i64 (↑(rws xs))) hS (by kernel_rfl) Try.call67 #[(.slice q n c), .slice (some ⟨w.heap.size, 0, none⟩) 1 1] (by kernel_rfl) (Count_any hG6 hB hB7) fun a hS => ?_
 refine sg wide_wide [.p, .p] [] [(0, (.slice q n c)), (2, .pointer none), (10, .agg #[.pointer none, .pointer none, (.slice q n c), I6 ↑n, I6 (↑(rws xs)), I6 0])] 8 2 hS .nil fun a hS => ?_
 refine eff_box wide_wide (r := 1) (cs := #[.pointer none, .pointer none, (.slice q n c), I6 ↑n, I6 (↑(rws xs)), I6 0]) (T := 89) (d := (some 11)) hS (by kernel_rfl) fun a w10 hw11 hS => ?_
 have hX14 : Ext [] w3 w10 := by rw [hw11]; exact (Ext.refl _ _).alloc _
 have hG15 : RdV w10 1 (.slice q n c) n (bv xs) := hG6.ext0 hX14
 have hB16 : Blk w10 (w3.heap.size) 89 #[.pointer none, .pointer none, (.slice q n c), I6 ↑n, I6 (↑(rws xs)), I6 0] := by rw [hw11]; exact Blk.new _ _ _
 have hs17 : w.heap.size ≤ w3.heap.size := hE9.size
 have hE18 : Ext [] w w10 := by rw [hw11]; exact hE9.alloc _
 refine sg wide_wide [.p] [] [(0, (.slice q n c)), (2, (Pv w3.heap.size))] 10 0 hS .nil fun a hS => ?_
 refine seg_end ?_
 refine hK2 _ _ ?_
 refine wpIn_ret ?_
 obtain rfl : xs.length = n := by have := hv.len; simpa using this
 have hnew : (Nd.leaf (w3.heap.size) (.slice q xs.length c) xs).Ok w10 := ⟨hB16, hG15, by omega, hB, hz.ext hE18, hz.new hs17, hvz⟩
 refine ret1 hS Try.results54 rfl ?_
 exact ⟨Nd.leaf (w3.heap.size) (.slice q xs.length c) xs, rfl, hnew, rfl, hE18⟩

theorem leaf_any {v : Value} {n : Nat} {xs : List Int} {w : World} (hv : RdV w 1 v n (bv xs)) (hB : BR xs) (hp : 0 < n) (hn : n ≤ 100000000000000) (hz : Zb w) (hvz : ∀ x ∈ ob v, ¬ZZ x) : Calls Try.prog 54 #[v] w (NdR w xs) := by
 obtain ⟨q, c, rfl⟩ := hv.form
 exact leaf_1 hv hB hp hn hz hvz

theorem Equal_t {v u : Value} {n k : Nat} {xs ys : List Int} {w : World} (hv : RdV w 1 v n (bv xs)) (hu : RdV w 1 u k (bv ys)) (hB : BR xs) (hC : BR ys) (h : xs = ys) :
  Calls Try.prog 50 #[v, u] w fun e w' => e = .returned (.bool true) ∧ w' = w := by
 refine calls_body 10 [(0, v), (1, u)] Try.func50 rfl (by kernel_rfl) (by kernel_rfl) (by kernel_rfl) fun a hS => ?_
 refine sq fun K1 hK1 => ?_
 refine rgn 1 ?_
 refine sg wide_wide [.p] [] [(0, v), (1, u), (4, .bool false)] 1 0 hS .nil fun a hS => ?_
 refine seg_end ?_
 refine hK1 _ _ ?_
 refine sq fun K2 hK2 => ?_
 refine rgn 6 ?_
 refine sg wide_wide [.p, .run (.string (strOfNums xs)), .p, .run (.string (strOfNums ys)), .run (.bool true), .p] [Ru Try.prog (vS (convert 23 9 v)) (.string (strOfNums xs)) w, Ru Try.prog (vS (convert 23 9 u)) (.string (strOfNums ys)) w, Ru Try.prog (vS (do eqGuard .eql 9 (.tmp 6) (.tmp 8) (.string (strOfNums xs)) (.string (strOfNums ys)); binOp .eql 9 (.string (strOfNums xs)) (.string (strOfNums ys)))) (.bool true) w] [(0, v), (1, u), (4, .bool true)] 6 0 hS (.cons (conv_rd (e := 5) (by kernel_rfl) (by kernel_rfl) (by kernel_rfl) hv) (.cons (conv_rd (e := 5) (by kernel_rfl) (by kernel_rfl) (by kernel_rfl) hu) (.cons (bin_str_eql ((beq_ba _ _).trans (decide_eq_true ((str_inj hB hC).2 h)))) .nil))) fun a hS => ?_
 refine seg_end ?_
 refine hK2 _ _ ?_
 refine wpIn_ret ?_
 refine ret1 hS Try.results50 rfl ?_
 exact ⟨rfl, rfl⟩

theorem Equal_f {v u : Value} {n k : Nat} {xs ys : List Int} {w : World} (hv : RdV w 1 v n (bv xs)) (hu : RdV w 1 u k (bv ys)) (hB : BR xs) (hC : BR ys) (h : xs ≠ ys) :
  Calls Try.prog 50 #[v, u] w fun e w' => e = .returned (.bool false) ∧ w' = w := by
 refine calls_body 10 [(0, v), (1, u)] Try.func50 rfl (by kernel_rfl) (by kernel_rfl) (by kernel_rfl) fun a hS => ?_
 refine sq fun K1 hK1 => ?_
 refine rgn 1 ?_
 refine sg wide_wide [.p] [] [(0, v), (1, u), (4, .bool false)] 1 0 hS .nil fun a hS => ?_
 refine seg_end ?_
 refine hK1 _ _ ?_
 refine sq fun K2 hK2 => ?_
 refine rgn 6 ?_
 refine sg wide_wide [.p, .run (.string (strOfNums xs)), .p, .run (.string (strOfNums ys)), .run (.bool false), .p] [Ru Try.prog (vS (convert 23 9 v)) (.string (strOfNums xs)) w, Ru Try.prog (vS (convert 23 9 u)) (.string (strOfNums ys)) w, Ru Try.prog (vS (do eqGuard .eql 9 (.tmp 6) (.tmp 8) (.string (strOfNums xs)) (.string (strOfNums ys)); binOp .eql 9 (.string (strOfNums xs)) (.string (strOfNums ys)))) (.bool false) w] [(0, v), (1, u), (4, .bool false)] 6 0 hS (.cons (conv_rd (e := 5) (by kernel_rfl) (by kernel_rfl) (by kernel_rfl) hv) (.cons (conv_rd (e := 5) (by kernel_rfl) (by kernel_rfl) (by kernel_rfl) hu) (.cons (bin_str_eql ((beq_ba _ _).trans (decide_eq_false fun he => h ((str_inj hB hC).1 he)))) .nil))) fun a hS => ?_
 refine seg_end ?_
 refine hK2 _ _ ?_
 refine wpIn_ret ?_
 refine ret1 hS Try.results50 rfl ?_
 exact ⟨rfl, rfl⟩

theorem Equal_any {v u : Value} {n k : Nat} {xs ys : List Int} {w : World} (hv : RdV w 1 v n (bv xs)) (hu : RdV w 1 u k (bv ys)) (hB : BR xs) (hC : BR ys) :
  Calls Try.prog 50 #[v, u] w fun e w' => e = .returned (.bool (decide (xs = ys))) ∧ w' = w := by
 by_cases h : xs = ys
 ·rw [decide_eq_true h]; exact Equal_t hv hu hB hC h
 ·rw [decide_eq_false h]; exact Equal_f hv hu hB hC h

end Go.Proofs.Ytkdbfjomjlhfbaa
