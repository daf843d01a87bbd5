import Derived.Test.YtkdbfjomjlhfbaaProg
import Derived.Test.YtkdbfjomjlhfbaaR6
namespace Go.Proofs.Ytkdbfjomjlhfbaa
open Go.Vc
set_option linter.unusedSectionVars false
variable [Inhabited Zt]

abbrev on (o : Option Nd) : Nat := (obs o).length
/-- a rope at b -/
def RpOk (w : World) (b : Nat) (o : Option Nd) : Prop := Blk w b 84 #[op o] ∧ okO w o ∧ on o ≤ 16777216
theorem RpOk.ext0 {w w' : World} {b : Nat} {o : Option Nd} (h : RpOk w b o) (hE : Ext [] w w') : RpOk w' b o := ⟨h.1.ext hE (by simp), h.2.1.ext0 hE, h.2.2⟩
theorem RpOk.foot {w : World} {b : Nat} {o : Option Nd} (h : RpOk w b o) : ∀ x, (x = b ∨ footO o x) → x < w.heap.size := fun x hx => by
 rcases hx with rfl | hx
 ·exact h.1.lt
 ·exact h.2.1.foot x hx
theorem RpOk.extN {w0 w w' : World} {b : Nat} {o : Option Nd} {M : List Nat} (h0 : RpOk w0 b o) (h : RpOk w b o) (hE : Ext M w w') (hM : ∀ x ∈ M, w0.heap.size ≤ x) : RpOk w' b o :=
 ⟨h.1.ext hE fun hm => by have h1 := hM _ hm; have h2 := h0.1.lt; omega, h.2.1.ext hE fun x hx hf => by have h1 := hM _ hx; have h2 := h0.2.1.foot x hf; omega, h.2.2⟩
/-- a rope is handed back -/
def RpR (w : World) (xs : List Int) (e : Ending) (w' : World) : Prop := ∃ b o, e = .returned (.tuple #[Pv b, I6 0]) ∧ RpOk w' b o ∧ obs o = xs ∧ Ext [] w w'
/-- a refusal -/
def RpN (w : World) (k : Int) (e : Ending) (w' : World) : Prop := e = .returned (.tuple #[.pointer none, I6 k]) ∧ Ext [] w w'

theorem all_none {b : Nat} {w : World} (hb : Blk w b 84 #[.pointer none]) :
  Calls Try.prog 41 #[(Pv b)] w fun e w' => e = .returned (.agg #[I6 0, I6 0]) ∧ Ext [] w w' := by
 refine calls_body 16 [(0, (Pv b))] Try.func41 rfl (by kernel_rfl) (by kernel_rfl) (by kernel_rfl) fun a hS => ?_
 have hE0 : Ext [] w w := Ext.refl _ _
 refine sq fun K1 hK1 => ?_
 refine rgn 1 ?_
 refine eff_box wide_wide (r := 0) (cs := #[I6 0, I6 0]) (T := 86) (d := (some 2)) hS (by kernel_rfl) fun a w2 hw3 hS => ?_
 have hB5 := Blk.at' hw3 (hb.alloc _)
 have hB6 : Blk w2 (w.heap.size) 86 #[I6 0, I6 0] := by rw [hw3]; exact Blk.new _ _ _
 have hs7 : w.heap.size ≤ w.heap.size := hE0.size
 have hE8 : Ext [] w w2 := by rw [hw3]; exact hE0.alloc _
 refine seg_end ?_
 refine hK1 _ _ ?_
 refine sq fun K9 hK9 => ?_
 refine sq fun K10 hK10 => ?_
 refine rgn 5 ?_
 refine sg wide_wide [.p, .p, .p, .ld (.pointer none), .p] [w2.cell? ⟨b, 0, none⟩ = some (.pointer none)] [(0, (Pv b)), (2, (Pv w.heap.size)), (7, .bool true)] 5 0 hS (.cons (hB5.cell 0 rfl) .nil) fun a hS => ?_
 refine seg_end ?_
 refine hK10 _ _ ?_
 refine cond_t hS rfl ?_
 refine sq fun K11 hK11 => ?_
 refine rgn 2 ?_
 refine sg wide_wide [.p] [] [(0, (Pv b)), (2, (Pv w.heap.size)), (7, .bool true), (8, .agg #[I6 0, I6 0])] 1 1 hS .nil fun a hS => ?_
 refine eff_store wide_wide (r := 0) (b := w.heap.size) (off := 0) (vs := [I6 0, I6 0]) hS (by kernel_rfl) hB6 (by simp) fun a w12 hw13 hS => ?_
 have hB15 : Blk w12 w.heap.size 86 (#[I6 0, I6 0]) := by rw [hw13]; exact hB6.upd _ _
 have hE16 : Ext [] w w12 := by rw [hw13]; exact hE8.updIn (.inr hs7) _ _
 refine seg_end ?_
 refine hK11 _ _ ?_
 refine wpIn_ret ?_
 refine then_ret ?_
 refine retA1 hS Try.results41 (by kernel_rfl) (by kernel_rfl) rfl hB15 ?_
 exact ⟨rfl, hE16⟩

theorem all_some {b : Nat} {t : Nd} {w : World} (hb : Blk w b 84 #[Pv t.b]) (ht : t.Ok w) :
  Calls Try.prog 41 #[(Pv b)] w fun e w' => e = .returned (.agg #[I6 t.n, I6 t.rw]) ∧ Ext [] w w' := by
 refine calls_body 16 [(0, (Pv b))] Try.func41 rfl (by kernel_rfl) (by kernel_rfl) (by kernel_rfl) fun a hS => ?_
 have hE0 : Ext [] w w := Ext.refl _ _
 refine sq fun K1 hK1 => ?_
 refine rgn 1 ?_
 refine eff_box wide_wide (r := 0) (cs := #[I6 0, I6 0]) (T := 86) (d := (some 2)) hS (by kernel_rfl) fun a w2 hw3 hS => ?_
 have hB6 := Blk.at' hw3 (hb.alloc _)
 have hB7 := Blk.at' hw3 (ht.blk.alloc _)
 have hB8 : Blk w2 (w.heap.size) 86 #[I6 0, I6 0] := by rw [hw3]; exact Blk.new _ _ _
 have hs9 : w.heap.size ≤ w.heap.size := hE0.size
 have hE10 : Ext [] w w2 := by rw [hw3]; exact hE0.alloc _
 refine seg_end ?_
 refine hK1 _ _ ?_
 refine sq fun K11 hK11 => ?_
 refine sq fun K12 hK12 => ?_
 refine rgn 5 ?_
 refine sg wide_wide [.p, .p, .p, .ld ((Pv t.b)), .p] [w2.cell? ⟨b, 0, none⟩ = some ((Pv t.b))] [(0, (Pv b)), (2, (Pv w.heap.size)), (7, .bool false)] 5 0 hS (.cons (hB6.cell 0 rfl) .nil) fun a hS => ?_
 refine seg_end ?_
 refine hK12 _ _ ?_
 refine cond_f hS rfl ?_
 refine wpIn_skip ?_
 refine hK11 _ _ ?_
 refine sq fun K13 hK13 => ?_
 refine rgn 8 ?_
 refine sg wide_wide [.p, .p, .p, .ld ((Pv t.b)), .p, .p, .lds [I6 ↑t.n, I6 ↑t.rw]] [w2.cell? ⟨b, 0, none⟩ = some ((Pv t.b)), w2.cell? ⟨t.b, 3, none⟩ = some (I6 ↑t.n), w2.cell? ⟨t.b, 4, none⟩ = some (I6 ↑t.rw)] [(0, (Pv b)), (2, (Pv w.heap.size)), (7, .bool false), (15, .agg #[I6 ↑t.n, I6 ↑t.rw])] 7 1 hS (.cons (hB6.cell 0 rfl) (.cons (hB7.cell 3 rfl) (.cons (hB7.cell 4 rfl) .nil))) fun a hS => ?_
 refine eff_store wide_wide (r := 0) (b := w.heap.size) (off := 0) (vs := [I6 ↑t.n, I6 ↑t.rw]) hS (by kernel_rfl) hB8 (by simp) fun a w14 hw15 hS => ?_
 have hB18 : Blk w14 w.heap.size 86 (#[I6 ↑t.n, I6 ↑t.rw]) := by rw [hw15]; exact hB8.upd _ _
 have hE19 : Ext [] w w14 := by rw [hw15]; exact hE10.updIn (.inr hs9) _ _
 refine seg_end ?_
 refine hK13 _ _ ?_
 refine wpIn_ret ?_
 refine retA1 hS Try.results41 (by kernel_rfl) (by kernel_rfl) rfl hB18 ?_
 exact ⟨rfl, hE19⟩

theorem all_any {b : Nat} {o : Option Nd} {w : World} (hR : RpOk w b o) : Calls Try.prog 41 #[Pv b] w fun e w' => e = .returned (.agg #[I6 (on o), I6 (rws (obs o) : Nat)]) ∧ Ext [] w w' := by
 obtain ⟨h1, h2, _⟩ := hR
 cases o with
 | none => exact all_none h1
 | some t =>
  have e1 : on (some t) = t.n := Nd.len t
  have e2 : rws (obs (some t)) = t.rw := (Nd.rweq t).symm
  rw [e1, e2]
  exact all_some h1 h2

theorem Len_any {b : Nat} {o : Option Nd} {w : World} (hR : RpOk w b o) :
  Calls Try.prog 19 #[(Pv b)] w fun e w' => e = .returned (I6 (on o)) ∧ Ext [] w w' := by
 refine calls_body 6 [(0, (Pv b))] Try.func19 rfl (by kernel_rfl) (by kernel_rfl) (by kernel_rfl) fun a hS => ?_
 have hE0 : Ext [] w w := Ext.refl _ _
 refine sq fun K1 hK1 => ?_
 refine rgn 1 ?_
 refine sg wide_wide [.p] [] [(0, (Pv b)), (2, I6 0)] 1 0 hS .nil fun a hS => ?_
 refine seg_end ?_
 refine hK1 _ _ ?_
 refine sq fun K2 hK2 => ?_
 refine rgn 4 ?_
 refine sg wide_wide [.p] [] [(0, (Pv b)), (2, I6 0), (3, (Pv b))] 1 3 hS .nil fun a hS => ?_
 refine eff_call wide_wide (r := 2) (f := 41) (vs := [(Pv b)]) (cap := #[]) (d := (some 4)) hS (by kernel_rfl) Try.call41 #[(Pv b)] (by kernel_rfl) (all_any hR) ?_
 rintro _ wc3 ⟨rfl, hEc3⟩
 refine ⟨_, rfl, fun a hS => ?_⟩
 have hG5 : RpOk wc3 b o := hR.ext0 hEc3
 have hE6 := hE0.trans0 hEc3
 refine sg wide_wide [.p, .p] [] [(0, (Pv b)), (2, I6 (↑(on o)))] 4 0 hS .nil fun a hS => ?_
 refine seg_end ?_
 refine hK2 _ _ ?_
 refine wpIn_ret ?_
 refine ret1 hS Try.results19 rfl ?_
 exact ⟨rfl, hE6⟩

theorem Rows_any {b : Nat} {o : Option Nd} {w : World} (hR : RpOk w b o) :
  Calls Try.prog 15 #[(Pv b)] w fun e w' => e = .returned (I6 ((rws (obs o) : Nat) + 1)) ∧ Ext [] w w' := by
 have hrl := rws_le (obs o)
 have hle : (obs o).length ≤ 16777216 := hR.2.2
 refine calls_body 7 [(0, (Pv b))] Try.func15 rfl (by kernel_rfl) (by kernel_rfl) (by kernel_rfl) fun a hS => ?_
 have hE0 : Ext [] w w := Ext.refl _ _
 refine sq fun K1 hK1 => ?_
 refine rgn 1 ?_
 refine sg wide_wide [.p] [] [(0, (Pv b)), (2, I6 0)] 1 0 hS .nil fun a hS => ?_
 refine seg_end ?_
 refine hK1 _ _ ?_
 refine sq fun K2 hK2 => ?_
 refine rgn 5 ?_
 refine sg wide_wide [.p] [] [(0, (Pv b)), (2, I6 0), (3, (Pv b))] 1 4 hS .nil fun a hS => ?_
 refine eff_call wide_wide (r := 3) (f := 41) (vs := [(Pv b)]) (cap := #[]) (d := (some 4)) hS (by kernel_rfl) Try.call41 #[(Pv b)] (by kernel_rfl) (all_any hR) ?_
 rintro _ wc3 ⟨rfl, hEc3⟩
 refine ⟨_, rfl, fun a hS => ?_⟩
 have hG5 : RpOk wc3 b o := hR.ext0 hEc3
 have hE6 := hE0.trans0 hEc3
 refine sg wide_wide [.p, .as (I6 ((↑(rws (obs o))) + 1)), .p] [Value.int .i64 (IntKind.i64.wrap ((↑(rws (obs o))) + 1)) = I6 ((↑(rws (obs o))) + 1)] [(0, (Pv b)), (2, I6 ((↑(rws (obs o))) + 1))] 5 0 hS (.cons (as_i64 (by omega)) .nil) fun a hS => ?_
 refine seg_end ?_
 refine hK2 _ _ ?_
 refine wpIn_ret ?_
 refine ret1 hS Try.results15 rfl ?_
 exact ⟨rfl, hE6⟩

theorem within_0 {b : Nat} {o : Option Nd} {w : World} (hR : RpOk w b o) {x y : Int} (h : x < 0) :
  Calls Try.prog 44 #[(Pv b), I6 x, I6 y] w fun e w' => e = .returned (.bool false) ∧ Ext [] w w' := by
 refine calls_body 20 [(0, (Pv b)), (1, I6 x), (2, I6 y)] Try.func44 rfl (by kernel_rfl) (by kernel_rfl) (by kernel_rfl) fun a hS => ?_
 have hE0 : Ext [] w w := Ext.refl _ _
 refine sq fun K1 hK1 => ?_
 refine rgn 1 ?_
 refine sg wide_wide [.p] [] [(0, (Pv b)), (1, I6 x), (2, I6 y), (6, .bool false)] 1 0 hS .nil fun a hS => ?_
 refine seg_end ?_
 refine hK1 _ _ ?_
 refine sq fun K2 hK2 => ?_
 refine rgn 14 ?_
 refine sg wide_wide [.p, .as (.bool false), .p, .no, .no, .no, .p, .p, .no, .no, .no, .no, .p, .p] [Value.bool (decide ((0 : Int) ≤ x)) = .bool false] [(0, (Pv b)), (1, I6 x), (2, I6 y), (6, .bool false)] 14 0 hS (.cons (as_f (by omega)) .nil) fun a hS => ?_
 refine seg_end ?_
 refine hK2 _ _ ?_
 refine wpIn_ret ?_
 refine ret1 hS Try.results44 rfl ?_
 exact ⟨rfl, hE0⟩

theorem within_1 {b : Nat} {o : Option Nd} {w : World} (hR : RpOk w b o) {x y : Int} (h : 0 ≤ x ∧ y < x) :
  Calls Try.prog 44 #[(Pv b), I6 x, I6 y] w fun e w' => e = .returned (.bool false) ∧ Ext [] w w' := by
 refine calls_body 20 [(0, (Pv b)), (1, I6 x), (2, I6 y)] Try.func44 rfl (by kernel_rfl) (by kernel_rfl) (by kernel_rfl) fun a hS => ?_
 have hE0 : Ext [] w w := Ext.refl _ _
 refine sq fun K1 hK1 => ?_
 refine rgn 1 ?_
 refine sg wide_wide [.p] [] [(0, (Pv b)), (1, I6 x), (2, I6 y), (6, .bool false)] 1 0 hS .nil fun a hS => ?_
 refine seg_end ?_
 refine hK1 _ _ ?_
 refine sq fun K2 hK2 => ?_
 refine rgn 14 ?_
 refine sg wide_wide [.p, .as (.bool true), .p, .p, .p, .as (.bool false), .p, .p, .no, .no, .no, .no, .p, .p] [Value.bool (decide ((0 : Int) ≤ x)) = .bool true, Value.bool (decide ((x : Int) ≤ y)) = .bool false] [(0, (Pv b)), (1, I6 x), (2, I6 y), (6, .bool false)] 14 0 hS (.cons (as_t (by omega)) (.cons (as_f (by omega)) .nil)) fun a hS => ?_
 refine seg_end ?_
 refine hK2 _ _ ?_
 refine wpIn_ret ?_
 refine ret1 hS Try.results44 rfl ?_
 exact ⟨rfl, hE0⟩

theorem within_2 {b : Nat} {o : Option Nd} {w : World} (hR : RpOk w b o) {x y : Int} (h : 0 ≤ x ∧ x ≤ y ∧ (on o : Int) < y) :
  Calls Try.prog 44 #[(Pv b), I6 x, I6 y] w fun e w' => e = .returned (.bool false) ∧ Ext [] w w' := by
 refine calls_body 20 [(0, (Pv b)), (1, I6 x), (2, I6 y)] Try.func44 rfl (by kernel_rfl) (by kernel_rfl) (by kernel_rfl) fun a hS => ?_
 have hE0 : Ext [] w w := Ext.refl _ _
 refine sq fun K1 hK1 => ?_
 refine rgn 1 ?_
 refine sg wide_wide [.p] [] [(0, (Pv b)), (1, I6 x), (2, I6 y), (6, .bool false)] 1 0 hS .nil fun a hS => ?_
 refine seg_end ?_
 refine hK1 _ _ ?_
 refine sq fun K2 hK2 => ?_
 refine rgn 14 ?_
 refine sg wide_wide [.p, .as (.bool true), .p, .p, .p, .as (.bool true), .p, .p, .p, .p] [Value.bool (decide ((0 : Int) ≤ x)) = .bool true, Value.bool (decide ((x : Int) ≤ y)) = .bool true] [(0, (Pv b)), (1, I6 x), (2, I6 y), (6, .bool false), (14, .bool true), (15, I6 y), (16, (Pv b))] 10 4 hS (.cons (as_t (by omega)) (.cons (as_t (by omega)) .nil)) fun a hS => ?_
 refine eff_call wide_wide (r := 3) (f := 19) (vs := [(Pv b)]) (cap := #[]) (d := (some 17)) hS (by kernel_rfl) Try.call19 #[(Pv b)] (by kernel_rfl) (Len_any hR) ?_
 rintro _ wc3 ⟨rfl, hEc3⟩
 refine ⟨_, rfl, fun a hS => ?_⟩
 have hG5 : RpOk wc3 b o := hR.ext0 hEc3
 have hE6 := hE0.trans0 hEc3
 refine sg wide_wide [.as (.bool false), .p, .p] [Value.bool (decide ((y : Int) ≤ ↑(on o))) = .bool false] [(0, (Pv b)), (1, I6 x), (2, I6 y), (6, .bool false)] 14 0 hS (.cons (as_f (by omega)) .nil) fun a hS => ?_
 refine seg_end ?_
 refine hK2 _ _ ?_
 refine wpIn_ret ?_
 refine ret1 hS Try.results44 rfl ?_
 exact ⟨rfl, hE6⟩

theorem within_3 {b : Nat} {o : Option Nd} {w : World} (hR : RpOk w b o) {x y : Int} (h : 0 ≤ x ∧ x ≤ y ∧ y ≤ (on o : Int)) :
  Calls Try.prog 44 #[(Pv b), I6 x, I6 y] w fun e w' => e = .returned (.bool true) ∧ Ext [] w w' := by
 refine calls_body 20 [(0, (Pv b)), (1, I6 x), (2, I6 y)] Try.func44 rfl (by kernel_rfl) (by kernel_rfl) (by kernel_rfl) fun a hS => ?_
 have hE0 : Ext [] w w := Ext.refl _ _
 refine sq fun K1 hK1 => ?_
 refine rgn 1 ?_
 refine sg wide_wide [.p] [] [(0, (Pv b)), (1, I6 x), (2, I6 y), (6, .bool false)] 1 0 hS .nil fun a hS => ?_
 refine seg_end ?_
 refine hK1 _ _ ?_
 refine sq fun K2 hK2 => ?_
 refine rgn 14 ?_
 refine sg wide_wide [.p, .as (.bool true), .p, .p, .p, .as (.bool true), .p, .p, .p, .p] [Value.bool (decide ((0 : Int) ≤ x)) = .bool true, Value.bool (decide ((x : Int) ≤ y)) = .bool true] [(0, (Pv b)), (1, I6 x), (2, I6 y), (6, .bool false), (14, .bool true), (15, I6 y), (16, (Pv b))] 10 4 hS (.cons (as_t (by omega)) (.cons (as_t (by omega)) .nil)) fun a hS => ?_
 refine eff_call wide_wide (r := 3) (f := 19) (vs := [(Pv b)]) (cap := #[]) (d := (some 17)) hS (by kernel_rfl) Try.call19 #[(Pv b)] (by kernel_rfl) (Len_any hR) ?_
 rintro _ wc3 ⟨rfl, hEc3⟩
 refine ⟨_, rfl, fun a hS => ?_⟩
 have hG5 : RpOk wc3 b o := hR.ext0 hEc3
 have hE6 := hE0.trans0 hEc3
 refine sg wide_wide [.as (.bool true), .p, .p] [Value.bool (decide ((y : Int) ≤ ↑(on o))) = .bool true] [(0, (Pv b)), (1, I6 x), (2, I6 y), (6, .bool true)] 14 0 hS (.cons (as_t (by omega)) .nil) fun a hS => ?_
 refine seg_end ?_
 refine hK2 _ _ ?_
 refine wpIn_ret ?_
 refine ret1 hS Try.results44 rfl ?_
 exact ⟨rfl, hE6⟩

theorem within_no {b : Nat} {o : Option Nd} {w : World} (hR : RpOk w b o) {x y : Int} (h : ¬(0 ≤ x ∧ x ≤ y ∧ y ≤ (on o : Int))) : Calls Try.prog 44 #[Pv b, I6 x, I6 y] w fun e w' => e = .returned (.bool false) ∧ Ext [] w w' := by
 by_cases h1 : x < 0
 ·exact within_0 hR h1
 ·by_cases h2 : y < x
  ·exact within_1 hR ⟨by omega, h2⟩
  ·exact within_2 hR ⟨by omega, by omega, by omega⟩

theorem New_long {v : Value} {n : Nat} {xs : List Int} {w : World} (hv : RdV w 1 v n (bv xs)) (hB : BR xs) (h : n > 16777216) (hn : n ≤ 10000000000) :
  Calls Try.prog 13 #[v] w fun e w' => RpN w 2 e w' := by
 refine calls_body 11 [(0, v)] Try.func13 rfl (by kernel_rfl) (by kernel_rfl) (by kernel_rfl) fun a hS => ?_
 have hE0 : Ext [] w w := Ext.refl _ _
 refine sq fun K1 hK1 => ?_
 refine rgn 2 ?_
 refine sg wide_wide [.p, .p] [] [(0, v), (2, .pointer none), (3, I6 0)] 2 0 hS .nil fun a hS => ?_
 refine seg_end ?_
 refine hK1 _ _ ?_
 refine sq fun K2 hK2 => ?_
 refine sq fun K3 hK3 => ?_
 refine rgn 3 ?_
 refine sg wide_wide [.p, .run (I6 ↑n), .as (.bool true)] [Ru Try.prog (vS (Builtin.len_ #[23] 3 #[v])) (I6 ↑n) w, Value.bool (decide ((↑n : Int) > 16777216)) = .bool true] [(0, v), (2, .pointer none), (3, I6 0), (6, .bool true)] 3 0 hS (.cons (run_len_rd (e := 5) hv (by kernel_rfl)) (.cons (as_t (by omega)) .nil)) fun a hS => ?_
 refine seg_end ?_
 refine hK3 _ _ ?_
 refine cond_t hS rfl ?_
 refine sq fun K4 hK4 => ?_
 refine rgn 2 ?_
 refine sg wide_wide [.p, .p] [] [(0, v), (2, .pointer none), (3, I6 2), (6, .bool true)] 2 0 hS .nil fun a hS => ?_
 refine seg_end ?_
 refine hK4 _ _ ?_
 refine wpIn_ret ?_
 refine then_ret ?_
 refine ret2 hS Try.results13 rfl rfl ?_
 exact ⟨rfl, hE0⟩

theorem New_any {v : Value} {n : Nat} {xs : List Int} {w : World} (hv : RdV w 1 v n (bv xs)) (hB : BR xs) (h : ¬n > 16777216) (hz : Zb w) :
  Calls Try.prog 13 #[v] w fun e w' => RpR w xs e w' := by
 have hlen : xs.length = n := by have := hv.len; simpa using this
 refine calls_body 11 [(0, v)] Try.func13 rfl (by kernel_rfl) (by kernel_rfl) (by kernel_rfl) fun a hS => ?_
 have hE0 : Ext [] w w := Ext.refl _ _
 refine sq fun K1 hK1 => ?_
 refine rgn 2 ?_
 refine sg wide_wide [.p, .p] [] [(0, v), (2, .pointer none), (3, I6 0)] 2 0 hS .nil fun a hS => ?_
 refine seg_end ?_
 refine hK1 _ _ ?_
 refine sq fun K2 hK2 => ?_
 refine sq fun K3 hK3 => ?_
 refine rgn 3 ?_
 refine sg wide_wide [.p, .run (I6 ↑n), .as (.bool false)] [Ru Try.prog (vS (Builtin.len_ #[23] 3 #[v])) (I6 ↑n) w, Value.bool (decide ((↑n : Int) > 16777216)) = .bool false] [(0, v), (2, .pointer none), (3, I6 0), (6, .bool false)] 3 0 hS (.cons (run_len_rd (e := 5) hv (by kernel_rfl)) (.cons (as_f (by omega)) .nil)) fun a hS => ?_
 refine seg_end ?_
 refine hK3 _ _ ?_
 refine cond_f hS rfl ?_
 refine wpIn_skip ?_
 refine hK2 _ _ ?_
 refine sq fun K4 hK4 => ?_
 refine rgn 6 ?_
 refine sg wide_wide [.p] [] [(0, v), (2, .pointer none), (3, I6 0), (6, .bool false), (7, v)] 1 5 hS .nil fun a hS => ?_
 refine eff_call wide_wide (r := 4) (f := 40) (vs := [v]) (cap := #[]) (d := (some 8)) hS (by kernel_rfl) Try.call40 #[v] (by kernel_rfl) (made_any n hv hB (by omega) (hz.ext hE0)) ?_
 rintro _ wc5 ⟨o5, rfl, ho5, ko5, hEc5⟩
 refine ⟨_, rfl, fun a hS => ?_⟩
 have hG6 : RdV wc5 1 v n (bv xs) := hv.ext0 hEc5
 have hE7 := hE0.trans0 hEc5
 refine sg wide_wide [.p] [] [(0, v), (2, .pointer none), (3, I6 0), (6, .bool false), (9, .agg #[(op o5)])] 3 3 hS .nil fun a hS => ?_
 refine eff_box wide_wide (r := 2) (cs := #[(op o5)]) (T := 84) (d := (some 10)) hS (by kernel_rfl) fun a w8 hw9 hS => ?_
 have hX10 : Ext [] wc5 w8 := by rw [hw9]; exact (Ext.refl _ _).alloc _
 have hG11 : RdV w8 1 v n (bv xs) := hG6.ext0 hX10
 have hB12 : Blk w8 (wc5.heap.size) 84 #[(op o5)] := by rw [hw9]; exact Blk.new _ _ _
 have hs13 : w.heap.size ≤ wc5.heap.size := hE7.size
 have hE14 : Ext [] w w8 := by rw [hw9]; exact hE7.alloc _
 refine sg wide_wide [.p, .p] [] [(0, v), (2, (Pv wc5.heap.size)), (3, I6 0), (6, .bool false)] 6 0 hS .nil fun a hS => ?_
 refine seg_end ?_
 refine hK4 _ _ ?_
 refine wpIn_ret ?_
 refine ret2 hS Try.results13 rfl rfl ?_
 exact ⟨wc5.heap.size, o5, rfl, ⟨hB12, ho5.ext0 ((Ext.refl [] _).alloc _ |> fun h => by rw [hw9]; exact h), by rw [on, ko5]; omega⟩, by exact ko5, hE14⟩

theorem Cut_no {b : Nat} {o : Option Nd} {w : World} (hR : RpOk w b o) {x y : Int} (h : ¬(0 ≤ x ∧ x ≤ y ∧ y ≤ (on o : Int))) :
  Calls Try.prog 20 #[(Pv b), I6 x, I6 y] w fun e w' => RpN w 3 e w' := by
 refine calls_body 22 [(0, (Pv b)), (1, I6 x), (2, I6 y)] Try.func20 rfl (by kernel_rfl) (by kernel_rfl) (by kernel_rfl) fun a hS => ?_
 have hE0 : Ext [] w w := Ext.refl _ _
 refine sq fun K1 hK1 => ?_
 refine rgn 2 ?_
 refine sg wide_wide [.p, .p] [] [(0, (Pv b)), (1, I6 x), (2, I6 y), (6, .pointer none), (7, I6 0)] 2 0 hS .nil fun a hS => ?_
 refine seg_end ?_
 refine hK1 _ _ ?_
 refine sq fun K2 hK2 => ?_
 refine sq fun K3 hK3 => ?_
 refine rgn 5 ?_
 refine sg wide_wide [.p, .p, .p] [] [(0, (Pv b)), (1, I6 x), (2, I6 y), (6, .pointer none), (7, I6 0), (8, (Pv b)), (9, I6 x), (10, I6 y)] 3 2 hS .nil fun a hS => ?_
 refine eff_call wide_wide (r := 1) (f := 44) (vs := [(Pv b), I6 x, I6 y]) (cap := #[]) (d := (some 11)) hS (by kernel_rfl) Try.call44 #[(Pv b), I6 x, I6 y] (by kernel_rfl) (within_no hR h) ?_
 rintro _ wc4 ⟨rfl, hEc4⟩
 refine ⟨_, rfl, fun a hS => ?_⟩
 have hG6 : RpOk wc4 b o := hR.ext0 hEc4
 have hE7 := hE0.trans0 hEc4
 refine sg wide_wide [.p] [] [(0, (Pv b)), (1, I6 x), (2, I6 y), (6, .pointer none), (7, I6 0), (12, .bool true)] 5 0 hS .nil fun a hS => ?_
 refine seg_end ?_
 refine hK3 _ _ ?_
 refine cond_t hS rfl ?_
 refine sq fun K8 hK8 => ?_
 refine rgn 2 ?_
 refine sg wide_wide [.p, .p] [] [(0, (Pv b)), (1, I6 x), (2, I6 y), (6, .pointer none), (7, I6 3), (12, .bool true)] 2 0 hS .nil fun a hS => ?_
 refine seg_end ?_
 refine hK8 _ _ ?_
 refine wpIn_ret ?_
 refine then_ret ?_
 refine ret2 hS Try.results20 rfl rfl ?_
 exact ⟨rfl, hE7⟩

theorem Cut_any {b : Nat} {o : Option Nd} {w : World} (hR : RpOk w b o) {i j : Nat} (h : i ≤ j ∧ j ≤ on o) :
  Calls Try.prog 20 #[(Pv b), I6 ↑i, I6 ↑j] w fun e w' => RpR w (((obs o).drop i).take (j - i)) e w' := by
 have hon : on o = (obs o).length := rfl
 have hle : (obs o).length ≤ 16777216 := hR.2.2
 refine calls_body 22 [(0, (Pv b)), (1, I6 ↑i), (2, I6 ↑j)] Try.func20 rfl (by kernel_rfl) (by kernel_rfl) (by kernel_rfl) fun a hS => ?_
 have hE0 : Ext [] w w := Ext.refl _ _
 refine sq fun K1 hK1 => ?_
 refine rgn 2 ?_
 refine sg wide_wide [.p, .p] [] [(0, (Pv b)), (1, I6 ↑i), (2, I6 ↑j), (6, .pointer none), (7, I6 0)] 2 0 hS .nil fun a hS => ?_
 refine seg_end ?_
 refine hK1 _ _ ?_
 refine sq fun K2 hK2 => ?_
 refine sq fun K3 hK3 => ?_
 refine rgn 5 ?_
 refine sg wide_wide [.p, .p, .p] [] [(0, (Pv b)), (1, I6 ↑i), (2, I6 ↑j), (6, .pointer none), (7, I6 0), (8, (Pv b)), (9, I6 ↑i), (10, I6 ↑j)] 3 2 hS .nil fun a hS => ?_
 refine eff_call wide_wide (r := 1) (f := 44) (vs := [(Pv b), I6 ↑i, I6 ↑j]) (cap := #[]) (d := (some 11)) hS (by kernel_rfl) Try.call44 #[(Pv b), I6 ↑i, I6 ↑j] (by kernel_rfl) (within_3 hR (by omega)) ?_
 rintro _ wc4 ⟨rfl, hEc4⟩
 refine ⟨_, rfl, fun a hS => ?_⟩
 have hB5 := hR.1.ext hEc4 (by simp)
 have hG6 : RpOk wc4 b o := hR.ext0 hEc4
 have hE7 := hE0.trans0 hEc4
 refine sg wide_wide [.p] [] [(0, (Pv b)), (1, I6 ↑i), (2, I6 ↑j), (6, .pointer none), (7, I6 0), (12, .bool false)] 5 0 hS .nil fun a hS => ?_
 refine seg_end ?_
 refine hK3 _ _ ?_
 refine cond_f hS rfl ?_
 refine wpIn_skip ?_
 refine hK2 _ _ ?_
 refine sq fun K8 hK8 => ?_
 refine rgn 11 ?_
 refine sg wide_wide [.p, .p, .p, .ld ((op o)), .p, .p] [wc4.cell? ⟨b, 0, none⟩ = some ((op o))] [(0, (Pv b)), (1, I6 ↑i), (2, I6 ↑j), (6, .pointer none), (7, I6 0), (12, .bool false), (16, (op o)), (17, I6 ↑i), (18, I6 ↑j)] 6 5 hS (.cons (hB5.cell 0 rfl) .nil) fun a hS => ?_
 refine eff_call wide_wide (r := 4) (f := 42) (vs := [(op o), I6 ↑i, I6 ↑j]) (cap := #[]) (d := (some 19)) hS (by kernel_rfl) Try.call42 #[(op o), I6 ↑i, I6 ↑j] (by kernel_rfl) (cut_any i j hG6.2.1 (by omega) (by omega)) ?_
 rintro _ wc9 ⟨z9, rfl, hz9, kz9, hEc9⟩
 refine ⟨_, rfl, fun a hS => ?_⟩
 have hG11 : RpOk wc9 b o := hG6.ext0 hEc9
 have hE12 := hE7.trans0 hEc9
 refine sg wide_wide [.p] [] [(0, (Pv b)), (1, I6 ↑i), (2, I6 ↑j), (6, .pointer none), (7, I6 0), (12, .bool false), (20, .agg #[(op z9)])] 8 3 hS .nil fun a hS => ?_
 refine eff_box wide_wide (r := 2) (cs := #[(op z9)]) (T := 84) (d := (some 21)) hS (by kernel_rfl) fun a w13 hw14 hS => ?_
 have hX17 : Ext [] wc9 w13 := by rw [hw14]; exact (Ext.refl _ _).alloc _
 have hG18 : RpOk w13 b o := hG11.ext0 hX17
 have hB19 : Blk w13 (wc9.heap.size) 84 #[(op z9)] := by rw [hw14]; exact Blk.new _ _ _
 have hs20 : w.heap.size ≤ wc9.heap.size := hE12.size
 have hE21 : Ext [] w w13 := by rw [hw14]; exact hE12.alloc _
 refine sg wide_wide [.p, .p] [] [(0, (Pv b)), (1, I6 ↑i), (2, I6 ↑j), (6, (Pv wc9.heap.size)), (7, I6 0), (12, .bool false)] 11 0 hS .nil fun a hS => ?_
 refine seg_end ?_
 refine hK8 _ _ ?_
 refine wpIn_ret ?_
 refine ret2 hS Try.results20 rfl rfl ?_
 exact ⟨wc9.heap.size, z9, rfl, ⟨hB19, hz9.ext0 ((Ext.refl [] _).alloc _ |> fun h => by rw [hw14]; exact h), by rw [on, kz9, List.length_take, List.length_drop]; omega⟩, by exact kz9, hE21⟩

theorem Cat_long {b c : Nat} {o p : Option Nd} {w : World} (hR : RpOk w b o) (hQ : RpOk w c p) (h : on o + on p > 16777216) :
  Calls Try.prog 18 #[(Pv b), (Pv c)] w fun e w' => RpN w 2 e w' := by
 have hon : on o = (obs o).length := rfl
 have hle : (obs o).length ≤ 16777216 := hR.2.2
 have hop : on p = (obs p).length := rfl
 have hle2 : (obs p).length ≤ 16777216 := hQ.2.2
 refine calls_body 24 [(0, (Pv b)), (1, (Pv c))] Try.func18 rfl (by kernel_rfl) (by kernel_rfl) (by kernel_rfl) fun a hS => ?_
 have hE0 : Ext [] w w := Ext.refl _ _
 refine sq fun K1 hK1 => ?_
 refine rgn 2 ?_
 refine sg wide_wide [.p, .p] [] [(0, (Pv b)), (1, (Pv c)), (4, .pointer none), (5, I6 0)] 2 0 hS .nil fun a hS => ?_
 refine seg_end ?_
 refine hK1 _ _ ?_
 refine sq fun K2 hK2 => ?_
 refine sq fun K3 hK3 => ?_
 refine rgn 6 ?_
 refine sg wide_wide [.p] [] [(0, (Pv b)), (1, (Pv c)), (4, .pointer none), (5, I6 0), (6, (Pv b))] 1 5 hS .nil fun a hS => ?_
 refine eff_call wide_wide (r := 4) (f := 19) (vs := [(Pv b)]) (cap := #[]) (d := (some 7)) hS (by kernel_rfl) Try.call19 #[(Pv b)] (by kernel_rfl) (Len_any hR) ?_
 rintro _ wc4 ⟨rfl, hEc4⟩
 refine ⟨_, rfl, fun a hS => ?_⟩
 have hG7 : RpOk wc4 b o := hR.ext0 hEc4
 have hG8 : RpOk wc4 c p := hQ.ext0 hEc4
 have hE9 := hE0.trans0 hEc4
 refine sg wide_wide [.p] [] [(0, (Pv b)), (1, (Pv c)), (4, .pointer none), (5, I6 0), (7, I6 (↑(on o))), (8, (Pv c))] 3 3 hS .nil fun a hS => ?_
 refine eff_call wide_wide (r := 2) (f := 19) (vs := [(Pv c)]) (cap := #[]) (d := (some 9)) hS (by kernel_rfl) Try.call19 #[(Pv c)] (by kernel_rfl) (Len_any hG8) ?_
 rintro _ wc10 ⟨rfl, hEc10⟩
 refine ⟨_, rfl, fun a hS => ?_⟩
 have hG13 : RpOk wc10 b o := hG7.ext0 hEc10
 have hG14 : RpOk wc10 c p := hG8.ext0 hEc10
 have hE15 := hE9.trans0 hEc10
 refine sg wide_wide [.as (I6 ((↑(on o)) + (↑(on p)))), .as (.bool true)] [Value.int .i64 (IntKind.i64.wrap ((↑(on o)) + (↑(on p)))) = I6 ((↑(on o)) + (↑(on p))), Value.bool (decide (((↑(on o)) + (↑(on p)) : Int) > 16777216)) = .bool true] [(0, (Pv b)), (1, (Pv c)), (4, .pointer none), (5, I6 0), (11, .bool true)] 6 0 hS (.cons (as_i64 (by omega)) (.cons (as_t (by omega)) .nil)) fun a hS => ?_
 refine seg_end ?_
 refine hK3 _ _ ?_
 refine cond_t hS rfl ?_
 refine sq fun K16 hK16 => ?_
 refine rgn 2 ?_
 refine sg wide_wide [.p, .p] [] [(0, (Pv b)), (1, (Pv c)), (4, .pointer none), (5, I6 2), (11, .bool true)] 2 0 hS .nil fun a hS => ?_
 refine seg_end ?_
 refine hK16 _ _ ?_
 refine wpIn_ret ?_
 refine then_ret ?_
 refine ret2 hS Try.results18 rfl rfl ?_
 exact ⟨rfl, hE15⟩

theorem Cat_any {b c : Nat} {o p : Option Nd} {w : World} (hR : RpOk w b o) (hQ : RpOk w c p) (h : ¬on o + on p > 16777216) :
  Calls Try.prog 18 #[(Pv b), (Pv c)] w fun e w' => RpR w (obs o ++ obs p) e w' := by
 have hon : on o = (obs o).length := rfl
 have hle : (obs o).length ≤ 16777216 := hR.2.2
 have hop : on p = (obs p).length := rfl
 have hle2 : (obs p).length ≤ 16777216 := hQ.2.2
 refine calls_body 24 [(0, (Pv b)), (1, (Pv c))] Try.func18 rfl (by kernel_rfl) (by kernel_rfl) (by kernel_rfl) fun a hS => ?_
 have hE0 : Ext [] w w := Ext.refl _ _
 refine sq fun K1 hK1 => ?_
 refine rgn 2 ?_
 refine sg wide_wide [.p, .p] [] [(0, (Pv b)), (1, (Pv c)), (4, .pointer none), (5, I6 0)] 2 0 hS .nil fun a hS => ?_
 refine seg_end ?_
 refine hK1 _ _ ?_
 refine sq fun K2 hK2 => ?_
 refine sq fun K3 hK3 => ?_
 refine rgn 6 ?_
 refine sg wide_wide [.p] [] [(0, (Pv b)), (1, (Pv c)), (4, .pointer none), (5, I6 0), (6, (Pv b))] 1 5 hS .nil fun a hS => ?_
 refine eff_call wide_wide (r := 4) (f := 19) (vs := [(Pv b)]) (cap := #[]) (d := (some 7)) hS (by kernel_rfl) Try.call19 #[(Pv b)] (by kernel_rfl) (Len_any hR) ?_
 rintro _ wc4 ⟨rfl, hEc4⟩
 refine ⟨_, rfl, fun a hS => ?_⟩
 have hB5 := hR.1.ext hEc4 (by simp)
 have hB6 := hQ.1.ext hEc4 (by simp)
 have hG7 : RpOk wc4 b o := hR.ext0 hEc4
 have hG8 : RpOk wc4 c p := hQ.ext0 hEc4
 have hE9 := hE0.trans0 hEc4
 refine sg wide_wide [.p] [] [(0, (Pv b)), (1, (Pv c)), (4, .pointer none), (5, I6 0), (7, I6 (↑(on o))), (8, (Pv c))] 3 3 hS .nil fun a hS => ?_
 refine eff_call wide_wide (r := 2) (f := 19) (vs := [(Pv c)]) (cap := #[]) (d := (some 9)) hS (by kernel_rfl) Try.call19 #[(Pv c)] (by kernel_rfl) (Len_any hG8) ?_
 rintro _ wc10 ⟨rfl, hEc10⟩
 refine ⟨_, rfl, fun a hS => ?_⟩
 have hB11 := hB5.ext hEc10 (by simp)
 have hB12 := hB6.ext hEc10 (by simp)
 have hG13 : RpOk wc10 b o := hG7.ext0 hEc10
 have hG14 : RpOk wc10 c p := hG8.ext0 hEc10
 have hE15 := hE9.trans0 hEc10
 refine sg wide_wide [.as (I6 ((↑(on o)) + (↑(on p)))), .as (.bool false)] [Value.int .i64 (IntKind.i64.wrap ((↑(on o)) + (↑(on p)))) = I6 ((↑(on o)) + (↑(on p))), Value.bool (decide (((↑(on o)) + (↑(on p)) : Int) > 16777216)) = .bool false] [(0, (Pv b)), (1, (Pv c)), (4, .pointer none), (5, I6 0), (11, .bool false)] 6 0 hS (.cons (as_i64 (by omega)) (.cons (as_f (by omega)) .nil)) fun a hS => ?_
 refine seg_end ?_
 refine hK3 _ _ ?_
 refine cond_f hS rfl ?_
 refine wpIn_skip ?_
 refine hK2 _ _ ?_
 refine sq fun K16 hK16 => ?_
 refine region_gh2 (G := (Option Nd) × World) wide_wide [.q .p, .q .p, .q .p, .q (.ld ((op o))), .q .p, .q .p, .q .p, .q (.ld ((op p))), .e, .e, .q .p, .e, .q .p, .q .p] [0, 0, 0, 0, 0, 0, 0, 0, 0, 1, 2, 2, 3, 3] [0, 0, 0, 0, 0, 0, 0, 0, 0, 1, 2, 2, 3, 3] [0, 1, 3, 7, 0, 16, 48, 112, 255, 511, 1023, 2047, 4095, 8191] [8, 9, 11] [(8, 0), (9, 1), (11, 2)] 3 (fun ⟨z17, wc17⟩ => ([(0, (Pv b)), (1, (Pv c)), (11, .bool false), (4, (Pv wc17.heap.size)), (5, I6 0), (12, (Pv b)), (13, (Pv b)), (14, (Pv b)), (15, (op o)), (16, (Pv c)), (17, (Pv c)), (18, (Pv c)), (19, (op p)), (20, .slice (some ⟨wc10.heap.size, 0, none⟩) 2 2), (21, (op z17)), (22, .agg #[(op z17)]), (23, (Pv wc17.heap.size))] : Fm)) (fun ⟨z17, wc17⟩ => [wc10.drew, (wc10.drew).alloc (.cells #[(op o), (op p)] 81), wc17, (wc17).alloc (.cells #[(op z17)] 84)]) (wc10.drew) (fun e ⟨z17, wc17⟩ => hAt [True, True, (okO wc17 z17) ∧ (obs z17 = cat [o, p]) ∧ (Ext [] ((wc10.drew).alloc (.cells #[(op o), (op p)] 81)) wc17) ∧ True, (okO wc17 z17) ∧ (obs z17 = cat [o, p]) ∧ (Ext [] ((wc10.drew).alloc (.cells #[(op o), (op p)] 81)) wc17) ∧ True] e) (fun ⟨z17, wc17⟩ w' => [(3, [w'.cell? ⟨b, 0, none⟩ = some ((op o))]), (7, [w'.cell? ⟨c, 0, none⟩ = some ((op p))])]) (none, w) [0, 1, 11] [] hS (by kernel_rfl) (by kernel_rfl) (by kernel_rfl) (by kernel_rfl) (fun ⟨z17, wc17⟩ _ => by kernel_rfl) (by kernel_rfl) (by kernel_rfl) (by kernel_rfl) trivial ?_ (by kernel_rfl) ?_ ?_
 ·rintro e ⟨z17, wc17⟩ w' hw hH
  refine (.cons ?_ (.cons ?_ .nil))
  ·intro h1 h2
   obtain rfl : e = 0 := Nat.le_antisymm h2 h1
   have hwe : wc10.drew = w' := (hw.trans (by kernel_rfl)).symm
   subst hwe
   clear hH
   exact (.cons ((hB11.drew : Blk wc10.drew b 84 (#[(op o)])).cell 0 rfl) .nil)
  ·intro h1 h2
   obtain rfl : e = 0 := Nat.le_antisymm h2 h1
   have hwe : wc10.drew = w' := (hw.trans (by kernel_rfl)).symm
   subst hwe
   clear hH
   exact (.cons ((hB12.drew : Blk wc10.drew c 84 (#[(op p)])).cell 0 rfl) .nil)
 ·refine (.cons ?eq18_8 (.cons ?eq18_9 (.cons ?eq18_11 .nil)))
  ·rintro ⟨z17, wc17⟩ hH
   clear hH
   refine eff_gh (wc10.drew) (by kernel_rfl) ?_
   exact upon_new (nb := wc10.heap.size) (cs := #[(op o), (op p)]) (T := 81) (v := Value.slice (some ⟨wc10.heap.size, 0, none⟩) 2 2) (d := (some 20)) (by kernel_rfl) (by first | rfl | simp [upd_size]) ⟨(z17, wc17), by kernel_rfl, by kernel_rfl, by kernel_rfl, trivial⟩
  ·rintro ⟨z17, wc17⟩ hH
   clear hH
   refine eff_gh ((wc10.drew).alloc (.cells #[(op o), (op p)] 81)) (by kernel_rfl) ?_
   refine upon_call (f := 43) (vs := [.slice (some ⟨wc10.heap.size, 0, none⟩) 2 2]) (cap := #[]) (d := (some 21)) (by kernel_rfl) Try.call43 #[.slice (some ⟨wc10.heap.size, 0, none⟩) 2 2] (by kernel_rfl) (joined_any (os := [o, p]) (RdV.of_blk (n := 2) (Blk.new' _ _ _ (by first | rfl | simp [upd_size]) : Blk ((wc10.drew).alloc (.cells #[(op o), (op p)] 81)) wc10.heap.size 81 (#[(op o), (op p)])) rfl) (by intro q hq; simp at hq; rcases hq with rfl | rfl; exact (((hG13.ext0 ((Ext.refl [] _).drew)).ext0 ((Ext.refl [] _).alloc _))).2.1; exact (((hG14.ext0 ((Ext.refl [] _).drew)).ext0 ((Ext.refl [] _).alloc _))).2.1) (by simp [cat]; omega) (by simp) (((hG13.ext0 ((Ext.refl [] _).drew)).ext0 ((Ext.refl [] _).alloc _))).2.1.zb) ?_
   rintro _ wc17 ⟨z17, rfl, hz17, kz17, hEc17⟩
   exact ⟨_, rfl, ⟨(z17, wc17), by kernel_rfl, by kernel_rfl, by kernel_rfl, ⟨hz17, kz17, hEc17, trivial⟩⟩⟩
  ·rintro ⟨z17, wc17⟩ hH
   obtain ⟨hz17, kz17, hEc17, _⟩ := hH
   refine eff_gh (wc17) (by kernel_rfl) ?_
   exact upon_box (nb := wc17.heap.size) (cs := #[(op z17)]) (T := 84) (d := (some 23)) (by kernel_rfl) (by first | rfl | simp [upd_size]) ⟨(z17, wc17), by kernel_rfl, by kernel_rfl, by kernel_rfl, ⟨hz17, kz17, hEc17, trivial⟩⟩
 rintro ⟨z17, wc17⟩ a w19 hS hw20 hH
 obtain ⟨hz17, kz17, hEc17, _⟩ := hH
 replace hw20 : w19 = (wc17).alloc (.cells #[(op z17)] 84) := hw20.trans (by kernel_rfl)
 have hB24 : Blk w19 wc17.heap.size 84 (#[(op z17)]) := by rw [hw20]; exact Blk.new' _ _ _ (by first | rfl | simp [upd_size])
 have hE25 : Ext [] w w19 := by rw [hw20]; exact (((hE15.drew).alloc _).trans0 hEc17).alloc _
 have hX26 : Ext [] wc10 w19 := by rw [hw20]; exact ((((Ext.refl _ _).drew).alloc _).trans0 hEc17).alloc _
 have hG27 : RpOk w19 b o := hG13.ext0 hX26
 have hG28 : RpOk w19 c p := hG14.ext0 hX26
 replace hS := hS.kp [(0, (Pv b)), (1, (Pv c)), (11, .bool false), (4, (Pv wc17.heap.size)), (5, I6 0)]
 refine hK16 _ _ ?_
 refine wpIn_ret ?_
 refine ret2 hS Try.results18 rfl rfl ?_
 exact ⟨wc17.heap.size, z17, rfl, ⟨hB24, by rw [hw20]; exact hz17.ext0 ((Ext.refl [] _).alloc _), by rw [on, kz17]; simp [cat]; omega⟩, by rw [kz17]; simp [cat], hE25⟩

theorem Splice_0 {b : Nat} {o : Option Nd} {w : World} (hR : RpOk w b o) {v : Value} {n : Nat} {xs : List Int} (hv : RdV w 1 v n (bv xs)) (hB : BR xs) (hn : n ≤ 10000000000) {x y : Int} (h : x < 0) :
  Calls Try.prog 23 #[(Pv b), I6 x, I6 y, v] w fun e w' => RpN w 3 e w' := by
 have hon : on o = (obs o).length := rfl
 have hle : (obs o).length ≤ 16777216 := hR.2.2
 have hlen : xs.length = n := by have := hv.len; simpa using this
 refine calls_body 60 [(0, (Pv b)), (1, I6 x), (2, I6 y), (3, v)] Try.func23 rfl (by kernel_rfl) (by kernel_rfl) (by kernel_rfl) fun a hS => ?_
 have hE0 : Ext [] w w := Ext.refl _ _
 refine sq fun K1 hK1 => ?_
 refine rgn 2 ?_
 refine sg wide_wide [.p, .p] [] [(0, (Pv b)), (1, I6 x), (2, I6 y), (3, v), (8, .pointer none), (9, I6 0)] 2 0 hS .nil fun a hS => ?_
 refine seg_end ?_
 refine hK1 _ _ ?_
 refine sq fun K2 hK2 => ?_
 refine sq fun K3 hK3 => ?_
 refine rgn 20 ?_
 refine sg wide_wide [.p, .as (.bool true), .p, .no, .no, .p, .p, .no, .no, .no, .no, .p, .p, .no, .no, .no, .no, .no, .no, .p] [Value.bool (decide ((x : Int) < 0)) = .bool true] [(0, (Pv b)), (1, I6 x), (2, I6 y), (3, v), (8, .pointer none), (9, I6 0), (29, .bool true)] 20 0 hS (.cons (as_t (by omega)) .nil) fun a hS => ?_
 refine seg_end ?_
 refine hK3 _ _ ?_
 refine cond_t hS rfl ?_
 refine sq fun K4 hK4 => ?_
 refine rgn 2 ?_
 refine sg wide_wide [.p, .p] [] [(0, (Pv b)), (1, I6 x), (2, I6 y), (3, v), (8, .pointer none), (9, I6 3), (29, .bool true)] 2 0 hS .nil fun a hS => ?_
 refine seg_end ?_
 refine hK4 _ _ ?_
 refine wpIn_ret ?_
 refine then_ret ?_
 refine ret2 hS Try.results23 rfl rfl ?_
 exact ⟨rfl, hE0⟩

theorem Splice_1 {b : Nat} {o : Option Nd} {w : World} (hR : RpOk w b o) {v : Value} {n : Nat} {xs : List Int} (hv : RdV w 1 v n (bv xs)) (hB : BR xs) (hn : n ≤ 10000000000) {x y : Int} (h : 0 ≤ x ∧ y < 0) :
  Calls Try.prog 23 #[(Pv b), I6 x, I6 y, v] w fun e w' => RpN w 3 e w' := by
 have hon : on o = (obs o).length := rfl
 have hle : (obs o).length ≤ 16777216 := hR.2.2
 have hlen : xs.length = n := by have := hv.len; simpa using this
 refine calls_body 60 [(0, (Pv b)), (1, I6 x), (2, I6 y), (3, v)] Try.func23 rfl (by kernel_rfl) (by kernel_rfl) (by kernel_rfl) fun a hS => ?_
 have hE0 : Ext [] w w := Ext.refl _ _
 refine sq fun K1 hK1 => ?_
 refine rgn 2 ?_
 refine sg wide_wide [.p, .p] [] [(0, (Pv b)), (1, I6 x), (2, I6 y), (3, v), (8, .pointer none), (9, I6 0)] 2 0 hS .nil fun a hS => ?_
 refine seg_end ?_
 refine hK1 _ _ ?_
 refine sq fun K2 hK2 => ?_
 refine sq fun K3 hK3 => ?_
 refine rgn 20 ?_
 refine sg wide_wide [.p, .as (.bool false), .p, .p, .as (.bool true), .p, .p, .no, .no, .no, .no, .p, .p, .no, .no, .no, .no, .no, .no, .p] [Value.bool (decide ((x : Int) < 0)) = .bool false, Value.bool (decide ((y : Int) < 0)) = .bool true] [(0, (Pv b)), (1, I6 x), (2, I6 y), (3, v), (8, .pointer none), (9, I6 0), (29, .bool true)] 20 0 hS (.cons (as_f (by omega)) (.cons (as_t (by omega)) .nil)) fun a hS => ?_
 refine seg_end ?_
 refine hK3 _ _ ?_
 refine cond_t hS rfl ?_
 refine sq fun K4 hK4 => ?_
 refine rgn 2 ?_
 refine sg wide_wide [.p, .p] [] [(0, (Pv b)), (1, I6 x), (2, I6 y), (3, v), (8, .pointer none), (9, I6 3), (29, .bool true)] 2 0 hS .nil fun a hS => ?_
 refine seg_end ?_
 refine hK4 _ _ ?_
 refine wpIn_ret ?_
 refine then_ret ?_
 refine ret2 hS Try.results23 rfl rfl ?_
 exact ⟨rfl, hE0⟩

theorem Splice_2 {b : Nat} {o : Option Nd} {w : World} (hR : RpOk w b o) {v : Value} {n : Nat} {xs : List Int} (hv : RdV w 1 v n (bv xs)) (hB : BR xs) (hn : n ≤ 10000000000) {x y : Int} (h : 0 ≤ x ∧ 0 ≤ y ∧ x > (on o : Int)) :
  Calls Try.prog 23 #[(Pv b), I6 x, I6 y, v] w fun e w' => RpN w 3 e w' := by
 have hon : on o = (obs o).length := rfl
 have hle : (obs o).length ≤ 16777216 := hR.2.2
 have hlen : xs.length = n := by have := hv.len; simpa using this
 refine calls_body 60 [(0, (Pv b)), (1, I6 x), (2, I6 y), (3, v)] Try.func23 rfl (by kernel_rfl) (by kernel_rfl) (by kernel_rfl) fun a hS => ?_
 have hE0 : Ext [] w w := Ext.refl _ _
 refine sq fun K1 hK1 => ?_
 refine rgn 2 ?_
 refine sg wide_wide [.p, .p] [] [(0, (Pv b)), (1, I6 x), (2, I6 y), (3, v), (8, .pointer none), (9, I6 0)] 2 0 hS .nil fun a hS => ?_
 refine seg_end ?_
 refine hK1 _ _ ?_
 refine sq fun K2 hK2 => ?_
 refine sq fun K3 hK3 => ?_
 refine rgn 20 ?_
 refine sg wide_wide [.p, .as (.bool false), .p, .p, .as (.bool false), .p, .p, .p, .p] [Value.bool (decide ((x : Int) < 0)) = .bool false, Value.bool (decide ((y : Int) < 0)) = .bool false] [(0, (Pv b)), (1, I6 x), (2, I6 y), (3, v), (8, .pointer none), (9, I6 0), (16, .bool false), (17, I6 x), (18, (Pv b))] 9 11 hS (.cons (as_f (by omega)) (.cons (as_f (by omega)) .nil)) fun a hS => ?_
 refine eff_call wide_wide (r := 10) (f := 19) (vs := [(Pv b)]) (cap := #[]) (d := (some 19)) hS (by kernel_rfl) Try.call19 #[(Pv b)] (by kernel_rfl) (Len_any hR) ?_
 rintro _ wc4 ⟨rfl, hEc4⟩
 refine ⟨_, rfl, fun a hS => ?_⟩
 have hG6 : RpOk wc4 b o := hR.ext0 hEc4
 have hG7 : RdV wc4 1 v n (bv xs) := hv.ext0 hEc4
 have hE8 := hE0.trans0 hEc4
 refine sg wide_wide [.as (.bool true), .p, .p, .no, .no, .no, .no, .no, .no, .p] [Value.bool (decide ((x : Int) > ↑(on o))) = .bool true] [(0, (Pv b)), (1, I6 x), (2, I6 y), (3, v), (8, .pointer none), (9, I6 0), (29, .bool true)] 20 0 hS (.cons (as_t (by omega)) .nil) fun a hS => ?_
 refine seg_end ?_
 refine hK3 _ _ ?_
 refine cond_t hS rfl ?_
 refine sq fun K9 hK9 => ?_
 refine rgn 2 ?_
 refine sg wide_wide [.p, .p] [] [(0, (Pv b)), (1, I6 x), (2, I6 y), (3, v), (8, .pointer none), (9, I6 3), (29, .bool true)] 2 0 hS .nil fun a hS => ?_
 refine seg_end ?_
 refine hK9 _ _ ?_
 refine wpIn_ret ?_
 refine then_ret ?_
 refine ret2 hS Try.results23 rfl rfl ?_
 exact ⟨rfl, hE8⟩

theorem Splice_3 {b : Nat} {o : Option Nd} {w : World} (hR : RpOk w b o) {v : Value} {n : Nat} {xs : List Int} (hv : RdV w 1 v n (bv xs)) (hB : BR xs) (hn : n ≤ 10000000000) {x y : Int} (h : 0 ≤ x ∧ 0 ≤ y ∧ x ≤ (on o : Int) ∧ y > (on o : Int) - x) :
  Calls Try.prog 23 #[(Pv b), I6 x, I6 y, v] w fun e w' => RpN w 3 e w' := by
 have hon : on o = (obs o).length := rfl
 have hle : (obs o).length ≤ 16777216 := hR.2.2
 have hlen : xs.length = n := by have := hv.len; simpa using this
 refine calls_body 60 [(0, (Pv b)), (1, I6 x), (2, I6 y), (3, v)] Try.func23 rfl (by kernel_rfl) (by kernel_rfl) (by kernel_rfl) fun a hS => ?_
 have hE0 : Ext [] w w := Ext.refl _ _
 refine sq fun K1 hK1 => ?_
 refine rgn 2 ?_
 refine sg wide_wide [.p, .p] [] [(0, (Pv b)), (1, I6 x), (2, I6 y), (3, v), (8, .pointer none), (9, I6 0)] 2 0 hS .nil fun a hS => ?_
 refine seg_end ?_
 refine hK1 _ _ ?_
 refine sq fun K2 hK2 => ?_
 refine sq fun K3 hK3 => ?_
 refine rgn 20 ?_
 refine sg wide_wide [.p, .as (.bool false), .p, .p, .as (.bool false), .p, .p, .p, .p] [Value.bool (decide ((x : Int) < 0)) = .bool false, Value.bool (decide ((y : Int) < 0)) = .bool false] [(0, (Pv b)), (1, I6 x), (2, I6 y), (3, v), (8, .pointer none), (9, I6 0), (16, .bool false), (17, I6 x), (18, (Pv b))] 9 11 hS (.cons (as_f (by omega)) (.cons (as_f (by omega)) .nil)) fun a hS => ?_
 refine eff_call wide_wide (r := 10) (f := 19) (vs := [(Pv b)]) (cap := #[]) (d := (some 19)) hS (by kernel_rfl) Try.call19 #[(Pv b)] (by kernel_rfl) (Len_any hR) ?_
 rintro _ wc4 ⟨rfl, hEc4⟩
 refine ⟨_, rfl, fun a hS => ?_⟩
 have hG6 : RpOk wc4 b o := hR.ext0 hEc4
 have hG7 : RdV wc4 1 v n (bv xs) := hv.ext0 hEc4
 have hE8 := hE0.trans0 hEc4
 refine sg wide_wide [.as (.bool false), .p, .p, .p, .p] [Value.bool (decide ((x : Int) > ↑(on o))) = .bool false] [(0, (Pv b)), (1, I6 x), (2, I6 y), (3, v), (8, .pointer none), (9, I6 0), (22, .bool false), (23, I6 y), (24, (Pv b))] 15 5 hS (.cons (as_f (by omega)) .nil) fun a hS => ?_
 refine eff_call wide_wide (r := 4) (f := 19) (vs := [(Pv b)]) (cap := #[]) (d := (some 25)) hS (by kernel_rfl) Try.call19 #[(Pv b)] (by kernel_rfl) (Len_any hG6) ?_
 rintro _ wc9 ⟨rfl, hEc9⟩
 refine ⟨_, rfl, fun a hS => ?_⟩
 have hG11 : RpOk wc9 b o := hG6.ext0 hEc9
 have hG12 : RdV wc9 1 v n (bv xs) := hG7.ext0 hEc9
 have hE13 := hE8.trans0 hEc9
 refine sg wide_wide [.p, .as (I6 ((↑(on o)) - x)), .as (.bool true), .p] [Value.int .i64 (IntKind.i64.wrap ((↑(on o)) - x)) = I6 ((↑(on o)) - x), Value.bool (decide ((y : Int) > (↑(on o)) - x)) = .bool true] [(0, (Pv b)), (1, I6 x), (2, I6 y), (3, v), (8, .pointer none), (9, I6 0), (29, .bool true)] 20 0 hS (.cons (as_i64 (by omega)) (.cons (as_t (by omega)) .nil)) fun a hS => ?_
 refine seg_end ?_
 refine hK3 _ _ ?_
 refine cond_t hS rfl ?_
 refine sq fun K14 hK14 => ?_
 refine rgn 2 ?_
 refine sg wide_wide [.p, .p] [] [(0, (Pv b)), (1, I6 x), (2, I6 y), (3, v), (8, .pointer none), (9, I6 3), (29, .bool true)] 2 0 hS .nil fun a hS => ?_
 refine seg_end ?_
 refine hK14 _ _ ?_
 refine wpIn_ret ?_
 refine then_ret ?_
 refine ret2 hS Try.results23 rfl rfl ?_
 exact ⟨rfl, hE13⟩

theorem Splice_long {b : Nat} {o : Option Nd} {w : World} (hR : RpOk w b o) {v : Value} {n : Nat} {xs : List Int} (hv : RdV w 1 v n (bv xs)) (hB : BR xs) (hn : n ≤ 10000000000) {i d : Nat} (h : i + d ≤ on o) (h2 : on o - d + n > 16777216) :
  Calls Try.prog 23 #[(Pv b), I6 ↑i, I6 ↑d, v] w fun e w' => RpN w 2 e w' := by
 have hon : on o = (obs o).length := rfl
 have hle : (obs o).length ≤ 16777216 := hR.2.2
 have hlen : xs.length = n := by have := hv.len; simpa using this
 refine calls_body 60 [(0, (Pv b)), (1, I6 ↑i), (2, I6 ↑d), (3, v)] Try.func23 rfl (by kernel_rfl) (by kernel_rfl) (by kernel_rfl) fun a hS => ?_
 have hE0 : Ext [] w w := Ext.refl _ _
 refine sq fun K1 hK1 => ?_
 refine rgn 2 ?_
 refine sg wide_wide [.p, .p] [] [(0, (Pv b)), (1, I6 ↑i), (2, I6 ↑d), (3, v), (8, .pointer none), (9, I6 0)] 2 0 hS .nil fun a hS => ?_
 refine seg_end ?_
 refine hK1 _ _ ?_
 refine sq fun K2 hK2 => ?_
 refine sq fun K3 hK3 => ?_
 refine rgn 20 ?_
 refine sg wide_wide [.p, .as (.bool false), .p, .p, .as (.bool false), .p, .p, .p, .p] [Value.bool (decide ((↑i : Int) < 0)) = .bool false, Value.bool (decide ((↑d : Int) < 0)) = .bool false] [(0, (Pv b)), (1, I6 ↑i), (2, I6 ↑d), (3, v), (8, .pointer none), (9, I6 0), (16, .bool false), (17, I6 ↑i), (18, (Pv b))] 9 11 hS (.cons (as_f (by omega)) (.cons (as_f (by omega)) .nil)) fun a hS => ?_
 refine eff_call wide_wide (r := 10) (f := 19) (vs := [(Pv b)]) (cap := #[]) (d := (some 19)) hS (by kernel_rfl) Try.call19 #[(Pv b)] (by kernel_rfl) (Len_any hR) ?_
 rintro _ wc4 ⟨rfl, hEc4⟩
 refine ⟨_, rfl, fun a hS => ?_⟩
 have hG6 : RpOk wc4 b o := hR.ext0 hEc4
 have hG7 : RdV wc4 1 v n (bv xs) := hv.ext0 hEc4
 have hE8 := hE0.trans0 hEc4
 refine sg wide_wide [.as (.bool false), .p, .p, .p, .p] [Value.bool (decide ((↑i : Int) > ↑(on o))) = .bool false] [(0, (Pv b)), (1, I6 ↑i), (2, I6 ↑d), (3, v), (8, .pointer none), (9, I6 0), (22, .bool false), (23, I6 ↑d), (24, (Pv b))] 15 5 hS (.cons (as_f (by omega)) .nil) fun a hS => ?_
 refine eff_call wide_wide (r := 4) (f := 19) (vs := [(Pv b)]) (cap := #[]) (d := (some 25)) hS (by kernel_rfl) Try.call19 #[(Pv b)] (by kernel_rfl) (Len_any hG6) ?_
 rintro _ wc9 ⟨rfl, hEc9⟩
 refine ⟨_, rfl, fun a hS => ?_⟩
 have hG11 : RpOk wc9 b o := hG6.ext0 hEc9
 have hG12 : RdV wc9 1 v n (bv xs) := hG7.ext0 hEc9
 have hE13 := hE8.trans0 hEc9
 refine sg wide_wide [.p, .as (I6 ((↑(on o)) - ↑i)), .as (.bool false), .p] [Value.int .i64 (IntKind.i64.wrap ((↑(on o)) - ↑i)) = I6 ((↑(on o)) - ↑i), Value.bool (decide ((↑d : Int) > (↑(on o)) - ↑i)) = .bool false] [(0, (Pv b)), (1, I6 ↑i), (2, I6 ↑d), (3, v), (8, .pointer none), (9, I6 0), (29, .bool false)] 20 0 hS (.cons (as_i64 (by omega)) (.cons (as_f (by omega)) .nil)) fun a hS => ?_
 refine seg_end ?_
 refine hK3 _ _ ?_
 refine cond_f hS rfl ?_
 refine wpIn_skip ?_
 refine hK2 _ _ ?_
 refine sq fun K14 hK14 => ?_
 refine sq fun K15 hK15 => ?_
 refine rgn 8 ?_
 refine sg wide_wide [.p] [] [(0, (Pv b)), (1, I6 ↑i), (2, I6 ↑d), (3, v), (8, .pointer none), (9, I6 0), (29, .bool false), (30, (Pv b))] 1 7 hS .nil fun a hS => ?_
 refine eff_call wide_wide (r := 6) (f := 19) (vs := [(Pv b)]) (cap := #[]) (d := (some 31)) hS (by kernel_rfl) Try.call19 #[(Pv b)] (by kernel_rfl) (Len_any hG11) ?_
 rintro _ wc16 ⟨rfl, hEc16⟩
 refine ⟨_, rfl, fun a hS => ?_⟩
 have hG18 : RpOk wc16 b o := hG11.ext0 hEc16
 have hG19 : RdV wc16 1 v n (bv xs) := hG12.ext0 hEc16
 have hE20 := hE13.trans0 hEc16
 refine sg wide_wide [.p, .as (I6 ((↑(on o)) - ↑d)), .p, .run (I6 ↑n), .as (I6 (((↑(on o)) - ↑d) + ↑n)), .as (.bool true)] [Value.int .i64 (IntKind.i64.wrap ((↑(on o)) - ↑d)) = I6 ((↑(on o)) - ↑d), Ru Try.prog (vS (Builtin.len_ #[23] 3 #[v])) (I6 ↑n) wc16, Value.int .i64 (IntKind.i64.wrap (((↑(on o)) - ↑d) + ↑n)) = I6 (((↑(on o)) - ↑d) + ↑n), Value.bool (decide ((((↑(on o)) - ↑d) + ↑n : Int) > 16777216)) = .bool true] [(0, (Pv b)), (1, I6 ↑i), (2, I6 ↑d), (3, v), (8, .pointer none), (9, I6 0), (29, .bool false), (37, .bool true)] 8 0 hS (.cons (as_i64 (by omega)) (.cons (run_len_rd (e := 5) hv (by kernel_rfl)) (.cons (as_i64 (by omega)) (.cons (as_t (by omega)) .nil)))) fun a hS => ?_
 refine seg_end ?_
 refine hK15 _ _ ?_
 refine cond_t hS rfl ?_
 refine sq fun K21 hK21 => ?_
 refine rgn 2 ?_
 refine sg wide_wide [.p, .p] [] [(0, (Pv b)), (1, I6 ↑i), (2, I6 ↑d), (3, v), (8, .pointer none), (9, I6 2), (29, .bool false), (37, .bool true)] 2 0 hS .nil fun a hS => ?_
 refine seg_end ?_
 refine hK21 _ _ ?_
 refine wpIn_ret ?_
 refine then_ret ?_
 refine ret2 hS Try.results23 rfl rfl ?_
 exact ⟨rfl, hE20⟩

theorem Splice_any {b : Nat} {o : Option Nd} {w : World} (hR : RpOk w b o) {v : Value} {n : Nat} {xs : List Int} (hv : RdV w 1 v n (bv xs)) (hB : BR xs) (hn : n ≤ 10000000000) {i d : Nat} (h : i + d ≤ on o) (h2 : ¬on o - d + n > 16777216) :
  Calls Try.prog 23 #[(Pv b), I6 ↑i, I6 ↑d, v] w fun e w' => RpR w ((obs o).take i ++ (xs ++ (obs o).drop (i + d))) e w' := by
 have hon : on o = (obs o).length := rfl
 have hle : (obs o).length ≤ 16777216 := hR.2.2
 have hlen : xs.length = n := by have := hv.len; simpa using this
 refine calls_body 60 [(0, (Pv b)), (1, I6 ↑i), (2, I6 ↑d), (3, v)] Try.func23 rfl (by kernel_rfl) (by kernel_rfl) (by kernel_rfl) fun a hS => ?_
 have hE0 : Ext [] w w := Ext.refl _ _
 refine sq fun K1 hK1 => ?_
 refine rgn 2 ?_
 refine sg wide_wide [.p, .p] [] [(0, (Pv b)), (1, I6 ↑i), (2, I6 ↑d), (3, v), (8, .pointer none), (9, I6 0)] 2 0 hS .nil fun a hS => ?_
 refine seg_end ?_
 refine hK1 _ _ ?_
 refine sq fun K2 hK2 => ?_
 refine sq fun K3 hK3 => ?_
 refine rgn 20 ?_
 refine sg wide_wide [.p, .as (.bool false), .p, .p, .as (.bool false), .p, .p, .p, .p] [Value.bool (decide ((↑i : Int) < 0)) = .bool false, Value.bool (decide ((↑d : Int) < 0)) = .bool false] [(0, (Pv b)), (1, I6 ↑i), (2, I6 ↑d), (3, v), (8, .pointer none), (9, I6 0), (16, .bool false), (17, I6 ↑i), (18, (Pv b))] 9 11 hS (.cons (as_f (by omega)) (.cons (as_f (by omega)) .nil)) fun a hS => ?_
 refine eff_call wide_wide (r := 10) (f := 19) (vs := [(Pv b)]) (cap := #[]) (d := (some 19)) hS (by kernel_rfl) Try.call19 #[(Pv b)] (by kernel_rfl) (Len_any hR) ?_
 rintro _ wc4 ⟨rfl, hEc4⟩
 refine ⟨_, rfl, fun a hS => ?_⟩
 have hB5 := hR.1.ext hEc4 (by simp)
 have hG6 : RpOk wc4 b o := hR.ext0 hEc4
 have hG7 : RdV wc4 1 v n (bv xs) := hv.ext0 hEc4
 have hE8 := hE0.trans0 hEc4
 refine sg wide_wide [.as (.bool false), .p, .p, .p, .p] [Value.bool (decide ((↑i : Int) > ↑(on o))) = .bool false] [(0, (Pv b)), (1, I6 ↑i), (2, I6 ↑d), (3, v), (8, .pointer none), (9, I6 0), (22, .bool false), (23, I6 ↑d), (24, (Pv b))] 15 5 hS (.cons (as_f (by omega)) .nil) fun a hS => ?_
 refine eff_call wide_wide (r := 4) (f := 19) (vs := [(Pv b)]) (cap := #[]) (d := (some 25)) hS (by kernel_rfl) Try.call19 #[(Pv b)] (by kernel_rfl) (Len_any hG6) ?_
 rintro _ wc9 ⟨rfl, hEc9⟩
 refine ⟨_, rfl, fun a hS => ?_⟩
 have hB10 := hB5.ext hEc9 (by simp)
 have hG11 : RpOk wc9 b o := hG6.ext0 hEc9
 have hG12 : RdV wc9 1 v n (bv xs) := hG7.ext0 hEc9
 have hE13 := hE8.trans0 hEc9
 refine sg wide_wide [.p, .as (I6 ((↑(on o)) - ↑i)), .as (.bool false), .p] [Value.int .i64 (IntKind.i64.wrap ((↑(on o)) - ↑i)) = I6 ((↑(on o)) - ↑i), Value.bool (decide ((↑d : Int) > (↑(on o)) - ↑i)) = .bool false] [(0, (Pv b)), (1, I6 ↑i), (2, I6 ↑d), (3, v), (8, .pointer none), (9, I6 0), (29, .bool false)] 20 0 hS (.cons (as_i64 (by omega)) (.cons (as_f (by omega)) .nil)) fun a hS => ?_
 refine seg_end ?_
 refine hK3 _ _ ?_
 refine cond_f hS rfl ?_
 refine wpIn_skip ?_
 refine hK2 _ _ ?_
 refine sq fun K14 hK14 => ?_
 refine sq fun K15 hK15 => ?_
 refine rgn 8 ?_
 refine sg wide_wide [.p] [] [(0, (Pv b)), (1, I6 ↑i), (2, I6 ↑d), (3, v), (8, .pointer none), (9, I6 0), (29, .bool false), (30, (Pv b))] 1 7 hS .nil fun a hS => ?_
 refine eff_call wide_wide (r := 6) (f := 19) (vs := [(Pv b)]) (cap := #[]) (d := (some 31)) hS (by kernel_rfl) Try.call19 #[(Pv b)] (by kernel_rfl) (Len_any hG11) ?_
 rintro _ wc16 ⟨rfl, hEc16⟩
 refine ⟨_, rfl, fun a hS => ?_⟩
 have hB17 := hB10.ext hEc16 (by simp)
 have hG18 : RpOk wc16 b o := hG11.ext0 hEc16
 have hG19 : RdV wc16 1 v n (bv xs) := hG12.ext0 hEc16
 have hE20 := hE13.trans0 hEc16
 refine sg wide_wide [.p, .as (I6 ((↑(on o)) - ↑d)), .p, .run (I6 ↑n), .as (I6 (((↑(on o)) - ↑d) + ↑n)), .as (.bool false)] [Value.int .i64 (IntKind.i64.wrap ((↑(on o)) - ↑d)) = I6 ((↑(on o)) - ↑d), Ru Try.prog (vS (Builtin.len_ #[23] 3 #[v])) (I6 ↑n) wc16, Value.int .i64 (IntKind.i64.wrap (((↑(on o)) - ↑d) + ↑n)) = I6 (((↑(on o)) - ↑d) + ↑n), Value.bool (decide ((((↑(on o)) - ↑d) + ↑n : Int) > 16777216)) = .bool false] [(0, (Pv b)), (1, I6 ↑i), (2, I6 ↑d), (3, v), (8, .pointer none), (9, I6 0), (29, .bool false), (37, .bool false)] 8 0 hS (.cons (as_i64 (by omega)) (.cons (run_len_rd (e := 5) hv (by kernel_rfl)) (.cons (as_i64 (by omega)) (.cons (as_f (by omega)) .nil)))) fun a hS => ?_
 refine seg_end ?_
 refine hK15 _ _ ?_
 refine cond_f hS rfl ?_
 refine wpIn_skip ?_
 refine hK14 _ _ ?_
 refine sq fun K21 hK21 => ?_
 refine region_gh2 (G := (Option Nd) × World × (Option Nd) × World × World × (Option Nd) × World × (Option Nd) × World) wide_wide [.q .p, .q .p, .q .p, .q (.ld ((op o))), .q .p, .e, .q .p, .e, .q .p, .q .p, .q .p, .q (.ld ((op o))), .q .p, .q .p, .q (.as (I6 (↑i + ↑d))), .q .p, .e, .e, .e, .e, .q .p, .e, .q .p, .q .p] [0, 0, 0, 0, 0, 0, 0, 1, 0, 0, 0, 0, 0, 0, 0, 0, 2, 3, 4, 5, 6, 6, 7, 7] [0, 0, 0, 0, 0, 0, 1, 1, 3, 3, 3, 3, 3, 3, 3, 2, 2, 3, 4, 5, 6, 6, 7, 7] [0, 1, 3, 7, 0, 31, 0, 127, 0, 256, 768, 1792, 0, 0, 12288, 0, 33023, 131071, 262143, 524287, 1048575, 2097151, 4194303, 8388607] [5, 7, 16, 17, 18, 19, 21] [(5, 0), (7, 1), (16, 2), (17, 3), (18, 4), (19, 5), (21, 6)] 7 (fun ⟨y122, wc22, y223, wc23, wc24, y325, wc25, z26, wc26⟩ => ([(0, (Pv b)), (1, I6 ↑i), (2, I6 ↑d), (3, v), (29, .bool false), (37, .bool false), (8, (Pv wc26.heap.size)), (9, I6 0), (38, (Pv b)), (39, (Pv b)), (40, (Pv b)), (41, (op o)), (42, I6 ↑i), (43, (op y122)), (44, v), (45, (op y223)), (46, (Pv b)), (47, (Pv b)), (48, (Pv b)), (49, (op o)), (50, I6 ↑i), (51, I6 ↑d), (52, I6 (↑i + ↑d)), (53, (Pv b)), (54, I6 (↑(on o))), (55, (op y325)), (56, .slice (some ⟨wc25.heap.size, 0, none⟩) 3 3), (57, (op z26)), (58, .agg #[(op z26)]), (59, (Pv wc26.heap.size))] : Fm)) (fun ⟨y122, wc22, y223, wc23, wc24, y325, wc25, z26, wc26⟩ => [wc16.drew, wc22, wc23, wc24, wc25, (wc25).alloc (.cells #[(op y122), (op y223), (op y325)] 81), wc26, (wc26).alloc (.cells #[(op z26)] 84)]) (wc16.drew) (fun e ⟨y122, wc22, y223, wc23, wc24, y325, wc25, z26, wc26⟩ => hAt [True, (okO wc22 y122) ∧ (obs y122 = ((obs o).drop 0).take (i - 0)) ∧ (Ext [] wc16.drew wc22) ∧ True, (okO wc22 y122) ∧ (obs y122 = ((obs o).drop 0).take (i - 0)) ∧ (Ext [] wc16.drew wc22) ∧ (okO wc23 y223) ∧ (obs y223 = xs) ∧ (Ext [] wc22 wc23) ∧ True, (okO wc22 y122) ∧ (obs y122 = ((obs o).drop 0).take (i - 0)) ∧ (Ext [] wc16.drew wc22) ∧ (okO wc23 y223) ∧ (obs y223 = xs) ∧ (Ext [] wc22 wc23) ∧ (Ext [] wc23 wc24) ∧ True, (okO wc22 y122) ∧ (obs y122 = ((obs o).drop 0).take (i - 0)) ∧ (Ext [] wc16.drew wc22) ∧ (okO wc23 y223) ∧ (obs y223 = xs) ∧ (Ext [] wc22 wc23) ∧ (Ext [] wc23 wc24) ∧ (okO wc25 y325) ∧ (obs y325 = ((obs o).drop (i + d)).take (on o - (i + d))) ∧ (Ext [] wc24 wc25) ∧ True, (okO wc22 y122) ∧ (obs y122 = ((obs o).drop 0).take (i - 0)) ∧ (Ext [] wc16.drew wc22) ∧ (okO wc23 y223) ∧ (obs y223 = xs) ∧ (Ext [] wc22 wc23) ∧ (Ext [] wc23 wc24) ∧ (okO wc25 y325) ∧ (obs y325 = ((obs o).drop (i + d)).take (on o - (i + d))) ∧ (Ext [] wc24 wc25) ∧ True, (okO wc22 y122) ∧ (obs y122 = ((obs o).drop 0).take (i - 0)) ∧ (Ext [] wc16.drew wc22) ∧ (okO wc23 y223) ∧ (obs y223 = xs) ∧ (Ext [] wc22 wc23) ∧ (Ext [] wc23 wc24) ∧ (okO wc25 y325) ∧ (obs y325 = ((obs o).drop (i + d)).take (on o - (i + d))) ∧ (Ext [] wc24 wc25) ∧ (okO wc26 z26) ∧ (obs z26 = cat [y122, y223, y325]) ∧ (Ext [] ((wc25).alloc (.cells #[(op y122), (op y223), (op y325)] 81)) wc26) ∧ True, (okO wc22 y122) ∧ (obs y122 = ((obs o).drop 0).take (i - 0)) ∧ (Ext [] wc16.drew wc22) ∧ (okO wc23 y223) ∧ (obs y223 = xs) ∧ (Ext [] wc22 wc23) ∧ (Ext [] wc23 wc24) ∧ (okO wc25 y325) ∧ (obs y325 = ((obs o).drop (i + d)).take (on o - (i + d))) ∧ (Ext [] wc24 wc25) ∧ (okO wc26 z26) ∧ (obs z26 = cat [y122, y223, y325]) ∧ (Ext [] ((wc25).alloc (.cells #[(op y122), (op y223), (op y325)] 81)) wc26) ∧ True] e) (fun ⟨y122, wc22, y223, wc23, wc24, y325, wc25, z26, wc26⟩ w' => [(3, [w'.cell? ⟨b, 0, none⟩ = some ((op o))]), (11, [w'.cell? ⟨b, 0, none⟩ = some ((op o))]), (14, [Value.int .i64 (IntKind.i64.wrap (↑i + ↑d)) = I6 (↑i + ↑d)])]) (none, wc16.drew, none, w, w, none, w, none, w) [0, 1, 2, 3, 29, 37] [] hS (by kernel_rfl) (by kernel_rfl) (by kernel_rfl) (by kernel_rfl) (fun ⟨y122, wc22, y223, wc23, wc24, y325, wc25, z26, wc26⟩ _ => by kernel_rfl) (by kernel_rfl) (by kernel_rfl) (by kernel_rfl) trivial ?_ (by kernel_rfl) ?_ ?_
 ·rintro e ⟨y122, wc22, y223, wc23, wc24, y325, wc25, z26, wc26⟩ w' hw hH
  refine (.cons ?_ (.cons ?_ (.cons ?_ .nil)))
  ·intro h1 h2
   obtain rfl : e = 0 := Nat.le_antisymm h2 h1
   have hwe : wc16.drew = w' := (hw.trans (by kernel_rfl)).symm
   subst hwe
   clear hH
   exact (.cons ((hB17.drew : Blk wc16.drew b 84 (#[(op o)])).cell 0 rfl) .nil)
  ·intro h1 h2
   replace h1 : 0 ≤ e := h1
   replace h2 : e ≤ 3 := h2
   have he : e = 0 ∨ e = 1 ∨ e = 2 ∨ e = 3 := by omega
   rcases he with rfl | rfl | rfl | rfl
   ·have hwe : wc16.drew = w' := (hw.trans (by kernel_rfl)).symm
    subst hwe
    clear hH
    exact (.cons ((hB17.drew : Blk wc16.drew b 84 (#[(op o)])).cell 0 rfl) .nil)
   ·have hwe : wc22 = w' := (hw.trans (by kernel_rfl)).symm
    subst hwe
    obtain ⟨hy122, ky122, hEc22, _⟩ := hH
    exact (.cons (((hB17.drew : Blk wc16.drew b 84 (#[(op o)])).ext hEc22 (by simp) : Blk wc22 b 84 (#[(op o)])).cell 0 rfl) .nil)
   ·have hwe : wc23 = w' := (hw.trans (by kernel_rfl)).symm
    subst hwe
    obtain ⟨hy122, ky122, hEc22, hy223, ky223, hEc23, _⟩ := hH
    exact (.cons ((((hB17.drew : Blk wc16.drew b 84 (#[(op o)])).ext hEc22 (by simp) : Blk wc22 b 84 (#[(op o)])).ext hEc23 (by simp) : Blk wc23 b 84 (#[(op o)])).cell 0 rfl) .nil)
   ·have hwe : wc24 = w' := (hw.trans (by kernel_rfl)).symm
    subst hwe
    obtain ⟨hy122, ky122, hEc22, hy223, ky223, hEc23, hEc24, _⟩ := hH
    exact (.cons (((((hB17.drew : Blk wc16.drew b 84 (#[(op o)])).ext hEc22 (by simp) : Blk wc22 b 84 (#[(op o)])).ext hEc23 (by simp) : Blk wc23 b 84 (#[(op o)])).ext hEc24 (by simp) : Blk wc24 b 84 (#[(op o)])).cell 0 rfl) .nil)
  ·intro h1 h2
   replace h1 : 0 ≤ e := h1
   replace h2 : e ≤ 3 := h2
   have he : e = 0 ∨ e = 1 ∨ e = 2 ∨ e = 3 := by omega
   rcases he with rfl | rfl | rfl | rfl
   ·have hwe : wc16.drew = w' := (hw.trans (by kernel_rfl)).symm
    subst hwe
    clear hH
    exact (.cons (as_i64 (by omega)) .nil)
   ·have hwe : wc22 = w' := (hw.trans (by kernel_rfl)).symm
    subst hwe
    obtain ⟨hy122, ky122, hEc22, _⟩ := hH
    exact (.cons (as_i64 (by omega)) .nil)
   ·have hwe : wc23 = w' := (hw.trans (by kernel_rfl)).symm
    subst hwe
    obtain ⟨hy122, ky122, hEc22, hy223, ky223, hEc23, _⟩ := hH
    exact (.cons (as_i64 (by omega)) .nil)
   ·have hwe : wc24 = w' := (hw.trans (by kernel_rfl)).symm
    subst hwe
    obtain ⟨hy122, ky122, hEc22, hy223, ky223, hEc23, hEc24, _⟩ := hH
    exact (.cons (as_i64 (by omega)) .nil)
 ·refine (.cons ?eq27_5 (.cons ?eq27_7 (.cons ?eq27_16 (.cons ?eq27_17 (.cons ?eq27_18 (.cons ?eq27_19 (.cons ?eq27_21 .nil)))))))
  ·rintro ⟨y122, wc22, y223, wc23, wc24, y325, wc25, z26, wc26⟩ hH
   clear hH
   refine eff_gh (wc16.drew) (by kernel_rfl) ?_
   refine upon_call (f := 42) (vs := [(op o), I6 0, I6 ↑i]) (cap := #[]) (d := (some 43)) (by kernel_rfl) Try.call42 #[(op o), I6 0, I6 ↑i] (by kernel_rfl) (cut_any 0 i (hG18.ext0 ((Ext.refl [] _).drew)).2.1 (by omega) (by omega)) ?_
   rintro _ wc22 ⟨y122, rfl, hy122, ky122, hEc22⟩
   exact ⟨_, rfl, ⟨(y122, wc22, y223, wc23, wc24, y325, wc25, z26, wc26), by kernel_rfl, by kernel_rfl, by kernel_rfl, ⟨hy122, ky122, hEc22, trivial⟩⟩⟩
  ·rintro ⟨y122, wc22, y223, wc23, wc24, y325, wc25, z26, wc26⟩ hH
   obtain ⟨hy122, ky122, hEc22, _⟩ := hH
   refine eff_gh (wc22) (by kernel_rfl) ?_
   refine upon_call (f := 40) (vs := [v]) (cap := #[]) (d := (some 45)) (by kernel_rfl) Try.call40 #[v] (by kernel_rfl) (made_any n ((hG19.ext0 ((Ext.refl [] _).drew)).ext0 hEc22) hB (by omega) (((hG18.ext0 ((Ext.refl [] _).drew)).ext0 hEc22)).2.1.zb) ?_
   rintro _ wc23 ⟨y223, rfl, hy223, ky223, hEc23⟩
   exact ⟨_, rfl, ⟨(y122, wc22, y223, wc23, wc24, y325, wc25, z26, wc26), by kernel_rfl, by kernel_rfl, by kernel_rfl, ⟨hy122, ky122, hEc22, hy223, ky223, hEc23, trivial⟩⟩⟩
  ·rintro ⟨y122, wc22, y223, wc23, wc24, y325, wc25, z26, wc26⟩ hH
   obtain ⟨hy122, ky122, hEc22, hy223, ky223, hEc23, _⟩ := hH
   refine eff_gh (wc23) (by kernel_rfl) ?_
   refine upon_call (f := 19) (vs := [(Pv b)]) (cap := #[]) (d := (some 54)) (by kernel_rfl) Try.call19 #[(Pv b)] (by kernel_rfl) (Len_any (((hG18.ext0 ((Ext.refl [] _).drew)).ext0 hEc22).ext0 hEc23)) ?_
   rintro _ wc24 ⟨rfl, hEc24⟩
   exact ⟨_, rfl, ⟨(y122, wc22, y223, wc23, wc24, y325, wc25, z26, wc26), by kernel_rfl, by kernel_rfl, by kernel_rfl, ⟨hy122, ky122, hEc22, hy223, ky223, hEc23, hEc24, trivial⟩⟩⟩
  ·rintro ⟨y122, wc22, y223, wc23, wc24, y325, wc25, z26, wc26⟩ hH
   obtain ⟨hy122, ky122, hEc22, hy223, ky223, hEc23, hEc24, _⟩ := hH
   refine eff_gh (wc24) (by kernel_rfl) ?_
   refine upon_call (f := 42) (vs := [(op o), I6 (↑i + ↑d), I6 (↑(on o))]) (cap := #[]) (d := (some 55)) (by kernel_rfl) Try.call42 #[(op o), I6 (↑i + ↑d), I6 (↑(on o))] (by kernel_rfl) ((by have h := cut_any (i + d) (on o) ((((hG18.ext0 ((Ext.refl [] _).drew)).ext0 hEc22).ext0 hEc23).ext0 hEc24).2.1 (by omega) (by omega); rw [Int.natCast_add] at h; exact h)) ?_
   rintro _ wc25 ⟨y325, rfl, hy325, ky325, hEc25⟩
   exact ⟨_, rfl, ⟨(y122, wc22, y223, wc23, wc24, y325, wc25, z26, wc26), by kernel_rfl, by kernel_rfl, by kernel_rfl, ⟨hy122, ky122, hEc22, hy223, ky223, hEc23, hEc24, hy325, ky325, hEc25, trivial⟩⟩⟩
  ·rintro ⟨y122, wc22, y223, wc23, wc24, y325, wc25, z26, wc26⟩ hH
   obtain ⟨hy122, ky122, hEc22, hy223, ky223, hEc23, hEc24, hy325, ky325, hEc25, _⟩ := hH
   refine eff_gh (wc25) (by kernel_rfl) ?_
   exact upon_new (nb := wc25.heap.size) (cs := #[(op y122), (op y223), (op y325)]) (T := 81) (v := Value.slice (some ⟨wc25.heap.size, 0, none⟩) 3 3) (d := (some 56)) (by kernel_rfl) (by first | rfl | simp [upd_size]) ⟨(y122, wc22, y223, wc23, wc24, y325, wc25, z26, wc26), by kernel_rfl, by kernel_rfl, by kernel_rfl, ⟨hy122, ky122, hEc22, hy223, ky223, hEc23, hEc24, hy325, ky325, hEc25, trivial⟩⟩
  ·rintro ⟨y122, wc22, y223, wc23, wc24, y325, wc25, z26, wc26⟩ hH
   obtain ⟨hy122, ky122, hEc22, hy223, ky223, hEc23, hEc24, hy325, ky325, hEc25, _⟩ := hH
   refine eff_gh ((wc25).alloc (.cells #[(op y122), (op y223), (op y325)] 81)) (by kernel_rfl) ?_
   refine upon_call (f := 43) (vs := [.slice (some ⟨wc25.heap.size, 0, none⟩) 3 3]) (cap := #[]) (d := (some 57)) (by kernel_rfl) Try.call43 #[.slice (some ⟨wc25.heap.size, 0, none⟩) 3 3] (by kernel_rfl) (joined_any (os := [y122, y223, y325]) (RdV.of_blk (n := 3) (Blk.new' _ _ _ (by first | rfl | simp [upd_size]) : Blk ((wc25).alloc (.cells #[(op y122), (op y223), (op y325)] 81)) wc25.heap.size 81 (#[(op y122), (op y223), (op y325)])) rfl) (by intro q hq; simp at hq; rcases hq with rfl | rfl | rfl; exact ((((hy122.ext0 hEc23).ext0 hEc24).ext0 hEc25).ext0 ((Ext.refl [] _).alloc _)); exact (((hy223.ext0 hEc24).ext0 hEc25).ext0 ((Ext.refl [] _).alloc _)); exact (hy325.ext0 ((Ext.refl [] _).alloc _))) (by simp [cat, ky122, ky223, ky325]; omega) (by simp) (((((((hG18.ext0 ((Ext.refl [] _).drew)).ext0 hEc22).ext0 hEc23).ext0 hEc24).ext0 hEc25).ext0 ((Ext.refl [] _).alloc _))).2.1.zb) ?_
   rintro _ wc26 ⟨z26, rfl, hz26, kz26, hEc26⟩
   exact ⟨_, rfl, ⟨(y122, wc22, y223, wc23, wc24, y325, wc25, z26, wc26), by kernel_rfl, by kernel_rfl, by kernel_rfl, ⟨hy122, ky122, hEc22, hy223, ky223, hEc23, hEc24, hy325, ky325, hEc25, hz26, kz26, hEc26, trivial⟩⟩⟩
  ·rintro ⟨y122, wc22, y223, wc23, wc24, y325, wc25, z26, wc26⟩ hH
   obtain ⟨hy122, ky122, hEc22, hy223, ky223, hEc23, hEc24, hy325, ky325, hEc25, hz26, kz26, hEc26, _⟩ := hH
   refine eff_gh (wc26) (by kernel_rfl) ?_
   exact upon_box (nb := wc26.heap.size) (cs := #[(op z26)]) (T := 84) (d := (some 59)) (by kernel_rfl) (by first | rfl | simp [upd_size]) ⟨(y122, wc22, y223, wc23, wc24, y325, wc25, z26, wc26), by kernel_rfl, by kernel_rfl, by kernel_rfl, ⟨hy122, ky122, hEc22, hy223, ky223, hEc23, hEc24, hy325, ky325, hEc25, hz26, kz26, hEc26, trivial⟩⟩
 rintro ⟨y122, wc22, y223, wc23, wc24, y325, wc25, z26, wc26⟩ a w28 hS hw29 hH
 obtain ⟨hy122, ky122, hEc22, hy223, ky223, hEc23, hEc24, hy325, ky325, hEc25, hz26, kz26, hEc26, _⟩ := hH
 replace hw29 : w28 = (wc26).alloc (.cells #[(op z26)] 84) := hw29.trans (by kernel_rfl)
 have hB32 : Blk w28 wc26.heap.size 84 (#[(op z26)]) := by rw [hw29]; exact Blk.new' _ _ _ (by first | rfl | simp [upd_size])
 have hE33 : Ext [] w w28 := by rw [hw29]; exact (((((((hE20.drew).trans0 hEc22).trans0 hEc23).trans0 hEc24).trans0 hEc25).alloc _).trans0 hEc26).alloc _
 have hX34 : Ext [] wc16 w28 := by rw [hw29]; exact ((((((((Ext.refl _ _).drew).trans0 hEc22).trans0 hEc23).trans0 hEc24).trans0 hEc25).alloc _).trans0 hEc26).alloc _
 have hG35 : RpOk w28 b o := hG18.ext0 hX34
 have hG36 : RdV w28 1 v n (bv xs) := hG19.ext0 hX34
 replace hS := hS.kp [(0, (Pv b)), (1, I6 ↑i), (2, I6 ↑d), (3, v), (29, .bool false), (37, .bool false), (8, (Pv wc26.heap.size)), (9, I6 0)]
 refine hK21 _ _ ?_
 refine wpIn_ret ?_
 refine ret2 hS Try.results23 rfl rfl ?_
 exact ⟨wc26.heap.size, z26, rfl, ⟨hB32, by rw [hw29]; exact hz26.ext0 ((Ext.refl [] _).alloc _), by rw [on, kz26]; simp [cat, ky122, ky223, ky325]; omega⟩, by rw [kz26]; simp only [cat, List.flatMap_cons, List.flatMap_nil, ky122, ky223, ky325, List.drop_zero, Nat.sub_zero, List.append_nil]; rw [List.take_of_length_le (l := (obs o).drop (i + d)) (by rw [List.length_drop]; exact Nat.le_refl _)], hE33⟩

end Go.Proofs.Ytkdbfjomjlhfbaa
