import Derived.Test.YtkdbfjomjlhfbaaProg
import Derived.Test.YtkdbfjomjlhfbaaR15
namespace Go.Proofs.Ytkdbfjomjlhfbaa
open Go.Vc
set_option linter.unusedSectionVars false
variable [Inhabited Zt]

/-- the reference hands a rope back -/
def RfR (w : World) (xs : List Int) (e : Ending) (w' : World) : Prop := ∃ c v, e = .returned (.tuple #[Pv c, I6 0]) ∧ Blk w' c 56 #[v] ∧ RdV w' 1 v xs.length (bv xs) ∧ w.heap.size ≤ c ∧ (∀ x ∈ ob v, w.heap.size ≤ x) ∧ (∀ x ∈ ob v, x < w'.heap.size) ∧ Ext [] w w'
/-- bytes of the reference's -/
def RfB (w : World) (k : Nat) (xs : List Int) (e : Ending) (w' : World) : Prop := ∃ bs cap, e = .returned (.tuple #[.slice bs k cap, I6 0]) ∧ OwnV w' 5 1 (.slice bs k cap) k (bv xs) ∧ (∀ x ∈ ob (.slice bs k cap), w.heap.size ≤ x) ∧ Ext [] w w'

theorem rNew_long {v : Value} {n : Nat} {xs : List Int} {w : World} (hv : RdV w 1 v n (bv xs)) (h : n > 16777216) (hn : n ≤ 100000000000000) :
  Calls Try.prog 58 #[v] w fun e w' => RpN w 2 e w' := by
 refine calls_body 14 [(0, v)] Try.func58 rfl (by kernel_rfl) (by kernel_rfl) (by kernel_rfl) fun a hS => ?_
 have hE0 : Ext [] w w := Ext.refl _ _
 refine sq fun K1 hK1 => ?_
 refine rgn 2 ?_
 refine sg wide_wide [.p, .p] [] [(0, v), (2, .pointer none), (3, I6 0)] 2 0 hS .nil fun a hS => ?_
 refine seg_end ?_
 refine hK1 _ _ ?_
 refine sq fun K2 hK2 => ?_
 refine sq fun K3 hK3 => ?_
 refine rgn 3 ?_
 refine sg wide_wide [.p, .run (I6 ↑n), .as (.bool true)] [Ru Try.prog (vS (Builtin.len_ #[23] 3 #[v])) (I6 ↑n) w, Value.bool (decide ((↑n : Int) > 16777216)) = .bool true] [(0, v), (2, .pointer none), (3, I6 0), (7, .bool true)] 3 0 hS (.cons (run_len_rd (e := 5) hv (by kernel_rfl)) (.cons (as_t (by omega)) .nil)) fun a hS => ?_
 refine seg_end ?_
 refine hK3 _ _ ?_
 refine cond_t hS rfl ?_
 refine sq fun K4 hK4 => ?_
 refine rgn 2 ?_
 refine sg wide_wide [.p, .p] [] [(0, v), (2, .pointer none), (3, I6 2), (7, .bool true)] 2 0 hS .nil fun a hS => ?_
 refine seg_end ?_
 refine hK4 _ _ ?_
 refine wpIn_ret ?_
 refine then_ret ?_
 refine ret2 hS Try.results58 rfl rfl ?_
 exact ⟨rfl, hE0⟩

theorem rNew_any {v : Value} {n : Nat} {xs : List Int} {w : World} (hv : RdV w 1 v n (bv xs)) (h : ¬n > 16777216) :
  Calls Try.prog 58 #[v] w fun e w' => RfR w xs e w' := by
 have hl : xs.length = n := by have := hv.len; simpa using this
 refine calls_body 14 [(0, v)] Try.func58 rfl (by kernel_rfl) (by kernel_rfl) (by kernel_rfl) fun a hS => ?_
 have hE0 : Ext [] w w := Ext.refl _ _
 refine sq fun K1 hK1 => ?_
 refine rgn 2 ?_
 refine sg wide_wide [.p, .p] [] [(0, v), (2, .pointer none), (3, I6 0)] 2 0 hS .nil fun a hS => ?_
 refine seg_end ?_
 refine hK1 _ _ ?_
 refine sq fun K2 hK2 => ?_
 refine sq fun K3 hK3 => ?_
 refine rgn 3 ?_
 refine sg wide_wide [.p, .run (I6 ↑n), .as (.bool false)] [Ru Try.prog (vS (Builtin.len_ #[23] 3 #[v])) (I6 ↑n) w, Value.bool (decide ((↑n : Int) > 16777216)) = .bool false] [(0, v), (2, .pointer none), (3, I6 0), (7, .bool false)] 3 0 hS (.cons (run_len_rd (e := 5) hv (by kernel_rfl)) (.cons (as_f (by omega)) .nil)) fun a hS => ?_
 refine seg_end ?_
 refine hK3 _ _ ?_
 refine cond_f hS rfl ?_
 refine wpIn_skip ?_
 refine hK2 _ _ ?_
 refine sq fun K4 hK4 => ?_
 refine rgn 1 ?_
 refine sg wide_wide [.p] [] [(0, v), (2, .pointer none), (3, I6 0), (7, .bool false), (4, .slice none 0 0)] 1 0 hS .nil fun a hS => ?_
 refine seg_end ?_
 refine hK4 _ _ ?_
 refine sq fun K5 hK5 => ?_
 refine rgn 4 ?_
 refine sg wide_wide [.p, .p] [] [(0, v), (2, .pointer none), (3, I6 0), (7, .bool false), (4, .slice none 0 0), (8, .slice none 0 0), (9, v)] 2 2 hS .nil fun a hS => ?_
 refine eff_append_rd wide_wide (r := 1) (d := (some 10)) (t := 23) (ty := 23) (e := 5) (size := 1) (bytes := 1) (len := 0) (k := n) (z := #[.int .u8 0]) (v := Value.slice none 0 0) (u := v) (xs := ([])) (news := (bv xs)) hS (by kernel_rfl) (by kernel_rfl) (by kernel_rfl) (by kernel_rfl) (OwnV.nil _ _ _) hv (bv_one _) (by omega) (by omega) fun bs6 cp6 a wa6 hA6 hS => ?_
 have hEa6 : Ext [] w wa6 := hA6.ext
 rw [Nat.zero_add] at hS
 have hO6 : OwnV wa6 5 1 (.slice bs6 n cp6) n (bv xs) := by have h := hA6.own; simpa using h
 have hE7 : Ext [] w wa6 := hE0.trans0 hEa6
 have hnw6 : ∀ x ∈ ob (.slice bs6 n cp6), w.heap.size ≤ x := fun x hx => by
  rcases hA6.fresh x (by simpa using hx) with h | h
  ·cases h
  ·exact Nat.le_trans hE0.size h
 have hG8 : RdV wa6 1 v n (bv xs) := hv.ext0 hEa6
 refine sg wide_wide [.p] [] [(0, v), (2, .pointer none), (3, I6 0), (7, .bool false), (4, .slice bs6 n cp6)] 4 0 hS .nil fun a hS => ?_
 refine seg_end ?_
 refine hK5 _ _ ?_
 refine sq fun K9 hK9 => ?_
 refine rgn 5 ?_
 refine sg wide_wide [.p, .p] [] [(0, v), (2, .pointer none), (3, I6 0), (7, .bool false), (4, .slice bs6 n cp6), (12, .agg #[.slice bs6 n cp6])] 2 3 hS .nil fun a hS => ?_
 refine eff_box wide_wide (r := 2) (cs := #[.slice bs6 n cp6]) (T := 56) (d := (some 13)) hS (by kernel_rfl) fun a w10 hw11 hS => ?_
 have hB13 := OwnV.at' hw11 (hO6.alloc _)
 have hX14 : Ext [] wa6 w10 := by rw [hw11]; exact (Ext.refl _ _).alloc _
 have hG15 : RdV w10 1 v n (bv xs) := hG8.ext0 hX14
 have hB16 : Blk w10 (wa6.heap.size) 56 #[.slice bs6 n cp6] := by rw [hw11]; exact Blk.new _ _ _
 have hs17 : w.heap.size ≤ wa6.heap.size := hE7.size
 have hE18 : Ext [] w w10 := by rw [hw11]; exact hE7.alloc _
 refine sg wide_wide [.p, .p] [] [(0, v), (2, (Pv wa6.heap.size)), (3, I6 0), (7, .bool false), (4, .slice bs6 n cp6)] 5 0 hS .nil fun a hS => ?_
 refine seg_end ?_
 refine hK9 _ _ ?_
 refine wpIn_ret ?_
 refine ret2 hS Try.results58 rfl rfl ?_
 exact ⟨_, _, rfl, hB16, by have h := hB13.rd; rw [hl]; exact h, hs17, hnw6, hB13.lie, hE18⟩

theorem rPart_0 {c : Nat} {v : Value} {n : Nat} {xs : List Int} {w : World} (hc : Blk w c 56 #[v]) (hv : RdV w 1 v n (bv xs)) (hn : n ≤ 16777216) {x y : Int} (h : x < 0) :
  Calls Try.prog 48 #[(Pv c), I6 x, I6 y] w fun e w' => e = .returned (.tuple #[.slice none 0 0, I6 3]) ∧ Ext [] w w' := by
 refine calls_body 35 [(0, (Pv c)), (1, I6 x), (2, I6 y)] Try.func48 rfl (by kernel_rfl) (by kernel_rfl) (by kernel_rfl) fun a hS => ?_
 have hE0 : Ext [] w w := Ext.refl _ _
 refine sq fun K1 hK1 => ?_
 refine rgn 2 ?_
 refine sg wide_wide [.p, .p] [] [(0, (Pv c)), (1, I6 x), (2, I6 y), (6, .slice none 0 0), (7, I6 0)] 2 0 hS .nil fun a hS => ?_
 refine seg_end ?_
 refine hK1 _ _ ?_
 refine sq fun K2 hK2 => ?_
 refine sq fun K3 hK3 => ?_
 refine rgn 16 ?_
 refine sg wide_wide [.p, .as (.bool true), .p, .no, .no, .no, .p, .p, .no, .no, .no, .no, .no, .no, .no, .p] [Value.bool (decide ((x : Int) < 0)) = .bool true] [(0, (Pv c)), (1, I6 x), (2, I6 y), (6, .slice none 0 0), (7, I6 0), (24, .bool true)] 16 0 hS (.cons (as_t (by omega)) .nil) fun a hS => ?_
 refine seg_end ?_
 refine hK3 _ _ ?_
 refine cond_t hS rfl ?_
 refine sq fun K4 hK4 => ?_
 refine rgn 2 ?_
 refine sg wide_wide [.p, .p] [] [(0, (Pv c)), (1, I6 x), (2, I6 y), (6, .slice none 0 0), (7, I6 3), (24, .bool true)] 2 0 hS .nil fun a hS => ?_
 refine seg_end ?_
 refine hK4 _ _ ?_
 refine wpIn_ret ?_
 refine then_ret ?_
 refine ret2 hS Try.results48 rfl rfl ?_
 exact ⟨rfl, hE0⟩

theorem rPart_1 {c : Nat} {v : Value} {n : Nat} {xs : List Int} {w : World} (hc : Blk w c 56 #[v]) (hv : RdV w 1 v n (bv xs)) (hn : n ≤ 16777216) {x y : Int} (h : 0 ≤ x ∧ x > y) :
  Calls Try.prog 48 #[(Pv c), I6 x, I6 y] w fun e w' => e = .returned (.tuple #[.slice none 0 0, I6 3]) ∧ Ext [] w w' := by
 refine calls_body 35 [(0, (Pv c)), (1, I6 x), (2, I6 y)] Try.func48 rfl (by kernel_rfl) (by kernel_rfl) (by kernel_rfl) fun a hS => ?_
 have hE0 : Ext [] w w := Ext.refl _ _
 refine sq fun K1 hK1 => ?_
 refine rgn 2 ?_
 refine sg wide_wide [.p, .p] [] [(0, (Pv c)), (1, I6 x), (2, I6 y), (6, .slice none 0 0), (7, I6 0)] 2 0 hS .nil fun a hS => ?_
 refine seg_end ?_
 refine hK1 _ _ ?_
 refine sq fun K2 hK2 => ?_
 refine sq fun K3 hK3 => ?_
 refine rgn 16 ?_
 refine sg wide_wide [.p, .as (.bool false), .p, .p, .p, .as (.bool true), .p, .p, .no, .no, .no, .no, .no, .no, .no, .p] [Value.bool (decide ((x : Int) < 0)) = .bool false, Value.bool (decide ((x : Int) > y)) = .bool true] [(0, (Pv c)), (1, I6 x), (2, I6 y), (6, .slice none 0 0), (7, I6 0), (24, .bool true)] 16 0 hS (.cons (as_f (by omega)) (.cons (as_t (by omega)) .nil)) fun a hS => ?_
 refine seg_end ?_
 refine hK3 _ _ ?_
 refine cond_t hS rfl ?_
 refine sq fun K4 hK4 => ?_
 refine rgn 2 ?_
 refine sg wide_wide [.p, .p] [] [(0, (Pv c)), (1, I6 x), (2, I6 y), (6, .slice none 0 0), (7, I6 3), (24, .bool true)] 2 0 hS .nil fun a hS => ?_
 refine seg_end ?_
 refine hK4 _ _ ?_
 refine wpIn_ret ?_
 refine then_ret ?_
 refine ret2 hS Try.results48 rfl rfl ?_
 exact ⟨rfl, hE0⟩

theorem rPart_2 {c : Nat} {v : Value} {n : Nat} {xs : List Int} {w : World} (hc : Blk w c 56 #[v]) (hv : RdV w 1 v n (bv xs)) (hn : n ≤ 16777216) {x y : Int} (h : 0 ≤ x ∧ x ≤ y ∧ y > (n : Int)) :
  Calls Try.prog 48 #[(Pv c), I6 x, I6 y] w fun e w' => e = .returned (.tuple #[.slice none 0 0, I6 3]) ∧ Ext [] w w' := by
 refine calls_body 35 [(0, (Pv c)), (1, I6 x), (2, I6 y)] Try.func48 rfl (by kernel_rfl) (by kernel_rfl) (by kernel_rfl) fun a hS => ?_
 have hE0 : Ext [] w w := Ext.refl _ _
 refine sq fun K1 hK1 => ?_
 refine rgn 2 ?_
 refine sg wide_wide [.p, .p] [] [(0, (Pv c)), (1, I6 x), (2, I6 y), (6, .slice none 0 0), (7, I6 0)] 2 0 hS .nil fun a hS => ?_
 refine seg_end ?_
 refine hK1 _ _ ?_
 refine sq fun K2 hK2 => ?_
 refine sq fun K3 hK3 => ?_
 refine rgn 16 ?_
 refine sg wide_wide [.p, .as (.bool false), .p, .p, .p, .as (.bool false), .p, .p, .p, .p, .p, .p, .ld (v), .run (I6 ↑n), .as (.bool true), .p] [Value.bool (decide ((x : Int) < 0)) = .bool false, Value.bool (decide ((x : Int) > y)) = .bool false, w.cell? ⟨c, 0, none⟩ = some (v), Ru Try.prog (vS (Builtin.len_ #[23] 3 #[v])) (I6 ↑n) w, Value.bool (decide ((y : Int) > ↑n)) = .bool true] [(0, (Pv c)), (1, I6 x), (2, I6 y), (6, .slice none 0 0), (7, I6 0), (24, .bool true)] 16 0 hS (.cons (as_f (by omega)) (.cons (as_f (by omega)) (.cons (hc.cell 0 rfl) (.cons (run_len_rd (e := 5) hv (by kernel_rfl)) (.cons (as_t (by omega)) .nil))))) fun a hS => ?_
 refine seg_end ?_
 refine hK3 _ _ ?_
 refine cond_t hS rfl ?_
 refine sq fun K4 hK4 => ?_
 refine rgn 2 ?_
 refine sg wide_wide [.p, .p] [] [(0, (Pv c)), (1, I6 x), (2, I6 y), (6, .slice none 0 0), (7, I6 3), (24, .bool true)] 2 0 hS .nil fun a hS => ?_
 refine seg_end ?_
 refine hK4 _ _ ?_
 refine wpIn_ret ?_
 refine then_ret ?_
 refine ret2 hS Try.results48 rfl rfl ?_
 exact ⟨rfl, hE0⟩

theorem rPart_no {c : Nat} {v : Value} {n : Nat} {xs : List Int} {w : World} (hc : Blk w c 56 #[v]) (hv : RdV w 1 v n (bv xs)) (hn : n ≤ 16777216) {x y : Int} (h : ¬(0 ≤ x ∧ x ≤ y ∧ y ≤ (n : Int))) : Calls Try.prog 48 #[Pv c, I6 x, I6 y] w fun e w' => e = .returned (.tuple #[.slice none 0 0, I6 3]) ∧ Ext [] w w' := by
 by_cases h1 : x < 0
 ·exact rPart_0 hc hv hn h1
 ·by_cases h2 : x > y
  ·exact rPart_1 hc hv hn ⟨by omega, h2⟩
  ·exact rPart_2 hc hv hn ⟨by omega, by omega, by omega⟩

theorem rPart_any {c : Nat} {v : Value} {n : Nat} {xs : List Int} {w : World} (hc : Blk w c 56 #[v]) (hv : RdV w 1 v n (bv xs)) (hn : n ≤ 16777216) {i j : Nat} (h : i ≤ j ∧ j ≤ n) :
  Calls Try.prog 48 #[(Pv c), I6 ↑i, I6 ↑j] w fun e w' => RfB w (j - i) ((xs.drop i).take (j - i)) e w' := by
 have hl : xs.length = n := by have := hv.len; simpa using this
 refine calls_body 35 [(0, (Pv c)), (1, I6 ↑i), (2, I6 ↑j)] Try.func48 rfl (by kernel_rfl) (by kernel_rfl) (by kernel_rfl) fun a hS => ?_
 have hE0 : Ext [] w w := Ext.refl _ _
 refine sq fun K1 hK1 => ?_
 refine rgn 2 ?_
 refine sg wide_wide [.p, .p] [] [(0, (Pv c)), (1, I6 ↑i), (2, I6 ↑j), (6, .slice none 0 0), (7, I6 0)] 2 0 hS .nil fun a hS => ?_
 refine seg_end ?_
 refine hK1 _ _ ?_
 refine sq fun K2 hK2 => ?_
 refine sq fun K3 hK3 => ?_
 refine rgn 16 ?_
 refine sg wide_wide [.p, .as (.bool false), .p, .p, .p, .as (.bool false), .p, .p, .p, .p, .p, .p, .ld (v), .run (I6 ↑n), .as (.bool false), .p] [Value.bool (decide ((↑i : Int) < 0)) = .bool false, Value.bool (decide ((↑i : Int) > ↑j)) = .bool false, w.cell? ⟨c, 0, none⟩ = some (v), Ru Try.prog (vS (Builtin.len_ #[23] 3 #[v])) (I6 ↑n) w, Value.bool (decide ((↑j : Int) > ↑n)) = .bool false] [(0, (Pv c)), (1, I6 ↑i), (2, I6 ↑j), (6, .slice none 0 0), (7, I6 0), (24, .bool false)] 16 0 hS (.cons (as_f (by omega)) (.cons (as_f (by omega)) (.cons (hc.cell 0 rfl) (.cons (run_len_rd (e := 5) hv (by kernel_rfl)) (.cons (as_f (by omega)) .nil))))) fun a hS => ?_
 refine seg_end ?_
 refine hK3 _ _ ?_
 refine cond_f hS rfl ?_
 refine wpIn_skip ?_
 refine hK2 _ _ ?_
 refine sq fun K4 hK4 => ?_
 refine rgn 1 ?_
 refine sg wide_wide [.p] [] [(0, (Pv c)), (1, I6 ↑i), (2, I6 ↑j), (6, .slice none 0 0), (7, I6 0), (24, .bool false), (8, .slice none 0 0)] 1 0 hS .nil fun a hS => ?_
 refine seg_end ?_
 refine hK4 _ _ ?_
 refine sq fun K5 hK5 => ?_
 refine rgn 10 ?_
 refine sg wide_wide [.p, .p, .p, .p, .ld (v), .p, .p, .run (rsub v i j (capOf v))] [w.cell? ⟨c, 0, none⟩ = some (v), Ru Try.prog (vS (Instr.sliceAt 23 v (some (I6 ↑i)) (some (I6 ↑j)) none)) (rsub v i j (capOf v)) w] [(0, (Pv c)), (1, I6 ↑i), (2, I6 ↑j), (6, .slice none 0 0), (7, I6 0), (24, .bool false), (8, .slice none 0 0), (25, .slice none 0 0), (32, (rsub v i j (capOf v)))] 8 2 hS (.cons (hc.cell 0 rfl) (.cons (sl_rd (e := 5) (some (I6 ↑i)) (some (I6 ↑j)) (l := i) (k := j) hv (by kernel_rfl) (by kernel_rfl) (.inr ⟨_, rfl⟩) (.inr ⟨_, rfl⟩) (by omega) (by omega)) .nil)) fun a hS => ?_
 refine eff_append_rd wide_wide (r := 1) (d := (some 33)) (t := 23) (ty := 23) (e := 5) (size := 1) (bytes := 1) (len := 0) (k := (j - i)) (z := #[.int .u8 0]) (v := Value.slice none 0 0) (u := (rsub v i j (capOf v))) (xs := ([])) (news := (bv ((xs.drop i).take (j - i)))) hS (by kernel_rfl) (by kernel_rfl) (by kernel_rfl) (by kernel_rfl) (OwnV.nil _ _ _) (RdV.subb hv (l := i) (k := j) (m := (capOf v)) (by omega) (by omega) (by have := hv.le_cap; omega)) (bv_one _) (by omega) (by omega) fun bs6 cp6 a wa6 hA6 hS => ?_
 have hEa6 : Ext [] w wa6 := hA6.ext
 rw [Nat.zero_add] at hS
 have hO6 : OwnV wa6 5 1 (.slice bs6 (j - i) cp6) (j - i) (bv ((xs.drop i).take (j - i))) := by have h := hA6.own; simpa using h
 have hE8 : Ext [] w wa6 := hE0.trans0 hEa6
 have hnw6 : ∀ x ∈ ob (.slice bs6 (j - i) cp6), w.heap.size ≤ x := fun x hx => by
  rcases hA6.fresh x (by simpa using hx) with h | h
  ·cases h
  ·exact Nat.le_trans hE0.size h
 have hG9 : RdV wa6 1 v n (bv xs) := hv.ext0 hEa6
 have hG10 : RdV wa6 1 (rsub v i j (capOf v)) (j - i) (bv ((xs.drop i).take (j - i))) := (RdV.subb hv (l := i) (k := j) (m := (capOf v)) (by omega) (by omega) (by have := hv.le_cap; omega)).ext0 hEa6
 refine sg wide_wide [.p] [] [(0, (Pv c)), (1, I6 ↑i), (2, I6 ↑j), (6, .slice none 0 0), (7, I6 0), (24, .bool false), (8, .slice bs6 (j - i) cp6)] 10 0 hS .nil fun a hS => ?_
 refine seg_end ?_
 refine hK5 _ _ ?_
 refine sq fun K11 hK11 => ?_
 refine rgn 3 ?_
 refine sg wide_wide [.p, .p, .p] [] [(0, (Pv c)), (1, I6 ↑i), (2, I6 ↑j), (6, .slice bs6 (j - i) cp6), (7, I6 0), (24, .bool false), (8, .slice bs6 (j - i) cp6)] 3 0 hS .nil fun a hS => ?_
 refine seg_end ?_
 refine hK11 _ _ ?_
 refine wpIn_ret ?_
 refine ret2 hS Try.results48 rfl rfl ?_
 exact ⟨_, _, rfl, hO6, hnw6, hE8⟩

theorem rCut_no {c : Nat} {v : Value} {n : Nat} {xs : List Int} {w : World} (hc : Blk w c 56 #[v]) (hv : RdV w 1 v n (bv xs)) (hn : n ≤ 16777216) {x y : Int} (h : ¬(0 ≤ x ∧ x ≤ y ∧ y ≤ (n : Int))) :
  Calls Try.prog 61 #[(Pv c), I6 x, I6 y] w fun e w' => RpN w 3 e w' := by
 refine calls_body 23 [(0, (Pv c)), (1, I6 x), (2, I6 y)] Try.func61 rfl (by kernel_rfl) (by kernel_rfl) (by kernel_rfl) fun a hS => ?_
 have hE0 : Ext [] w w := Ext.refl _ _
 refine sq fun K1 hK1 => ?_
 refine rgn 2 ?_
 refine sg wide_wide [.p, .p] [] [(0, (Pv c)), (1, I6 x), (2, I6 y), (6, .pointer none), (7, I6 0)] 2 0 hS .nil fun a hS => ?_
 refine seg_end ?_
 refine hK1 _ _ ?_
 refine sq fun K2 hK2 => ?_
 refine rgn 9 ?_
 refine sg wide_wide [.p, .p, .p] [] [(0, (Pv c)), (1, I6 x), (2, I6 y), (6, .pointer none), (7, I6 0), (11, (Pv c)), (12, I6 x), (13, I6 y)] 3 6 hS .nil fun a hS => ?_
 refine eff_call wide_wide (r := 5) (f := 48) (vs := [(Pv c), I6 x, I6 y]) (cap := #[]) (d := (some 14)) hS (by kernel_rfl) Try.call48 #[(Pv c), I6 x, I6 y] (by kernel_rfl) (rPart_no hc hv hn h) ?_
 rintro _ wc3 ⟨rfl, hEc3⟩
 refine ⟨_, rfl, fun a hS => ?_⟩
 have hG5 : RdV wc3 1 v n (bv xs) := hv.ext0 hEc3
 have hE6 := hE0.trans0 hEc3
 refine sg wide_wide [.p, .p, .p, .p, .p] [] [(0, (Pv c)), (1, I6 x), (2, I6 y), (6, .pointer none), (7, I6 0), (8, .slice none 0 0), (9, I6 3)] 9 0 hS .nil fun a hS => ?_
 refine seg_end ?_
 refine hK2 _ _ ?_
 refine sq fun K7 hK7 => ?_
 refine sq fun K8 hK8 => ?_
 refine rgn 2 ?_
 refine sg wide_wide [.p, .p] [] [(0, (Pv c)), (1, I6 x), (2, I6 y), (6, .pointer none), (7, I6 0), (8, .slice none 0 0), (9, I6 3), (18, .bool true)] 2 0 hS .nil fun a hS => ?_
 refine seg_end ?_
 refine hK8 _ _ ?_
 refine cond_t hS rfl ?_
 refine sq fun K9 hK9 => ?_
 refine rgn 3 ?_
 refine sg wide_wide [.p, .p, .p] [] [(0, (Pv c)), (1, I6 x), (2, I6 y), (6, .pointer none), (7, I6 3), (8, .slice none 0 0), (9, I6 3), (18, .bool true)] 3 0 hS .nil fun a hS => ?_
 refine seg_end ?_
 refine hK9 _ _ ?_
 refine wpIn_ret ?_
 refine then_ret ?_
 refine ret2 hS Try.results61 rfl rfl ?_
 exact ⟨rfl, hE6⟩

theorem rCut_any {c : Nat} {v : Value} {n : Nat} {xs : List Int} {w : World} (hc : Blk w c 56 #[v]) (hv : RdV w 1 v n (bv xs)) (hn : n ≤ 16777216) {i j : Nat} (h : i ≤ j ∧ j ≤ n) :
  Calls Try.prog 61 #[(Pv c), I6 ↑i, I6 ↑j] w fun e w' => RfR w ((xs.drop i).take (j - i)) e w' := by
 have hl : xs.length = n := by have := hv.len; simpa using this
 refine calls_body 23 [(0, (Pv c)), (1, I6 ↑i), (2, I6 ↑j)] Try.func61 rfl (by kernel_rfl) (by kernel_rfl) (by kernel_rfl) fun a hS => ?_
 have hE0 : Ext [] w w := Ext.refl _ _
 refine sq fun K1 hK1 => ?_
 refine rgn 2 ?_
 refine sg wide_wide [.p, .p] [] [(0, (Pv c)), (1, I6 ↑i), (2, I6 ↑j), (6, .pointer none), (7, I6 0)] 2 0 hS .nil fun a hS => ?_
 refine seg_end ?_
 refine hK1 _ _ ?_
 refine sq fun K2 hK2 => ?_
 refine rgn 9 ?_
 refine sg wide_wide [.p, .p, .p] [] [(0, (Pv c)), (1, I6 ↑i), (2, I6 ↑j), (6, .pointer none), (7, I6 0), (11, (Pv c)), (12, I6 ↑i), (13, I6 ↑j)] 3 6 hS .nil fun a hS => ?_
 refine eff_call wide_wide (r := 5) (f := 48) (vs := [(Pv c), I6 ↑i, I6 ↑j]) (cap := #[]) (d := (some 14)) hS (by kernel_rfl) Try.call48 #[(Pv c), I6 ↑i, I6 ↑j] (by kernel_rfl) (rPart_any hc hv hn h) ?_
 rintro _ wc3 ⟨q3, cp3, rfl, hO3, hN3, hEc3⟩
 refine ⟨_, rfl, fun a hS => ?_⟩
 have hG5 : RdV wc3 1 v n (bv xs) := hv.ext0 hEc3
 have hE6 := hE0.trans0 hEc3
 refine sg wide_wide [.p, .p, .p, .p, .p] [] [(0, (Pv c)), (1, I6 ↑i), (2, I6 ↑j), (6, .pointer none), (7, I6 0), (8, .slice q3 (j - i) cp3), (9, I6 0)] 9 0 hS .nil fun a hS => ?_
 refine seg_end ?_
 refine hK2 _ _ ?_
 refine sq fun K7 hK7 => ?_
 refine sq fun K8 hK8 => ?_
 refine rgn 2 ?_
 refine sg wide_wide [.p, .p] [] [(0, (Pv c)), (1, I6 ↑i), (2, I6 ↑j), (6, .pointer none), (7, I6 0), (8, .slice q3 (j - i) cp3), (9, I6 0), (18, .bool false)] 2 0 hS .nil fun a hS => ?_
 refine seg_end ?_
 refine hK8 _ _ ?_
 refine cond_f hS rfl ?_
 refine wpIn_skip ?_
 refine hK7 _ _ ?_
 refine sq fun K9 hK9 => ?_
 refine rgn 5 ?_
 refine sg wide_wide [.p, .p] [] [(0, (Pv c)), (1, I6 ↑i), (2, I6 ↑j), (6, .pointer none), (7, I6 0), (8, .slice q3 (j - i) cp3), (9, I6 0), (18, .bool false), (21, .agg #[.slice q3 (j - i) cp3])] 2 3 hS .nil fun a hS => ?_
 refine eff_box wide_wide (r := 2) (cs := #[.slice q3 (j - i) cp3]) (T := 56) (d := (some 22)) hS (by kernel_rfl) fun a w10 hw11 hS => ?_
 have hB15 := OwnV.at' hw11 (hO3.alloc _)
 have hX16 : Ext [] wc3 w10 := by rw [hw11]; exact (Ext.refl _ _).alloc _
 have hG17 : RdV w10 1 v n (bv xs) := hG5.ext0 hX16
 have hB18 : Blk w10 (wc3.heap.size) 56 #[.slice q3 (j - i) cp3] := by rw [hw11]; exact Blk.new _ _ _
 have hs19 : w.heap.size ≤ wc3.heap.size := hE6.size
 have hE20 : Ext [] w w10 := by rw [hw11]; exact hE6.alloc _
 refine sg wide_wide [.p, .p] [] [(0, (Pv c)), (1, I6 ↑i), (2, I6 ↑j), (6, (Pv wc3.heap.size)), (7, I6 0), (8, .slice q3 (j - i) cp3), (9, I6 0), (18, .bool false)] 5 0 hS .nil fun a hS => ?_
 refine seg_end ?_
 refine hK9 _ _ ?_
 refine wpIn_ret ?_
 refine ret2 hS Try.results61 rfl rfl ?_
 exact ⟨_, _, rfl, hB18, by have h := hB15.rd; rw [show ((xs.drop i).take (j - i)).length = j - i by rw [List.length_take, List.length_drop]; omega]; exact h, hs19, (fun x hx => Nat.le_trans hE0.size (hN3 x hx)), hB15.lie, hE20⟩

theorem rCat_any {c : Nat} {v : Value} {n : Nat} {xs : List Int} {w : World} (hc : Blk w c 56 #[v]) (hv : RdV w 1 v n (bv xs)) (hn : n ≤ 16777216) {d : Nat} {u : Value} {m : Nat} {ys : List Int} (hd : Blk w d 56 #[u]) (hu : RdV w 1 u m (bv ys)) (hm : m ≤ 16777216) (h : ¬n + m > 16777216) :
  Calls Try.prog 63 #[(Pv c), (Pv d)] w fun e w' => RfR w (xs ++ ys) e w' := by
 have hl : xs.length = n := by have := hv.len; simpa using this
 have hl2 : ys.length = m := by have := hu.len; simpa using this
 refine calls_body 34 [(0, (Pv c)), (1, (Pv d))] Try.func63 rfl (by kernel_rfl) (by kernel_rfl) (by kernel_rfl) fun a hS => ?_
 have hE0 : Ext [] w w := Ext.refl _ _
 refine sq fun K1 hK1 => ?_
 refine rgn 2 ?_
 refine sg wide_wide [.p, .p] [] [(0, (Pv c)), (1, (Pv d)), (4, .pointer none), (5, I6 0)] 2 0 hS .nil fun a hS => ?_
 refine seg_end ?_
 refine hK1 _ _ ?_
 refine sq fun K2 hK2 => ?_
 refine sq fun K3 hK3 => ?_
 refine region_fn2 wide_wide [.q .p, .q .p, .q .p, .q (.ld (v)), .q (.run (I6 ↑n)), .q .p, .q .p, .q .p, .q (.ld (u)), .q (.run (I6 ↑m)), .q (.as (I6 (↑n + ↑m))), .q (.as (.bool false))] [0, 0, 0, 0, 0, 0, 0, 0, 0, 0, 0, 0] [0, 0, 0, 0, 0, 0, 0, 0, 0, 0, 0, 0] [0, 1, 3, 7, 15, 0, 32, 96, 224, 480, 1023, 2047] [] 0 ([(0, (Pv c)), (1, (Pv d)), (4, .pointer none), (5, I6 0), (7, (Pv c)), (8, (Pv c)), (9, (Pv c)), (10, v), (11, I6 ↑n), (12, (Pv d)), (13, (Pv d)), (14, (Pv d)), (15, u), (16, I6 ↑m), (17, I6 (↑n + ↑m)), (18, .bool false)]) [w.drew] w.drew (fun w' => [(3, [w'.cell? ⟨c, 0, none⟩ = some (v)]), (4, [Ru Try.prog (vS (Builtin.len_ #[23] 3 #[v])) (I6 ↑n) w']), (8, [w'.cell? ⟨d, 0, none⟩ = some (u)]), (9, [Ru Try.prog (vS (Builtin.len_ #[23] 3 #[u])) (I6 ↑m) w']), (10, [Value.int .i64 (IntKind.i64.wrap (↑n + ↑m)) = I6 (↑n + ↑m)]), (11, [Value.bool (decide ((↑n + ↑m : Int) > 16777216)) = .bool false])]) [0, 1, 4, 5] [] hS (by kernel_rfl) (by kernel_rfl) (by kernel_rfl) (by kernel_rfl) (fun _ => by kernel_rfl) (by kernel_rfl) (by kernel_rfl) (by kernel_rfl) ?_ ?_ ?_
 ·intro e w' hw
  refine (.cons ?_ (.cons ?_ (.cons ?_ (.cons ?_ (.cons ?_ (.cons ?_ .nil))))))
  ·intro h1 h2
   obtain rfl : e = 0 := Nat.le_antisymm h2 h1
   obtain rfl : w' = w.drew := hw.trans (by kernel_rfl)
   exact (.cons ((hc.drew : Blk w.drew c 56 (#[v])).cell 0 rfl) .nil)
  ·exact fun _ _ => (.cons (run_len_rd (e := 5) hv (by kernel_rfl)) .nil)
  ·intro h1 h2
   obtain rfl : e = 0 := Nat.le_antisymm h2 h1
   obtain rfl : w' = w.drew := hw.trans (by kernel_rfl)
   exact (.cons ((hd.drew : Blk w.drew d 56 (#[u])).cell 0 rfl) .nil)
  ·exact fun _ _ => (.cons (run_len_rd (e := 5) hu (by kernel_rfl)) .nil)
  ·exact fun _ _ => (.cons (as_i64 (by omega)) .nil)
  ·exact fun _ _ => (.cons (as_f (by omega)) .nil)
 ·refine .nil
 rintro a w5 hS hw6
 replace hw6 : w5 = w.drew := hw6.trans (by kernel_rfl)
 have hB7 := Blk.at' hw6 (hc.drew)
 have hB8 := Blk.at' hw6 (hd.drew)
 have hE9 : Ext [] w w5 := by rw [hw6]; exact hE0.drew
 have hX10 : Ext [] w w5 := by rw [hw6]; exact (Ext.refl _ _).drew
 have hG11 : RdV w5 1 v n (bv xs) := hv.ext0 hX10
 have hG12 : RdV w5 1 u m (bv ys) := hu.ext0 hX10
 replace hS := hS.kp [(0, (Pv c)), (1, (Pv d)), (4, .pointer none), (5, I6 0), (18, .bool false)]
 refine hK3 _ _ ?_
 refine cond_f hS rfl ?_
 refine wpIn_skip ?_
 refine hK2 _ _ ?_
 refine sq fun K13 hK13 => ?_
 refine rgn 1 ?_
 refine sg wide_wide [.p] [] [(0, (Pv c)), (1, (Pv d)), (4, .pointer none), (5, I6 0), (18, .bool false), (6, .slice none 0 0)] 1 0 hS .nil fun a hS => ?_
 refine seg_end ?_
 refine hK13 _ _ ?_
 refine sq fun K14 hK14 => ?_
 refine rgn 7 ?_
 refine sg wide_wide [.p, .p, .p, .p, .ld (v)] [w5.cell? ⟨c, 0, none⟩ = some (v)] [(0, (Pv c)), (1, (Pv d)), (4, .pointer none), (5, I6 0), (18, .bool false), (6, .slice none 0 0), (19, .slice none 0 0), (23, v)] 5 2 hS (.cons (hB7.cell 0 rfl) .nil) fun a hS => ?_
 refine eff_append_rd wide_wide (r := 1) (d := (some 24)) (t := 23) (ty := 23) (e := 5) (size := 1) (bytes := 1) (len := 0) (k := n) (z := #[.int .u8 0]) (v := Value.slice none 0 0) (u := v) (xs := ([])) (news := (bv xs)) hS (by kernel_rfl) (by kernel_rfl) (by kernel_rfl) (by kernel_rfl) (OwnV.nil _ _ _) hG11 (bv_one _) (by omega) (by omega) fun bs15 cp15 a wa15 hA15 hS => ?_
 have hEa15 : Ext [] w5 wa15 := hA15.ext
 rw [Nat.zero_add] at hS
 have hO15 : OwnV wa15 5 1 (.slice bs15 n cp15) n (bv xs) := by have h := hA15.own; simpa using h
 have hB17 := hB8.ext hEa15 (by simp)
 have hE18 : Ext [] w wa15 := hE9.trans0 hEa15
 have hnw15 : ∀ x ∈ ob (.slice bs15 n cp15), w.heap.size ≤ x := fun x hx => by
  rcases hA15.fresh x (by simpa using hx) with h | h
  ·cases h
  ·exact Nat.le_trans hE9.size h
 have hG19 : RdV wa15 1 v n (bv xs) := hG11.ext0 hEa15
 have hG20 : RdV wa15 1 u m (bv ys) := hG12.ext0 hEa15
 refine sg wide_wide [.p] [] [(0, (Pv c)), (1, (Pv d)), (4, .pointer none), (5, I6 0), (18, .bool false), (6, .slice bs15 n cp15)] 7 0 hS .nil fun a hS => ?_
 refine seg_end ?_
 refine hK14 _ _ ?_
 refine sq fun K21 hK21 => ?_
 refine rgn 7 ?_
 refine sg wide_wide [.p, .p, .p, .p, .ld (u)] [wa15.cell? ⟨d, 0, none⟩ = some (u)] [(0, (Pv c)), (1, (Pv d)), (4, .pointer none), (5, I6 0), (18, .bool false), (6, .slice bs15 n cp15), (25, .slice bs15 n cp15), (29, u)] 5 2 hS (.cons (hB17.cell 0 rfl) .nil) fun a hS => ?_
 refine eff_append_rd wide_wide (r := 1) (d := (some 30)) (t := 23) (ty := 23) (e := 5) (size := 1) (bytes := 1) (len := n) (k := m) (z := #[.int .u8 0]) (v := Value.slice bs15 n cp15) (u := u) (xs := (bv xs)) (news := (bv ys)) hS (by kernel_rfl) (by kernel_rfl) (by kernel_rfl) (by kernel_rfl) hO15 hG20 (bv_one _) (by omega) (by omega) fun bs22 cp22 a wa22 hA22 hS => ?_
 have hEa22 : Ext (ob (Value.slice bs15 n cp15)) wa15 wa22 := hA22.ext
 have hO22 := hA22.own
 have hE25 : Ext [] w wa22 := hE18.trans hEa22 (fun b hb => .inr (hnw15 b hb))
 have hnw22 : ∀ x ∈ ob (.slice bs22 (n + m) cp22), w.heap.size ≤ x := fun x hx => by
  rcases hA22.fresh x (by simpa using hx) with h | h
  ·exact hnw15 x h
  ·exact Nat.le_trans hE18.size h
 have hG26 : RdV wa22 1 v n (bv xs) := RdV.extL (by decide) hG19 hv hEa22 (hnw15)
 have hG27 : RdV wa22 1 u m (bv ys) := RdV.extL (by decide) hG20 hu hEa22 (hnw15)
 refine sg wide_wide [.p] [] [(0, (Pv c)), (1, (Pv d)), (4, .pointer none), (5, I6 0), (18, .bool false), (6, .slice bs22 (n + m) cp22)] 7 0 hS .nil fun a hS => ?_
 refine seg_end ?_
 refine hK21 _ _ ?_
 refine sq fun K28 hK28 => ?_
 refine rgn 5 ?_
 refine sg wide_wide [.p, .p] [] [(0, (Pv c)), (1, (Pv d)), (4, .pointer none), (5, I6 0), (18, .bool false), (6, .slice bs22 (n + m) cp22), (32, .agg #[.slice bs22 (n + m) cp22])] 2 3 hS .nil fun a hS => ?_
 refine eff_box wide_wide (r := 2) (cs := #[.slice bs22 (n + m) cp22]) (T := 56) (d := (some 33)) hS (by kernel_rfl) fun a w29 hw30 hS => ?_
 have hB36 := OwnV.at' hw30 (hO22.alloc _)
 have hX37 : Ext [] wa22 w29 := by rw [hw30]; exact (Ext.refl _ _).alloc _
 have hG38 : RdV w29 1 v n (bv xs) := hG26.ext0 hX37
 have hG39 : RdV w29 1 u m (bv ys) := hG27.ext0 hX37
 have hB40 : Blk w29 (wa22.heap.size) 56 #[.slice bs22 (n + m) cp22] := by rw [hw30]; exact Blk.new _ _ _
 have hs41 : w.heap.size ≤ wa22.heap.size := hE25.size
 have hE42 : Ext [] w w29 := by rw [hw30]; exact hE25.alloc _
 refine sg wide_wide [.p, .p] [] [(0, (Pv c)), (1, (Pv d)), (4, (Pv wa22.heap.size)), (5, I6 0), (18, .bool false), (6, .slice bs22 (n + m) cp22)] 5 0 hS .nil fun a hS => ?_
 refine seg_end ?_
 refine hK28 _ _ ?_
 refine wpIn_ret ?_
 refine ret2 hS Try.results63 rfl rfl ?_
 exact ⟨_, _, rfl, hB40, by have h := hB36.rd; rw [List.length_append, hl, hl2, bv_app]; exact h, hs41, hnw22, hB36.lie, hE42⟩

theorem rSplice_0 {c : Nat} {v : Value} {n : Nat} {xs : List Int} {w : World} (hc : Blk w c 56 #[v]) (hv : RdV w 1 v n (bv xs)) (hn : n ≤ 16777216) {u : Value} {m : Nat} {ys : List Int} (hu : RdV w 1 u m (bv ys)) (hm : m ≤ 100000000000000) {x y : Int} (h : x < 0) :
  Calls Try.prog 64 #[(Pv c), I6 x, I6 y, u] w fun e w' => RpN w 3 e w' := by
 refine calls_body 72 [(0, (Pv c)), (1, I6 x), (2, I6 y), (3, u)] Try.func64 rfl (by kernel_rfl) (by kernel_rfl) (by kernel_rfl) fun a hS => ?_
 have hE0 : Ext [] w w := Ext.refl _ _
 refine sq fun K1 hK1 => ?_
 refine rgn 2 ?_
 refine sg wide_wide [.p, .p] [] [(0, (Pv c)), (1, I6 x), (2, I6 y), (3, u), (8, .pointer none), (9, I6 0)] 2 0 hS .nil fun a hS => ?_
 refine seg_end ?_
 refine hK1 _ _ ?_
 refine sq fun K2 hK2 => ?_
 refine sq fun K3 hK3 => ?_
 refine rgn 26 ?_
 refine sg wide_wide [.p, .as (.bool true), .p, .no, .no, .p, .p, .no, .no, .no, .no, .no, .no, .no, .p, .p, .no, .no, .no, .no, .no, .no, .no, .no, .no, .p] [Value.bool (decide ((x : Int) < 0)) = .bool true] [(0, (Pv c)), (1, I6 x), (2, I6 y), (3, u), (8, .pointer none), (9, I6 0), (36, .bool true)] 26 0 hS (.cons (as_t (by omega)) .nil) fun a hS => ?_
 refine seg_end ?_
 refine hK3 _ _ ?_
 refine cond_t hS rfl ?_
 refine sq fun K4 hK4 => ?_
 refine rgn 2 ?_
 refine sg wide_wide [.p, .p] [] [(0, (Pv c)), (1, I6 x), (2, I6 y), (3, u), (8, .pointer none), (9, I6 3), (36, .bool true)] 2 0 hS .nil fun a hS => ?_
 refine seg_end ?_
 refine hK4 _ _ ?_
 refine wpIn_ret ?_
 refine then_ret ?_
 refine ret2 hS Try.results64 rfl rfl ?_
 exact ⟨rfl, hE0⟩

theorem rSplice_1 {c : Nat} {v : Value} {n : Nat} {xs : List Int} {w : World} (hc : Blk w c 56 #[v]) (hv : RdV w 1 v n (bv xs)) (hn : n ≤ 16777216) {u : Value} {m : Nat} {ys : List Int} (hu : RdV w 1 u m (bv ys)) (hm : m ≤ 100000000000000) {x y : Int} (h : 0 ≤ x ∧ y < 0) :
  Calls Try.prog 64 #[(Pv c), I6 x, I6 y, u] w fun e w' => RpN w 3 e w' := by
 refine calls_body 72 [(0, (Pv c)), (1, I6 x), (2, I6 y), (3, u)] Try.func64 rfl (by kernel_rfl) (by kernel_rfl) (by kernel_rfl) fun a hS => ?_
 have hE0 : Ext [] w w := Ext.refl _ _
 refine sq fun K1 hK1 => ?_
 refine rgn 2 ?_
 refine sg wide_wide [.p, .p] [] [(0, (Pv c)), (1, I6 x), (2, I6 y), (3, u), (8, .pointer none), (9, I6 0)] 2 0 hS .nil fun a hS => ?_
 refine seg_end ?_
 refine hK1 _ _ ?_
 refine sq fun K2 hK2 => ?_
 refine sq fun K3 hK3 => ?_
 refine rgn 26 ?_
 refine sg wide_wide [.p, .as (.bool false), .p, .p, .as (.bool true), .p, .p, .no, .no, .no, .no, .no, .no, .no, .p, .p, .no, .no, .no, .no, .no, .no, .no, .no, .no, .p] [Value.bool (decide ((x : Int) < 0)) = .bool false, Value.bool (decide ((y : Int) < 0)) = .bool true] [(0, (Pv c)), (1, I6 x), (2, I6 y), (3, u), (8, .pointer none), (9, I6 0), (36, .bool true)] 26 0 hS (.cons (as_f (by omega)) (.cons (as_t (by omega)) .nil)) fun a hS => ?_
 refine seg_end ?_
 refine hK3 _ _ ?_
 refine cond_t hS rfl ?_
 refine sq fun K4 hK4 => ?_
 refine rgn 2 ?_
 refine sg wide_wide [.p, .p] [] [(0, (Pv c)), (1, I6 x), (2, I6 y), (3, u), (8, .pointer none), (9, I6 3), (36, .bool true)] 2 0 hS .nil fun a hS => ?_
 refine seg_end ?_
 refine hK4 _ _ ?_
 refine wpIn_ret ?_
 refine then_ret ?_
 refine ret2 hS Try.results64 rfl rfl ?_
 exact ⟨rfl, hE0⟩

theorem rSplice_2 {c : Nat} {v : Value} {n : Nat} {xs : List Int} {w : World} (hc : Blk w c 56 #[v]) (hv : RdV w 1 v n (bv xs)) (hn : n ≤ 16777216) {u : Value} {m : Nat} {ys : List Int} (hu : RdV w 1 u m (bv ys)) (hm : m ≤ 100000000000000) {x y : Int} (h : 0 ≤ x ∧ 0 ≤ y ∧ x > (n : Int)) :
  Calls Try.prog 64 #[(Pv c), I6 x, I6 y, u] w fun e w' => RpN w 3 e w' := by
 refine calls_body 72 [(0, (Pv c)), (1, I6 x), (2, I6 y), (3, u)] Try.func64 rfl (by kernel_rfl) (by kernel_rfl) (by kernel_rfl) fun a hS => ?_
 have hE0 : Ext [] w w := Ext.refl _ _
 refine sq fun K1 hK1 => ?_
 refine rgn 2 ?_
 refine sg wide_wide [.p, .p] [] [(0, (Pv c)), (1, I6 x), (2, I6 y), (3, u), (8, .pointer none), (9, I6 0)] 2 0 hS .nil fun a hS => ?_
 refine seg_end ?_
 refine hK1 _ _ ?_
 refine sq fun K2 hK2 => ?_
 refine sq fun K3 hK3 => ?_
 refine rgn 26 ?_
 refine sg wide_wide [.p, .as (.bool false), .p, .p, .as (.bool false), .p, .p, .p, .p, .p, .p, .ld (v), .run (I6 ↑n), .as (.bool true), .p, .p, .no, .no, .no, .no, .no, .no, .no, .no, .no, .p] [Value.bool (decide ((x : Int) < 0)) = .bool false, Value.bool (decide ((y : Int) < 0)) = .bool false, w.cell? ⟨c, 0, none⟩ = some (v), Ru Try.prog (vS (Builtin.len_ #[23] 3 #[v])) (I6 ↑n) w, Value.bool (decide ((x : Int) > ↑n)) = .bool true] [(0, (Pv c)), (1, I6 x), (2, I6 y), (3, u), (8, .pointer none), (9, I6 0), (36, .bool true)] 26 0 hS (.cons (as_f (by omega)) (.cons (as_f (by omega)) (.cons (hc.cell 0 rfl) (.cons (run_len_rd (e := 5) hv (by kernel_rfl)) (.cons (as_t (by omega)) .nil))))) fun a hS => ?_
 refine seg_end ?_
 refine hK3 _ _ ?_
 refine cond_t hS rfl ?_
 refine sq fun K4 hK4 => ?_
 refine rgn 2 ?_
 refine sg wide_wide [.p, .p] [] [(0, (Pv c)), (1, I6 x), (2, I6 y), (3, u), (8, .pointer none), (9, I6 3), (36, .bool true)] 2 0 hS .nil fun a hS => ?_
 refine seg_end ?_
 refine hK4 _ _ ?_
 refine wpIn_ret ?_
 refine then_ret ?_
 refine ret2 hS Try.results64 rfl rfl ?_
 exact ⟨rfl, hE0⟩

theorem rSplice_3 {c : Nat} {v : Value} {n : Nat} {xs : List Int} {w : World} (hc : Blk w c 56 #[v]) (hv : RdV w 1 v n (bv xs)) (hn : n ≤ 16777216) {u : Value} {m : Nat} {ys : List Int} (hu : RdV w 1 u m (bv ys)) (hm : m ≤ 100000000000000) {x y : Int} (h : 0 ≤ x ∧ 0 ≤ y ∧ x ≤ (n : Int) ∧ y > (n : Int) - x) :
  Calls Try.prog 64 #[(Pv c), I6 x, I6 y, u] w fun e w' => RpN w 3 e w' := by
 refine calls_body 72 [(0, (Pv c)), (1, I6 x), (2, I6 y), (3, u)] Try.func64 rfl (by kernel_rfl) (by kernel_rfl) (by kernel_rfl) fun a hS => ?_
 have hE0 : Ext [] w w := Ext.refl _ _
 refine sq fun K1 hK1 => ?_
 refine rgn 2 ?_
 refine sg wide_wide [.p, .p] [] [(0, (Pv c)), (1, I6 x), (2, I6 y), (3, u), (8, .pointer none), (9, I6 0)] 2 0 hS .nil fun a hS => ?_
 refine seg_end ?_
 refine hK1 _ _ ?_
 refine sq fun K2 hK2 => ?_
 refine sq fun K3 hK3 => ?_
 refine rgn 26 ?_
 refine sg wide_wide [.p, .as (.bool false), .p, .p, .as (.bool false), .p, .p, .p, .p, .p, .p, .ld (v), .run (I6 ↑n), .as (.bool false), .p, .p, .p, .p, .p, .p, .ld (v), .run (I6 ↑n), .p, .as (I6 (↑n - x)), .as (.bool true), .p] [Value.bool (decide ((x : Int) < 0)) = .bool false, Value.bool (decide ((y : Int) < 0)) = .bool false, w.cell? ⟨c, 0, none⟩ = some (v), Ru Try.prog (vS (Builtin.len_ #[23] 3 #[v])) (I6 ↑n) w, Value.bool (decide ((x : Int) > ↑n)) = .bool false, w.cell? ⟨c, 0, none⟩ = some (v), Ru Try.prog (vS (Builtin.len_ #[23] 3 #[v])) (I6 ↑n) w, Value.int .i64 (IntKind.i64.wrap (↑n - x)) = I6 (↑n - x), Value.bool (decide ((y : Int) > ↑n - x)) = .bool true] [(0, (Pv c)), (1, I6 x), (2, I6 y), (3, u), (8, .pointer none), (9, I6 0), (36, .bool true)] 26 0 hS (.cons (as_f (by omega)) (.cons (as_f (by omega)) (.cons (hc.cell 0 rfl) (.cons (run_len_rd (e := 5) hv (by kernel_rfl)) (.cons (as_f (by omega)) (.cons (hc.cell 0 rfl) (.cons (run_len_rd (e := 5) hv (by kernel_rfl)) (.cons (as_i64 (by omega)) (.cons (as_t (by omega)) .nil))))))))) fun a hS => ?_
 refine seg_end ?_
 refine hK3 _ _ ?_
 refine cond_t hS rfl ?_
 refine sq fun K4 hK4 => ?_
 refine rgn 2 ?_
 refine sg wide_wide [.p, .p] [] [(0, (Pv c)), (1, I6 x), (2, I6 y), (3, u), (8, .pointer none), (9, I6 3), (36, .bool true)] 2 0 hS .nil fun a hS => ?_
 refine seg_end ?_
 refine hK4 _ _ ?_
 refine wpIn_ret ?_
 refine then_ret ?_
 refine ret2 hS Try.results64 rfl rfl ?_
 exact ⟨rfl, hE0⟩

theorem rSplice_no {c : Nat} {v : Value} {n : Nat} {xs : List Int} {w : World} (hc : Blk w c 56 #[v]) (hv : RdV w 1 v n (bv xs)) (hn : n ≤ 16777216) {u : Value} {m : Nat} {ys : List Int} (hu : RdV w 1 u m (bv ys)) (hm : m ≤ 100000000000000) {x y : Int} (h : x < 0 ∨ y < 0 ∨ x > (n : Int) ∨ y > (n : Int) - x) : Calls Try.prog 64 #[Pv c, I6 x, I6 y, u] w (RpN w 3) := by
 by_cases h1 : x < 0
 ·exact rSplice_0 hc hv hn hu hm h1
 ·by_cases h2 : y < 0
  ·exact rSplice_1 hc hv hn hu hm ⟨by omega, h2⟩
  ·by_cases h3 : x > (n : Int)
   ·exact rSplice_2 hc hv hn hu hm ⟨by omega, by omega, h3⟩
   ·exact rSplice_3 hc hv hn hu hm ⟨by omega, by omega, by omega, by omega⟩

theorem rSplice_long {c : Nat} {v : Value} {n : Nat} {xs : List Int} {w : World} (hc : Blk w c 56 #[v]) (hv : RdV w 1 v n (bv xs)) (hn : n ≤ 16777216) {u : Value} {m : Nat} {ys : List Int} (hu : RdV w 1 u m (bv ys)) (hm : m ≤ 100000000000000) {i k : Nat} (h : i + k ≤ n) (h2 : n - k + m > 16777216) :
  Calls Try.prog 64 #[(Pv c), I6 ↑i, I6 ↑k, u] w fun e w' => RpN w 2 e w' := by
 refine calls_body 72 [(0, (Pv c)), (1, I6 ↑i), (2, I6 ↑k), (3, u)] Try.func64 rfl (by kernel_rfl) (by kernel_rfl) (by kernel_rfl) fun a hS => ?_
 have hE0 : Ext [] w w := Ext.refl _ _
 refine sq fun K1 hK1 => ?_
 refine rgn 2 ?_
 refine sg wide_wide [.p, .p] [] [(0, (Pv c)), (1, I6 ↑i), (2, I6 ↑k), (3, u), (8, .pointer none), (9, I6 0)] 2 0 hS .nil fun a hS => ?_
 refine seg_end ?_
 refine hK1 _ _ ?_
 refine sq fun K2 hK2 => ?_
 refine sq fun K3 hK3 => ?_
 refine rgn 26 ?_
 refine sg wide_wide [.p, .as (.bool false), .p, .p, .as (.bool false), .p, .p, .p, .p, .p, .p, .ld (v), .run (I6 ↑n), .as (.bool false), .p, .p, .p, .p, .p, .p, .ld (v), .run (I6 ↑n), .p, .as (I6 (↑n - ↑i)), .as (.bool false), .p] [Value.bool (decide ((↑i : Int) < 0)) = .bool false, Value.bool (decide ((↑k : Int) < 0)) = .bool false, w.cell? ⟨c, 0, none⟩ = some (v), Ru Try.prog (vS (Builtin.len_ #[23] 3 #[v])) (I6 ↑n) w, Value.bool (decide ((↑i : Int) > ↑n)) = .bool false, w.cell? ⟨c, 0, none⟩ = some (v), Ru Try.prog (vS (Builtin.len_ #[23] 3 #[v])) (I6 ↑n) w, Value.int .i64 (IntKind.i64.wrap (↑n - ↑i)) = I6 (↑n - ↑i), Value.bool (decide ((↑k : Int) > ↑n - ↑i)) = .bool false] [(0, (Pv c)), (1, I6 ↑i), (2, I6 ↑k), (3, u), (8, .pointer none), (9, I6 0), (36, .bool false)] 26 0 hS (.cons (as_f (by omega)) (.cons (as_f (by omega)) (.cons (hc.cell 0 rfl) (.cons (run_len_rd (e := 5) hv (by kernel_rfl)) (.cons (as_f (by omega)) (.cons (hc.cell 0 rfl) (.cons (run_len_rd (e := 5) hv (by kernel_rfl)) (.cons (as_i64 (by omega)) (.cons (as_f (by omega)) .nil))))))))) fun a hS => ?_
 refine seg_end ?_
 refine hK3 _ _ ?_
 refine cond_f hS rfl ?_
 refine wpIn_skip ?_
 refine hK2 _ _ ?_
 refine sq fun K4 hK4 => ?_
 refine sq fun K5 hK5 => ?_
 refine rgn 11 ?_
 refine sg wide_wide [.p, .p, .p, .ld (v), .run (I6 ↑n), .p, .as (I6 (↑n - ↑k)), .p, .run (I6 ↑m), .as (I6 ((↑n - ↑k) + ↑m)), .as (.bool true)] [w.cell? ⟨c, 0, none⟩ = some (v), Ru Try.prog (vS (Builtin.len_ #[23] 3 #[v])) (I6 ↑n) w, Value.int .i64 (IntKind.i64.wrap (↑n - ↑k)) = I6 (↑n - ↑k), Ru Try.prog (vS (Builtin.len_ #[23] 3 #[u])) (I6 ↑m) w, Value.int .i64 (IntKind.i64.wrap ((↑n - ↑k) + ↑m)) = I6 ((↑n - ↑k) + ↑m), Value.bool (decide (((↑n - ↑k) + ↑m : Int) > 16777216)) = .bool true] [(0, (Pv c)), (1, I6 ↑i), (2, I6 ↑k), (3, u), (8, .pointer none), (9, I6 0), (36, .bool false), (47, .bool true)] 11 0 hS (.cons (hc.cell 0 rfl) (.cons (run_len_rd (e := 5) hv (by kernel_rfl)) (.cons (as_i64 (by omega)) (.cons (run_len_rd (e := 5) hu (by kernel_rfl)) (.cons (as_i64 (by omega)) (.cons (as_t (by omega)) .nil)))))) fun a hS => ?_
 refine seg_end ?_
 refine hK5 _ _ ?_
 refine cond_t hS rfl ?_
 refine sq fun K6 hK6 => ?_
 refine rgn 2 ?_
 refine sg wide_wide [.p, .p] [] [(0, (Pv c)), (1, I6 ↑i), (2, I6 ↑k), (3, u), (8, .pointer none), (9, I6 2), (36, .bool false), (47, .bool true)] 2 0 hS .nil fun a hS => ?_
 refine seg_end ?_
 refine hK6 _ _ ?_
 refine wpIn_ret ?_
 refine then_ret ?_
 refine ret2 hS Try.results64 rfl rfl ?_
 exact ⟨rfl, hE0⟩

set_option maxHeartbeats 1000000 in
theorem rSplice_any {c : Nat} {v : Value} {n : Nat} {xs : List Int} {w : World} (hc : Blk w c 56 #[v]) (hv : RdV w 1 v n (bv xs)) (hn : n ≤ 16777216) {u : Value} {m : Nat} {ys : List Int} (hu : RdV w 1 u m (bv ys)) (hm : m ≤ 100000000000000) {i k : Nat} (h : i + k ≤ n) (h2 : ¬n - k + m > 16777216) :
  Calls Try.prog 64 #[(Pv c), I6 ↑i, I6 ↑k, u] w fun e w' => RfR w (xs.take i ++ (ys ++ xs.drop (i + k))) e w' := by
 have hl : xs.length = n := by have := hv.len; simpa using this
 have hl2 : ys.length = m := by have := hu.len; simpa using this
 have hlt : (xs.take i).length = i := by rw [List.length_take]; omega
 have hld : (xs.drop (i + k)).length = n - (i + k) := by rw [List.length_drop]; omega
 refine calls_body 72 [(0, (Pv c)), (1, I6 ↑i), (2, I6 ↑k), (3, u)] Try.func64 rfl (by kernel_rfl) (by kernel_rfl) (by kernel_rfl) fun a hS => ?_
 have hE0 : Ext [] w w := Ext.refl _ _
 refine sq fun K1 hK1 => ?_
 refine rgn 2 ?_
 refine sg wide_wide [.p, .p] [] [(0, (Pv c)), (1, I6 ↑i), (2, I6 ↑k), (3, u), (8, .pointer none), (9, I6 0)] 2 0 hS .nil fun a hS => ?_
 refine seg_end ?_
 refine hK1 _ _ ?_
 refine sq fun K2 hK2 => ?_
 refine sq fun K3 hK3 => ?_
 refine rgn 26 ?_
 refine sg wide_wide [.p, .as (.bool false), .p, .p, .as (.bool false), .p, .p, .p, .p, .p, .p, .ld (v), .run (I6 ↑n), .as (.bool false), .p, .p, .p, .p, .p, .p, .ld (v), .run (I6 ↑n), .p, .as (I6 (↑n - ↑i)), .as (.bool false), .p] [Value.bool (decide ((↑i : Int) < 0)) = .bool false, Value.bool (decide ((↑k : Int) < 0)) = .bool false, w.cell? ⟨c, 0, none⟩ = some (v), Ru Try.prog (vS (Builtin.len_ #[23] 3 #[v])) (I6 ↑n) w, Value.bool (decide ((↑i : Int) > ↑n)) = .bool false, w.cell? ⟨c, 0, none⟩ = some (v), Ru Try.prog (vS (Builtin.len_ #[23] 3 #[v])) (I6 ↑n) w, Value.int .i64 (IntKind.i64.wrap (↑n - ↑i)) = I6 (↑n - ↑i), Value.bool (decide ((↑k : Int) > ↑n - ↑i)) = .bool false] [(0, (Pv c)), (1, I6 ↑i), (2, I6 ↑k), (3, u), (8, .pointer none), (9, I6 0), (36, .bool false)] 26 0 hS (.cons (as_f (by omega)) (.cons (as_f (by omega)) (.cons (hc.cell 0 rfl) (.cons (run_len_rd (e := 5) hv (by kernel_rfl)) (.cons (as_f (by omega)) (.cons (hc.cell 0 rfl) (.cons (run_len_rd (e := 5) hv (by kernel_rfl)) (.cons (as_i64 (by omega)) (.cons (as_f (by omega)) .nil))))))))) fun a hS => ?_
 refine seg_end ?_
 refine hK3 _ _ ?_
 refine cond_f hS rfl ?_
 refine wpIn_skip ?_
 refine hK2 _ _ ?_
 refine sq fun K4 hK4 => ?_
 refine sq fun K5 hK5 => ?_
 refine rgn 11 ?_
 refine sg wide_wide [.p, .p, .p, .ld (v), .run (I6 ↑n), .p, .as (I6 (↑n - ↑k)), .p, .run (I6 ↑m), .as (I6 ((↑n - ↑k) + ↑m)), .as (.bool false)] [w.cell? ⟨c, 0, none⟩ = some (v), Ru Try.prog (vS (Builtin.len_ #[23] 3 #[v])) (I6 ↑n) w, Value.int .i64 (IntKind.i64.wrap (↑n - ↑k)) = I6 (↑n - ↑k), Ru Try.prog (vS (Builtin.len_ #[23] 3 #[u])) (I6 ↑m) w, Value.int .i64 (IntKind.i64.wrap ((↑n - ↑k) + ↑m)) = I6 ((↑n - ↑k) + ↑m), Value.bool (decide (((↑n - ↑k) + ↑m : Int) > 16777216)) = .bool false] [(0, (Pv c)), (1, I6 ↑i), (2, I6 ↑k), (3, u), (8, .pointer none), (9, I6 0), (36, .bool false), (47, .bool false)] 11 0 hS (.cons (hc.cell 0 rfl) (.cons (run_len_rd (e := 5) hv (by kernel_rfl)) (.cons (as_i64 (by omega)) (.cons (run_len_rd (e := 5) hu (by kernel_rfl)) (.cons (as_i64 (by omega)) (.cons (as_f (by omega)) .nil)))))) fun a hS => ?_
 refine seg_end ?_
 refine hK5 _ _ ?_
 refine cond_f hS rfl ?_
 refine wpIn_skip ?_
 refine hK4 _ _ ?_
 refine sq fun K6 hK6 => ?_
 refine rgn 1 ?_
 refine sg wide_wide [.p] [] [(0, (Pv c)), (1, I6 ↑i), (2, I6 ↑k), (3, u), (8, .pointer none), (9, I6 0), (36, .bool false), (47, .bool false), (10, .slice none 0 0)] 1 0 hS .nil fun a hS => ?_
 refine seg_end ?_
 refine hK6 _ _ ?_
 refine sq fun K7 hK7 => ?_
 refine rgn 9 ?_
 refine sg wide_wide [.p, .p, .p, .p, .ld (v), .p, .run (rsub v 0 i (capOf v))] [w.cell? ⟨c, 0, none⟩ = some (v), Ru Try.prog (vS (Instr.sliceAt 23 v none (some (I6 ↑i)) none)) (rsub v 0 i (capOf v)) w] [(0, (Pv c)), (1, I6 ↑i), (2, I6 ↑k), (3, u), (8, .pointer none), (9, I6 0), (36, .bool false), (47, .bool false), (10, .slice none 0 0), (48, .slice none 0 0), (54, (rsub v 0 i (capOf v)))] 7 2 hS (.cons (hc.cell 0 rfl) (.cons (sl_rd (e := 5) none (some (I6 ↑i)) (l := 0) (k := i) hv (by kernel_rfl) (by kernel_rfl) (.inl ⟨rfl, rfl⟩) (.inr ⟨_, rfl⟩) (by omega) (by omega)) .nil)) fun a hS => ?_
 refine eff_append_rd wide_wide (r := 1) (d := (some 55)) (t := 23) (ty := 23) (e := 5) (size := 1) (bytes := 1) (len := 0) (k := i) (z := #[.int .u8 0]) (v := Value.slice none 0 0) (u := (rsub v 0 i (capOf v))) (xs := ([])) (news := (bv (xs.take i))) hS (by kernel_rfl) (by kernel_rfl) (by kernel_rfl) (by kernel_rfl) (OwnV.nil _ _ _) (RdV.subt hv (k := i) (m := (capOf v)) (by omega) (by have := hv.le_cap; omega)) (bv_one _) (by omega) (by omega) fun bs8 cp8 a wa8 hA8 hS => ?_
 have hEa8 : Ext [] w wa8 := hA8.ext
 rw [Nat.zero_add] at hS
 have hO8 : OwnV wa8 5 1 (.slice bs8 i cp8) i (bv (xs.take i)) := by have h := hA8.own; simpa using h
 have hB9 := hc.ext hEa8 (by simp)
 have hE10 : Ext [] w wa8 := hE0.trans0 hEa8
 have hnw8 : ∀ x ∈ ob (.slice bs8 i cp8), w.heap.size ≤ x := fun x hx => by
  rcases hA8.fresh x (by simpa using hx) with h | h
  ·cases h
  ·exact Nat.le_trans hE0.size h
 have hG11 : RdV wa8 1 v n (bv xs) := hv.ext0 hEa8
 have hG12 : RdV wa8 1 u m (bv ys) := hu.ext0 hEa8
 have hG13 : RdV wa8 1 (rsub v 0 i (capOf v)) i (bv (xs.take i)) := (RdV.subt hv (k := i) (m := (capOf v)) (by omega) (by have := hv.le_cap; omega)).ext0 hEa8
 refine sg wide_wide [.p] [] [(0, (Pv c)), (1, I6 ↑i), (2, I6 ↑k), (3, u), (8, .pointer none), (9, I6 0), (36, .bool false), (47, .bool false), (10, .slice bs8 i cp8)] 9 0 hS .nil fun a hS => ?_
 refine seg_end ?_
 refine hK7 _ _ ?_
 refine sq fun K14 hK14 => ?_
 refine rgn 4 ?_
 refine sg wide_wide [.p, .p] [] [(0, (Pv c)), (1, I6 ↑i), (2, I6 ↑k), (3, u), (8, .pointer none), (9, I6 0), (36, .bool false), (47, .bool false), (10, .slice bs8 i cp8), (56, .slice bs8 i cp8), (57, u)] 2 2 hS .nil fun a hS => ?_
 refine eff_append_rd wide_wide (r := 1) (d := (some 58)) (t := 23) (ty := 23) (e := 5) (size := 1) (bytes := 1) (len := i) (k := m) (z := #[.int .u8 0]) (v := Value.slice bs8 i cp8) (u := u) (xs := (bv (xs.take i))) (news := (bv ys)) hS (by kernel_rfl) (by kernel_rfl) (by kernel_rfl) (by kernel_rfl) hO8 hG12 (bv_one _) (by omega) (by omega) fun bs15 cp15 a wa15 hA15 hS => ?_
 have hEa15 : Ext (ob (Value.slice bs8 i cp8)) wa8 wa15 := hA15.ext
 have hO15 := hA15.own
 have hB16 := hB9.ext hEa15 (hO8.notin hB9 (by decide))
 have hE17 : Ext [] w wa15 := hE10.trans hEa15 (fun b hb => .inr (hnw8 b hb))
 have hnw15 : ∀ x ∈ ob (.slice bs15 (i + m) cp15), w.heap.size ≤ x := fun x hx => by
  rcases hA15.fresh x (by simpa using hx) with h | h
  ·exact hnw8 x h
  ·exact Nat.le_trans hE10.size h
 have hG18 : RdV wa15 1 v n (bv xs) := RdV.extL (by decide) hG11 hv hEa15 (hnw8)
 have hG19 : RdV wa15 1 u m (bv ys) := RdV.extL (by decide) hG12 hu hEa15 (hnw8)
 have hG20 : RdV wa15 1 (rsub v 0 i (capOf v)) i (bv (xs.take i)) := RdV.extL (by decide) hG13 (RdV.subt hv (k := i) (m := (capOf v)) (by omega) (by have := hv.le_cap; omega)) hEa15 (hnw8)
 refine sg wide_wide [.p] [] [(0, (Pv c)), (1, I6 ↑i), (2, I6 ↑k), (3, u), (8, .pointer none), (9, I6 0), (36, .bool false), (47, .bool false), (10, .slice bs15 (i + m) cp15)] 4 0 hS .nil fun a hS => ?_
 refine seg_end ?_
 refine hK14 _ _ ?_
 refine sq fun K21 hK21 => ?_
 refine rgn 11 ?_
 refine sg wide_wide [.p, .p, .p, .p, .ld (v), .p, .p, .as (I6 ((i + k : Nat) : Int)), .run (rsub v (i + k) n (capOf v))] [wa15.cell? ⟨c, 0, none⟩ = some (v), Value.int .i64 (IntKind.i64.wrap (↑i + ↑k)) = I6 ((i + k : Nat) : Int), Ru Try.prog (vS (Instr.sliceAt 23 v (some (I6 ((i + k : Nat) : Int))) none none)) (rsub v (i + k) n (capOf v)) wa15] [(0, (Pv c)), (1, I6 ↑i), (2, I6 ↑k), (3, u), (8, .pointer none), (9, I6 0), (36, .bool false), (47, .bool false), (10, .slice bs15 (i + m) cp15), (59, .slice bs15 (i + m) cp15), (67, (rsub v (i + k) n (capOf v)))] 9 2 hS (.cons (hB16.cell 0 rfl) (.cons ((by rw [show (↑i + ↑k : Int) = ((i + k : Nat) : Int) from by omega]; exact as_i64 (by omega))) (.cons (sl_rd (e := 5) (some (I6 ((i + k : Nat) : Int))) none (l := (i + k)) (k := n) hv (by kernel_rfl) (by kernel_rfl) (.inr ⟨_, rfl⟩) (.inl ⟨rfl, rfl⟩) (by omega) (by omega)) .nil))) fun a hS => ?_
 refine eff_append_rd wide_wide (r := 1) (d := (some 68)) (t := 23) (ty := 23) (e := 5) (size := 1) (bytes := 1) (len := (i + m)) (k := (n - (i + k))) (z := #[.int .u8 0]) (v := Value.slice bs15 (i + m) cp15) (u := (rsub v (i + k) n (capOf v))) (xs := ((bv (xs.take i)) ++ (bv ys))) (news := (bv ((xs.drop (i + k)).take (n - (i + k))))) hS (by kernel_rfl) (by kernel_rfl) (by kernel_rfl) (by kernel_rfl) hO15 (RdV.subb hG18 (l := (i + k)) (k := n) (m := (capOf v)) (by omega) (by omega) (by have := hG18.le_cap; omega)) (bv_one _) (by omega) (by omega) fun bs22 cp22 a wa22 hA22 hS => ?_
 have hEa22 : Ext (ob (Value.slice bs15 (i + m) cp15)) wa15 wa22 := hA22.ext
 have hO22 := hA22.own
 have hE24 : Ext [] w wa22 := hE17.trans hEa22 (fun b hb => .inr (hnw15 b hb))
 have hnw22 : ∀ x ∈ ob (.slice bs22 ((i + m) + (n - (i + k))) cp22), w.heap.size ≤ x := fun x hx => by
  rcases hA22.fresh x (by simpa using hx) with h | h
  ·exact hnw15 x h
  ·exact Nat.le_trans hE17.size h
 have hG25 : RdV wa22 1 v n (bv xs) := RdV.extL (by decide) hG18 hv hEa22 (hnw15)
 have hG26 : RdV wa22 1 u m (bv ys) := RdV.extL (by decide) hG19 hu hEa22 (hnw15)
 have hG27 : RdV wa22 1 (rsub v 0 i (capOf v)) i (bv (xs.take i)) := RdV.extL (by decide) hG20 (RdV.subt hv (k := i) (m := (capOf v)) (by omega) (by have := hv.le_cap; omega)) hEa22 (hnw15)
 have hG28 : RdV wa22 1 (rsub v (i + k) n (capOf v)) (n - (i + k)) (bv ((xs.drop (i + k)).take (n - (i + k)))) := RdV.extL (by decide) (RdV.subb hG18 (l := (i + k)) (k := n) (m := (capOf v)) (by omega) (by omega) (by have := hG18.le_cap; omega)) (RdV.subb hv (l := (i + k)) (k := n) (m := (capOf v)) (by omega) (by omega) (by have := hv.le_cap; omega)) hEa22 (hnw15)
 refine sg wide_wide [.p] [] [(0, (Pv c)), (1, I6 ↑i), (2, I6 ↑k), (3, u), (8, .pointer none), (9, I6 0), (36, .bool false), (47, .bool false), (10, .slice bs22 ((i + m) + (n - (i + k))) cp22)] 11 0 hS .nil fun a hS => ?_
 refine seg_end ?_
 refine hK21 _ _ ?_
 refine sq fun K29 hK29 => ?_
 refine rgn 5 ?_
 refine sg wide_wide [.p, .p] [] [(0, (Pv c)), (1, I6 ↑i), (2, I6 ↑k), (3, u), (8, .pointer none), (9, I6 0), (36, .bool false), (47, .bool false), (10, .slice bs22 ((i + m) + (n - (i + k))) cp22), (70, .agg #[.slice bs22 ((i + m) + (n - (i + k))) cp22])] 2 3 hS .nil fun a hS => ?_
 refine eff_box wide_wide (r := 2) (cs := #[.slice bs22 ((i + m) + (n - (i + k))) cp22]) (T := 56) (d := (some 71)) hS (by kernel_rfl) fun a w30 hw31 hS => ?_
 have hB35 := OwnV.at' hw31 (hO22.alloc _)
 have hX36 : Ext [] wa22 w30 := by rw [hw31]; exact (Ext.refl _ _).alloc _
 have hG37 : RdV w30 1 v n (bv xs) := hG25.ext0 hX36
 have hG38 : RdV w30 1 u m (bv ys) := hG26.ext0 hX36
 have hG39 : RdV w30 1 (rsub v 0 i (capOf v)) i (bv (xs.take i)) := hG27.ext0 hX36
 have hG40 : RdV w30 1 (rsub v (i + k) n (capOf v)) (n - (i + k)) (bv ((xs.drop (i + k)).take (n - (i + k)))) := hG28.ext0 hX36
 have hB41 : Blk w30 (wa22.heap.size) 56 #[.slice bs22 ((i + m) + (n - (i + k))) cp22] := by rw [hw31]; exact Blk.new _ _ _
 have hs42 : w.heap.size ≤ wa22.heap.size := hE24.size
 have hE43 : Ext [] w w30 := by rw [hw31]; exact hE24.alloc _
 refine sg wide_wide [.p, .p] [] [(0, (Pv c)), (1, I6 ↑i), (2, I6 ↑k), (3, u), (8, (Pv wa22.heap.size)), (9, I6 0), (36, .bool false), (47, .bool false), (10, .slice bs22 ((i + m) + (n - (i + k))) cp22)] 5 0 hS .nil fun a hS => ?_
 refine seg_end ?_
 refine hK29 _ _ ?_
 refine wpIn_ret ?_
 refine ret2 hS Try.results64 rfl rfl ?_
 exact ⟨_, _, rfl, hB41, by have h := hB35.rd; rw [List.append_assoc, ← bv_app, ← bv_app, List.take_of_length_le (l := xs.drop (i + k)) (by omega)] at h; rw [show (xs.take i ++ (ys ++ xs.drop (i + k))).length = i + m + (n - (i + k)) by rw [List.length_append, List.length_append, hlt, hld, hl2]; omega]; exact h, hs42, hnw22, hB35.lie, hE43⟩

end Go.Proofs.Ytkdbfjomjlhfbaa
