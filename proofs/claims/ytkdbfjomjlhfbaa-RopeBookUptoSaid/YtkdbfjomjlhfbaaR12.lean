import Derived.Test.YtkdbfjomjlhfbaaProg
import Derived.Test.YtkdbfjomjlhfbaaR11
namespace Go.Proofs.Ytkdbfjomjlhfbaa
open Go.Vc
set_option linter.unusedSectionVars false
variable [Inhabited Zt]

theorem chunks_any {b : Nat} {x : Int} {w : World} :
  Calls Try.prog 49 #[(Pv b), I6 x] w fun e w' => ∃ fb rb, e = .returned (.func (.func 65) #[] #[Pv fb, Pv rb]) ∧ Blk w' fb 3 #[I6 x] ∧ Blk w' rb 24 #[Pv b] ∧ w.heap.size ≤ fb ∧ w.heap.size ≤ rb ∧ Ext [] w w' := by
 refine calls_body 6 [(0, (Pv b)), (1, I6 x)] Try.func49 rfl (by kernel_rfl) (by kernel_rfl) (by kernel_rfl) fun a hS => ?_
 have hE0 : Ext [] w w := Ext.refl _ _
 refine sq fun K1 hK1 => ?_
 refine rgn 3 ?_
 refine eff_box wide_wide (r := 2) (cs := #[(Pv b)]) (T := 24) (d := (some 2)) hS (by kernel_rfl) fun a w2 hw3 hS => ?_
 have hB4 : Blk w2 (w.heap.size) 24 #[(Pv b)] := by rw [hw3]; exact Blk.new _ _ _
 have hs5 : w.heap.size ≤ w.heap.size := hE0.size
 have hE6 : Ext [] w w2 := by rw [hw3]; exact hE0.alloc _
 refine eff_box wide_wide (r := 1) (cs := #[I6 x]) (T := 3) (d := (some 3)) hS (by kernel_rfl) fun a w7 hw8 hS => ?_
 have hB10 := Blk.at' hw8 (hB4.alloc _)
 have hB11 : Blk w7 (w2.heap.size) 3 #[I6 x] := by rw [hw8]; exact Blk.new _ _ _
 have hs12 : w.heap.size ≤ w2.heap.size := hE6.size
 have hE13 : Ext [] w w7 := by rw [hw8]; exact hE6.alloc _
 refine sg wide_wide [.p] [] [(0, (Pv b)), (1, I6 x), (2, (Pv w.heap.size)), (3, (Pv w2.heap.size)), (4, .nilFunc)] 3 0 hS .nil fun a hS => ?_
 refine seg_end ?_
 refine hK1 _ _ ?_
 refine sq fun K14 hK14 => ?_
 refine rgn 2 ?_
 refine sg wide_wide [.p, .p] [] [(0, (Pv b)), (1, I6 x), (2, (Pv w.heap.size)), (3, (Pv w2.heap.size)), (4, .func (.func 65) #[] #[(Pv w2.heap.size), (Pv w.heap.size)])] 2 0 hS .nil fun a hS => ?_
 refine seg_end ?_
 refine hK14 _ _ ?_
 refine wpIn_ret ?_
 refine ret1 hS Try.results49 rfl ?_
 exact ⟨_, _, rfl, hB11, hB10, hs12, hs5, hE13⟩

theorem Chunks_0 {b : Nat} {o : Option Nd} {w : World} (hR : RpOk w b o) {x : Int} (h : x < 0) :
  Calls Try.prog 30 #[(Pv b), I6 x] w fun e w' => e = .returned (.tuple #[.nilFunc, I6 3]) ∧ Ext [] w w' := by
 refine calls_body 17 [(0, (Pv b)), (1, I6 x)] Try.func30 rfl (by kernel_rfl) (by kernel_rfl) (by kernel_rfl) fun a hS => ?_
 have hE0 : Ext [] w w := Ext.refl _ _
 refine sq fun K1 hK1 => ?_
 refine rgn 2 ?_
 refine sg wide_wide [.p, .p] [] [(0, (Pv b)), (1, I6 x), (4, .nilFunc), (5, I6 0)] 2 0 hS .nil fun a hS => ?_
 refine seg_end ?_
 refine hK1 _ _ ?_
 refine sq fun K2 hK2 => ?_
 refine sq fun K3 hK3 => ?_
 refine rgn 8 ?_
 refine sg wide_wide [.p, .as (.bool true), .p, .no, .no, .no, .no, .p] [Value.bool (decide ((x : Int) < 0)) = .bool true] [(0, (Pv b)), (1, I6 x), (4, .nilFunc), (5, I6 0), (13, .bool true)] 8 0 hS (.cons (as_t (by omega)) .nil) fun a hS => ?_
 refine seg_end ?_
 refine hK3 _ _ ?_
 refine cond_t hS rfl ?_
 refine sq fun K4 hK4 => ?_
 refine rgn 2 ?_
 refine sg wide_wide [.p, .p] [] [(0, (Pv b)), (1, I6 x), (4, .nilFunc), (5, I6 3), (13, .bool true)] 2 0 hS .nil fun a hS => ?_
 refine seg_end ?_
 refine hK4 _ _ ?_
 refine wpIn_ret ?_
 refine then_ret ?_
 refine ret2 hS Try.results30 rfl rfl ?_
 exact ⟨rfl, hE0⟩

theorem Chunks_1 {b : Nat} {o : Option Nd} {w : World} (hR : RpOk w b o) {x : Int} (h : 0 ≤ x ∧ x > (on o : Int)) :
  Calls Try.prog 30 #[(Pv b), I6 x] w fun e w' => e = .returned (.tuple #[.nilFunc, I6 3]) ∧ Ext [] w w' := by
 refine calls_body 17 [(0, (Pv b)), (1, I6 x)] Try.func30 rfl (by kernel_rfl) (by kernel_rfl) (by kernel_rfl) fun a hS => ?_
 have hE0 : Ext [] w w := Ext.refl _ _
 refine sq fun K1 hK1 => ?_
 refine rgn 2 ?_
 refine sg wide_wide [.p, .p] [] [(0, (Pv b)), (1, I6 x), (4, .nilFunc), (5, I6 0)] 2 0 hS .nil fun a hS => ?_
 refine seg_end ?_
 refine hK1 _ _ ?_
 refine sq fun K2 hK2 => ?_
 refine sq fun K3 hK3 => ?_
 refine rgn 8 ?_
 refine sg wide_wide [.p, .as (.bool false), .p, .p, .p] [Value.bool (decide ((x : Int) < 0)) = .bool false] [(0, (Pv b)), (1, I6 x), (4, .nilFunc), (5, I6 0), (8, .bool false), (9, I6 x), (10, (Pv b))] 5 3 hS (.cons (as_f (by omega)) .nil) fun a hS => ?_
 refine eff_call wide_wide (r := 2) (f := 19) (vs := [(Pv b)]) (cap := #[]) (d := (some 11)) hS (by kernel_rfl) Try.call19 #[(Pv b)] (by kernel_rfl) (Len_any hR) ?_
 rintro _ wc4 ⟨rfl, hEc4⟩
 refine ⟨_, rfl, fun a hS => ?_⟩
 have hG6 : RpOk wc4 b o := hR.ext0 hEc4
 have hE7 := hE0.trans0 hEc4
 refine sg wide_wide [.as (.bool true), .p] [Value.bool (decide ((x : Int) > ↑(on o))) = .bool true] [(0, (Pv b)), (1, I6 x), (4, .nilFunc), (5, I6 0), (13, .bool true)] 8 0 hS (.cons (as_t (by omega)) .nil) fun a hS => ?_
 refine seg_end ?_
 refine hK3 _ _ ?_
 refine cond_t hS rfl ?_
 refine sq fun K8 hK8 => ?_
 refine rgn 2 ?_
 refine sg wide_wide [.p, .p] [] [(0, (Pv b)), (1, I6 x), (4, .nilFunc), (5, I6 3), (13, .bool true)] 2 0 hS .nil fun a hS => ?_
 refine seg_end ?_
 refine hK8 _ _ ?_
 refine wpIn_ret ?_
 refine then_ret ?_
 refine ret2 hS Try.results30 rfl rfl ?_
 exact ⟨rfl, hE7⟩

theorem Chunks_no {b : Nat} {o : Option Nd} {w : World} (hR : RpOk w b o) {x : Int} (h : x < 0 ∨ x > (on o : Int)) : Calls Try.prog 30 #[Pv b, I6 x] w fun e w' => e = .returned (.tuple #[.nilFunc, I6 3]) ∧ Ext [] w w' := by
 by_cases h1 : x < 0
 ·exact Chunks_0 hR h1
 ·exact Chunks_1 hR ⟨by omega, by omega⟩

theorem Chunks_any {b : Nat} {o : Option Nd} {w : World} (hR : RpOk w b o) {i : Nat} (h : i ≤ on o) :
  Calls Try.prog 30 #[(Pv b), I6 ↑i] w fun e w' => ∃ fb rb, e = .returned (.tuple #[.func (.func 65) #[] #[Pv fb, Pv rb], I6 0]) ∧ Blk w' fb 3 #[I6 i] ∧ Blk w' rb 24 #[Pv b] ∧ w.heap.size ≤ fb ∧ w.heap.size ≤ rb ∧ Ext [] w w' := by
 refine calls_body 17 [(0, (Pv b)), (1, I6 ↑i)] Try.func30 rfl (by kernel_rfl) (by kernel_rfl) (by kernel_rfl) fun a hS => ?_
 have hE0 : Ext [] w w := Ext.refl _ _
 refine sq fun K1 hK1 => ?_
 refine rgn 2 ?_
 refine sg wide_wide [.p, .p] [] [(0, (Pv b)), (1, I6 ↑i), (4, .nilFunc), (5, I6 0)] 2 0 hS .nil fun a hS => ?_
 refine seg_end ?_
 refine hK1 _ _ ?_
 refine sq fun K2 hK2 => ?_
 refine sq fun K3 hK3 => ?_
 refine rgn 8 ?_
 refine sg wide_wide [.p, .as (.bool false), .p, .p, .p] [Value.bool (decide ((↑i : Int) < 0)) = .bool false] [(0, (Pv b)), (1, I6 ↑i), (4, .nilFunc), (5, I6 0), (8, .bool false), (9, I6 ↑i), (10, (Pv b))] 5 3 hS (.cons (as_f (by omega)) .nil) fun a hS => ?_
 refine eff_call wide_wide (r := 2) (f := 19) (vs := [(Pv b)]) (cap := #[]) (d := (some 11)) hS (by kernel_rfl) Try.call19 #[(Pv b)] (by kernel_rfl) (Len_any hR) ?_
 rintro _ wc4 ⟨rfl, hEc4⟩
 refine ⟨_, rfl, fun a hS => ?_⟩
 have hG6 : RpOk wc4 b o := hR.ext0 hEc4
 have hE7 := hE0.trans0 hEc4
 refine sg wide_wide [.as (.bool false), .p] [Value.bool (decide ((↑i : Int) > ↑(on o))) = .bool false] [(0, (Pv b)), (1, I6 ↑i), (4, .nilFunc), (5, I6 0), (13, .bool false)] 8 0 hS (.cons (as_f (by omega)) .nil) fun a hS => ?_
 refine seg_end ?_
 refine hK3 _ _ ?_
 refine cond_f hS rfl ?_
 refine wpIn_skip ?_
 refine hK2 _ _ ?_
 refine sq fun K8 hK8 => ?_
 refine rgn 5 ?_
 refine sg wide_wide [.p, .p] [] [(0, (Pv b)), (1, I6 ↑i), (4, .nilFunc), (5, I6 0), (13, .bool false), (14, (Pv b)), (15, I6 ↑i)] 2 3 hS .nil fun a hS => ?_
 refine eff_call wide_wide (r := 2) (f := 49) (vs := [(Pv b), I6 ↑i]) (cap := #[]) (d := (some 16)) hS (by kernel_rfl) Try.call49 #[(Pv b), I6 ↑i] (by kernel_rfl) (chunks_any) ?_
 rintro _ wc9 ⟨fb9, rb9, rfl, hf9, hr9, hfn9, hrn9, hEc9⟩
 refine ⟨_, rfl, fun a hS => ?_⟩
 have hG11 : RpOk wc9 b o := hG6.ext0 hEc9
 have hE12 := hE7.trans0 hEc9
 refine sg wide_wide [.p, .p] [] [(0, (Pv b)), (1, I6 ↑i), (4, .func (.func 65) #[] #[(Pv fb9), (Pv rb9)]), (5, I6 0), (13, .bool false)] 5 0 hS .nil fun a hS => ?_
 refine seg_end ?_
 refine hK8 _ _ ?_
 refine wpIn_ret ?_
 refine ret2 hS Try.results30 rfl rfl ?_
 exact ⟨fb9, rb9, rfl, hf9, hr9, Nat.le_trans hE7.size hfn9, Nat.le_trans hE7.size hrn9, hE12⟩

def acc (k : Nat) (pre : List Cv) : List Int := (told (pre.map (·.1))).take k
theorem acc_nil (k : Nat) : acc k [] = [] := by simp [acc, told]
theorem acc_all {k : Nat} {pre : List Cv} {G : List Int} (h : told (pre.map (·.1)) = G) : acc k pre = G.take k := by rw [acc, h]
theorem acc_part {k : Nat} {pre : List Cv} {G rest : List Int} (h : told (pre.map (·.1)) ++ rest = G) (hk : k ≤ (told (pre.map (·.1))).length) : acc k pre = G.take k := by
 rw [acc, ← h, List.take_append_of_le_length hk]
theorem acc_snoc {k : Nat} {pre : List Cv} {x : Cv} (hk : (told (pre.map (·.1))).length ≤ k) : acc k (pre ++ [x]) = acc k pre ++ x.1.2.take (k - (told (pre.map (·.1))).length) := by
 rw [acc, acc, List.map_append, List.map_cons, List.map_nil, told_snoc, List.take_append]
/-- bytes are handed back, in a row of their own -/
def ByR (w : World) (xs : List Int) (e : Ending) (w' : World) : Prop := ∃ bs cap, e = .returned (.tuple #[.slice bs xs.length cap, I6 0]) ∧ OwnV w' 5 1 (.slice bs xs.length cap) xs.length (bv xs) ∧ (∀ x ∈ ob (.slice bs xs.length cap), w.heap.size ≤ x) ∧ Ext [] w w'

theorem Part_no {b : Nat} {o : Option Nd} {w : World} (hR : RpOk w b o) {x y : Int} (h : ¬(0 ≤ x ∧ x ≤ y ∧ y ≤ (on o : Int))) :
  Calls Try.prog 35 #[(Pv b), I6 x, I6 y] w fun e w' => e = .returned (.tuple #[.slice none 0 0, I6 3]) ∧ Ext [] w w' := by
 refine calls_bodyM 39 [(0, (Pv b)), (1, I6 x), (2, I6 y)] Try.func35 rfl (by kernel_rfl) (by kernel_rfl) (by kernel_rfl) fun a hS => ?_
 have hE0 : Ext [] w w := Ext.refl _ _
 refine sq fun K1 hK1 => ?_
 refine rgn 3 ?_
 refine eff_box wide_wide (r := 2) (cs := #[I6 y]) (T := 3) (d := (some 5)) hS (by kernel_rfl) fun a w2 hw3 hS => ?_
 have hX6 : Ext [] w w2 := by rw [hw3]; exact (Ext.refl _ _).alloc _
 have hG7 : RpOk w2 b o := hR.ext0 hX6
 have hB8 : Blk w2 (w.heap.size) 3 #[I6 y] := by rw [hw3]; exact Blk.new _ _ _
 have hs9 : w.heap.size ≤ w.heap.size := hE0.size
 have hE10 : Ext [] w w2 := by rw [hw3]; exact hE0.alloc _
 refine sg wide_wide [.p, .p] [] [(0, (Pv b)), (1, I6 x), (2, I6 y), (5, (Pv w.heap.size)), (6, .slice none 0 0), (7, I6 0)] 3 0 hS .nil fun a hS => ?_
 refine seg_end ?_
 refine hK1 _ _ ?_
 refine sq fun K11 hK11 => ?_
 refine sq fun K12 hK12 => ?_
 refine rgn 5 ?_
 refine sg wide_wide [.p, .p, .ld (I6 y)] [w2.cell? ⟨w.heap.size, 0, none⟩ = some (I6 y)] [(0, (Pv b)), (1, I6 x), (2, I6 y), (5, (Pv w.heap.size)), (6, .slice none 0 0), (7, I6 0), (11, (Pv b)), (12, I6 x), (13, I6 y)] 3 2 hS (.cons (hB8.cell 0 rfl) .nil) fun a hS => ?_
 refine eff_call wide_wide (r := 1) (f := 44) (vs := [(Pv b), I6 x, I6 y]) (cap := #[]) (d := (some 14)) hS (by kernel_rfl) Try.call44 #[(Pv b), I6 x, I6 y] (by kernel_rfl) (within_no hG7 h) ?_
 rintro _ wc13 ⟨rfl, hEc13⟩
 refine ⟨_, rfl, fun a hS => ?_⟩
 have hG16 : RpOk wc13 b o := hG7.ext0 hEc13
 have hE17 := hE10.trans0 hEc13
 refine sg wide_wide [.p] [] [(0, (Pv b)), (1, I6 x), (2, I6 y), (5, (Pv w.heap.size)), (6, .slice none 0 0), (7, I6 0), (15, .bool true)] 5 0 hS .nil fun a hS => ?_
 refine seg_end ?_
 refine hK12 _ _ ?_
 refine cond_t hS rfl ?_
 refine sq fun K18 hK18 => ?_
 refine rgn 2 ?_
 refine sg wide_wide [.p, .p] [] [(0, (Pv b)), (1, I6 x), (2, I6 y), (5, (Pv w.heap.size)), (6, .slice none 0 0), (7, I6 3), (15, .bool true)] 2 0 hS .nil fun a hS => ?_
 refine seg_end ?_
 refine hK18 _ _ ?_
 refine wpIn_ret ?_
 refine then_ret ?_
 refine retM2 [] hS Try.results35 rfl rfl (fun D hD => by cases hD) .nil fun w9 hE9 => ?_
 exact ⟨rfl, hE17.trans0 hE9⟩

set_option maxHeartbeats 1000000 in
theorem Part_any {b : Nat} {o : Option Nd} {w : World} (hR : RpOk w b o) {i j : Nat} (h : i ≤ j ∧ j ≤ on o) :
  Calls Try.prog 35 #[(Pv b), I6 ↑i, I6 ↑j] w fun e w' => ByR w (((obs o).drop i).take (j - i)) e w' := by
 have hle : (obs o).length ≤ 16777216 := hR.2.2
 have hon : on o = (obs o).length := rfl
 refine calls_bodyM 39 [(0, (Pv b)), (1, I6 ↑i), (2, I6 ↑j)] Try.func35 rfl (by kernel_rfl) (by kernel_rfl) (by kernel_rfl) fun a hS => ?_
 have hE0 : Ext [] w w := Ext.refl _ _
 refine sq fun K1 hK1 => ?_
 refine rgn 3 ?_
 refine eff_box wide_wide (r := 2) (cs := #[I6 ↑j]) (T := 3) (d := (some 5)) hS (by kernel_rfl) fun a w2 hw3 hS => ?_
 have hX6 : Ext [] w w2 := by rw [hw3]; exact (Ext.refl _ _).alloc _
 have hG7 : RpOk w2 b o := hR.ext0 hX6
 have hB8 : Blk w2 (w.heap.size) 3 #[I6 ↑j] := by rw [hw3]; exact Blk.new _ _ _
 have hs9 : w.heap.size ≤ w.heap.size := hE0.size
 have hE10 : Ext [] w w2 := by rw [hw3]; exact hE0.alloc _
 refine sg wide_wide [.p, .p] [] [(0, (Pv b)), (1, I6 ↑i), (2, I6 ↑j), (5, (Pv w.heap.size)), (6, .slice none 0 0), (7, I6 0)] 3 0 hS .nil fun a hS => ?_
 refine seg_end ?_
 refine hK1 _ _ ?_
 refine sq fun K11 hK11 => ?_
 refine sq fun K12 hK12 => ?_
 refine rgn 5 ?_
 refine sg wide_wide [.p, .p, .ld (I6 ↑j)] [w2.cell? ⟨w.heap.size, 0, none⟩ = some (I6 ↑j)] [(0, (Pv b)), (1, I6 ↑i), (2, I6 ↑j), (5, (Pv w.heap.size)), (6, .slice none 0 0), (7, I6 0), (11, (Pv b)), (12, I6 ↑i), (13, I6 ↑j)] 3 2 hS (.cons (hB8.cell 0 rfl) .nil) fun a hS => ?_
 refine eff_call wide_wide (r := 1) (f := 44) (vs := [(Pv b), I6 ↑i, I6 ↑j]) (cap := #[]) (d := (some 14)) hS (by kernel_rfl) Try.call44 #[(Pv b), I6 ↑i, I6 ↑j] (by kernel_rfl) (within_3 hG7 (by omega)) ?_
 rintro _ wc13 ⟨rfl, hEc13⟩
 refine ⟨_, rfl, fun a hS => ?_⟩
 have hB15 := hB8.ext hEc13 (by simp)
 have hG16 : RpOk wc13 b o := hG7.ext0 hEc13
 have hE17 := hE10.trans0 hEc13
 refine sg wide_wide [.p] [] [(0, (Pv b)), (1, I6 ↑i), (2, I6 ↑j), (5, (Pv w.heap.size)), (6, .slice none 0 0), (7, I6 0), (15, .bool false)] 5 0 hS .nil fun a hS => ?_
 refine seg_end ?_
 refine hK12 _ _ ?_
 refine cond_f hS rfl ?_
 refine wpIn_skip ?_
 refine hK11 _ _ ?_
 refine sq fun K18 hK18 => ?_
 refine rgn 6 ?_
 refine sg wide_wide [.ld (I6 ↑j), .p, .as (I6 ((j - i : Nat) : Int))] [wc13.cell? ⟨w.heap.size, 0, none⟩ = some (I6 ↑j), Value.int .i64 (IntKind.i64.wrap (↑j - ↑i)) = I6 ((j - i : Nat) : Int)] [(0, (Pv b)), (1, I6 ↑i), (2, I6 ↑j), (5, (Pv w.heap.size)), (6, .slice none 0 0), (7, I6 0), (15, .bool false), (18, I6 ((j - i : Nat) : Int))] 3 3 hS (.cons (hB15.cell 0 rfl) (.cons ((by rw [show (↑j - ↑i : Int) = ((j - i : Nat) : Int) from by omega]; exact as_i64 (by omega))) .nil)) fun a hS => ?_
 obtain ⟨wm, hrm, hOm, hEm, hsm⟩ := make_any (P := Try.prog) (w := wc13) (T := 23) (E := 5) (size := 1) (bytes := 1) (z := #[.int .u8 0]) (c := ((j - i : Nat) : Int)) (by kernel_rfl) (by kernel_rfl) (by kernel_rfl) (by omega)
 refine eff_run wide_wide (r := 2) (s := vS (Instr.makeSlice 23 (I6 0) (I6 ((j - i : Nat) : Int)))) (d := (some 19)) (v := .slice (some ⟨wc13.heap.size, 0, none⟩) 0 ((j - i : Nat) : Int).toNat) hS (by kernel_rfl) hrm fun a hS => ?_
 have hE1 := hE17.trans0 hEm
 have hgm : w.heap.size ≤ wc13.heap.size := hE17.size
 have hB20 := hB15.ext hEm (by simp)
 have hG21 : RpOk wm b o := hG16.ext0 hEm
 refine eff_box wide_wide (r := 1) (cs := #[.slice none 0 0]) (T := 23) (d := (some 8)) hS (by kernel_rfl) fun a w22 hw23 hS => ?_
 have hn25 : w.heap.size ≠ wm.heap.size := Nat.ne_of_lt hB20.lt
 have hn26 : wc13.heap.size ≠ wm.heap.size := Nat.ne_of_lt hOm.lt
 have hB28 := Blk.at' hw23 (hB20.alloc _)
 have hB29 := OwnR.at' hw23 (hOm.alloc _)
 have hX30 : Ext [] wm w22 := by rw [hw23]; exact (Ext.refl _ _).alloc _
 have hG31 : RpOk w22 b o := hG21.ext0 hX30
 have hB32 : Blk w22 (wm.heap.size) 23 #[.slice none 0 0] := by rw [hw23]; exact Blk.new _ _ _
 have hs33 : w.heap.size ≤ wm.heap.size := hE1.size
 have hE34 : Ext [] w w22 := by rw [hw23]; exact hE1.alloc _
 refine eff_store wide_wide (r := 0) (b := wm.heap.size) (off := 0) (vs := [.slice (some ⟨wc13.heap.size, 0, none⟩) 0 (((j - i : Nat) : Int).toNat)]) hS (by kernel_rfl) hB32 (by simp) fun a w35 hw36 hS => ?_
 have hB38 := Blk.at' hw36 (hB28.updNe (Ne.symm hn25) _ _)
 have hB39 := OwnR.at' hw36 (hB29.updNe (Ne.symm hn26) _ _)
 have hB40 : Blk w35 wm.heap.size 23 (#[.slice (some ⟨wc13.heap.size, 0, none⟩) 0 (((j - i : Nat) : Int).toNat)]) := by rw [hw36]; exact hB32.upd _ _
 have hX41 : Ext [wm.heap.size] w22 w35 := by rw [hw36]; exact (Ext.refl _ _).updIn (.inl (by simp)) _ _
 have hG42 : RpOk w35 b o := RpOk.extN hG21 hG31 hX41 (fun x hx => by simp at hx; subst hx; exact Nat.le_refl _)
 have hE43 : Ext [] w w35 := by rw [hw36]; exact hE34.updIn (.inr hs33) _ _
 refine seg_end ?_
 refine hK18 _ _ ?_
 refine sq fun K44 hK44 => ?_
 refine sq fun K45 hK45 => ?_
 refine rgn 3 ?_
 refine sg wide_wide [.p, .p] [] [(0, (Pv b)), (1, I6 ↑i), (2, I6 ↑j), (5, (Pv w.heap.size)), (6, .slice none 0 0), (7, I6 0), (15, .bool false), (8, (Pv wm.heap.size)), (20, (Pv b)), (21, I6 ↑i)] 2 1 hS .nil fun a hS => ?_
 refine eff_call wide_wide (r := 0) (f := 49) (vs := [(Pv b), I6 ↑i]) (cap := #[]) (d := (some 22)) hS (by kernel_rfl) Try.call49 #[(Pv b), I6 ↑i] (by kernel_rfl) (chunks_any) ?_
 rintro _ wc46 ⟨fb46, rb46, rfl, hf46, hr46, hfn46, hrn46, hEc46⟩
 refine ⟨_, rfl, fun a hS => ?_⟩
 have hB48 := hB38.ext hEc46 (by simp)
 have hB49 := hB39.ext hEc46 (by simp)
 have hB50 := hB40.ext hEc46 (by simp)
 have hG51 : RpOk wc46 b o := hG42.ext0 hEc46
 have hE52 := hE43.trans0 hEc46
 refine seg_end ?_
 refine hK45 _ _ ?_
 refine wpIn_block ?_
 replace hS := hS.kp [(5, (Pv w.heap.size)), (8, (Pv wm.heap.size)), (22, .func (.func 65) #[] #[(Pv fb46), (Pv rb46)])]
 have hA0 := hB50
 have hT5 := hB48
 have hO0 := hB49
 have hR0 := hG51
 have hAn : w.heap.size ≤ wm.heap.size := hs33
 have hOn : w.heap.size ≤ wc13.heap.size := hgm
 have hAlt := hA0.lt
 have hOlt := hO0.lt
 have hE8 := hE52
 have hfx : fb46 ≠ wm.heap.size ∧ fb46 ≠ wc13.heap.size := ⟨hf46.ne_type hA0 (by decide), fun h => hO0.ne_type hf46 (by decide) h.symm⟩
 have hrx : rb46 ≠ wm.heap.size ∧ rb46 ≠ wc13.heap.size := ⟨hr46.ne_type hA0 (by decide), fun h => hO0.ne_type hr46 (by decide) h.symm⟩
 have h58 : w.heap.size ≠ wm.heap.size ∧ w.heap.size ≠ wc13.heap.size := ⟨hT5.ne_type hA0 (by decide), fun h => hO0.ne_type hT5 (by decide) h.symm⟩
 have hC8 : ∀ b ∈ (wm.heap.size :: ob (.slice (some ⟨wc13.heap.size, 0, none⟩) 0 ((j - i : Nat) : Int).toNat)), w.heap.size ≤ b := fun b hb => by
  have hb : b = wm.heap.size ∨ b = wc13.heap.size := by simpa [ob] using hb
  rcases hb with rfl | rfl
  ·exact hAn
  ·exact hOn
 refine range_out (α := Cp) (β := Cv) (gf := 65) (lb := #[Pv fb46, Pv rb46]) (π := (·.1)) (enc := ckE) (nb := ckB) (Ok := ckOk) (Nx := CkNx i ((obs o).drop i)) (Fin := CkFin ((obs o).drop i)) (T := fun x => x = fb46 ∨ x = rb46 ∨ x = b ∨ footO o x)
  (fun pre Cx W => ∃ bs cap, Cx = wm.heap.size :: ob (.slice bs (acc (j - i) pre).length cap) ∧ Blk W wm.heap.size 23 #[.slice bs (acc (j - i) pre).length cap] ∧ OwnV W 5 1 (.slice bs (acc (j - i) pre).length cap) (acc (j - i) pre).length (bv (acc (j - i) pre)) ∧ (∀ x ∈ ob (.slice bs (acc (j - i) pre).length cap), w.heap.size ≤ x) ∧ ∃ rest, told (pre.map (·.1)) ++ rest = ((obs o).drop i))
  (fun c pre Cx W => c = .exit 0 ∧ (j - i) ≤ (told (pre.map (·.1))).length ∧ ∃ bs cap, Cx = wm.heap.size :: ob (.slice bs (acc (j - i) pre).length cap) ∧ Blk W wm.heap.size 23 #[.slice bs (acc (j - i) pre).length cap] ∧ OwnV W 5 1 (.slice bs (acc (j - i) pre).length cap) (acc (j - i) pre).length (bv (acc (j - i) pre)) ∧ (∀ x ∈ ob (.slice bs (acc (j - i) pre).length cap), w.heap.size ≤ x) ∧ ∃ rest, told (pre.map (·.1)) ++ rest = ((obs o).drop i)) (wm.heap.size :: ob (.slice (some ⟨wc13.heap.size, 0, none⟩) 0 ((j - i : Nat) : Int).toNat)) (fun q => [(5, (Pv w.heap.size)), (8, (Pv wm.heap.size)), (9, I6 q.1.1), (10, q.2)]) hS rfl Try.call65 ?_ ckOk_ext ?_ ?_ ?_ (fun _ => rfl) rfl ?_ ?_ ?_ ?_ ?_ ?_ ?_
 ·intro W hEW _
  exact chunks1_any (hf46.ext hEW (by simp)) (hr46.ext hEW (by simp)) (hR0.ext0 hEW) (by omega)
 ·rintro x (rfl | rfl | rfl | hx)
  ·exact hf46.lt
  ·exact hr46.lt
  ·exact hR0.1.lt
  ·exact hR0.2.1.foot x hx
 ·intro x hx hT
  have hx : x = wm.heap.size ∨ x = wc13.heap.size := by simpa [ob] using hx
  rcases hT with hT | hT | hT | hT
  ·subst hT; rcases hx with hx | hx
   ·exact hfx.1 hx
   ·exact hfx.2 hx
  ·subst hT; rcases hx with hx | hx
   ·exact hrx.1 hx
   ·exact hrx.2 hx
  ·have hb := hR.1.lt
   rcases hx with rfl | rfl <;> omega
  ·have hb := hR.2.1.foot x hT
   rcases hx with rfl | rfl <;> omega
 ·intro x hx
  have hx : x = wm.heap.size ∨ x = wc13.heap.size := by simpa [ob] using hx
  rcases hx with rfl | rfl
  ·exact hAlt
  ·exact hOlt
 ·rintro pre Cx M W W' ⟨bs, cap, rfl, h1, h2, h3, h4⟩ hE hM
  exact ⟨bs, cap, rfl, h1.ext hE (fun hm => (hM _ hm).2 (by simp)), h2.ext hE (fun b hb hm => (hM b hm).2 (by simp [hb])), h3, h4⟩
 ·rintro c pre Cx M W W' ⟨hc, hk, bs, cap, rfl, h1, h2, h3, h4⟩ hE hM
  exact ⟨hc, hk, bs, cap, rfl, h1.ext hE (fun hm => (hM _ hm).2 (by simp)), h2.ext hE (fun b hb hm => (hM b hm).2 (by simp [hb])), h3, h4⟩
 ·rw [acc_nil]; exact ⟨some ⟨wc13.heap.size, 0, none⟩, ((j - i : Nat) : Int).toNat, rfl, hA0, hO0.v, (fun x hx => by simp [ob] at hx; subst hx; exact hOn), _, rfl⟩
 ·intro l2 x a' W K hS hK
  refine sq fun K53 hK53 => ?_
  refine rgn 1 ?_
  refine sg (wide_wide.inRound l2) [.p] [] [(5, (Pv w.heap.size)), (8, (Pv wm.heap.size)), (23, I6 x.1.1), (24, x.2), (9, I6 x.1.1)] 1 0 hS .nil fun a hS => ?_
  refine seg_end ?_
  refine hK53 _ _ ?_
  refine rgn 1 ?_
  refine sg (wide_wide.inRound l2) [.p] [] [(5, (Pv w.heap.size)), (8, (Pv wm.heap.size)), (23, I6 x.1.1), (24, x.2), (9, I6 x.1.1), (10, x.2)] 1 0 hS .nil fun a hS => ?_
  refine seg_end ?_
  exact hK _ (hS.keepTo [5, 8, 9, 10] (by kernel_rfl))
 ·rintro l2 pre x Cx W a ⟨hx1, hx2, rest, hx3⟩ ⟨bs, cap, rfl, hA, hO, hOnw, _⟩ hlieW hfrW hnl hrec hEW hok hnb hS
  replace hS : St 39 [] [(5, (Pv w.heap.size)), (8, (Pv wm.heap.size)), (9, I6 x.1.1), (10, x.2)] a := hS
  obtain ⟨ys, hys⟩ : ∃ ys, x.1.2 = ys := ⟨_, rfl⟩
  obtain ⟨tl, htl⟩ : ∃ tl : Nat, (told (pre.map (·.1))).length = tl := ⟨_, rfl⟩
  have hT5W : Blk W w.heap.size 3 #[I6 j] := hT5.ext hEW (by simp [ob]; exact h58)
  have hxl := congrArg List.length hx3
  rw [List.length_append, List.length_append, List.length_drop, htl] at hxl
  rw [hys] at hxl hx2
  rw [htl] at hx1
  have hrd : RdV W 1 x.2 ys.length (bv ys) := by rw [← hys]; exact hok.rd
  have hal : (acc (j - i) pre).length ≤ tl := by rw [acc, List.length_take, htl]; exact Nat.min_le_right _ _
  have hal2 : (acc (j - i) pre).length ≤ (j - i) := by rw [acc, List.length_take]; exact Nat.min_le_left _ _
  obtain ⟨ac, hac⟩ : ∃ ac, acc (j - i) pre = ac := ⟨_, rfl⟩
  rw [hac] at hA hO hOnw hal hal2 hlieW ⊢
  obtain ⟨mk, hmk⟩ : ∃ mk, min ys.length (j - i - tl) = mk := ⟨_, rfl⟩
  rw [hx1] at hS
  have hEW0 : Ext (ckB x ++ wm.heap.size :: ob (.slice bs ac.length cap)) W W := Ext.refl _ _
  refine wpIn_block ?_
  refine sq fun K54 hK54 => ?_
  refine sq fun K55 hK55 => ?_
  refine rgn 3 ?_
  refine sg (wide_wide.inRound l2) [.p, .ld (I6 ↑j), .p] [W.cell? ⟨w.heap.size, 0, none⟩ = some (I6 ↑j)] [(5, (Pv w.heap.size)), (8, (Pv wm.heap.size)), (9, I6 ((i + tl : Nat) : Int)), (10, x.2), (27, .bool (decide ((((i + tl : Nat) : Int) : Int) ≥ ↑j)))] 3 0 hS (.cons (hT5W.cell 0 rfl) .nil) fun a hS => ?_
  refine seg_end ?_
  refine hK55 _ _ ?_
  refine cond_b hS rfl (fun hb56 => ?_) (fun hb56 => ?_)
  ·
   replace hb56 := of_decide_eq_true hb56
   have hrest : ∃ rest, told (pre.map (·.1)) ++ rest = ((obs o).drop i) := ⟨_, hx3⟩
   refine wpIn_exit ?_
   refine then_exit ?_
   refine inBlock_miss rfl ?_
   have hsn : acc (j - i) (pre ++ [x]) = ac := by
    rw [← hac, acc, acc, List.map_append, List.map_cons, List.map_nil, told_snoc, List.take_append_of_le_length (by omega)]
   refine left_exit (C' := wm.heap.size :: ob (.slice bs ac.length cap)) (Ext.refl _ _) ?_ (fun b hb => hlieW b hb) ⟨rfl, by rw [List.map_append, List.map_cons, List.map_nil, told_snoc, List.length_append, htl]; omega, ?_⟩
   ·exact fun b hb => .inl (List.mem_append_right _ hb)
   ·rw [hsn]; exact ⟨bs, cap, rfl, hA, hO, hOnw, rest, by rw [List.map_append, List.map_cons, List.map_nil, told_snoc, List.append_assoc]; exact hx3⟩
  ·
   replace hb56 := of_decide_eq_false hb56
   have hm1 : (if ((j : Int) - ((i + tl : Nat) : Int)) < (ys.length : Int) then (j : Int) - ((i + tl : Nat) : Int) else (ys.length : Int)) = (mk : Int) := by
    rw [← hmk, Nat.min_def]; split <;> split <;> omega
   have hmk1 : mk ≤ ys.length ∧ mk ≤ j - i - tl := by rw [← hmk, Nat.min_def]; split <;> omega
   refine wpIn_skip ?_
   refine hK54 _ _ ?_
   refine region_gh2 (G := (Option Addr) × Nat × World) (wide_wide.inRound l2) [.q (.ld (.slice bs ac.length cap)), .q .p, .q .p, .q (.run (I6 ↑ys.length)), .q (.ld (I6 ↑j)), .q .p, .q (.as (I6 (↑j - ((i + tl : Nat) : Int)))), .q (.as (I6 ↑mk)), .q (.run (rsub x.2 0 mk (capOf x.2))), .e, .e] [0, 0, 0, 0, 0, 0, 0, 0, 0, 0, 1] [0, 0, 0, 0, 0, 0, 0, 0, 0, 0, 1] [0, 0, 0, 4, 0, 0, 48, 124, 254, 511, 1023] [9, 10] [(9, 0), (10, 1)] 2 (fun ⟨bs57, cp57, wa57⟩ => ([(5, (Pv w.heap.size)), (8, (Pv wm.heap.size)), (9, I6 ((i + tl : Nat) : Int)), (10, x.2), (28, .slice bs ac.length cap), (29, x.2), (30, x.2), (31, I6 ↑ys.length), (32, I6 ↑j), (33, I6 ((i + tl : Nat) : Int)), (34, I6 (↑j - ((i + tl : Nat) : Int))), (35, I6 ↑mk), (36, (rsub x.2 0 mk (capOf x.2))), (37, .slice bs57 (ac.length + mk) cp57)] : Fm)) (fun ⟨bs57, cp57, wa57⟩ => [W.drew, wa57, upd (wa57) (wm.heap.size) 23 #[.slice bs57 (ac.length + mk) cp57]]) (W.drew) (fun e ⟨bs57, cp57, wa57⟩ => hAt [True, (OwnV wa57 5 1 (.slice bs57 (ac.length + mk) cp57) (ac.length + mk) ((bv ac) ++ (bv (ys.take mk)))) ∧ (Ext (ob (Value.slice bs ac.length cap)) W.drew wa57) ∧ (Fresh (W.drew).heap.size (ob (Value.slice bs ac.length cap)) (ob (.slice bs57 (ac.length + mk) cp57))) ∧ True, (OwnV wa57 5 1 (.slice bs57 (ac.length + mk) cp57) (ac.length + mk) ((bv ac) ++ (bv (ys.take mk)))) ∧ (Ext (ob (Value.slice bs ac.length cap)) W.drew wa57) ∧ (Fresh (W.drew).heap.size (ob (Value.slice bs ac.length cap)) (ob (.slice bs57 (ac.length + mk) cp57))) ∧ True] e) (fun ⟨bs57, cp57, wa57⟩ w' => [(0, [w'.cell? ⟨wm.heap.size, 0, none⟩ = some (.slice bs ac.length cap)]), (3, [Ru Try.prog (vS (Builtin.len_ #[23] 3 #[x.2])) (I6 ↑ys.length) w']), (4, [w'.cell? ⟨w.heap.size, 0, none⟩ = some (I6 ↑j)]), (6, [Value.int .i64 (IntKind.i64.wrap (↑j - ((i + tl : Nat) : Int))) = I6 (↑j - ((i + tl : Nat) : Int))]), (7, [Value.int .i64 (if (↑j - ((i + tl : Nat) : Int) : Int) < ↑ys.length then ↑j - ((i + tl : Nat) : Int) else ↑ys.length) = I6 ↑mk]), (8, [Ru Try.prog (vS (Instr.sliceAt 23 x.2 none (some (I6 ↑mk)) none)) (rsub x.2 0 mk (capOf x.2)) w'])]) (none, 0, w) [5, 8, 9, 10] [] hS (by kernel_rfl) (by kernel_rfl) (by kernel_rfl) (by kernel_rfl) (fun ⟨bs57, cp57, wa57⟩ _ => by kernel_rfl) (by kernel_rfl) (by kernel_rfl) (by kernel_rfl) trivial ?_ (by kernel_rfl) ?_ ?_
   ·rintro e ⟨bs57, cp57, wa57⟩ w' hw hH
    refine (.cons ?_ (.cons ?_ (.cons ?_ (.cons ?_ (.cons ?_ (.cons ?_ .nil))))))
    ·intro h1 h2
     obtain rfl : e = 0 := Nat.le_antisymm h2 h1
     have hwe : W.drew = w' := (hw.trans (by kernel_rfl)).symm
     subst hwe
     clear hH
     exact (.cons ((hA.drew : Blk W.drew wm.heap.size 23 (#[.slice bs ac.length cap])).cell 0 rfl) .nil)
    ·intro h1 h2
     obtain rfl : e = 0 := Nat.le_antisymm h2 h1
     have hwe : W.drew = w' := (hw.trans (by kernel_rfl)).symm
     subst hwe
     clear hH
     exact (.cons (run_len_rd (e := 5) hrd (by kernel_rfl)) .nil)
    ·intro h1 h2
     obtain rfl : e = 0 := Nat.le_antisymm h2 h1
     have hwe : W.drew = w' := (hw.trans (by kernel_rfl)).symm
     subst hwe
     clear hH
     exact (.cons ((hT5W.drew : Blk W.drew w.heap.size 3 (#[I6 ↑j])).cell 0 rfl) .nil)
    ·intro h1 h2
     obtain rfl : e = 0 := Nat.le_antisymm h2 h1
     have hwe : W.drew = w' := (hw.trans (by kernel_rfl)).symm
     subst hwe
     clear hH
     exact (.cons (as_i64 (by omega)) .nil)
    ·intro h1 h2
     obtain rfl : e = 0 := Nat.le_antisymm h2 h1
     have hwe : W.drew = w' := (hw.trans (by kernel_rfl)).symm
     subst hwe
     clear hH
     exact (.cons (congrArg _ hm1) .nil)
    ·intro h1 h2
     obtain rfl : e = 0 := Nat.le_antisymm h2 h1
     have hwe : W.drew = w' := (hw.trans (by kernel_rfl)).symm
     subst hwe
     clear hH
     exact (.cons (sl_rd (e := 5) none (some (I6 ↑mk)) (l := 0) (k := mk) hrd (by kernel_rfl) (by kernel_rfl) (.inl ⟨rfl, rfl⟩) (.inr ⟨_, rfl⟩) (by omega) (by omega)) .nil)
   ·refine (.cons ?eq58_9 (.cons ?eq58_10 .nil))
    ·rintro ⟨bs57, cp57, wa57⟩ hH
     clear hH
     refine eff_gh (W.drew) (by kernel_rfl) ?_
     obtain ⟨bsN, capN, wN, hra, hA⟩ := append_rd (P := Try.prog) (w := W.drew) (t := 23) (ty := 23) (e := 5) (size := 1) (bytes := 1) (n := ac.length) (k := mk) (z := #[.int .u8 0]) (v := Value.slice bs ac.length cap) (u := (rsub x.2 0 mk (capOf x.2))) (xs := (bv ac)) (news := (bv (ys.take mk))) (by kernel_rfl) (by kernel_rfl) (by kernel_rfl) (hO.drew : OwnV W.drew 5 1 (.slice bs ac.length cap) ac.length (bv ac)) ((RdV.subt hrd (k := mk) (m := (capOf x.2)) (by omega) (by have := hrd.le_cap; omega)).ext0 ((Ext.refl [] _).drew)) (bv_one _) (by omega) (by omega)
     have hOn := hA.own
     exact upon_run (s := vS (Builtin.append_ #[23, 23] 23 #[Value.slice bs ac.length cap, (rsub x.2 0 mk (capOf x.2))])) (d := (some 37)) (v := (.slice bsN (ac.length + mk) capN)) (by kernel_rfl) (vS_run hra) ⟨(bsN, capN, wN), by kernel_rfl, by kernel_rfl, by kernel_rfl, ⟨hOn, hA.ext, hA.fresh, trivial⟩⟩
    ·rintro ⟨bs57, cp57, wa57⟩ hH
     obtain ⟨hO57, hEa57, hfr57, _⟩ := hH
     refine eff_gh (wa57) (by kernel_rfl) ?_
     exact upon_store (b := wm.heap.size) (off := 0) (vs := [.slice bs57 (ac.length + mk) cp57]) (by kernel_rfl) ((hA.drew : Blk W.drew wm.heap.size 23 (#[.slice bs ac.length cap])).ext hEa57 ((hO.drew : OwnV W.drew 5 1 (.slice bs ac.length cap) ac.length (bv ac)).notin (hA.drew : Blk W.drew wm.heap.size 23 (#[.slice bs ac.length cap])) (by decide)) : Blk wa57 wm.heap.size 23 (#[.slice bs ac.length cap])) (by simp) ⟨(bs57, cp57, wa57), by kernel_rfl, by kernel_rfl, by kernel_rfl, ⟨hO57, hEa57, hfr57, trivial⟩⟩
   rintro ⟨bs57, cp57, wa57⟩ a w59 hS hw60 hH
   obtain ⟨hO57, hEa57, hfr57, _⟩ := hH
   replace hw60 : w59 = upd (wa57) (wm.heap.size) 23 #[.slice bs57 (ac.length + mk) cp57] := hw60.trans (by kernel_rfl)
   have hB61 : Blk w59 wm.heap.size 23 (#[.slice bs57 (ac.length + mk) cp57]) := by rw [hw60]; exact ((hA.drew : Blk W.drew wm.heap.size 23 (#[.slice bs ac.length cap])).ext hEa57 ((hO.drew : OwnV W.drew 5 1 (.slice bs ac.length cap) ac.length (bv ac)).notin (hA.drew : Blk W.drew wm.heap.size 23 (#[.slice bs ac.length cap])) (by decide))).upd _ _
   have hB63 : OwnV w59 5 1 (.slice bs57 (ac.length + mk) cp57) (ac.length + mk) ((bv ac) ++ (bv (ys.take mk))) := by rw [hw60]; exact (hO57).updNe (OwnV.ne (hO57 : OwnV wa57 5 1 (.slice bs57 (ac.length + mk) cp57) (ac.length + mk) ((bv ac) ++ (bv (ys.take mk)))) ((hA.drew : Blk W.drew wm.heap.size 23 (#[.slice bs ac.length cap])).ext hEa57 ((hO.drew : OwnV W.drew 5 1 (.slice bs ac.length cap) ac.length (bv ac)).notin (hA.drew : Blk W.drew wm.heap.size 23 (#[.slice bs ac.length cap])) (by decide)) : Blk wa57 wm.heap.size 23 (#[.slice bs ac.length cap])) (by decide)) _ _
   have hX64 : Ext (ob (Value.slice bs ac.length cap) ++ [wm.heap.size]) W w59 := by rw [hw60]; exact (((Ext.refl _ _).drew).trans hEa57 (fun b hb => .inl (by simp [hb]))).updIn (.inl (by simp)) _ _
   have hG65 : True := trivial
   have hG66 : Ext (ckB x ++ wm.heap.size :: ob (.slice bs ac.length cap)) W w59 := hEW0.trans hX64 (fun b hb => .inl (by simp at hb ⊢; rcases hb with h | h <;> simp [h]))
   replace hS := hS.kp [(5, (Pv w.heap.size)), (8, (Pv wm.heap.size)), (9, I6 ((i + tl : Nat) : Int)), (10, x.2)]
   refine inBlock_normal ?_
   have htac : told (pre.map (·.1)) = ac := by rw [← hac, acc, List.take_of_length_le (by omega)]
   have hsn : acc (j - i) (pre ++ [x]) = ac ++ ys.take mk := by
    rw [acc_snoc (by omega), hac, htl, hys, ← hmk]
    rcases Nat.le_total ys.length (j - i - tl) with h1 | h1
    ·rw [Nat.min_eq_left h1, List.take_of_length_le h1, List.take_of_length_le (Nat.le_refl _)]
    ·rw [Nat.min_eq_right h1]
   have hsl : (acc (j - i) (pre ++ [x])).length = ac.length + mk := by rw [hsn, List.length_append, List.length_take]; omega
   refine left_normal (C' := wm.heap.size :: ob (.slice bs57 (acc (j - i) (pre ++ [x])).length cp57)) hG66 ?_ ?_ ?_
   ·intro b hb
    rcases List.mem_cons.1 hb with rfl | hb
    ·exact .inl (List.mem_append_right _ (by simp))
    ·rw [hsl] at hb
     rcases hfr57 b hb with h1 | h1
     ·exact .inl (List.mem_append_right _ (by simp [h1]))
     ·exact .inr h1
   ·intro b hb
    rcases List.mem_cons.1 hb with rfl | hb
    ·exact hB61.lt
    ·rw [hsl] at hb; exact hB63.lie b hb
   ·rw [hsl, hsn, bv_app]
    refine ⟨bs57, cp57, rfl, hB61, hB63, fun x hx => ?_, rest, by rw [List.map_append, List.map_cons, List.map_nil, told_snoc, List.append_assoc]; exact hx3⟩
    rcases hfr57 x hx with h1 | h1
    ·exact hOnw x h1
    ·exact Nat.le_trans (Nat.le_trans hE8.size hEW.size) h1
 ·rintro Cx w7 a hE87 hfr7 hlie7 hD7 ⟨all, hall, bs, cap, rfl, hA7, hO7, hO7n, _⟩ hS
  rw [acc_all hall] at hA7 hO7 hO7n
  have hDn : wc46.heap.size ∉ ob (.slice bs (((obs o).drop i).take (j - i)).length cap) := fun hb => by
   rcases hO7 with ⟨h1, _⟩ | ⟨g, c', h1, ⟨cur, hc, _⟩, _⟩
   ·rw [h1] at hb; simp [ob] at hb
   ·rw [h1] at hb; simp [ob] at hb; rw [hb] at hD7; exact hD7.ne_blk hc rfl
  replace hS : St 39 ([wc46.heap.size].map dmark) [(8, (Pv wm.heap.size))] a := hS.kp [(8, (Pv wm.heap.size))]
  refine inBlock_normal ?_
  refine hK44 _ _ ?_
  refine sq fun K67 hK67 => ?_
  refine rgn 3 ?_
  refine sg wide_wide [.ld (.slice bs ((((obs o).drop i).take (j - i)).length) cap), .p, .p] [w7.cell? ⟨wm.heap.size, 0, none⟩ = some (.slice bs ((((obs o).drop i).take (j - i)).length) cap)] [(8, (Pv wm.heap.size)), (6, .slice bs ((((obs o).drop i).take (j - i)).length) cap), (7, I6 0)] 3 0 hS (.cons (hA7.cell 0 rfl) .nil) fun a hS => ?_
  refine seg_end ?_
  refine hK67 _ _ ?_
  refine wpIn_ret ?_
  refine retM2 [wc46.heap.size] hS Try.results35 rfl rfl (by intro D hD; simp at hD; subst hD; exact hD7) (by simp) fun w9 hE9 => ?_
  exact ⟨bs, cap, rfl, hO7.ext hE9 (fun b hb hm => by simp at hm; subst hm; exact hDn hb), hO7n, (hE8.trans hE87 (fun b hb => .inr (hC8 b hb))).trans hE9 (by intro b hb; simp at hb; subst hb; exact .inr hE8.size)⟩
 ·rintro c pre Cx w7 a hE87 hfr7 hlie7 hD7 ⟨rfl, hk7, bs, cap, rfl, hA7, hO7, hO7n, rest, hrest⟩ hS
  rw [acc_part hrest hk7] at hA7 hO7 hO7n
  have hDn : wc46.heap.size ∉ ob (.slice bs (((obs o).drop i).take (j - i)).length cap) := fun hb => by
   rcases hO7 with ⟨h1, _⟩ | ⟨g, c', h1, ⟨cur, hc, _⟩, _⟩
   ·rw [h1] at hb; simp [ob] at hb
   ·rw [h1] at hb; simp [ob] at hb; rw [hb] at hD7; exact hD7.ne_blk hc rfl
  replace hS : St 39 ([wc46.heap.size].map dmark) [(8, (Pv wm.heap.size))] a := hS.kp [(8, (Pv wm.heap.size))]
  refine wpIn_exit ?_
  refine inBlock_hit ?_
  refine hK44 _ _ ?_
  refine sq fun K68 hK68 => ?_
  refine rgn 3 ?_
  refine sg wide_wide [.ld (.slice bs ((((obs o).drop i).take (j - i)).length) cap), .p, .p] [w7.cell? ⟨wm.heap.size, 0, none⟩ = some (.slice bs ((((obs o).drop i).take (j - i)).length) cap)] [(8, (Pv wm.heap.size)), (6, .slice bs ((((obs o).drop i).take (j - i)).length) cap), (7, I6 0)] 3 0 hS (.cons (hA7.cell 0 rfl) .nil) fun a hS => ?_
  refine seg_end ?_
  refine hK68 _ _ ?_
  refine wpIn_ret ?_
  refine retM2 [wc46.heap.size] hS Try.results35 rfl rfl (by intro D hD; simp at hD; subst hD; exact hD7) (by simp) fun w9 hE9 => ?_
  exact ⟨bs, cap, rfl, hO7.ext hE9 (fun b hb hm => by simp at hm; subst hm; exact hDn hb), hO7n, (hE8.trans hE87 (fun b hb => .inr (hC8 b hb))).trans hE9 (by intro b hb; simp at hb; subst hb; exact .inr hE8.size)⟩

end Go.Proofs.Ytkdbfjomjlhfbaa
