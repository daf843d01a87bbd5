import Derived.Test.YtkdbfjomjlhfbaaProg
import Derived.Test.YtkdbfjomjlhfbaaR12
import Derived.Test.YtkdbfjomjlhfbaaVh
namespace Go.Proofs.Ytkdbfjomjlhfbaa
open Go.Vc
set_option linter.unusedSectionVars false
variable [Inhabited Zt]

theorem Row_0 {b : Nat} {o : Option Nd} {w : World} (hR : RpOk w b o) {x : Int} (h : x < 0) :
  Calls Try.prog 17 #[(Pv b), I6 x] w fun e w' => e = .returned (.tuple #[I6 0, I6 0, I6 3]) ∧ Ext [] w w' := by
 refine calls_body 41 [(0, (Pv b)), (1, I6 x)] Try.func17 rfl (by kernel_rfl) (by kernel_rfl) (by kernel_rfl) fun a hS => ?_
 have hE0 : Ext [] w w := Ext.refl _ _
 refine sq fun K1 hK1 => ?_
 refine rgn 3 ?_
 refine sg wide_wide [.p, .p, .p] [] [(0, (Pv b)), (1, I6 x), (4, I6 0), (5, I6 0), (6, I6 0)] 3 0 hS .nil fun a hS => ?_
 refine seg_end ?_
 refine hK1 _ _ ?_
 refine sq fun K2 hK2 => ?_
 refine sq fun K3 hK3 => ?_
 refine rgn 8 ?_
 refine sg wide_wide [.p, .as (.bool true), .p, .no, .no, .no, .no, .p] [Value.bool (decide ((x : Int) < 0)) = .bool true] [(0, (Pv b)), (1, I6 x), (4, I6 0), (5, I6 0), (6, I6 0), (16, .bool true)] 8 0 hS (.cons (as_t (by omega)) .nil) fun a hS => ?_
 refine seg_end ?_
 refine hK3 _ _ ?_
 refine cond_t hS rfl ?_
 refine sq fun K4 hK4 => ?_
 refine rgn 3 ?_
 refine sg wide_wide [.p, .p, .p] [] [(0, (Pv b)), (1, I6 x), (4, I6 0), (5, I6 0), (6, I6 3), (16, .bool true)] 3 0 hS .nil fun a hS => ?_
 refine seg_end ?_
 refine hK4 _ _ ?_
 refine wpIn_ret ?_
 refine then_ret ?_
 refine ret3 hS Try.results17 rfl rfl rfl ?_
 exact ⟨rfl, hE0⟩

theorem Row_1 {b : Nat} {o : Option Nd} {w : World} (hR : RpOk w b o) {x : Int} (h : 0 ≤ x ∧ x > (on o : Int)) :
  Calls Try.prog 17 #[(Pv b), I6 x] w fun e w' => e = .returned (.tuple #[I6 0, I6 0, I6 3]) ∧ Ext [] w w' := by
 refine calls_body 41 [(0, (Pv b)), (1, I6 x)] Try.func17 rfl (by kernel_rfl) (by kernel_rfl) (by kernel_rfl) fun a hS => ?_
 have hE0 : Ext [] w w := Ext.refl _ _
 refine sq fun K1 hK1 => ?_
 refine rgn 3 ?_
 refine sg wide_wide [.p, .p, .p] [] [(0, (Pv b)), (1, I6 x), (4, I6 0), (5, I6 0), (6, I6 0)] 3 0 hS .nil fun a hS => ?_
 refine seg_end ?_
 refine hK1 _ _ ?_
 refine sq fun K2 hK2 => ?_
 refine sq fun K3 hK3 => ?_
 refine rgn 8 ?_
 refine sg wide_wide [.p, .as (.bool false), .p, .p, .p] [Value.bool (decide ((x : Int) < 0)) = .bool false] [(0, (Pv b)), (1, I6 x), (4, I6 0), (5, I6 0), (6, I6 0), (11, .bool false), (12, I6 x), (13, (Pv b))] 5 3 hS (.cons (as_f (by omega)) .nil) fun a hS => ?_
 refine eff_call wide_wide (r := 2) (f := 19) (vs := [(Pv b)]) (cap := #[]) (d := (some 14)) hS (by kernel_rfl) Try.call19 #[(Pv b)] (by kernel_rfl) (Len_any hR) ?_
 rintro _ wc4 ⟨rfl, hEc4⟩
 refine ⟨_, rfl, fun a hS => ?_⟩
 have hG6 : RpOk wc4 b o := hR.ext0 hEc4
 have hE7 := hE0.trans0 hEc4
 refine sg wide_wide [.as (.bool true), .p] [Value.bool (decide ((x : Int) > ↑(on o))) = .bool true] [(0, (Pv b)), (1, I6 x), (4, I6 0), (5, I6 0), (6, I6 0), (16, .bool true)] 8 0 hS (.cons (as_t (by omega)) .nil) fun a hS => ?_
 refine seg_end ?_
 refine hK3 _ _ ?_
 refine cond_t hS rfl ?_
 refine sq fun K8 hK8 => ?_
 refine rgn 3 ?_
 refine sg wide_wide [.p, .p, .p] [] [(0, (Pv b)), (1, I6 x), (4, I6 0), (5, I6 0), (6, I6 3), (16, .bool true)] 3 0 hS .nil fun a hS => ?_
 refine seg_end ?_
 refine hK8 _ _ ?_
 refine wpIn_ret ?_
 refine then_ret ?_
 refine ret3 hS Try.results17 rfl rfl rfl ?_
 exact ⟨rfl, hE7⟩

theorem Row_no {b : Nat} {o : Option Nd} {w : World} (hR : RpOk w b o) {x : Int} (h : x < 0 ∨ x > (on o : Int)) : Calls Try.prog 17 #[Pv b, I6 x] w fun e w' => e = .returned (.tuple #[I6 0, I6 0, I6 3]) ∧ Ext [] w w' := by
 by_cases h1 : x < 0
 ·exact Row_0 hR h1
 ·exact Row_1 hR ⟨by omega, by omega⟩
theorem rws_take_le (xs : List Int) (i : Nat) : rws (xs.take i) ≤ rws xs := by
 have h : rws xs = rws (xs.take i) + rws (xs.drop i) := by rw [← rws_app, List.take_append_drop]
 omega
theorem sof_take : ∀ (xs : List Int) (i : Nat), sof xs (rws (xs.take i)) ≤ i
 | [], i => by simp [sof]
 | x :: xs, 0 => by simp [sof_0]
 | x :: xs, i + 1 => by
  have ih := sof_take xs i
  rw [List.take_succ_cons, rws_cons]
  by_cases hx : x = 10
  ·rw [if_pos hx, sof, if_pos hx]; omega
  ·rw [if_neg hx, Nat.add_zero]
   cases hr : rws (xs.take i) with
   | zero => rw [sof_0]; omega
   | succ k => rw [sof, if_neg hx]; rw [hr] at ih; omega
def colAt (xs : List Int) (i : Nat) : Nat := i - sof xs (rws (xs.take i))

theorem Row_any {b : Nat} {o : Option Nd} {w : World} (hR : RpOk w b o) {i : Nat} (h : i ≤ on o) :
  Calls Try.prog 17 #[(Pv b), I6 ↑i] w fun e w' => e = .returned (.tuple #[I6 ((rws ((obs o).take i)) : Nat), I6 (colAt (obs o) i : Nat), I6 0]) ∧ Ext [] w w' := by
 have hon : on o = (obs o).length := rfl
 have hle : (obs o).length ≤ 16777216 := hR.2.2
 have hst := sof_take (obs o) i
 have hrt := rws_take_le (obs o) i
 refine calls_body 41 [(0, (Pv b)), (1, I6 ↑i)] Try.func17 rfl (by kernel_rfl) (by kernel_rfl) (by kernel_rfl) fun a hS => ?_
 have hE0 : Ext [] w w := Ext.refl _ _
 refine sq fun K1 hK1 => ?_
 refine rgn 3 ?_
 refine sg wide_wide [.p, .p, .p] [] [(0, (Pv b)), (1, I6 ↑i), (4, I6 0), (5, I6 0), (6, I6 0)] 3 0 hS .nil fun a hS => ?_
 refine seg_end ?_
 refine hK1 _ _ ?_
 refine sq fun K2 hK2 => ?_
 refine sq fun K3 hK3 => ?_
 refine rgn 8 ?_
 refine sg wide_wide [.p, .as (.bool false), .p, .p, .p] [Value.bool (decide ((↑i : Int) < 0)) = .bool false] [(0, (Pv b)), (1, I6 ↑i), (4, I6 0), (5, I6 0), (6, I6 0), (11, .bool false), (12, I6 ↑i), (13, (Pv b))] 5 3 hS (.cons (as_f (by omega)) .nil) fun a hS => ?_
 refine eff_call wide_wide (r := 2) (f := 19) (vs := [(Pv b)]) (cap := #[]) (d := (some 14)) hS (by kernel_rfl) Try.call19 #[(Pv b)] (by kernel_rfl) (Len_any hR) ?_
 rintro _ wc4 ⟨rfl, hEc4⟩
 refine ⟨_, rfl, fun a hS => ?_⟩
 have hB5 := hR.1.ext hEc4 (by simp)
 have hG6 : RpOk wc4 b o := hR.ext0 hEc4
 have hE7 := hE0.trans0 hEc4
 refine sg wide_wide [.as (.bool false), .p] [Value.bool (decide ((↑i : Int) > ↑(on o))) = .bool false] [(0, (Pv b)), (1, I6 ↑i), (4, I6 0), (5, I6 0), (6, I6 0), (16, .bool false)] 8 0 hS (.cons (as_f (by omega)) .nil) fun a hS => ?_
 refine seg_end ?_
 refine hK3 _ _ ?_
 refine cond_f hS rfl ?_
 refine wpIn_skip ?_
 refine hK2 _ _ ?_
 refine sq fun K8 hK8 => ?_
 refine sq fun K9 hK9 => ?_
 refine rgn 7 ?_
 refine sg wide_wide [.p, .p, .p, .ld ((op o)), .p] [wc4.cell? ⟨b, 0, none⟩ = some ((op o))] [(0, (Pv b)), (1, I6 ↑i), (4, I6 0), (5, I6 0), (6, I6 0), (16, .bool false), (20, (op o)), (21, I6 ↑i)] 5 2 hS (.cons (hB5.cell 0 rfl) .nil) fun a hS => ?_
 refine eff_call wide_wide (r := 1) (f := 42) (vs := [(op o), I6 0, I6 ↑i]) (cap := #[]) (d := (some 22)) hS (by kernel_rfl) Try.call42 #[(op o), I6 0, I6 ↑i] (by kernel_rfl) (cut_any 0 i hG6.2.1 (by omega) (by omega)) ?_
 rintro _ wz ⟨z, rfl, hz0, kz, hEz⟩
 rcases z with _ | z
 ·
  refine ⟨_, rfl, fun a hS => ?_⟩
  have hG11 : RpOk wz b o := hG6.ext0 hEz
  have hEx := hE7.trans0 hEz
  have hr0 : (rws ((obs o).take i)) = 0 := by
   have h : ([] : List Int) = (obs o).take i := by rw [List.drop_zero, Nat.sub_zero] at kz; exact kz
   rw [← h]; rfl
  refine sg wide_wide [.p] [] [(0, (Pv b)), (1, I6 ↑i), (4, I6 0), (5, I6 0), (6, I6 0), (16, .bool false), (7, .pointer none)] 7 0 hS .nil fun a hS => ?_
  refine seg_end ?_
  refine hK9 _ _ ?_
  refine sq fun K12 hK12 => ?_
  refine rgn 2 ?_
  refine sg wide_wide [.p, .p] [] [(0, (Pv b)), (1, I6 ↑i), (4, I6 0), (5, I6 0), (6, I6 0), (16, .bool false), (7, .pointer none), (24, .bool false)] 2 0 hS .nil fun a hS => ?_
  refine seg_end ?_
  refine hK12 _ _ ?_
  refine cond_f hS rfl ?_
  refine wpIn_skip ?_
  refine hK8 _ _ ?_
  refine sq fun K13 hK13 => ?_
  refine rgn 8 ?_
  refine sg wide_wide [.p, .p] [] [(0, (Pv b)), (1, I6 ↑i), (4, I6 0), (5, I6 0), (6, I6 0), (16, .bool false), (7, .pointer none), (24, .bool false), (31, (Pv b)), (32, I6 0)] 2 6 hS .nil fun a hS => ?_
  refine eff_call wide_wide (r := 5) (f := 16) (vs := [(Pv b), I6 0]) (cap := #[]) (d := (some 33)) hS (by kernel_rfl) Try.call16 #[(Pv b), I6 0] (by kernel_rfl) ((by have h := Start_any (k := 0) hG11 (Nat.zero_le _); rw [sof_0] at h; exact h)) ?_
  rintro _ wc14 ⟨rfl, hEc14⟩
  refine ⟨_, rfl, fun a hS => ?_⟩
  have hG16 : RpOk wc14 b o := hG11.ext0 hEc14
  have hE17 := hEx.trans0 hEc14
  refine sg wide_wide [.p, .p, .p, .p, .p] [] [(0, (Pv b)), (1, I6 ↑i), (4, I6 0), (5, I6 0), (6, I6 0), (16, .bool false), (7, .pointer none), (24, .bool false), (8, I6 0)] 8 0 hS .nil fun a hS => ?_
  refine seg_end ?_
  refine hK13 _ _ ?_
  refine sq fun K18 hK18 => ?_
  refine rgn 8 ?_
  refine sg wide_wide [.p, .p, .p, .as (I6 (↑i - 0)), .p, .p, .p, .p] [Value.int .i64 (IntKind.i64.wrap (↑i - 0)) = I6 (↑i - 0)] [(0, (Pv b)), (1, I6 ↑i), (4, I6 0), (5, I6 (↑i - 0)), (6, I6 0), (16, .bool false), (7, .pointer none), (24, .bool false), (8, I6 0)] 8 0 hS (.cons (as_i64 (by omega)) .nil) fun a hS => ?_
  refine seg_end ?_
  refine hK18 _ _ ?_
  refine wpIn_ret ?_
  refine ret3 hS Try.results17 rfl rfl rfl ?_
  exact ⟨by rw [hr0, colAt, hr0, sof_0, Nat.sub_zero]; rfl, hE17⟩
 ·
  refine ⟨_, rfl, fun a hS => ?_⟩
  have hG20 : RpOk wz b o := hG6.ext0 hEz
  have hEx := hE7.trans0 hEz
  have hz : z.Ok wz := hz0
  have hrz : z.rw = (rws ((obs o).take i)) := by
   rw [Nd.rweq]
   have h : z.bs = (obs o).take i := by rw [List.drop_zero, Nat.sub_zero] at kz; exact kz
   rw [h]
  refine sg wide_wide [.p] [] [(0, (Pv b)), (1, I6 ↑i), (4, I6 0), (5, I6 0), (6, I6 0), (16, .bool false), (7, (Pv z.b))] 7 0 hS .nil fun a hS => ?_
  refine seg_end ?_
  refine hK9 _ _ ?_
  refine sq fun K21 hK21 => ?_
  refine rgn 2 ?_
  refine sg wide_wide [.p, .p] [] [(0, (Pv b)), (1, I6 ↑i), (4, I6 0), (5, I6 0), (6, I6 0), (16, .bool false), (7, (Pv z.b)), (24, .bool true)] 2 0 hS .nil fun a hS => ?_
  refine seg_end ?_
  refine hK21 _ _ ?_
  refine cond_t hS rfl ?_
  refine rgn 6 ?_
  refine sg wide_wide [.p, .p, .p, .p, .ld (I6 (↑(rws ((obs o).take i)))), .p] [wz.cell? ⟨z.b, 4, none⟩ = some (I6 (↑(rws ((obs o).take i))))] [(0, (Pv b)), (1, I6 ↑i), (4, I6 (↑(rws ((obs o).take i)))), (5, I6 0), (6, I6 0), (16, .bool false), (7, (Pv z.b)), (24, .bool true)] 6 0 hS (.cons (((show Blk wz z.b 89 #[z.lp, z.rp, z.pv, I6 ↑z.n, I6 (↑(rws ((obs o).take i))), I6 ↑z.hg] by rw [← hrz]; exact hz.blk)).cell 4 rfl) .nil) fun a hS => ?_
  refine seg_end ?_
  refine hK8 _ _ ?_
  refine sq fun K22 hK22 => ?_
  refine rgn 8 ?_
  refine sg wide_wide [.p, .p] [] [(0, (Pv b)), (1, I6 ↑i), (4, I6 (↑(rws ((obs o).take i)))), (5, I6 0), (6, I6 0), (16, .bool false), (7, (Pv z.b)), (24, .bool true), (31, (Pv b)), (32, I6 (↑(rws ((obs o).take i))))] 2 6 hS .nil fun a hS => ?_
  refine eff_call wide_wide (r := 5) (f := 16) (vs := [(Pv b), I6 (↑(rws ((obs o).take i)))]) (cap := #[]) (d := (some 33)) hS (by kernel_rfl) Try.call16 #[(Pv b), I6 (↑(rws ((obs o).take i)))] (by kernel_rfl) (Start_any (k := (rws ((obs o).take i))) hG20 hrt) ?_
  rintro _ wc23 ⟨rfl, hEc23⟩
  refine ⟨_, rfl, fun a hS => ?_⟩
  have hG26 : RpOk wc23 b o := hG20.ext0 hEc23
  have hE27 := hEx.trans0 hEc23
  refine sg wide_wide [.p, .p, .p, .p, .p] [] [(0, (Pv b)), (1, I6 ↑i), (4, I6 (↑(rws ((obs o).take i)))), (5, I6 0), (6, I6 0), (16, .bool false), (7, (Pv z.b)), (24, .bool true), (8, I6 (↑(sof (obs o) (rws ((obs o).take i)))))] 8 0 hS .nil fun a hS => ?_
  refine seg_end ?_
  refine hK22 _ _ ?_
  refine sq fun K28 hK28 => ?_
  refine rgn 8 ?_
  refine sg wide_wide [.p, .p, .p, .as (I6 (↑i - (↑(sof (obs o) (rws ((obs o).take i)))))), .p, .p, .p, .p] [Value.int .i64 (IntKind.i64.wrap (↑i - (↑(sof (obs o) (rws ((obs o).take i)))))) = I6 (↑i - (↑(sof (obs o) (rws ((obs o).take i)))))] [(0, (Pv b)), (1, I6 ↑i), (4, I6 (↑(rws ((obs o).take i)))), (5, I6 (↑i - (↑(sof (obs o) (rws ((obs o).take i)))))), (6, I6 0), (16, .bool false), (7, (Pv z.b)), (24, .bool true), (8, I6 (↑(sof (obs o) (rws ((obs o).take i)))))] 8 0 hS (.cons (as_i64 (by omega)) .nil) fun a hS => ?_
  refine seg_end ?_
  refine hK28 _ _ ?_
  refine wpIn_ret ?_
  refine ret3 hS Try.results17 rfl rfl rfl ?_
  exact ⟨by rw [colAt, Int.natCast_sub hst], hE27⟩

def ByV (w : World) (xs : List Int) (e : Ending) (w' : World) : Prop := ∃ bs cap, e = .returned (.slice bs xs.length cap) ∧ OwnV w' 5 1 (.slice bs xs.length cap) xs.length (bv xs) ∧ (∀ x ∈ ob (.slice bs xs.length cap), w.heap.size ≤ x) ∧ Ext [] w w'

theorem Bytes_any {b : Nat} {o : Option Nd} {w : World} (hR : RpOk w b o) :
  Calls Try.prog 32 #[(Pv b)] w fun e w' => ByV w (obs o) e w' := by
 have hon : on o = (obs o).length := rfl
 have hle : (obs o).length ≤ 16777216 := hR.2.2
 refine calls_body 13 [(0, (Pv b))] Try.func32 rfl (by kernel_rfl) (by kernel_rfl) (by kernel_rfl) fun a hS => ?_
 have hE0 : Ext [] w w := Ext.refl _ _
 refine sq fun K1 hK1 => ?_
 refine rgn 1 ?_
 refine sg wide_wide [.p] [] [(0, (Pv b)), (2, .slice none 0 0)] 1 0 hS .nil fun a hS => ?_
 refine seg_end ?_
 refine hK1 _ _ ?_
 refine sq fun K2 hK2 => ?_
 refine rgn 9 ?_
 refine sg wide_wide [.p, .p] [] [(0, (Pv b)), (2, .slice none 0 0), (6, (Pv b)), (7, (Pv b))] 2 7 hS .nil fun a hS => ?_
 refine eff_call wide_wide (r := 6) (f := 19) (vs := [(Pv b)]) (cap := #[]) (d := (some 8)) hS (by kernel_rfl) Try.call19 #[(Pv b)] (by kernel_rfl) (Len_any hR) ?_
 rintro _ wc3 ⟨rfl, hEc3⟩
 refine ⟨_, rfl, fun a hS => ?_⟩
 have hG5 : RpOk wc3 b o := hR.ext0 hEc3
 have hE6 := hE0.trans0 hEc3
 refine eff_call wide_wide (r := 5) (f := 35) (vs := [(Pv b), I6 0, I6 (↑(on o))]) (cap := #[]) (d := (some 9)) hS (by kernel_rfl) Try.call35 #[(Pv b), I6 0, I6 (↑(on o))] (by kernel_rfl) ((by have h := Part_any (i := 0) (j := on o) hG5 ⟨Nat.zero_le _, Nat.le_refl _⟩; rw [List.drop_zero, Nat.sub_zero, List.take_of_length_le (Nat.le_refl _)] at h; exact h : Calls Try.prog 35 _ _ (ByR _ (obs o)))) ?_
 rintro _ wc7 ⟨zq7, zc7, rfl, hO7, hN7, hEc7⟩
 refine ⟨_, rfl, fun a hS => ?_⟩
 have hG9 : RpOk wc7 b o := hG5.ext0 hEc7
 have hE10 := hE6.trans0 hEc7
 refine sg wide_wide [.p, .p, .p, .p, .p] [] [(0, (Pv b)), (2, .slice none 0 0), (3, .slice zq7 ((obs o).length) zc7)] 9 0 hS .nil fun a hS => ?_
 refine seg_end ?_
 refine hK2 _ _ ?_
 refine sq fun K11 hK11 => ?_
 refine rgn 2 ?_
 refine sg wide_wide [.p, .p] [] [(0, (Pv b)), (2, .slice zq7 ((obs o).length) zc7), (3, .slice zq7 ((obs o).length) zc7)] 2 0 hS .nil fun a hS => ?_
 refine seg_end ?_
 refine hK11 _ _ ?_
 refine wpIn_ret ?_
 refine ret1 hS Try.results32 rfl ?_
 exact ⟨_, _, rfl, hO7, (fun x hx => Nat.le_trans hE6.size (hN7 x hx)), hE10⟩

theorem Same_0 {b c : Nat} {o p : Option Nd} {w : World} (hR : RpOk w b o) (hQ : RpOk w c p) (h : on o ≠ on p) :
  Calls Try.prog 33 #[(Pv b), (Pv c)] w fun e w' => e = .returned (.bool false) ∧ Ext [] w w' := by
 refine calls_body 17 [(0, (Pv b)), (1, (Pv c))] Try.func33 rfl (by kernel_rfl) (by kernel_rfl) (by kernel_rfl) fun a hS => ?_
 have hE0 : Ext [] w w := Ext.refl _ _
 refine sq fun K1 hK1 => ?_
 refine rgn 1 ?_
 refine sg wide_wide [.p] [] [(0, (Pv b)), (1, (Pv c)), (4, .bool false)] 1 0 hS .nil fun a hS => ?_
 refine seg_end ?_
 refine hK1 _ _ ?_
 refine sq fun K2 hK2 => ?_
 refine rgn 13 ?_
 refine sg wide_wide [.p] [] [(0, (Pv b)), (1, (Pv c)), (4, .bool false), (5, (Pv b))] 1 12 hS .nil fun a hS => ?_
 refine eff_call wide_wide (r := 11) (f := 19) (vs := [(Pv b)]) (cap := #[]) (d := (some 6)) hS (by kernel_rfl) Try.call19 #[(Pv b)] (by kernel_rfl) (Len_any hR) ?_
 rintro _ wc3 ⟨rfl, hEc3⟩
 refine ⟨_, rfl, fun a hS => ?_⟩
 have hG6 : RpOk wc3 b o := hR.ext0 hEc3
 have hG7 : RpOk wc3 c p := hQ.ext0 hEc3
 have hE8 := hE0.trans0 hEc3
 refine sg wide_wide [.p] [] [(0, (Pv b)), (1, (Pv c)), (4, .bool false), (6, I6 (↑(on o))), (7, (Pv c))] 3 10 hS .nil fun a hS => ?_
 refine eff_call wide_wide (r := 9) (f := 19) (vs := [(Pv c)]) (cap := #[]) (d := (some 8)) hS (by kernel_rfl) Try.call19 #[(Pv c)] (by kernel_rfl) (Len_any hG7) ?_
 rintro _ wc9 ⟨rfl, hEc9⟩
 refine ⟨_, rfl, fun a hS => ?_⟩
 have hG12 : RpOk wc9 b o := hG6.ext0 hEc9
 have hG13 : RpOk wc9 c p := hG7.ext0 hEc9
 have hE14 := hE8.trans0 hEc9
 refine sg wide_wide [.as (.bool false), .p, .no, .no, .no, .no, .no, .p, .p] [Value.bool (((↑(on o) : Int) == (↑(on p)))) = .bool false] [(0, (Pv b)), (1, (Pv c)), (4, .bool false)] 13 0 hS (.cons (as_eq_f (by omega)) .nil) fun a hS => ?_
 refine seg_end ?_
 refine hK2 _ _ ?_
 refine wpIn_ret ?_
 refine ret1 hS Try.results33 rfl ?_
 exact ⟨rfl, hE14⟩

theorem Same_1 {b c : Nat} {o p : Option Nd} {w : World} (hR : RpOk w b o) (hQ : RpOk w c p) (h : on o = on p) :
  Calls Try.prog 33 #[(Pv b), (Pv c)] w fun e w' => e = .returned (.bool (decide (obs o = obs p))) ∧ Ext [] w w' := by
 refine calls_body 17 [(0, (Pv b)), (1, (Pv c))] Try.func33 rfl (by kernel_rfl) (by kernel_rfl) (by kernel_rfl) fun a hS => ?_
 have hE0 : Ext [] w w := Ext.refl _ _
 refine sq fun K1 hK1 => ?_
 refine rgn 1 ?_
 refine sg wide_wide [.p] [] [(0, (Pv b)), (1, (Pv c)), (4, .bool false)] 1 0 hS .nil fun a hS => ?_
 refine seg_end ?_
 refine hK1 _ _ ?_
 refine sq fun K2 hK2 => ?_
 refine rgn 13 ?_
 refine sg wide_wide [.p] [] [(0, (Pv b)), (1, (Pv c)), (4, .bool false), (5, (Pv b))] 1 12 hS .nil fun a hS => ?_
 refine eff_call wide_wide (r := 11) (f := 19) (vs := [(Pv b)]) (cap := #[]) (d := (some 6)) hS (by kernel_rfl) Try.call19 #[(Pv b)] (by kernel_rfl) (Len_any hR) ?_
 rintro _ wc3 ⟨rfl, hEc3⟩
 refine ⟨_, rfl, fun a hS => ?_⟩
 have hG6 : RpOk wc3 b o := hR.ext0 hEc3
 have hG7 : RpOk wc3 c p := hQ.ext0 hEc3
 have hE8 := hE0.trans0 hEc3
 refine sg wide_wide [.p] [] [(0, (Pv b)), (1, (Pv c)), (4, .bool false), (6, I6 (↑(on o))), (7, (Pv c))] 3 10 hS .nil fun a hS => ?_
 refine eff_call wide_wide (r := 9) (f := 19) (vs := [(Pv c)]) (cap := #[]) (d := (some 8)) hS (by kernel_rfl) Try.call19 #[(Pv c)] (by kernel_rfl) (Len_any hG7) ?_
 rintro _ wc9 ⟨rfl, hEc9⟩
 refine ⟨_, rfl, fun a hS => ?_⟩
 have hG12 : RpOk wc9 b o := hG6.ext0 hEc9
 have hG13 : RpOk wc9 c p := hG7.ext0 hEc9
 have hE14 := hE8.trans0 hEc9
 refine sg wide_wide [.as (.bool true), .p, .p] [Value.bool (((↑(on o) : Int) == (↑(on p)))) = .bool true] [(0, (Pv b)), (1, (Pv c)), (4, .bool false), (10, .bool true), (11, (Pv b))] 7 6 hS (.cons (as_eq_t (by omega)) .nil) fun a hS => ?_
 refine eff_call wide_wide (r := 5) (f := 32) (vs := [(Pv b)]) (cap := #[]) (d := (some 12)) hS (by kernel_rfl) Try.call32 #[(Pv b)] (by kernel_rfl) (Bytes_any hG12) ?_
 rintro _ wc15 ⟨zq15, zc15, rfl, hO15, hN15, hEc15⟩
 refine ⟨_, rfl, fun a hS => ?_⟩
 have hG18 : RpOk wc15 b o := hG12.ext0 hEc15
 have hG19 : RpOk wc15 c p := hG13.ext0 hEc15
 have hE20 := hE14.trans0 hEc15
 refine sg wide_wide [.p] [] [(0, (Pv b)), (1, (Pv c)), (4, .bool false), (10, .bool true), (12, .slice zq15 ((obs o).length) zc15), (13, (Pv c))] 9 4 hS .nil fun a hS => ?_
 refine eff_call wide_wide (r := 3) (f := 32) (vs := [(Pv c)]) (cap := #[]) (d := (some 14)) hS (by kernel_rfl) Try.call32 #[(Pv c)] (by kernel_rfl) (Bytes_any hG19) ?_
 rintro _ wc21 ⟨zq21, zc21, rfl, hO21, hN21, hEc21⟩
 refine ⟨_, rfl, fun a hS => ?_⟩
 have hG24 : RpOk wc21 b o := hG18.ext0 hEc21
 have hG25 : RpOk wc21 c p := hG19.ext0 hEc21
 have hG26 : OwnV wc21 5 1 (.slice zq15 (obs o).length zc15) (obs o).length (bv (obs o)) := OwnV.ext0' hO15 hEc21
 have hE27 := hE20.trans0 hEc21
 refine eff_call_ro wide_wide (r := 2) (f := 50) (vs := [.slice zq15 ((obs o).length) zc15, .slice zq21 ((obs p).length) zc21]) (cap := #[]) (d := (some 15)) (v := Value.bool (decide (obs o = obs p))) hS (by kernel_rfl) Try.call50 #[.slice zq15 ((obs o).length) zc15, .slice zq21 ((obs p).length) zc21] (by kernel_rfl) (Equal_any (hG26).rd (hO21).rd hR.2.1.br hQ.2.1.br) fun a hS => ?_
 refine sg wide_wide [.p, .p] [] [(0, (Pv b)), (1, (Pv c)), (4, .bool (decide (obs o = obs p)))] 13 0 hS .nil fun a hS => ?_
 refine seg_end ?_
 refine hK2 _ _ ?_
 refine wpIn_ret ?_
 refine ret1 hS Try.results33 rfl ?_
 exact ⟨rfl, hE27⟩

theorem EqualR_any {b c : Nat} {o p : Option Nd} {w : World} (hR : RpOk w b o) (hQ : RpOk w c p) : Calls Try.prog 33 #[Pv b, Pv c] w fun e w' => e = .returned (.bool (decide (obs o = obs p))) ∧ Ext [] w w' := by
 by_cases h : on o = on p
 ·exact Same_1 hR hQ h
 ·rw [decide_eq_false (fun he => h (by rw [on, on, he]))]; exact Same_0 hR hQ h

end Go.Proofs.Ytkdbfjomjlhfbaa
