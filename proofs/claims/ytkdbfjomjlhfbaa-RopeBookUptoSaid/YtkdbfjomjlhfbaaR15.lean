import Derived.Test.YtkdbfjomjlhfbaaProg
import Derived.Test.YtkdbfjomjlhfbaaR14
namespace Go.Proofs.Ytkdbfjomjlhfbaa
open Go.Vc
set_option linter.unusedSectionVars false
variable [Inhabited Zt]

theorem BR_of {xs : List Int} (h : xs.all (fun x => decide (0 ≤ x ∧ x < 256)) = true) : BR xs := fun x hx => by
 have := List.all_eq_true.1 h x hx
 simpa using this

set_option maxHeartbeats 1000000 in
theorem Head_any {w : World} (hz : Zb w) :
  Calls Try.prog 12 #[] w fun e w' => e = .returned (.bool true) ∧ Ext [] w w' := by
 refine calls_body 87 [] Try.func12 rfl (by kernel_rfl) (by kernel_rfl) (by kernel_rfl) fun a hS => ?_
 have hE0 : Ext [] w w := Ext.refl _ _
 refine sq fun K1 hK1 => ?_
 refine rgn 1 ?_
 refine sg wide_wide [.p] [] [(0, .bool false)] 1 0 hS .nil fun a hS => ?_
 refine seg_end ?_
 refine hK1 _ _ ?_
 refine sq fun K2 hK2 => ?_
 refine rgn 8 ?_
 refine eff_new wide_wide (r := 7) (cs := #[.int .u8 97, .int .u8 98, .int .u8 10, .int .u8 99, .int .u8 100]) (T := 5) (v := Value.slice (some ⟨w.heap.size, 0, none⟩) 5 5) (d := (some 12)) hS (by kernel_rfl) fun a w3 hw4 hS => ?_
 have hX5 : Ext [] w w3 := by rw [hw4]; exact (Ext.refl _ _).alloc _
 have hG6 : Zb w3 := hz.ext hX5
 have hB7 : Blk w3 (w.heap.size) 5 #[.int .u8 97, .int .u8 98, .int .u8 10, .int .u8 99, .int .u8 100] := by rw [hw4]; exact Blk.new _ _ _
 have hs8 : w.heap.size ≤ w.heap.size := hE0.size
 have hE9 : Ext [] w w3 := by rw [hw4]; exact hE0.alloc _
 obtain ⟨wv10, hrv10, hEv10, hsv10, hcv10⟩ := conv_self (P := Try.prog) (T := 23) (e := 5) (k := 5) (c := 5) (by kernel_rfl) (by kernel_rfl) hB7
 refine eff_run wide_wide (r := 6) (s := vS (convert 23 23 (.slice (some ⟨w.heap.size, 0, none⟩) 5 5))) (d := (some 13)) (v := Value.slice (some ⟨w.heap.size, 0, none⟩) 5 5) hS (by kernel_rfl) hrv10 fun a hS => ?_
 have hrl10 : RdV wv10 1 (.slice (some ⟨w.heap.size, 0, none⟩) 5 5) 5 (bv [97, 98, 10, 99, 100]) := .inr ⟨_, 0, _, rfl, by simp, by simp, fun j u hu => by rw [Nat.zero_add]; exact hcv10 j u (by simpa [bv] using hu)⟩
 have hE11 : Ext [] w wv10 := hE9.trans hEv10 (fun b hb => by simp at hb; subst hb; exact .inr hs8)
 have hG12 : Zb wv10 := hG6.ext hEv10
 refine eff_call wide_wide (r := 5) (f := 13) (vs := [(.slice (some ⟨w.heap.size, 0, none⟩) 5 5)]) (cap := #[]) (d := (some 14)) hS (by kernel_rfl) Try.call13 #[(.slice (some ⟨w.heap.size, 0, none⟩) 5 5)] (by kernel_rfl) (New_any hrl10 (BR_of (by decide)) (by decide) hG12) ?_
 rintro _ wc13 ⟨b13, o13, rfl, hR13, kR13, hEc13⟩
 refine ⟨_, rfl, fun a hS => ?_⟩
 have hG14 : Zb wc13 := hG12.ext hEc13
 have hE15 := hE11.trans0 hEc13
 refine sg wide_wide [.p, .p, .p, .p, .p] [] [(0, .bool false), (1, (Pv b13)), (2, I6 0)] 8 0 hS .nil fun a hS => ?_
 refine seg_end ?_
 refine hK2 _ _ ?_
 refine sq fun K16 hK16 => ?_
 refine sq fun K17 hK17 => ?_
 refine rgn 6 ?_
 refine sg wide_wide [.p, .p, .p, .p, .p, .p] [] [(0, .bool false), (1, (Pv b13)), (2, I6 0), (22, .bool false)] 6 0 hS .nil fun a hS => ?_
 refine seg_end ?_
 refine hK17 _ _ ?_
 refine cond_f hS rfl ?_
 refine wpIn_skip ?_
 refine hK16 _ _ ?_
 refine sq fun K18 hK18 => ?_
 refine rgn 9 ?_
 refine sg wide_wide [.p] [] [(0, .bool false), (1, (Pv b13)), (2, I6 0), (22, .bool false), (24, (Pv b13))] 1 8 hS .nil fun a hS => ?_
 refine eff_new wide_wide (r := 7) (cs := #[.int .u8 120, .int .u8 121]) (T := 5) (v := Value.slice (some ⟨wc13.heap.size, 0, none⟩) 2 2) (d := (some 25)) hS (by kernel_rfl) fun a w19 hw20 hS => ?_
 have hX23 : Ext [] wc13 w19 := by rw [hw20]; exact (Ext.refl _ _).alloc _
 have hG24 : Zb w19 := hG14.ext hX23
 have hG25 : RpOk w19 b13 o13 := hR13.ext0 hX23
 have hB26 : Blk w19 (wc13.heap.size) 5 #[.int .u8 120, .int .u8 121] := by rw [hw20]; exact Blk.new _ _ _
 have hs27 : w.heap.size ≤ wc13.heap.size := hE15.size
 have hE28 : Ext [] w w19 := by rw [hw20]; exact hE15.alloc _
 obtain ⟨wv29, hrv29, hEv29, hsv29, hcv29⟩ := conv_self (P := Try.prog) (T := 23) (e := 5) (k := 2) (c := 2) (by kernel_rfl) (by kernel_rfl) hB26
 refine eff_run wide_wide (r := 6) (s := vS (convert 23 23 (.slice (some ⟨wc13.heap.size, 0, none⟩) 2 2))) (d := (some 26)) (v := Value.slice (some ⟨wc13.heap.size, 0, none⟩) 2 2) hS (by kernel_rfl) hrv29 fun a hS => ?_
 have hrl29 : RdV wv29 1 (.slice (some ⟨wc13.heap.size, 0, none⟩) 2 2) 2 (bv [120, 121]) := .inr ⟨_, 0, _, rfl, by simp, by simp, fun j u hu => by rw [Nat.zero_add]; exact hcv29 j u (by simpa [bv] using hu)⟩
 have hE31 : Ext [] w wv29 := hE28.trans hEv29 (fun b hb => by simp at hb; subst hb; exact .inr hs27)
 have hG32 : Zb wv29 := hG24.ext hEv29
 have hG33 : RpOk wv29 b13 o13 := RpOk.extN hR13 hG25 hEv29 (fun x hx => by simp at hx; subst hx; exact Nat.le_refl _)
 refine eff_call wide_wide (r := 5) (f := 23) (vs := [(Pv b13), I6 2, I6 1, (.slice (some ⟨wc13.heap.size, 0, none⟩) 2 2)]) (cap := #[]) (d := (some 27)) hS (by kernel_rfl) Try.call23 #[(Pv b13), I6 2, I6 1, (.slice (some ⟨wc13.heap.size, 0, none⟩) 2 2)] (by kernel_rfl) ((by have h := Splice_any (i := 2) (d := 1) hG33 hrl29 (BR_of (by decide)) (by decide) (by rw [on, kR13]; decide) (by rw [on, kR13]; decide); rw [kR13] at h; exact h : Calls Try.prog 23 _ _ (RpR _ [97, 98, 120, 121, 99, 100]))) ?_
 rintro _ wc34 ⟨b34, o34, rfl, hR34, kR34, hEc34⟩
 refine ⟨_, rfl, fun a hS => ?_⟩
 have hG36 : Zb wc34 := hG32.ext hEc34
 have hG37 : RpOk wc34 b13 o13 := hG33.ext0 hEc34
 have hE38 := hE31.trans0 hEc34
 refine sg wide_wide [.p, .p, .p, .p, .p] [] [(0, .bool false), (1, (Pv b13)), (2, I6 0), (22, .bool false), (3, (Pv b34))] 9 0 hS .nil fun a hS => ?_
 refine seg_end ?_
 refine hK18 _ _ ?_
 refine sq fun K39 hK39 => ?_
 refine sq fun K40 hK40 => ?_
 refine rgn 6 ?_
 refine sg wide_wide [.p, .p, .p, .p, .p, .p] [] [(0, .bool false), (1, (Pv b13)), (2, I6 0), (22, .bool false), (3, (Pv b34)), (35, .bool false)] 6 0 hS .nil fun a hS => ?_
 refine seg_end ?_
 refine hK40 _ _ ?_
 refine cond_f hS rfl ?_
 refine wpIn_skip ?_
 refine hK39 _ _ ?_
 refine sq fun K41 hK41 => ?_
 refine rgn 7 ?_
 refine sg wide_wide [.p] [] [(0, .bool false), (1, (Pv b13)), (2, I6 0), (22, .bool false), (3, (Pv b34)), (35, .bool false), (37, (Pv b34))] 1 6 hS .nil fun a hS => ?_
 refine eff_call wide_wide (r := 5) (f := 30) (vs := [(Pv b34), I6 0]) (cap := #[]) (d := (some 38)) hS (by kernel_rfl) Try.call30 #[(Pv b34), I6 0] (by kernel_rfl) (Chunks_any (i := 0) hR34 (Nat.zero_le _)) ?_
 rintro _ wc42 ⟨fb42, rb42, rfl, hf42, hr42, hfn42, hrn42, hEc42⟩
 refine ⟨_, rfl, fun a hS => ?_⟩
 have hG45 : Zb wc42 := hG36.ext hEc42
 have hG46 : RpOk wc42 b13 o13 := hG37.ext0 hEc42
 have hG47 : RpOk wc42 b34 o34 := hR34.ext0 hEc42
 have hE48 := hE38.trans0 hEc42
 refine sg wide_wide [.p, .p, .p, .p, .p] [] [(0, .bool false), (1, (Pv b13)), (2, I6 0), (22, .bool false), (3, (Pv b34)), (35, .bool false), (4, .func (.func 65) #[] #[(Pv fb42), (Pv rb42)]), (5, I6 0)] 7 0 hS .nil fun a hS => ?_
 refine seg_end ?_
 refine hK41 _ _ ?_
 refine sq fun K49 hK49 => ?_
 refine sq fun K50 hK50 => ?_
 refine rgn 6 ?_
 refine sg wide_wide [.p, .p, .p, .p, .p, .p] [] [(0, .bool false), (1, (Pv b13)), (2, I6 0), (22, .bool false), (3, (Pv b34)), (35, .bool false), (4, .func (.func 65) #[] #[(Pv fb42), (Pv rb42)]), (5, I6 0), (46, .bool false)] 6 0 hS .nil fun a hS => ?_
 refine seg_end ?_
 refine hK50 _ _ ?_
 refine cond_f hS rfl ?_
 refine wpIn_skip ?_
 refine hK49 _ _ ?_
 refine sq fun K51 hK51 => ?_
 refine rgn 7 ?_
 refine sg wide_wide [.p] [] [(0, .bool false), (1, (Pv b13)), (2, I6 0), (22, .bool false), (3, (Pv b34)), (35, .bool false), (4, .func (.func 65) #[] #[(Pv fb42), (Pv rb42)]), (5, I6 0), (46, .bool false), (48, (Pv b34))] 1 6 hS .nil fun a hS => ?_
 refine eff_call wide_wide (r := 5) (f := 22) (vs := [(Pv b34), I6 3]) (cap := #[]) (d := (some 49)) hS (by kernel_rfl) Try.call22 #[(Pv b34), I6 3] (by kernel_rfl) (At_any (i := 3) (x := 121) hG47 (by rw [kR34]; rfl)) ?_
 rintro _ wc52 ⟨rfl, hEc52⟩
 refine ⟨_, rfl, fun a hS => ?_⟩
 have hG55 : Zb wc52 := hG45.ext hEc52
 have hG56 : RpOk wc52 b13 o13 := hG46.ext0 hEc52
 have hG57 : RpOk wc52 b34 o34 := hG47.ext0 hEc52
 have hE58 := hE48.trans0 hEc52
 refine sg wide_wide [.p, .p, .p, .p, .p] [] [(0, .bool false), (1, (Pv b13)), (2, I6 0), (22, .bool false), (3, (Pv b34)), (35, .bool false), (4, .func (.func 65) #[] #[(Pv fb42), (Pv rb42)]), (5, I6 0), (46, .bool false), (6, .int .u8 121), (7, .bool true)] 7 0 hS .nil fun a hS => ?_
 refine seg_end ?_
 refine hK51 _ _ ?_
 refine sq fun K59 hK59 => ?_
 refine rgn 9 ?_
 refine sg wide_wide [.p] [] [(0, .bool false), (1, (Pv b13)), (2, I6 0), (22, .bool false), (3, (Pv b34)), (35, .bool false), (4, .func (.func 65) #[] #[(Pv fb42), (Pv rb42)]), (5, I6 0), (46, .bool false), (6, .int .u8 121), (7, .bool true), (53, (Pv b13))] 1 8 hS .nil fun a hS => ?_
 refine eff_call wide_wide (r := 7) (f := 17) (vs := [(Pv b13), I6 4]) (cap := #[]) (d := (some 54)) hS (by kernel_rfl) Try.call17 #[(Pv b13), I6 4] (by kernel_rfl) ((by have h := Row_any (i := 4) hG56 (by rw [on, kR13]; decide); rw [kR13] at h; exact h : Calls Try.prog 17 _ _ fun e w' => e = .returned (.tuple #[I6 1, I6 1, I6 0]) ∧ Ext [] _ w')) ?_
 rintro _ wc60 ⟨rfl, hEc60⟩
 refine ⟨_, rfl, fun a hS => ?_⟩
 have hG63 : Zb wc60 := hG55.ext hEc60
 have hG64 : RpOk wc60 b13 o13 := hG56.ext0 hEc60
 have hG65 : RpOk wc60 b34 o34 := hG57.ext0 hEc60
 have hE66 := hE58.trans0 hEc60
 refine sg wide_wide [.p, .p, .p, .p, .p, .p, .p] [] [(0, .bool false), (1, (Pv b13)), (2, I6 0), (22, .bool false), (3, (Pv b34)), (35, .bool false), (4, .func (.func 65) #[] #[(Pv fb42), (Pv rb42)]), (5, I6 0), (46, .bool false), (6, .int .u8 121), (7, .bool true), (8, I6 1), (9, I6 1), (10, I6 0)] 9 0 hS .nil fun a hS => ?_
 refine seg_end ?_
 refine hK59 _ _ ?_
 refine sq fun K67 hK67 => ?_
 refine rgn 30 ?_
 refine sg wide_wide [.p] [] [(0, .bool false), (1, (Pv b13)), (2, I6 0), (22, .bool false), (3, (Pv b34)), (35, .bool false), (4, .func (.func 65) #[] #[(Pv fb42), (Pv rb42)]), (5, I6 0), (46, .bool false), (6, .int .u8 121), (7, .bool true), (8, I6 1), (9, I6 1), (10, I6 0), (58, (Pv b34))] 1 29 hS .nil fun a hS => ?_
 refine eff_call wide_wide (r := 28) (f := 32) (vs := [(Pv b34)]) (cap := #[]) (d := (some 59)) hS (by kernel_rfl) Try.call32 #[(Pv b34)] (by kernel_rfl) ((by have h := Bytes_any hG65; rw [kR34] at h; exact h : Calls Try.prog 32 _ _ (ByV _ [97, 98, 120, 121, 99, 100]))) ?_
 rintro _ wc68 ⟨zq68, zc68, rfl, hO68, hN68, hEc68⟩
 refine ⟨_, rfl, fun a hS => ?_⟩
 have hG71 : Zb wc68 := hG63.ext hEc68
 have hG72 : RpOk wc68 b13 o13 := hG64.ext0 hEc68
 have hG73 : RpOk wc68 b34 o34 := hG65.ext0 hEc68
 have hE74 := hE66.trans0 hEc68
 refine eff_new wide_wide (r := 27) (cs := #[.int .u8 97, .int .u8 98, .int .u8 120, .int .u8 121, .int .u8 99, .int .u8 100]) (T := 5) (v := Value.slice (some ⟨wc68.heap.size, 0, none⟩) 6 6) (d := (some 60)) hS (by kernel_rfl) fun a w75 hw76 hS => ?_
 have hn79 : ∀ x ∈ ob (.slice zq68 6 zc68), wc68.heap.size ≠ x := fun x hx => Nat.ne_of_gt (hO68.lie x hx)
 have hB82 := OwnV.at' hw76 (hO68.alloc _)
 have hX83 : Ext [] wc68 w75 := by rw [hw76]; exact (Ext.refl _ _).alloc _
 have hG84 : Zb w75 := hG71.ext hX83
 have hG85 : RpOk w75 b13 o13 := hG72.ext0 hX83
 have hG86 : RpOk w75 b34 o34 := hG73.ext0 hX83
 have hB87 : Blk w75 (wc68.heap.size) 5 #[.int .u8 97, .int .u8 98, .int .u8 120, .int .u8 121, .int .u8 99, .int .u8 100] := by rw [hw76]; exact Blk.new _ _ _
 have hs88 : w.heap.size ≤ wc68.heap.size := hE74.size
 have hE89 : Ext [] w w75 := by rw [hw76]; exact hE74.alloc _
 obtain ⟨wv90, hrv90, hEv90, hsv90, hcv90⟩ := conv_self (P := Try.prog) (T := 23) (e := 5) (k := 6) (c := 6) (by kernel_rfl) (by kernel_rfl) hB87
 refine eff_run wide_wide (r := 26) (s := vS (convert 23 23 (.slice (some ⟨wc68.heap.size, 0, none⟩) 6 6))) (d := (some 61)) (v := Value.slice (some ⟨wc68.heap.size, 0, none⟩) 6 6) hS (by kernel_rfl) hrv90 fun a hS => ?_
 have hrl90 : RdV wv90 1 (.slice (some ⟨wc68.heap.size, 0, none⟩) 6 6) 6 (bv [97, 98, 120, 121, 99, 100]) := .inr ⟨_, 0, _, rfl, by simp, by simp, fun j u hu => by rw [Nat.zero_add]; exact hcv90 j u (by simpa [bv] using hu)⟩
 have hB93 := hB82.ext hEv90 (fun x hx hm => by simp at hm; exact hn79 x hx hm.symm)
 have hE94 : Ext [] w wv90 := hE89.trans hEv90 (fun b hb => by simp at hb; subst hb; exact .inr hs88)
 have hG95 : Zb wv90 := hG84.ext hEv90
 have hG96 : RpOk wv90 b13 o13 := RpOk.extN hG72 hG85 hEv90 (fun x hx => by simp at hx; subst hx; exact Nat.le_refl _)
 have hG97 : RpOk wv90 b34 o34 := RpOk.extN hG73 hG86 hEv90 (fun x hx => by simp at hx; subst hx; exact Nat.le_refl _)
 refine eff_call wide_wide (r := 25) (f := 31) (vs := [.slice zq68 6 zc68, (.slice (some ⟨wc68.heap.size, 0, none⟩) 6 6)]) (cap := #[]) (d := (some 62)) hS (by kernel_rfl) Try.call31 #[.slice zq68 6 zc68, (.slice (some ⟨wc68.heap.size, 0, none⟩) 6 6)] (by kernel_rfl) ((by have h := SameB_any (hB93).rd hrl90 (by decide); rw [decide_eq_true (by decide)] at h; exact h : Calls Try.prog 31 _ _ fun e w' => e = .returned (.bool true) ∧ Ext [] _ w')) ?_
 rintro _ wc98 ⟨rfl, hEc98⟩
 refine ⟨_, rfl, fun a hS => ?_⟩
 have hG102 : Zb wc98 := hG95.ext hEc98
 have hG103 : RpOk wc98 b13 o13 := hG96.ext0 hEc98
 have hG104 : RpOk wc98 b34 o34 := hG97.ext0 hEc98
 have hG105 : RdV wc98 1 (.slice (some ⟨wc68.heap.size, 0, none⟩) 6 6) 6 (bv [97, 98, 120, 121, 99, 100]) := hrl90.ext0 hEc98
 have hE106 := hE94.trans0 hEc98
 refine sg wide_wide [.p, .p, .p, .p, .p, .p, .p, .p, .p, .p, .p, .p, .p, .p, .p, .p, .p, .p, .p, .p, .p] [] [(0, .bool false), (1, (Pv b13)), (2, I6 0), (22, .bool false), (3, (Pv b34)), (35, .bool false), (4, .func (.func 65) #[] #[(Pv fb42), (Pv rb42)]), (5, I6 0), (46, .bool false), (6, .int .u8 121), (7, .bool true), (8, I6 1), (9, I6 1), (10, I6 0), (82, .bool true), (83, (Pv b13))] 26 4 hS .nil fun a hS => ?_
 refine eff_call wide_wide (r := 3) (f := 19) (vs := [(Pv b13)]) (cap := #[]) (d := (some 84)) hS (by kernel_rfl) Try.call19 #[(Pv b13)] (by kernel_rfl) ((by have h := Len_any hG103; rw [on, kR13] at h; exact h : Calls Try.prog 19 _ _ fun e w' => e = .returned (I6 5) ∧ Ext [] _ w')) ?_
 rintro _ wc107 ⟨rfl, hEc107⟩
 refine ⟨_, rfl, fun a hS => ?_⟩
 have hG111 : Zb wc107 := hG102.ext hEc107
 have hG112 : RpOk wc107 b13 o13 := hG103.ext0 hEc107
 have hG113 : RpOk wc107 b34 o34 := hG104.ext0 hEc107
 have hG114 : RdV wc107 1 (.slice (some ⟨wc68.heap.size, 0, none⟩) 6 6) 6 (bv [97, 98, 120, 121, 99, 100]) := hG105.ext0 hEc107
 have hE115 := hE106.trans0 hEc107
 refine sg wide_wide [.p, .p, .p] [] [(0, .bool true), (1, (Pv b13)), (2, I6 0), (22, .bool false), (3, (Pv b34)), (35, .bool false), (4, .func (.func 65) #[] #[(Pv fb42), (Pv rb42)]), (5, I6 0), (46, .bool false), (6, .int .u8 121), (7, .bool true), (8, I6 1), (9, I6 1), (10, I6 0)] 30 0 hS .nil fun a hS => ?_
 refine seg_end ?_
 refine hK67 _ _ ?_
 refine wpIn_ret ?_
 refine ret1 hS Try.results12 rfl ?_
 exact ⟨rfl, hE115⟩

end Go.Proofs.Ytkdbfjomjlhfbaa
