import Derived.Test.YtkdbfjomjlhfbaaProg
import Derived.Test.YtkdbfjomjlhfbaaR14
namespace Go.Proofs.Ytkdbfjomjlhfbaa
open Go.Vc

theorem BR_of {xs : List Int} (h : xs.all (fun x => decide (0 ≤ x ∧ x < 256)) = true) : BR xs := fun x hx => by
 have := List.all_eq_true.1 h x hx
 simpa using this

set_option maxHeartbeats 1000000 in
theorem Head_any {w : World} :
  Calls Try.prog 12 #[] w fun e w' => e = .returned (.bool true) ∧ Ext [] w w' := by
 refine calls_body 87 [] Try.func12 rfl (by kernel_rfl) (by kernel_rfl) (by kernel_rfl) fun a hS => ?_
 have hE0 : Ext [] w w := Ext.refl _ _
 refine sq fun K1 hK1 => ?_
 refine rgn 1 ?_
 refine sg wide_wide [.p] [] [(0, .bool false)] 1 0 hS .nil fun a hS => ?_
 refine seg_end ?_
 refine hK1 _ _ ?_
 refine sq fun K2 hK2 => ?_
 refine rgn 8 ?_
 refine eff_new wide_wide (r := 7) (cs := #[.int .u8 97, .int .u8 98, .int .u8 10, .int .u8 99, .int .u8 100]) (T := 5) (v := Value.slice (some ⟨w.heap.size, 0, none⟩) 5 5) (d := (some 12)) hS (by kernel_rfl) fun a w3 hw4 hS => ?_
 have hB5 : Blk w3 (w.heap.size) 5 #[.int .u8 97, .int .u8 98, .int .u8 10, .int .u8 99, .int .u8 100] := by rw [hw4]; exact Blk.new _ _ _
 have hs6 : w.heap.size ≤ w.heap.size := hE0.size
 have hE7 : Ext [] w w3 := by rw [hw4]; exact hE0.alloc _
 obtain ⟨wv8, hrv8, hEv8, hsv8, hcv8⟩ := conv_self (P := Try.prog) (T := 23) (e := 5) (k := 5) (c := 5) (by kernel_rfl) (by kernel_rfl) hB5
 refine eff_run wide_wide (r := 6) (s := vS (convert 23 23 (.slice (some ⟨w.heap.size, 0, none⟩) 5 5))) (d := (some 13)) (v := Value.slice (some ⟨w.heap.size, 0, none⟩) 5 5) hS (by kernel_rfl) hrv8 fun a hS => ?_
 have hrl8 : RdV wv8 1 (.slice (some ⟨w.heap.size, 0, none⟩) 5 5) 5 (bv [97, 98, 10, 99, 100]) := .inr ⟨_, 0, _, rfl, by simp, by simp, fun j u hu => by rw [Nat.zero_add]; exact hcv8 j u (by simpa [bv] using hu)⟩
 have hE9 : Ext [] w wv8 := hE7.trans hEv8 (fun b hb => by simp at hb; subst hb; exact .inr hs6)
 refine eff_call wide_wide (r := 5) (f := 13) (vs := [(.slice (some ⟨w.heap.size, 0, none⟩) 5 5)]) (cap := #[]) (d := (some 14)) hS (by kernel_rfl) Try.call13 #[(.slice (some ⟨w.heap.size, 0, none⟩) 5 5)] (by kernel_rfl) (New_any hrl8 (BR_of (by decide)) (by decide)) ?_
 rintro _ wc10 ⟨b10, o10, rfl, hR10, kR10, hEc10⟩
 refine ⟨_, rfl, fun a hS => ?_⟩
 have hE11 := hE9.trans0 hEc10
 refine sg wide_wide [.p, .p, .p, .p, .p] [] [(0, .bool false), (1, (Pv b10)), (2, I6 0)] 8 0 hS .nil fun a hS => ?_
 refine seg_end ?_
 refine hK2 _ _ ?_
 refine sq fun K12 hK12 => ?_
 refine sq fun K13 hK13 => ?_
 refine rgn 6 ?_
 refine sg wide_wide [.p, .p, .p, .p, .p, .p] [] [(0, .bool false), (1, (Pv b10)), (2, I6 0), (22, .bool false)] 6 0 hS .nil fun a hS => ?_
 refine seg_end ?_
 refine hK13 _ _ ?_
 refine cond_f hS rfl ?_
 refine wpIn_skip ?_
 refine hK12 _ _ ?_
 refine sq fun K14 hK14 => ?_
 refine rgn 9 ?_
 refine sg wide_wide [.p] [] [(0, .bool false), (1, (Pv b10)), (2, I6 0), (22, .bool false), (24, (Pv b10))] 1 8 hS .nil fun a hS => ?_
 refine eff_new wide_wide (r := 7) (cs := #[.int .u8 120, .int .u8 121]) (T := 5) (v := Value.slice (some ⟨wc10.heap.size, 0, none⟩) 2 2) (d := (some 25)) hS (by kernel_rfl) fun a w15 hw16 hS => ?_
 have hX19 : Ext [] wc10 w15 := by rw [hw16]; exact (Ext.refl _ _).alloc _
 have hG20 : RpOk w15 b10 o10 := hR10.ext0 hX19
 have hB21 : Blk w15 (wc10.heap.size) 5 #[.int .u8 120, .int .u8 121] := by rw [hw16]; exact Blk.new _ _ _
 have hs22 : w.heap.size ≤ wc10.heap.size := hE11.size
 have hE23 : Ext [] w w15 := by rw [hw16]; exact hE11.alloc _
 obtain ⟨wv24, hrv24, hEv24, hsv24, hcv24⟩ := conv_self (P := Try.prog) (T := 23) (e := 5) (k := 2) (c := 2) (by kernel_rfl) (by kernel_rfl) hB21
 refine eff_run wide_wide (r := 6) (s := vS (convert 23 23 (.slice (some ⟨wc10.heap.size, 0, none⟩) 2 2))) (d := (some 26)) (v := Value.slice (some ⟨wc10.heap.size, 0, none⟩) 2 2) hS (by kernel_rfl) hrv24 fun a hS => ?_
 have hrl24 : RdV wv24 1 (.slice (some ⟨wc10.heap.size, 0, none⟩) 2 2) 2 (bv [120, 121]) := .inr ⟨_, 0, _, rfl, by simp, by simp, fun j u hu => by rw [Nat.zero_add]; exact hcv24 j u (by simpa [bv] using hu)⟩
 have hE26 : Ext [] w wv24 := hE23.trans hEv24 (fun b hb => by simp at hb; subst hb; exact .inr hs22)
 have hG27 : RpOk wv24 b10 o10 := RpOk.extN hR10 hG20 hEv24 (fun x hx => by simp at hx; subst hx; exact Nat.le_refl _)
 refine eff_call wide_wide (r := 5) (f := 23) (vs := [(Pv b10), I6 2, I6 1, (.slice (some ⟨wc10.heap.size, 0, none⟩) 2 2)]) (cap := #[]) (d := (some 27)) hS (by kernel_rfl) Try.call23 #[(Pv b10), I6 2, I6 1, (.slice (some ⟨wc10.heap.size, 0, none⟩) 2 2)] (by kernel_rfl) ((by have h := Splice_any (i := 2) (d := 1) hG27 hrl24 (BR_of (by decide)) (by decide) (by rw [on, kR10]; decide) (by rw [on, kR10]; decide); rw [kR10] at h; exact h : Calls Try.prog 23 _ _ (RpR _ [97, 98, 120, 121, 99, 100]))) ?_
 rintro _ wc28 ⟨b28, o28, rfl, hR28, kR28, hEc28⟩
 refine ⟨_, rfl, fun a hS => ?_⟩
 have hG30 : RpOk wc28 b10 o10 := hG27.ext0 hEc28
 have hE31 := hE26.trans0 hEc28
 refine sg wide_wide [.p, .p, .p, .p, .p] [] [(0, .bool false), (1, (Pv b10)), (2, I6 0), (22, .bool false), (3, (Pv b28))] 9 0 hS .nil fun a hS => ?_
 refine seg_end ?_
 refine hK14 _ _ ?_
 refine sq fun K32 hK32 => ?_
 refine sq fun K33 hK33 => ?_
 refine rgn 6 ?_
 refine sg wide_wide [.p, .p, .p, .p, .p, .p] [] [(0, .bool false), (1, (Pv b10)), (2, I6 0), (22, .bool false), (3, (Pv b28)), (35, .bool false)] 6 0 hS .nil fun a hS => ?_
 refine seg_end ?_
 refine hK33 _ _ ?_
 refine cond_f hS rfl ?_
 refine wpIn_skip ?_
 refine hK32 _ _ ?_
 refine sq fun K34 hK34 => ?_
 refine rgn 7 ?_
 refine sg wide_wide [.p] [] [(0, .bool false), (1, (Pv b10)), (2, I6 0), (22, .bool false), (3, (Pv b28)), (35, .bool false), (37, (Pv b28))] 1 6 hS .nil fun a hS => ?_
 refine eff_call wide_wide (r := 5) (f := 30) (vs := [(Pv b28), I6 0]) (cap := #[]) (d := (some 38)) hS (by kernel_rfl) Try.call30 #[(Pv b28), I6 0] (by kernel_rfl) (Chunks_any (i := 0) hR28 (Nat.zero_le _)) ?_
 rintro _ wc35 ⟨fb35, rb35, rfl, hf35, hr35, hfn35, hrn35, hEc35⟩
 refine ⟨_, rfl, fun a hS => ?_⟩
 have hG38 : RpOk wc35 b10 o10 := hG30.ext0 hEc35
 have hG39 : RpOk wc35 b28 o28 := hR28.ext0 hEc35
 have hE40 := hE31.trans0 hEc35
 refine sg wide_wide [.p, .p, .p, .p, .p] [] [(0, .bool false), (1, (Pv b10)), (2, I6 0), (22, .bool false), (3, (Pv b28)), (35, .bool false), (4, .func (.func 65) #[] #[(Pv fb35), (Pv rb35)]), (5, I6 0)] 7 0 hS .nil fun a hS => ?_
 refine seg_end ?_
 refine hK34 _ _ ?_
 refine sq fun K41 hK41 => ?_
 refine sq fun K42 hK42 => ?_
 refine rgn 6 ?_
 refine sg wide_wide [.p, .p, .p, .p, .p, .p] [] [(0, .bool false), (1, (Pv b10)), (2, I6 0), (22, .bool false), (3, (Pv b28)), (35, .bool false), (4, .func (.func 65) #[] #[(Pv fb35), (Pv rb35)]), (5, I6 0), (46, .bool false)] 6 0 hS .nil fun a hS => ?_
 refine seg_end ?_
 refine hK42 _ _ ?_
 refine cond_f hS rfl ?_
 refine wpIn_skip ?_
 refine hK41 _ _ ?_
 refine sq fun K43 hK43 => ?_
 refine rgn 7 ?_
 refine sg wide_wide [.p] [] [(0, .bool false), (1, (Pv b10)), (2, I6 0), (22, .bool false), (3, (Pv b28)), (35, .bool false), (4, .func (.func 65) #[] #[(Pv fb35), (Pv rb35)]), (5, I6 0), (46, .bool false), (48, (Pv b28))] 1 6 hS .nil fun a hS => ?_
 refine eff_call wide_wide (r := 5) (f := 22) (vs := [(Pv b28), I6 3]) (cap := #[]) (d := (some 49)) hS (by kernel_rfl) Try.call22 #[(Pv b28), I6 3] (by kernel_rfl) (At_any (i := 3) (x := 121) hG39 (by rw [kR28]; rfl)) ?_
 rintro _ wc44 ⟨rfl, hEc44⟩
 refine ⟨_, rfl, fun a hS => ?_⟩
 have hG47 : RpOk wc44 b10 o10 := hG38.ext0 hEc44
 have hG48 : RpOk wc44 b28 o28 := hG39.ext0 hEc44
 have hE49 := hE40.trans0 hEc44
 refine sg wide_wide [.p, .p, .p, .p, .p] [] [(0, .bool false), (1, (Pv b10)), (2, I6 0), (22, .bool false), (3, (Pv b28)), (35, .bool false), (4, .func (.func 65) #[] #[(Pv fb35), (Pv rb35)]), (5, I6 0), (46, .bool false), (6, .int .u8 121), (7, .bool true)] 7 0 hS .nil fun a hS => ?_
 refine seg_end ?_
 refine hK43 _ _ ?_
 refine sq fun K50 hK50 => ?_
 refine rgn 9 ?_
 refine sg wide_wide [.p] [] [(0, .bool false), (1, (Pv b10)), (2, I6 0), (22, .bool false), (3, (Pv b28)), (35, .bool false), (4, .func (.func 65) #[] #[(Pv fb35), (Pv rb35)]), (5, I6 0), (46, .bool false), (6, .int .u8 121), (7, .bool true), (53, (Pv b10))] 1 8 hS .nil fun a hS => ?_
 refine eff_call wide_wide (r := 7) (f := 17) (vs := [(Pv b10), I6 4]) (cap := #[]) (d := (some 54)) hS (by kernel_rfl) Try.call17 #[(Pv b10), I6 4] (by kernel_rfl) ((by have h := Row_any (i := 4) hG47 (by rw [on, kR10]; decide); rw [kR10] at h; exact h : Calls Try.prog 17 _ _ fun e w' => e = .returned (.tuple #[I6 1, I6 1, I6 0]) ∧ Ext [] _ w')) ?_
 rintro _ wc51 ⟨rfl, hEc51⟩
 refine ⟨_, rfl, fun a hS => ?_⟩
 have hG54 : RpOk wc51 b10 o10 := hG47.ext0 hEc51
 have hG55 : RpOk wc51 b28 o28 := hG48.ext0 hEc51
 have hE56 := hE49.trans0 hEc51
 refine sg wide_wide [.p, .p, .p, .p, .p, .p, .p] [] [(0, .bool false), (1, (Pv b10)), (2, I6 0), (22, .bool false), (3, (Pv b28)), (35, .bool false), (4, .func (.func 65) #[] #[(Pv fb35), (Pv rb35)]), (5, I6 0), (46, .bool false), (6, .int .u8 121), (7, .bool true), (8, I6 1), (9, I6 1), (10, I6 0)] 9 0 hS .nil fun a hS => ?_
 refine seg_end ?_
 refine hK50 _ _ ?_
 refine sq fun K57 hK57 => ?_
 refine rgn 30 ?_
 refine sg wide_wide [.p] [] [(0, .bool false), (1, (Pv b10)), (2, I6 0), (22, .bool false), (3, (Pv b28)), (35, .bool false), (4, .func (.func 65) #[] #[(Pv fb35), (Pv rb35)]), (5, I6 0), (46, .bool false), (6, .int .u8 121), (7, .bool true), (8, I6 1), (9, I6 1), (10, I6 0), (58, (Pv b28))] 1 29 hS .nil fun a hS => ?_
 refine eff_call wide_wide (r := 28) (f := 32) (vs := [(Pv b28)]) (cap := #[]) (d := (some 59)) hS (by kernel_rfl) Try.call32 #[(Pv b28)] (by kernel_rfl) ((by have h := Bytes_any hG55; rw [kR28] at h; exact h : Calls Try.prog 32 _ _ (ByV _ [97, 98, 120, 121, 99, 100]))) ?_
 rintro _ wc58 ⟨zq58, zc58, rfl, hO58, hN58, hEc58⟩
 refine ⟨_, rfl, fun a hS => ?_⟩
 have hG61 : RpOk wc58 b10 o10 := hG54.ext0 hEc58
 have hG62 : RpOk wc58 b28 o28 := hG55.ext0 hEc58
 have hE63 := hE56.trans0 hEc58
 refine eff_new wide_wide (r := 27) (cs := #[.int .u8 97, .int .u8 98, .int .u8 120, .int .u8 121, .int .u8 99, .int .u8 100]) (T := 5) (v := Value.slice (some ⟨wc58.heap.size, 0, none⟩) 6 6) (d := (some 60)) hS (by kernel_rfl) fun a w64 hw65 hS => ?_
 have hn68 : ∀ x ∈ ob (.slice zq58 6 zc58), wc58.heap.size ≠ x := fun x hx => Nat.ne_of_gt (hO58.lie x hx)
 have hB71 := OwnV.at' hw65 (hO58.alloc _)
 have hX72 : Ext [] wc58 w64 := by rw [hw65]; exact (Ext.refl _ _).alloc _
 have hG73 : RpOk w64 b10 o10 := hG61.ext0 hX72
 have hG74 : RpOk w64 b28 o28 := hG62.ext0 hX72
 have hB75 : Blk w64 (wc58.heap.size) 5 #[.int .u8 97, .int .u8 98, .int .u8 120, .int .u8 121, .int .u8 99, .int .u8 100] := by rw [hw65]; exact Blk.new _ _ _
 have hs76 : w.heap.size ≤ wc58.heap.size := hE63.size
 have hE77 : Ext [] w w64 := by rw [hw65]; exact hE63.alloc _
 obtain ⟨wv78, hrv78, hEv78, hsv78, hcv78⟩ := conv_self (P := Try.prog) (T := 23) (e := 5) (k := 6) (c := 6) (by kernel_rfl) (by kernel_rfl) hB75
 refine eff_run wide_wide (r := 26) (s := vS (convert 23 23 (.slice (some ⟨wc58.heap.size, 0, none⟩) 6 6))) (d := (some 61)) (v := Value.slice (some ⟨wc58.heap.size, 0, none⟩) 6 6) hS (by kernel_rfl) hrv78 fun a hS => ?_
 have hrl78 : RdV wv78 1 (.slice (some ⟨wc58.heap.size, 0, none⟩) 6 6) 6 (bv [97, 98, 120, 121, 99, 100]) := .inr ⟨_, 0, _, rfl, by simp, by simp, fun j u hu => by rw [Nat.zero_add]; exact hcv78 j u (by simpa [bv] using hu)⟩
 have hB81 := hB71.ext hEv78 (fun x hx hm => by simp at hm; exact hn68 x hx hm.symm)
 have hE82 : Ext [] w wv78 := hE77.trans hEv78 (fun b hb => by simp at hb; subst hb; exact .inr hs76)
 have hG83 : RpOk wv78 b10 o10 := RpOk.extN hG61 hG73 hEv78 (fun x hx => by simp at hx; subst hx; exact Nat.le_refl _)
 have hG84 : RpOk wv78 b28 o28 := RpOk.extN hG62 hG74 hEv78 (fun x hx => by simp at hx; subst hx; exact Nat.le_refl _)
 refine eff_call wide_wide (r := 25) (f := 31) (vs := [.slice zq58 6 zc58, (.slice (some ⟨wc58.heap.size, 0, none⟩) 6 6)]) (cap := #[]) (d := (some 62)) hS (by kernel_rfl) Try.call31 #[.slice zq58 6 zc58, (.slice (some ⟨wc58.heap.size, 0, none⟩) 6 6)] (by kernel_rfl) ((by have h := SameB_any (hB81).rd hrl78 (by decide); rw [decide_eq_true (by decide)] at h; exact h : Calls Try.prog 31 _ _ fun e w' => e = .returned (.bool true) ∧ Ext [] _ w')) ?_
 rintro _ wc85 ⟨rfl, hEc85⟩
 refine ⟨_, rfl, fun a hS => ?_⟩
 have hG89 : RpOk wc85 b10 o10 := hG83.ext0 hEc85
 have hG90 : RpOk wc85 b28 o28 := hG84.ext0 hEc85
 have hG91 : RdV wc85 1 (.slice (some ⟨wc58.heap.size, 0, none⟩) 6 6) 6 (bv [97, 98, 120, 121, 99, 100]) := hrl78.ext0 hEc85
 have hE92 := hE82.trans0 hEc85
 refine sg wide_wide [.p, .p, .p, .p, .p, .p, .p, .p, .p, .p, .p, .p, .p, .p, .p, .p, .p, .p, .p, .p, .p] [] [(0, .bool false), (1, (Pv b10)), (2, I6 0), (22, .bool false), (3, (Pv b28)), (35, .bool false), (4, .func (.func 65) #[] #[(Pv fb35), (Pv rb35)]), (5, I6 0), (46, .bool false), (6, .int .u8 121), (7, .bool true), (8, I6 1), (9, I6 1), (10, I6 0), (82, .bool true), (83, (Pv b10))] 26 4 hS .nil fun a hS => ?_
 refine eff_call wide_wide (r := 3) (f := 19) (vs := [(Pv b10)]) (cap := #[]) (d := (some 84)) hS (by kernel_rfl) Try.call19 #[(Pv b10)] (by kernel_rfl) ((by have h := Len_any hG89; rw [on, kR10] at h; exact h : Calls Try.prog 19 _ _ fun e w' => e = .returned (I6 5) ∧ Ext [] _ w')) ?_
 rintro _ wc93 ⟨rfl, hEc93⟩
 refine ⟨_, rfl, fun a hS => ?_⟩
 have hG97 : RpOk wc93 b10 o10 := hG89.ext0 hEc93
 have hG98 : RpOk wc93 b28 o28 := hG90.ext0 hEc93
 have hG99 : RdV wc93 1 (.slice (some ⟨wc58.heap.size, 0, none⟩) 6 6) 6 (bv [97, 98, 120, 121, 99, 100]) := hG91.ext0 hEc93
 have hE100 := hE92.trans0 hEc93
 refine sg wide_wide [.p, .p, .p] [] [(0, .bool true), (1, (Pv b10)), (2, I6 0), (22, .bool false), (3, (Pv b28)), (35, .bool false), (4, .func (.func 65) #[] #[(Pv fb35), (Pv rb35)]), (5, I6 0), (46, .bool false), (6, .int .u8 121), (7, .bool true), (8, I6 1), (9, I6 1), (10, I6 0)] 30 0 hS .nil fun a hS => ?_
 refine seg_end ?_
 refine hK57 _ _ ?_
 refine wpIn_ret ?_
 refine ret1 hS Try.results12 rfl ?_
 exact ⟨rfl, hE100⟩

end Go.Proofs.Ytkdbfjomjlhfbaa
