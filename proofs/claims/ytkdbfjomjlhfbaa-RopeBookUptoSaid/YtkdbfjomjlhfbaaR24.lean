import Derived.Test.YtkdbfjomjlhfbaaProg
import Derived.Test.YtkdbfjomjlhfbaaTc
namespace Go.Proofs.Ytkdbfjomjlhfbaa
open Go.Vc
set_option linter.unusedSectionVars false
variable [Inhabited Zt]

theorem Round_x {k : Int} {N j : Nat} {w : World} (hn : 0 < N ∧ N ≤ 1000000) (h : rnd k N = j) : Calls Try.prog 21 #[I6 k, I6 N] w fun e w' => e = .returned (I6 j) ∧ Ext [] w w' := by
 have h2 := Round_any (k := k) (n := N) (w := w) (by omega)
 rw [h] at h2
 exact h2.mono fun e w' ⟨h3, h4⟩ => ⟨h3, by rw [h4]; exact Ext.refl _ _⟩

theorem small_xt {F : Ta} {w : World} {c c' : Nat} {v v' : Value} {xs ys : List Int} (h : RfT F w c v xs) (h' : RfT F w c' v' ys) (hs : xs.length + ys.length ≤ 65536) : Calls Try.prog 62 #[Pv c, Pv c'] w fun e w' => e = .returned (.bool true) ∧ Ext [] w w' :=
 @small_t F.Z _ _ _ _ _ _ _ _ _ h.1 h.2.1 h'.1 h'.2.1 h.2.2.2 h'.2.2.2 hs
theorem small_xf {F : Ta} {w : World} {c c' : Nat} {v v' : Value} {xs ys : List Int} (h : RfT F w c v xs) (h' : RfT F w c' v' ys) (hs : ¬xs.length + ys.length ≤ 65536) : Calls Try.prog 62 #[Pv c, Pv c'] w fun e w' => e = .returned (.bool false) ∧ Ext [] w w' :=
 @small_f F.Z _ _ _ _ _ _ _ _ _ h.1 h.2.1 h'.1 h'.2.1 h.2.2.2 h'.2.2.2 hs

theorem make1_full {w0 w : World} {F : Ta} (hT : TB w0 w F) {sk sr sa sb : Int} {v : Value} {n : Nat} {xs : List Int} (hv0 : RdV w0 1 v n (bv xs)) (hB : BR xs) (hn : n ≤ 10000000000) (hl : ¬F.L.length < 300) :
  Calls Try.prog 45 #[(Pv F.t), .agg #[I6 sk, I6 sr, I6 sa, I6 sb, v]] w fun e w' => e = .returned (.bool true) ∧ ∃ F', TS w F w' F' := by
 have hv := hT.rd hv0
 have hxl : xs.length = n := by have := hv.len; simpa using this
 have hln := hT.i.ln
 refine calls_body 236 [(0, (Pv F.t)), (1, .agg #[I6 sk, I6 sr, I6 sa, I6 sb, v])] Try.func45 rfl (by kernel_rfl) (by kernel_rfl) (by kernel_rfl) fun a hS => ?_
 have hE0 : Ext [] w w := Ext.refl _ _
 refine sq fun K1 hK1 => ?_
 refine rgn 2 ?_
 refine eff_box wide_wide (r := 1) (cs := #[I6 sk, I6 sr, I6 sa, I6 sb, v]) (T := 49) (d := (some 3)) hS (by kernel_rfl) fun a w2 hw3 hS => ?_
 have hB7 := Blk.at' hw3 (hT.i.f.alloc _)
 have hX10 : Ext [] w w2 := by rw [hw3]; exact (Ext.refl _ _).alloc _
 have hG11 : TB w0 w2 F := hT.ext0 hX10
 have hG12 : RdV w2 1 v n (bv xs) := hv.ext0 hX10
 have hs14 : w.heap.size ≤ w.heap.size := hE0.size
 have hE15 : Ext [] w w2 := by rw [hw3]; exact hE0.alloc _
 refine sg wide_wide [.p] [] [(0, (Pv F.t)), (1, .agg #[I6 sk, I6 sr, I6 sa, I6 sb, v]), (3, (Pv w.heap.size)), (4, .bool false)] 2 0 hS .nil fun a hS => ?_
 refine seg_end ?_
 refine hK1 _ _ ?_
 refine sq fun K16 hK16 => ?_
 refine sq fun K17 hK17 => ?_
 refine rgn 6 ?_
 refine sg wide_wide [.p, .p, .p, .ld (.slice F.pb F.L.length F.pc), .p, .as (.bool true)] [w2.cell? ⟨F.t, 0, none⟩ = some (.slice F.pb F.L.length F.pc), Value.bool (decide ((↑F.L.length : Int) ≥ 300)) = .bool true] [(0, (Pv F.t)), (1, .agg #[I6 sk, I6 sr, I6 sa, I6 sb, v]), (3, (Pv w.heap.size)), (4, .bool false), (32, .bool true)] 6 0 hS (.cons (hB7.cell 0 rfl) (.cons (as_t (by omega)) .nil)) fun a hS => ?_
 refine seg_end ?_
 refine hK17 _ _ ?_
 refine cond_t hS rfl ?_
 refine sq fun K18 hK18 => ?_
 refine rgn 1 ?_
 refine sg wide_wide [.p] [] [(0, (Pv F.t)), (1, .agg #[I6 sk, I6 sr, I6 sa, I6 sb, v]), (3, (Pv w.heap.size)), (4, .bool true), (32, .bool true)] 1 0 hS .nil fun a hS => ?_
 refine seg_end ?_
 refine hK18 _ _ ?_
 refine wpIn_ret ?_
 refine then_ret ?_
 refine ret1 hS Try.results45 rfl ?_
 exact ⟨rfl, F, (TS.refl hT.i).trans0 hE15⟩

theorem make1_new {w0 w : World} {F : Ta} (hT : TB w0 w F) {sk sr sa sb : Int} {v : Value} {n : Nat} {xs : List Int} (hv0 : RdV w0 1 v n (bv xs)) (hB : BR xs) (hn : n ≤ 10000000000) (hl : F.L.length < 300) (hk : sk = 1) :
  Calls Try.prog 45 #[(Pv F.t), .agg #[I6 sk, I6 sr, I6 sa, I6 sb, v]] w fun e w' => e = .returned (.bool true) ∧ ∃ F', TS w F w' F' ∧ F'.L.length = F.L.length + lenS (newS xs) := by
 have hv := hT.rd hv0
 have hxl : xs.length = n := by have := hv.len; simpa using this
 have hln := hT.i.ln
 refine calls_body 236 [(0, (Pv F.t)), (1, .agg #[I6 sk, I6 sr, I6 sa, I6 sb, v])] Try.func45 rfl (by kernel_rfl) (by kernel_rfl) (by kernel_rfl) fun a hS => ?_
 have hE0 : Ext [] w w := Ext.refl _ _
 refine sq fun K1 hK1 => ?_
 refine rgn 2 ?_
 refine eff_box wide_wide (r := 1) (cs := #[I6 sk, I6 sr, I6 sa, I6 sb, v]) (T := 49) (d := (some 3)) hS (by kernel_rfl) fun a w2 hw3 hS => ?_
 have hB7 := Blk.at' hw3 (hT.i.f.alloc _)
 have hX10 : Ext [] w w2 := by rw [hw3]; exact (Ext.refl _ _).alloc _
 have hG11 : TB w0 w2 F := hT.ext0 hX10
 have hG12 : RdV w2 1 v n (bv xs) := hv.ext0 hX10
 have hB13 : Blk w2 (w.heap.size) 49 #[I6 sk, I6 sr, I6 sa, I6 sb, v] := by rw [hw3]; exact Blk.new _ _ _
 have hs14 : w.heap.size ≤ w.heap.size := hE0.size
 have hE15 : Ext [] w w2 := by rw [hw3]; exact hE0.alloc _
 refine sg wide_wide [.p] [] [(0, (Pv F.t)), (1, .agg #[I6 sk, I6 sr, I6 sa, I6 sb, v]), (3, (Pv w.heap.size)), (4, .bool false)] 2 0 hS .nil fun a hS => ?_
 refine seg_end ?_
 refine hK1 _ _ ?_
 refine sq fun K16 hK16 => ?_
 refine sq fun K17 hK17 => ?_
 refine rgn 6 ?_
 refine sg wide_wide [.p, .p, .p, .ld (.slice F.pb F.L.length F.pc), .p, .as (.bool false)] [w2.cell? ⟨F.t, 0, none⟩ = some (.slice F.pb F.L.length F.pc), Value.bool (decide ((↑F.L.length : Int) ≥ 300)) = .bool false] [(0, (Pv F.t)), (1, .agg #[I6 sk, I6 sr, I6 sa, I6 sb, v]), (3, (Pv w.heap.size)), (4, .bool false), (32, .bool false)] 6 0 hS (.cons (hB7.cell 0 rfl) (.cons (as_f (by omega)) .nil)) fun a hS => ?_
 refine seg_end ?_
 refine hK17 _ _ ?_
 refine cond_f hS rfl ?_
 refine wpIn_skip ?_
 refine hK16 _ _ ?_
 refine sq fun K18 hK18 => ?_
 refine sq fun K19 hK19 => ?_
 refine rgn 3 ?_
 refine sg wide_wide [.p, .ld (I6 sk), .as (.bool true)] [w2.cell? ⟨w.heap.size, 0, none⟩ = some (I6 sk), Value.bool (((sk : Int) == 1)) = .bool true] [(0, (Pv F.t)), (1, .agg #[I6 sk, I6 sr, I6 sa, I6 sb, v]), (3, (Pv w.heap.size)), (4, .bool false), (32, .bool false), (35, .bool true)] 3 0 hS (.cons (hB13.cell 0 rfl) (.cons (as_eq_t (by omega)) .nil)) fun a hS => ?_
 refine seg_end ?_
 refine hK19 _ _ ?_
 refine cond_t hS rfl ?_
 refine sq fun K20 hK20 => ?_
 refine rgn 5 ?_
 refine sg wide_wide [.p, .p, .ld (v)] [w2.cell? ⟨w.heap.size, 4, none⟩ = some (v)] [(0, (Pv F.t)), (1, .agg #[I6 sk, I6 sr, I6 sa, I6 sb, v]), (3, (Pv w.heap.size)), (4, .bool false), (32, .bool false), (35, .bool true), (36, (Pv F.t)), (38, v)] 3 2 hS (.cons (hB13.cell 4 rfl) .nil) fun a hS => ?_
 refine eff_call wide_wide (r := 1) (f := 57) (vs := [(Pv F.t), v]) (cap := #[]) (d := (some 39)) hS (by kernel_rfl) Try.call57 #[(Pv F.t), v] (by kernel_rfl) (lend_T hG11 hv0 hn) ?_
 rintro _ wl21 ⟨g, m, rfl, hS21, hO21⟩
 refine ⟨_, rfl, fun a hS => ?_⟩
 have hB22 := (hB13 : Blk w2 w.heap.size 49 (#[I6 sk, I6 sr, I6 sa, I6 sb, v])).ext hS21.e (hG11.i.nin hB13 (by decide))
 have hEr21 : Ext [] wl21 wl21 := Ext.refl _ _
 have hT21 := hG11.ts hS21
 have hv21 := hT21.rd hv0
 refine sg wide_wide [.p] [] [(0, (Pv F.t)), (1, .agg #[I6 sk, I6 sr, I6 sa, I6 sb, v]), (3, (Pv w.heap.size)), (4, .bool false), (32, .bool false), (35, .bool true), (5, .slice (some ⟨g, 0, none⟩) n m)] 5 0 hS .nil fun a hS => ?_
 refine seg_end ?_
 refine hK20 _ _ ?_
 refine sq fun K23 hK23 => ?_
 refine rgn 7 ?_
 refine sg wide_wide [.p] [] [(0, (Pv F.t)), (1, .agg #[I6 sk, I6 sr, I6 sa, I6 sb, v]), (3, (Pv w.heap.size)), (4, .bool false), (32, .bool false), (35, .bool true), (5, .slice (some ⟨g, 0, none⟩) n m), (41, .slice (some ⟨g, 0, none⟩) n m)] 1 6 hS .nil fun a hS => ?_
 refine eff_call wide_wide (r := 5) (f := 13) (vs := [.slice (some ⟨g, 0, none⟩) n m]) (cap := #[]) (d := (some 42)) hS (by kernel_rfl) Try.call13 #[.slice (some ⟨g, 0, none⟩) n m] (by kernel_rfl) (New_X hT21.i (lent_rd2 hO21 hxl) hB hn) ?_
 rintro _ wc24 ⟨p24, k24, rfl, hD24, hEc24⟩
 refine ⟨_, rfl, fun a hS => ?_⟩
 have hB25 := hB22.ext hEc24 (by simp)
 have hB26 := hO21.ext hEc24 (by simp)
 have hG27 : TB w0 wc24 (F.buf g m) := hT21.ext0 hEc24
 have hG28 : RdV wc24 1 v n (bv xs) := hv21.ext0 hEc24
 have hE29 := hEr21.trans0 hEc24
 refine sg wide_wide [.p, .p, .p, .p, .p] [] [(0, (Pv F.t)), (1, .agg #[I6 sk, I6 sr, I6 sa, I6 sb, v]), (3, (Pv w.heap.size)), (4, .bool false), (32, .bool false), (35, .bool true), (5, .slice (some ⟨g, 0, none⟩) n m), (6, p24), (7, I6 k24)] 7 0 hS .nil fun a hS => ?_
 refine seg_end ?_
 refine hK23 _ _ ?_
 refine sq fun K30 hK30 => ?_
 refine rgn 8 ?_
 refine sg wide_wide [.p, .ld (v)] [wc24.cell? ⟨w.heap.size, 4, none⟩ = some (v)] [(0, (Pv F.t)), (1, .agg #[I6 sk, I6 sr, I6 sa, I6 sb, v]), (3, (Pv w.heap.size)), (4, .bool false), (32, .bool false), (35, .bool true), (5, .slice (some ⟨g, 0, none⟩) n m), (6, p24), (7, I6 k24), (47, v)] 2 6 hS (.cons (hB25.cell 4 rfl) .nil) fun a hS => ?_
 refine eff_call wide_wide (r := 5) (f := 58) (vs := [v]) (cap := #[]) (d := (some 48)) hS (by kernel_rfl) Try.call58 #[v] (by kernel_rfl) (rNew_X hG27.i hG28 hn) ?_
 rintro _ wc31 ⟨p31, k31, rfl, hD31, hEc31⟩
 refine ⟨_, rfl, fun a hS => ?_⟩
 have hB32 := hB25.ext hEc31 (by simp)
 have hB33 := hB26.ext hEc31 (by simp)
 have hG34 : TB w0 wc31 (F.buf g m) := hG27.ext0 hEc31
 have hG35 : RdV wc31 1 v n (bv xs) := hG28.ext0 hEc31
 have hG36 : RpD (F.buf g m) wc31 p24 k24 (newS xs) := hD24.ext0 hEc31
 have hE37 := hE29.trans0 hEc31
 refine sg wide_wide [.p, .p, .p, .p, .p] [] [(0, (Pv F.t)), (1, .agg #[I6 sk, I6 sr, I6 sa, I6 sb, v]), (3, (Pv w.heap.size)), (4, .bool false), (32, .bool false), (35, .bool true), (5, .slice (some ⟨g, 0, none⟩) n m), (6, p24), (7, I6 k24), (8, p31), (9, I6 k31)] 8 0 hS .nil fun a hS => ?_
 refine seg_end ?_
 refine hK30 _ _ ?_
 refine sq fun K38 hK38 => ?_
 refine rgn 5 ?_
 refine sg wide_wide [.p, .p, .ld (v)] [wc31.cell? ⟨w.heap.size, 4, none⟩ = some (v)] [(0, (Pv F.t)), (1, .agg #[I6 sk, I6 sr, I6 sa, I6 sb, v]), (3, (Pv w.heap.size)), (4, .bool false), (32, .bool false), (35, .bool true), (5, .slice (some ⟨g, 0, none⟩) n m), (6, p24), (7, I6 k24), (8, p31), (9, I6 k31), (51, .slice (some ⟨g, 0, none⟩) n m), (53, v)] 3 2 hS (.cons (hB32.cell 4 rfl) .nil) fun a hS => ?_
 refine eff_call wide_wide (r := 1) (f := 59) (vs := [.slice (some ⟨g, 0, none⟩) n m, v]) (cap := #[]) (d := (some 54)) hS (by kernel_rfl) Try.call59 #[.slice (some ⟨g, 0, none⟩) n m, v] (by kernel_rfl) (Back_T hG34 hB33 hv0 hn) ?_
 rintro _ wb39 ⟨rfl, hS39⟩
 refine ⟨_, rfl, fun a hS => ?_⟩
 have hT39 := hG34.ts hS39
 have hD41 := hG36.ts (hS39.tm hG34.i)
 have hD42 := hD31.ts (hS39.tm hG34.i)
 have hEr39 : Ext [] wb39 wb39 := Ext.refl _ _
 have hv39 := hT39.rd hv0
 refine sg wide_wide [.p] [] [(0, (Pv F.t)), (1, .agg #[I6 sk, I6 sr, I6 sa, I6 sb, v]), (3, (Pv w.heap.size)), (4, .bool false), (32, .bool false), (35, .bool true), (5, .slice (some ⟨g, 0, none⟩) n m), (6, p24), (7, I6 k24), (8, p31), (9, I6 k31), (10, .bool true)] 5 0 hS .nil fun a hS => ?_
 refine seg_end ?_
 refine hK38 _ _ ?_
 refine sq fun K43 hK43 => ?_
 refine rgn 10 ?_
 refine sg wide_wide [.p, .p, .p, .p, .p, .p, .p] [] [(0, (Pv F.t)), (1, .agg #[I6 sk, I6 sr, I6 sa, I6 sb, v]), (3, (Pv w.heap.size)), (4, .bool false), (32, .bool false), (35, .bool true), (5, .slice (some ⟨g, 0, none⟩) n m), (6, p24), (7, I6 k24), (8, p31), (9, I6 k31), (10, .bool true), (56, .bool true), (57, (Pv F.t)), (58, p24), (59, I6 k24), (60, p31), (61, I6 k31)] 7 3 hS .nil fun a hS => ?_
 refine eff_call wide_wide (r := 2) (f := 60) (vs := [(Pv F.t), p24, I6 k24, p31, I6 k31]) (cap := #[]) (d := (some 62)) hS (by kernel_rfl) Try.call60 #[(Pv F.t), p24, I6 k24, p31, I6 k31] (by kernel_rfl) (add_T (F := (F.buf g m)) hT39.i (by first | exact hl | (simp only [Ta.buf]; exact hl)) hD41 hD42) ?_
 rintro _ wz44 ⟨rfl, F9, hS44, hlen9⟩
 refine ⟨_, rfl, fun a hS => ?_⟩
 have hEr44 : Ext [] wz44 wz44 := Ext.refl _ _
 refine sg wide_wide [.p, .p] [] [(0, (Pv F.t)), (1, .agg #[I6 sk, I6 sr, I6 sa, I6 sb, v]), (3, (Pv w.heap.size)), (4, .bool true), (32, .bool false), (35, .bool true), (5, .slice (some ⟨g, 0, none⟩) n m), (6, p24), (7, I6 k24), (8, p31), (9, I6 k31), (10, .bool true)] 10 0 hS .nil fun a hS => ?_
 refine seg_end ?_
 refine hK43 _ _ ?_
 refine wpIn_ret ?_
 refine then_ret ?_
 refine ret1 hS Try.results45 rfl ?_
 exact ⟨rfl, _, (((hS21.pre hE15).trans (hS39.pre hE37)).trans (hS44.pre hEr39)).trans0 hEr44, hlen9⟩

theorem make1_none {w0 w : World} {F : Ta} (hT : TB w0 w F) {sk sr sa sb : Int} {v : Value} {n : Nat} {xs : List Int} (hv0 : RdV w0 1 v n (bv xs)) (hB : BR xs) (hn : n ≤ 10000000000) (hl : F.L.length < 300) (hk : sk ≠ 1) (h0 : F.L.length = 0) :
  Calls Try.prog 45 #[(Pv F.t), .agg #[I6 sk, I6 sr, I6 sa, I6 sb, v]] w fun e w' => e = .returned (.bool true) ∧ ∃ F', TS w F w' F' := by
 have hv := hT.rd hv0
 have hxl : xs.length = n := by have := hv.len; simpa using this
 have hln := hT.i.ln
 refine calls_body 236 [(0, (Pv F.t)), (1, .agg #[I6 sk, I6 sr, I6 sa, I6 sb, v])] Try.func45 rfl (by kernel_rfl) (by kernel_rfl) (by kernel_rfl) fun a hS => ?_
 have hE0 : Ext [] w w := Ext.refl _ _
 refine sq fun K1 hK1 => ?_
 refine rgn 2 ?_
 refine eff_box wide_wide (r := 1) (cs := #[I6 sk, I6 sr, I6 sa, I6 sb, v]) (T := 49) (d := (some 3)) hS (by kernel_rfl) fun a w2 hw3 hS => ?_
 have hB7 := Blk.at' hw3 (hT.i.f.alloc _)
 have hX10 : Ext [] w w2 := by rw [hw3]; exact (Ext.refl _ _).alloc _
 have hG11 : TB w0 w2 F := hT.ext0 hX10
 have hG12 : RdV w2 1 v n (bv xs) := hv.ext0 hX10
 have hB13 : Blk w2 (w.heap.size) 49 #[I6 sk, I6 sr, I6 sa, I6 sb, v] := by rw [hw3]; exact Blk.new _ _ _
 have hs14 : w.heap.size ≤ w.heap.size := hE0.size
 have hE15 : Ext [] w w2 := by rw [hw3]; exact hE0.alloc _
 refine sg wide_wide [.p] [] [(0, (Pv F.t)), (1, .agg #[I6 sk, I6 sr, I6 sa, I6 sb, v]), (3, (Pv w.heap.size)), (4, .bool false)] 2 0 hS .nil fun a hS => ?_
 refine seg_end ?_
 refine hK1 _ _ ?_
 refine sq fun K16 hK16 => ?_
 refine sq fun K17 hK17 => ?_
 refine rgn 6 ?_
 refine sg wide_wide [.p, .p, .p, .ld (.slice F.pb F.L.length F.pc), .p, .as (.bool false)] [w2.cell? ⟨F.t, 0, none⟩ = some (.slice F.pb F.L.length F.pc), Value.bool (decide ((↑F.L.length : Int) ≥ 300)) = .bool false] [(0, (Pv F.t)), (1, .agg #[I6 sk, I6 sr, I6 sa, I6 sb, v]), (3, (Pv w.heap.size)), (4, .bool false), (32, .bool false)] 6 0 hS (.cons (hB7.cell 0 rfl) (.cons (as_f (by omega)) .nil)) fun a hS => ?_
 refine seg_end ?_
 refine hK17 _ _ ?_
 refine cond_f hS rfl ?_
 refine wpIn_skip ?_
 refine hK16 _ _ ?_
 refine sq fun K18 hK18 => ?_
 refine sq fun K19 hK19 => ?_
 refine rgn 3 ?_
 refine sg wide_wide [.p, .ld (I6 sk), .as (.bool false)] [w2.cell? ⟨w.heap.size, 0, none⟩ = some (I6 sk), Value.bool (((sk : Int) == 1)) = .bool false] [(0, (Pv F.t)), (1, .agg #[I6 sk, I6 sr, I6 sa, I6 sb, v]), (3, (Pv w.heap.size)), (4, .bool false), (32, .bool false), (35, .bool false)] 3 0 hS (.cons (hB13.cell 0 rfl) (.cons (as_eq_f (by omega)) .nil)) fun a hS => ?_
 refine seg_end ?_
 refine hK19 _ _ ?_
 refine cond_f hS rfl ?_
 refine wpIn_skip ?_
 refine hK18 _ _ ?_
 refine sq fun K20 hK20 => ?_
 refine sq fun K21 hK21 => ?_
 refine rgn 6 ?_
 refine sg wide_wide [.p, .p, .p, .ld (.slice F.pb F.L.length F.pc), .p, .as (.bool true)] [w2.cell? ⟨F.t, 0, none⟩ = some (.slice F.pb F.L.length F.pc), Value.bool (((↑F.L.length : Int) == 0)) = .bool true] [(0, (Pv F.t)), (1, .agg #[I6 sk, I6 sr, I6 sa, I6 sb, v]), (3, (Pv w.heap.size)), (4, .bool false), (32, .bool false), (35, .bool false), (69, .bool true)] 6 0 hS (.cons (hB7.cell 0 rfl) (.cons (as_eq_t (by omega)) .nil)) fun a hS => ?_
 refine seg_end ?_
 refine hK21 _ _ ?_
 refine cond_t hS rfl ?_
 refine sq fun K22 hK22 => ?_
 refine rgn 1 ?_
 refine sg wide_wide [.p] [] [(0, (Pv F.t)), (1, .agg #[I6 sk, I6 sr, I6 sa, I6 sb, v]), (3, (Pv w.heap.size)), (4, .bool true), (32, .bool false), (35, .bool false), (69, .bool true)] 1 0 hS .nil fun a hS => ?_
 refine seg_end ?_
 refine hK22 _ _ ?_
 refine wpIn_ret ?_
 refine then_ret ?_
 refine ret1 hS Try.results45 rfl ?_
 exact ⟨rfl, F, (TS.refl hT.i).trans0 hE15⟩

theorem make1_cut {w0 w : World} {F : Ta} (hT : TB w0 w F) {sk sr sa sb : Int} {v : Value} {n : Nat} {xs : List Int} (hv0 : RdV w0 1 v n (bv xs)) (hB : BR xs) (hn : n ≤ 10000000000) (hl : F.L.length < 300) (h0 : F.L.length ≠ 0) (hk : sk = 2) :
  Calls Try.prog 45 #[(Pv F.t), .agg #[I6 sk, I6 sr, I6 sa, I6 sb, v]] w fun e w' => e = .returned (.bool true) ∧ ∃ F', TS w F w' F' := by
 have hv := hT.rd hv0
 have hxl : xs.length = n := by have := hv.len; simpa using this
 have hln := hT.i.ln
 obtain ⟨kk, hkk, hkkl⟩ : ∃ kk : Nat, rnd sr (F.L.length : Int) = ↑kk ∧ kk < F.L.length := by
  have h := rnd_bd sr (n := (F.L.length : Int)) (by omega)
  exact ⟨(rnd sr F.L.length).toNat, by omega, by omega⟩
 obtain ⟨ee, hee⟩ : ∃ ee, F.L[kk]? = some ee := ⟨_, List.getElem?_eq_getElem hkkl⟩
 have heem : ee ∈ F.L := List.mem_of_getElem? hee
 refine calls_body 236 [(0, (Pv F.t)), (1, .agg #[I6 sk, I6 sr, I6 sa, I6 sb, v])] Try.func45 rfl (by kernel_rfl) (by kernel_rfl) (by kernel_rfl) fun a hS => ?_
 have hE0 : Ext [] w w := Ext.refl _ _
 refine sq fun K1 hK1 => ?_
 refine rgn 2 ?_
 refine eff_box wide_wide (r := 1) (cs := #[I6 sk, I6 sr, I6 sa, I6 sb, v]) (T := 49) (d := (some 3)) hS (by kernel_rfl) fun a w2 hw3 hS => ?_
 have hB7 := Blk.at' hw3 (hT.i.f.alloc _)
 have hB8 := OwnV.at' hw3 (hT.i.P.alloc _)
 have hB9 := OwnV.at' hw3 (hT.i.R.alloc _)
 have hX10 : Ext [] w w2 := by rw [hw3]; exact (Ext.refl _ _).alloc _
 have hG11 : TB w0 w2 F := hT.ext0 hX10
 have hG12 : RdV w2 1 v n (bv xs) := hv.ext0 hX10
 have hB13 : Blk w2 (w.heap.size) 49 #[I6 sk, I6 sr, I6 sa, I6 sb, v] := by rw [hw3]; exact Blk.new _ _ _
 have hs14 : w.heap.size ≤ w.heap.size := hE0.size
 have hE15 : Ext [] w w2 := by rw [hw3]; exact hE0.alloc _
 refine sg wide_wide [.p] [] [(0, (Pv F.t)), (1, .agg #[I6 sk, I6 sr, I6 sa, I6 sb, v]), (3, (Pv w.heap.size)), (4, .bool false)] 2 0 hS .nil fun a hS => ?_
 refine seg_end ?_
 refine hK1 _ _ ?_
 refine sq fun K16 hK16 => ?_
 refine sq fun K17 hK17 => ?_
 refine rgn 6 ?_
 refine sg wide_wide [.p, .p, .p, .ld (.slice F.pb F.L.length F.pc), .p, .as (.bool false)] [w2.cell? ⟨F.t, 0, none⟩ = some (.slice F.pb F.L.length F.pc), Value.bool (decide ((↑F.L.length : Int) ≥ 300)) = .bool false] [(0, (Pv F.t)), (1, .agg #[I6 sk, I6 sr, I6 sa, I6 sb, v]), (3, (Pv w.heap.size)), (4, .bool false), (32, .bool false)] 6 0 hS (.cons (hB7.cell 0 rfl) (.cons (as_f (by omega)) .nil)) fun a hS => ?_
 refine seg_end ?_
 refine hK17 _ _ ?_
 refine cond_f hS rfl ?_
 refine wpIn_skip ?_
 refine hK16 _ _ ?_
 refine sq fun K18 hK18 => ?_
 refine sq fun K19 hK19 => ?_
 refine rgn 3 ?_
 refine sg wide_wide [.p, .ld (I6 sk), .as (.bool false)] [w2.cell? ⟨w.heap.size, 0, none⟩ = some (I6 sk), Value.bool (((sk : Int) == 1)) = .bool false] [(0, (Pv F.t)), (1, .agg #[I6 sk, I6 sr, I6 sa, I6 sb, v]), (3, (Pv w.heap.size)), (4, .bool false), (32, .bool false), (35, .bool false)] 3 0 hS (.cons (hB13.cell 0 rfl) (.cons (as_eq_f (by omega)) .nil)) fun a hS => ?_
 refine seg_end ?_
 refine hK19 _ _ ?_
 refine cond_f hS rfl ?_
 refine wpIn_skip ?_
 refine hK18 _ _ ?_
 refine sq fun K20 hK20 => ?_
 refine sq fun K21 hK21 => ?_
 refine rgn 6 ?_
 refine sg wide_wide [.p, .p, .p, .ld (.slice F.pb F.L.length F.pc), .p, .as (.bool false)] [w2.cell? ⟨F.t, 0, none⟩ = some (.slice F.pb F.L.length F.pc), Value.bool (((↑F.L.length : Int) == 0)) = .bool false] [(0, (Pv F.t)), (1, .agg #[I6 sk, I6 sr, I6 sa, I6 sb, v]), (3, (Pv w.heap.size)), (4, .bool false), (32, .bool false), (35, .bool false), (69, .bool false)] 6 0 hS (.cons (hB7.cell 0 rfl) (.cons (as_eq_f (by omega)) .nil)) fun a hS => ?_
 refine seg_end ?_
 refine hK21 _ _ ?_
 refine cond_f hS rfl ?_
 refine wpIn_skip ?_
 refine hK20 _ _ ?_
 refine sq fun K22 hK22 => ?_
 refine region_gh2 (G := World) wide_wide [.q .p, .q (.ld (I6 sr)), .q .p, .q .p, .q .p, .q (.ld (.slice F.pb F.L.length F.pc)), .q .p, .e, .q .p] [0, 0, 0, 0, 0, 0, 0, 0, 1] [0, 0, 0, 0, 0, 0, 0, 0, 1] [0, 1, 0, 4, 12, 28, 60, 127, 255] [7] [(7, 0)] 1 (fun wc23 => ([(0, (Pv F.t)), (1, .agg #[I6 sk, I6 sr, I6 sa, I6 sb, v]), (3, (Pv w.heap.size)), (4, .bool false), (32, .bool false), (35, .bool false), (69, .bool false), (70, (Po w.heap.size 1)), (71, I6 sr), (72, (Pv F.t)), (73, (Pv F.t)), (74, (Pv F.t)), (75, .slice F.pb F.L.length F.pc), (76, I6 ↑F.L.length), (77, I6 ↑kk), (11, I6 ↑kk)] : Fm)) (fun wc23 => [w2.drew, wc23]) (w2.drew) (fun e wc23 => hAt [True, (Ext [] w2.drew wc23) ∧ True] e) (fun wc23 w' => [(1, [w'.cell? ⟨w.heap.size, 1, none⟩ = some (I6 sr)]), (5, [w'.cell? ⟨F.t, 0, none⟩ = some (.slice F.pb F.L.length F.pc)])]) w2.drew [0, 1, 3, 4, 32, 35, 69] [] hS (by kernel_rfl) (by kernel_rfl) (by kernel_rfl) (by kernel_rfl) (fun wc23 _ => by kernel_rfl) (by kernel_rfl) (by kernel_rfl) (by kernel_rfl) trivial ?_ (by kernel_rfl) ?_ ?_
 ·rintro e wc23 w' hw hH
  refine (.cons ?_ (.cons ?_ .nil))
  ·intro h1 h2
   obtain rfl : e = 0 := Nat.le_antisymm h2 h1
   have hwe : w2.drew = w' := (hw.trans (by kernel_rfl)).symm
   subst hwe
   clear hH
   exact (.cons ((hB13.drew : Blk w2.drew w.heap.size 49 (#[I6 sk, I6 sr, I6 sa, I6 sb, v])).cell 1 rfl) .nil)
  ·intro h1 h2
   obtain rfl : e = 0 := Nat.le_antisymm h2 h1
   have hwe : w2.drew = w' := (hw.trans (by kernel_rfl)).symm
   subst hwe
   clear hH
   exact (.cons ((hB7.drew : Blk w2.drew F.t 46 (#[.slice F.pb F.L.length F.pc, .slice F.qb F.L.length F.qc, .slice F.bb F.bn F.bn])).cell 0 rfl) .nil)
 ·refine (.cons ?eq24_7 .nil)
  ·rintro wc23 hH
   clear hH
   refine eff_gh (w2.drew) (by kernel_rfl) ?_
   refine upon_call (f := 21) (vs := [I6 sr, I6 ↑F.L.length]) (cap := #[]) (d := (some 77)) (by kernel_rfl) Try.call21 #[I6 sr, I6 ↑F.L.length] (by kernel_rfl) (Round_x (k := sr) (N := F.L.length) (by omega) hkk) ?_
   rintro _ wc23 ⟨rfl, hEc23⟩
   exact ⟨_, rfl, ⟨wc23, by kernel_rfl, by kernel_rfl, by kernel_rfl, ⟨hEc23, trivial⟩⟩⟩
 rintro wc23 a w25 hS hw26 hH
 obtain ⟨hEc23, _⟩ := hH
 replace hw26 : w25 = wc23 := hw26.trans (by kernel_rfl)
 have hB27 := Blk.at' hw26 ((hB7.drew : Blk w2.drew F.t 46 (#[.slice F.pb F.L.length F.pc, .slice F.qb F.L.length F.qc, .slice F.bb F.bn F.bn])).ext hEc23 (by simp))
 have hB28 := OwnV.at' hw26 ((hB8.drew : OwnV w2.drew 24 1 (.slice F.pb F.L.length F.pc) F.L.length (F.L.map En.bp)).ext hEc23 (by simp))
 have hB29 := OwnV.at' hw26 ((hB9.drew : OwnV w2.drew 52 1 (.slice F.qb F.L.length F.qc) F.L.length (F.L.map En.cp)).ext hEc23 (by simp))
 have hB30 := Blk.at' hw26 ((hB13.drew : Blk w2.drew w.heap.size 49 (#[I6 sk, I6 sr, I6 sa, I6 sb, v])).ext hEc23 (by simp))
 have hE31 : Ext [] w w25 := by rw [hw26]; exact (hE15.drew).trans0 hEc23
 have hX32 : Ext [] w2 w25 := by rw [hw26]; exact ((Ext.refl _ _).drew).trans0 hEc23
 have hG33 : TB w0 w25 F := hG11.ext0 hX32
 have hG34 : RdV w25 1 v n (bv xs) := hG12.ext0 hX32
 replace hS := hS.kp [(0, (Pv F.t)), (1, .agg #[I6 sk, I6 sr, I6 sa, I6 sb, v]), (3, (Pv w.heap.size)), (4, .bool false), (32, .bool false), (35, .bool false), (69, .bool false), (11, I6 ↑kk)]
 refine hK22 _ _ ?_
 refine sq fun K35 hK35 => ?_
 refine sq fun K36 hK36 => ?_
 refine rgn 2 ?_
 refine sg wide_wide [.p, .ld (I6 sk)] [w25.cell? ⟨w.heap.size, 0, none⟩ = some (I6 sk)] [(0, (Pv F.t)), (1, .agg #[I6 sk, I6 sr, I6 sa, I6 sb, v]), (3, (Pv w.heap.size)), (4, .bool false), (32, .bool false), (35, .bool false), (69, .bool false), (11, I6 ↑kk), (79, I6 sk)] 2 0 hS (.cons (hB30.cell 0 rfl) .nil) fun a hS => ?_
 refine seg_end ?_
 refine hK36 _ _ ?_
 refine wpIn_block ?_
 refine sq fun K37 hK37 => ?_
 refine rgn 2 ?_
 refine sg wide_wide [.as (.bool true), .p] [Value.bool (((sk : Int) == 2)) = .bool true] [(0, (Pv F.t)), (1, .agg #[I6 sk, I6 sr, I6 sa, I6 sb, v]), (3, (Pv w.heap.size)), (4, .bool false), (32, .bool false), (35, .bool false), (69, .bool false), (11, I6 ↑kk), (79, I6 sk), (80, .bool true)] 2 0 hS (.cons (as_eq_t (by omega)) .nil) fun a hS => ?_
 refine seg_end ?_
 refine hK37 _ _ ?_
 refine cond_t hS rfl ?_
 refine sq fun K38 hK38 => ?_
 refine region_gh2 (G := Value × Int × World) wide_wide [.q .p, .q .p, .q .p, .q (.ld (.slice F.pb F.L.length F.pc)), .q .p, .q (.run ((Po (bof (.slice F.pb F.L.length F.pc)) (0 + kk * 1)))), .q (.ld ((Pv ee.b))), .q .p, .q (.ld (I6 sa)), .q .p, .q (.ld (I6 sb)), .e, .q .p, .q .p, .q .p, .q .p, .q .p] [0, 0, 0, 0, 0, 0, 0, 0, 0, 0, 0, 0, 1, 1, 1, 1, 1] [0, 0, 0, 0, 0, 0, 0, 0, 0, 0, 0, 0, 1, 1, 1, 1, 1] [0, 1, 3, 7, 0, 31, 63, 0, 128, 0, 512, 2047, 4095, 8191, 8191, 16383, 65535] [11] [(11, 0)] 1 (fun ⟨p39, k39, wc39⟩ => ([(0, (Pv F.t)), (1, .agg #[I6 sk, I6 sr, I6 sa, I6 sb, v]), (3, (Pv w.heap.size)), (4, .bool false), (32, .bool false), (35, .bool false), (69, .bool false), (11, I6 ↑kk), (79, I6 sk), (80, .bool true), (83, (Pv F.t)), (84, (Pv F.t)), (85, (Pv F.t)), (86, .slice F.pb F.L.length F.pc), (87, I6 ↑kk), (88, (Po (bof (.slice F.pb F.L.length F.pc)) (0 + kk * 1))), (89, (Pv ee.b)), (90, (Po w.heap.size 2)), (91, I6 sa), (92, (Po w.heap.size 3)), (93, I6 sb), (94, .tuple #[p39, I6 k39]), (82, .tuple #[p39, I6 k39]), (95, p39), (96, I6 k39), (12, p39), (13, I6 k39)] : Fm)) (fun ⟨p39, k39, wc39⟩ => [w25.drew, wc39]) (w25.drew) (fun e ⟨p39, k39, wc39⟩ => hAt [True, (RpD F wc39 p39 k39 (cutS (obs ee.o) sa sb)) ∧ (Ext [] w25.drew wc39) ∧ True] e) (fun ⟨p39, k39, wc39⟩ w' => [(3, [w'.cell? ⟨F.t, 0, none⟩ = some (.slice F.pb F.L.length F.pc)]), (5, [Ru Try.prog (vS (Instr.indexAt 43 (.slice F.pb F.L.length F.pc) (I6 ↑kk))) ((Po (bof (.slice F.pb F.L.length F.pc)) (0 + kk * 1))) w']), (6, [w'.cell? ⟨bof (.slice F.pb F.L.length F.pc), 0 + kk * 1, none⟩ = some ((Pv ee.b))]), (8, [w'.cell? ⟨w.heap.size, 2, none⟩ = some (I6 sa)]), (10, [w'.cell? ⟨w.heap.size, 3, none⟩ = some (I6 sb)])]) (undef, 0, w25.drew) [0, 1, 3, 4, 32, 35, 69, 11, 79, 80] [] hS (by kernel_rfl) (by kernel_rfl) (by kernel_rfl) (by kernel_rfl) (fun ⟨p39, k39, wc39⟩ _ => by kernel_rfl) (by kernel_rfl) (by kernel_rfl) (by kernel_rfl) trivial ?_ (by kernel_rfl) ?_ ?_
 ·rintro e ⟨p39, k39, wc39⟩ w' hw hH
  refine (.cons ?_ (.cons ?_ (.cons ?_ (.cons ?_ (.cons ?_ .nil)))))
  ·intro h1 h2
   obtain rfl : e = 0 := Nat.le_antisymm h2 h1
   have hwe : w25.drew = w' := (hw.trans (by kernel_rfl)).symm
   subst hwe
   clear hH
   exact (.cons ((hB27.drew : Blk w25.drew F.t 46 (#[.slice F.pb F.L.length F.pc, .slice F.qb F.L.length F.qc, .slice F.bb F.bn F.bn])).cell 0 rfl) .nil)
  ·intro h1 h2
   obtain rfl : e = 0 := Nat.le_antisymm h2 h1
   have hwe : w25.drew = w' := (hw.trans (by kernel_rfl)).symm
   subst hwe
   clear hH
   exact (.cons (ix_own (j := kk) (hB28) (by kernel_rfl) (by kernel_rfl) rfl hkkl) .nil)
  ·intro h1 h2
   obtain rfl : e = 0 := Nat.le_antisymm h2 h1
   have hwe : w25.drew = w' := (hw.trans (by kernel_rfl)).symm
   subst hwe
   clear hH
   exact (.cons ((hB28.drew : OwnV w25.drew 24 1 (.slice F.pb F.L.length F.pc) F.L.length (F.L.map En.bp)).cellAt _ (by simp [hee, En.bp])) .nil)
  ·intro h1 h2
   obtain rfl : e = 0 := Nat.le_antisymm h2 h1
   have hwe : w25.drew = w' := (hw.trans (by kernel_rfl)).symm
   subst hwe
   clear hH
   exact (.cons ((hB30.drew : Blk w25.drew w.heap.size 49 (#[I6 sk, I6 sr, I6 sa, I6 sb, v])).cell 2 rfl) .nil)
  ·intro h1 h2
   obtain rfl : e = 0 := Nat.le_antisymm h2 h1
   have hwe : w25.drew = w' := (hw.trans (by kernel_rfl)).symm
   subst hwe
   clear hH
   exact (.cons ((hB30.drew : Blk w25.drew w.heap.size 49 (#[I6 sk, I6 sr, I6 sa, I6 sb, v])).cell 3 rfl) .nil)
 ·refine (.cons ?eq40_11 .nil)
  ·rintro ⟨p39, k39, wc39⟩ hH
   clear hH
   refine eff_gh (w25.drew) (by kernel_rfl) ?_
   refine upon_call (f := 20) (vs := [(Pv ee.b), I6 sa, I6 sb]) (cap := #[]) (d := (some 94)) (by kernel_rfl) Try.call20 #[(Pv ee.b), I6 sa, I6 sb] (by kernel_rfl) (Cut_X ((hG33.ext0 ((Ext.refl [] _).drew)).i.p ee heem) sa sb) ?_
   rintro _ wc39 ⟨p39, k39, rfl, hD39, hEc39⟩
   exact ⟨_, rfl, ⟨(p39, k39, wc39), by kernel_rfl, by kernel_rfl, by kernel_rfl, ⟨hD39, hEc39, trivial⟩⟩⟩
 rintro ⟨p39, k39, wc39⟩ a w41 hS hw42 hH
 obtain ⟨hD39, hEc39, _⟩ := hH
 replace hw42 : w41 = wc39 := hw42.trans (by kernel_rfl)
 have hB43 := Blk.at' hw42 ((hB27.drew : Blk w25.drew F.t 46 (#[.slice F.pb F.L.length F.pc, .slice F.qb F.L.length F.qc, .slice F.bb F.bn F.bn])).ext hEc39 (by simp))
 have hB45 := OwnV.at' hw42 ((hB29.drew : OwnV w25.drew 52 1 (.slice F.qb F.L.length F.qc) F.L.length (F.L.map En.cp)).ext hEc39 (by simp))
 have hB46 := Blk.at' hw42 ((hB30.drew : Blk w25.drew w.heap.size 49 (#[I6 sk, I6 sr, I6 sa, I6 sb, v])).ext hEc39 (by simp))
 have hE47 : Ext [] w w41 := by rw [hw42]; exact (hE31.drew).trans0 hEc39
 have hX48 : Ext [] w25 w41 := by rw [hw42]; exact ((Ext.refl _ _).drew).trans0 hEc39
 have hG49 : TB w0 w41 F := hG33.ext0 hX48
 have hG50 : RdV w41 1 v n (bv xs) := hG34.ext0 hX48
 replace hS := hS.kp [(0, (Pv F.t)), (1, .agg #[I6 sk, I6 sr, I6 sa, I6 sb, v]), (3, (Pv w.heap.size)), (4, .bool false), (32, .bool false), (35, .bool false), (69, .bool false), (11, I6 ↑kk), (79, I6 sk), (80, .bool true), (12, p39), (13, I6 k39)]
 refine hK38 _ _ ?_
 refine sq fun K51 hK51 => ?_
 have hD52 : RpD F w41 p39 k39 (cutS (obs ee.o) sa sb) := by rw [hw42]; exact hD39
 refine region_gh2 (G := Value × Int × World) wide_wide [.q .p, .q .p, .q .p, .q (.ld (.slice F.qb F.L.length F.qc)), .q .p, .q (.run ((Po (bof (.slice F.qb F.L.length F.qc)) (0 + kk * 1)))), .q (.ld ((Pv ee.c))), .q .p, .q (.ld (I6 sa)), .q .p, .q (.ld (I6 sb)), .e, .q .p, .q .p, .q .p, .q .p, .q .p] [0, 0, 0, 0, 0, 0, 0, 0, 0, 0, 0, 0, 1, 1, 1, 1, 1] [0, 0, 0, 0, 0, 0, 0, 0, 0, 0, 0, 0, 1, 1, 1, 1, 1] [0, 1, 3, 7, 0, 31, 63, 0, 128, 0, 512, 2047, 4095, 8191, 8191, 16383, 65535] [11] [(11, 0)] 1 (fun ⟨p53, k53, wc53⟩ => ([(0, (Pv F.t)), (1, .agg #[I6 sk, I6 sr, I6 sa, I6 sb, v]), (3, (Pv w.heap.size)), (4, .bool false), (32, .bool false), (35, .bool false), (69, .bool false), (11, I6 ↑kk), (79, I6 sk), (80, .bool true), (12, p39), (13, I6 k39), (98, (Pv F.t)), (99, (Pv F.t)), (100, (Po F.t 1)), (101, .slice F.qb F.L.length F.qc), (102, I6 ↑kk), (103, (Po (bof (.slice F.qb F.L.length F.qc)) (0 + kk * 1))), (104, (Pv ee.c)), (105, (Po w.heap.size 2)), (106, I6 sa), (107, (Po w.heap.size 3)), (108, I6 sb), (109, .tuple #[p53, I6 k53]), (97, .tuple #[p53, I6 k53]), (110, p53), (111, I6 k53), (14, p53), (15, I6 k53)] : Fm)) (fun ⟨p53, k53, wc53⟩ => [w41.drew, wc53]) (w41.drew) (fun e ⟨p53, k53, wc53⟩ => hAt [True, (RfD F wc53 p53 k53 (cutS (obs ee.o) sa sb)) ∧ (Ext [] w41.drew wc53) ∧ True] e) (fun ⟨p53, k53, wc53⟩ w' => [(3, [w'.cell? ⟨F.t, 1, none⟩ = some (.slice F.qb F.L.length F.qc)]), (5, [Ru Try.prog (vS (Instr.indexAt 44 (.slice F.qb F.L.length F.qc) (I6 ↑kk))) ((Po (bof (.slice F.qb F.L.length F.qc)) (0 + kk * 1))) w']), (6, [w'.cell? ⟨bof (.slice F.qb F.L.length F.qc), 0 + kk * 1, none⟩ = some ((Pv ee.c))]), (8, [w'.cell? ⟨w.heap.size, 2, none⟩ = some (I6 sa)]), (10, [w'.cell? ⟨w.heap.size, 3, none⟩ = some (I6 sb)])]) (undef, 0, w41.drew) [0, 1, 3, 4, 32, 35, 69, 11, 79, 80, 12, 13] [] hS (by kernel_rfl) (by kernel_rfl) (by kernel_rfl) (by kernel_rfl) (fun ⟨p53, k53, wc53⟩ _ => by kernel_rfl) (by kernel_rfl) (by kernel_rfl) (by kernel_rfl) trivial ?_ (by kernel_rfl) ?_ ?_
 ·rintro e ⟨p53, k53, wc53⟩ w' hw hH
  refine (.cons ?_ (.cons ?_ (.cons ?_ (.cons ?_ (.cons ?_ .nil)))))
  ·intro h1 h2
   obtain rfl : e = 0 := Nat.le_antisymm h2 h1
   have hwe : w41.drew = w' := (hw.trans (by kernel_rfl)).symm
   subst hwe
   clear hH
   exact (.cons ((hB43.drew : Blk w41.drew F.t 46 (#[.slice F.pb F.L.length F.pc, .slice F.qb F.L.length F.qc, .slice F.bb F.bn F.bn])).cell 1 rfl) .nil)
  ·intro h1 h2
   obtain rfl : e = 0 := Nat.le_antisymm h2 h1
   have hwe : w41.drew = w' := (hw.trans (by kernel_rfl)).symm
   subst hwe
   clear hH
   exact (.cons (ix_own (j := kk) (hB45) (by kernel_rfl) (by kernel_rfl) rfl hkkl) .nil)
  ·intro h1 h2
   obtain rfl : e = 0 := Nat.le_antisymm h2 h1
   have hwe : w41.drew = w' := (hw.trans (by kernel_rfl)).symm
   subst hwe
   clear hH
   exact (.cons ((hB45.drew : OwnV w41.drew 52 1 (.slice F.qb F.L.length F.qc) F.L.length (F.L.map En.cp)).cellAt _ (by simp [hee, En.cp])) .nil)
  ·intro h1 h2
   obtain rfl : e = 0 := Nat.le_antisymm h2 h1
   have hwe : w41.drew = w' := (hw.trans (by kernel_rfl)).symm
   subst hwe
   clear hH
   exact (.cons ((hB46.drew : Blk w41.drew w.heap.size 49 (#[I6 sk, I6 sr, I6 sa, I6 sb, v])).cell 2 rfl) .nil)
  ·intro h1 h2
   obtain rfl : e = 0 := Nat.le_antisymm h2 h1
   have hwe : w41.drew = w' := (hw.trans (by kernel_rfl)).symm
   subst hwe
   clear hH
   exact (.cons ((hB46.drew : Blk w41.drew w.heap.size 49 (#[I6 sk, I6 sr, I6 sa, I6 sb, v])).cell 3 rfl) .nil)
 ·refine (.cons ?eq54_11 .nil)
  ·rintro ⟨p53, k53, wc53⟩ hH
   clear hH
   refine eff_gh (w41.drew) (by kernel_rfl) ?_
   refine upon_call (f := 61) (vs := [(Pv ee.c), I6 sa, I6 sb]) (cap := #[]) (d := (some 109)) (by kernel_rfl) Try.call61 #[(Pv ee.c), I6 sa, I6 sb] (by kernel_rfl) (rCut_X (hG49.ext0 ((Ext.refl [] _).drew)).i ((hG49.ext0 ((Ext.refl [] _).drew)).i.q ee heem) sa sb) ?_
   rintro _ wc53 ⟨p53, k53, rfl, hD53, hEc53⟩
   exact ⟨_, rfl, ⟨(p53, k53, wc53), by kernel_rfl, by kernel_rfl, by kernel_rfl, ⟨hD53, hEc53, trivial⟩⟩⟩
 rintro ⟨p53, k53, wc53⟩ a w55 hS hw56 hH
 obtain ⟨hD53, hEc53, _⟩ := hH
 replace hw56 : w55 = wc53 := hw56.trans (by kernel_rfl)
 have hE61 : Ext [] w w55 := by rw [hw56]; exact (hE47.drew).trans0 hEc53
 have hX62 : Ext [] w41 w55 := by rw [hw56]; exact ((Ext.refl _ _).drew).trans0 hEc53
 have hG63 : TB w0 w55 F := hG49.ext0 hX62
 have hG64 : RdV w55 1 v n (bv xs) := hG50.ext0 hX62
 have hG65 : RpD F w55 p39 k39 (cutS (obs ee.o) sa sb) := hD52.ext0 hX62
 replace hS := hS.kp [(0, (Pv F.t)), (1, .agg #[I6 sk, I6 sr, I6 sa, I6 sb, v]), (3, (Pv w.heap.size)), (4, .bool false), (32, .bool false), (35, .bool false), (69, .bool false), (11, I6 ↑kk), (79, I6 sk), (80, .bool true), (12, p39), (13, I6 k39), (14, p53), (15, I6 k53)]
 refine hK51 _ _ ?_
 refine sq fun K66 hK66 => ?_
 have hD67 : RfD F w55 p53 k53 (cutS (obs ee.o) sa sb) := by rw [hw56]; exact hD53
 refine rgn 7 ?_
 refine sg wide_wide [.p, .p, .p, .p, .p] [] [(0, (Pv F.t)), (1, .agg #[I6 sk, I6 sr, I6 sa, I6 sb, v]), (3, (Pv w.heap.size)), (4, .bool false), (32, .bool false), (35, .bool false), (69, .bool false), (11, I6 ↑kk), (79, I6 sk), (80, .bool true), (12, p39), (13, I6 k39), (14, p53), (15, I6 k53), (112, (Pv F.t)), (113, p39), (114, I6 k39), (115, p53), (116, I6 k53)] 5 2 hS .nil fun a hS => ?_
 refine eff_call wide_wide (r := 1) (f := 60) (vs := [(Pv F.t), p39, I6 k39, p53, I6 k53]) (cap := #[]) (d := (some 117)) hS (by kernel_rfl) Try.call60 #[(Pv F.t), p39, I6 k39, p53, I6 k53] (by kernel_rfl) (add_T (F := F) hG63.i (by first | exact hl | (simp only [Ta.buf]; exact hl)) hG65 hD67) ?_
 rintro _ wz68 ⟨rfl, F9, hS68, hlen9⟩
 refine ⟨_, rfl, fun a hS => ?_⟩
 have hEr68 : Ext [] wz68 wz68 := Ext.refl _ _
 refine sg wide_wide [.p] [] [(0, (Pv F.t)), (1, .agg #[I6 sk, I6 sr, I6 sa, I6 sb, v]), (3, (Pv w.heap.size)), (4, .bool true), (32, .bool false), (35, .bool false), (69, .bool false), (11, I6 ↑kk), (79, I6 sk), (80, .bool true), (12, p39), (13, I6 k39), (14, p53), (15, I6 k53)] 7 0 hS .nil fun a hS => ?_
 refine seg_end ?_
 refine hK66 _ _ ?_
 refine wpIn_ret ?_
 refine inBlock_ret ?_
 refine then_ret ?_
 refine ret1 hS Try.results45 rfl ?_
 exact ⟨rfl, _, (hS68.pre hE61).trans0 hEr68⟩

theorem make1_cat {w0 w : World} {F : Ta} (hT : TB w0 w F) {sk sr sa sb : Int} {v : Value} {n : Nat} {xs : List Int} (hv0 : RdV w0 1 v n (bv xs)) (hB : BR xs) (hn : n ≤ 10000000000) (hl : F.L.length < 300) (h0 : F.L.length ≠ 0) (hk : sk = 3) :
  Calls Try.prog 45 #[(Pv F.t), .agg #[I6 sk, I6 sr, I6 sa, I6 sb, v]] w fun e w' => e = .returned (.bool true) ∧ ∃ F', TS w F w' F' := by
 have hv := hT.rd hv0
 have hxl : xs.length = n := by have := hv.len; simpa using this
 have hln := hT.i.ln
 obtain ⟨kk, hkk, hkkl⟩ : ∃ kk : Nat, rnd sr (F.L.length : Int) = ↑kk ∧ kk < F.L.length := by
  have h := rnd_bd sr (n := (F.L.length : Int)) (by omega)
  exact ⟨(rnd sr F.L.length).toNat, by omega, by omega⟩
 obtain ⟨ee, hee⟩ : ∃ ee, F.L[kk]? = some ee := ⟨_, List.getElem?_eq_getElem hkkl⟩
 have heem : ee ∈ F.L := List.mem_of_getElem? hee
 obtain ⟨mm, hmm, hmml⟩ : ∃ mm : Nat, rnd sa (F.L.length : Int) = ↑mm ∧ mm < F.L.length := by
  have h := rnd_bd sa (n := (F.L.length : Int)) (by omega)
  exact ⟨(rnd sa F.L.length).toNat, by omega, by omega⟩
 obtain ⟨ff, hff⟩ : ∃ ff, F.L[mm]? = some ff := ⟨_, List.getElem?_eq_getElem hmml⟩
 have hffm : ff ∈ F.L := List.mem_of_getElem? hff
 refine calls_body 236 [(0, (Pv F.t)), (1, .agg #[I6 sk, I6 sr, I6 sa, I6 sb, v])] Try.func45 rfl (by kernel_rfl) (by kernel_rfl) (by kernel_rfl) fun a hS => ?_
 have hE0 : Ext [] w w := Ext.refl _ _
 refine sq fun K1 hK1 => ?_
 refine rgn 2 ?_
 refine eff_box wide_wide (r := 1) (cs := #[I6 sk, I6 sr, I6 sa, I6 sb, v]) (T := 49) (d := (some 3)) hS (by kernel_rfl) fun a w2 hw3 hS => ?_
 have hB7 := Blk.at' hw3 (hT.i.f.alloc _)
 have hB8 := OwnV.at' hw3 (hT.i.P.alloc _)
 have hB9 := OwnV.at' hw3 (hT.i.R.alloc _)
 have hX10 : Ext [] w w2 := by rw [hw3]; exact (Ext.refl _ _).alloc _
 have hG11 : TB w0 w2 F := hT.ext0 hX10
 have hG12 : RdV w2 1 v n (bv xs) := hv.ext0 hX10
 have hB13 : Blk w2 (w.heap.size) 49 #[I6 sk, I6 sr, I6 sa, I6 sb, v] := by rw [hw3]; exact Blk.new _ _ _
 have hs14 : w.heap.size ≤ w.heap.size := hE0.size
 have hE15 : Ext [] w w2 := by rw [hw3]; exact hE0.alloc _
 refine sg wide_wide [.p] [] [(0, (Pv F.t)), (1, .agg #[I6 sk, I6 sr, I6 sa, I6 sb, v]), (3, (Pv w.heap.size)), (4, .bool false)] 2 0 hS .nil fun a hS => ?_
 refine seg_end ?_
 refine hK1 _ _ ?_
 refine sq fun K16 hK16 => ?_
 refine sq fun K17 hK17 => ?_
 refine rgn 6 ?_
 refine sg wide_wide [.p, .p, .p, .ld (.slice F.pb F.L.length F.pc), .p, .as (.bool false)] [w2.cell? ⟨F.t, 0, none⟩ = some (.slice F.pb F.L.length F.pc), Value.bool (decide ((↑F.L.length : Int) ≥ 300)) = .bool false] [(0, (Pv F.t)), (1, .agg #[I6 sk, I6 sr, I6 sa, I6 sb, v]), (3, (Pv w.heap.size)), (4, .bool false), (32, .bool false)] 6 0 hS (.cons (hB7.cell 0 rfl) (.cons (as_f (by omega)) .nil)) fun a hS => ?_
 refine seg_end ?_
 refine hK17 _ _ ?_
 refine cond_f hS rfl ?_
 refine wpIn_skip ?_
 refine hK16 _ _ ?_
 refine sq fun K18 hK18 => ?_
 refine sq fun K19 hK19 => ?_
 refine rgn 3 ?_
 refine sg wide_wide [.p, .ld (I6 sk), .as (.bool false)] [w2.cell? ⟨w.heap.size, 0, none⟩ = some (I6 sk), Value.bool (((sk : Int) == 1)) = .bool false] [(0, (Pv F.t)), (1, .agg #[I6 sk, I6 sr, I6 sa, I6 sb, v]), (3, (Pv w.heap.size)), (4, .bool false), (32, .bool false), (35, .bool false)] 3 0 hS (.cons (hB13.cell 0 rfl) (.cons (as_eq_f (by omega)) .nil)) fun a hS => ?_
 refine seg_end ?_
 refine hK19 _ _ ?_
 refine cond_f hS rfl ?_
 refine wpIn_skip ?_
 refine hK18 _ _ ?_
 refine sq fun K20 hK20 => ?_
 refine sq fun K21 hK21 => ?_
 refine rgn 6 ?_
 refine sg wide_wide [.p, .p, .p, .ld (.slice F.pb F.L.length F.pc), .p, .as (.bool false)] [w2.cell? ⟨F.t, 0, none⟩ = some (.slice F.pb F.L.length F.pc), Value.bool (((↑F.L.length : Int) == 0)) = .bool false] [(0, (Pv F.t)), (1, .agg #[I6 sk, I6 sr, I6 sa, I6 sb, v]), (3, (Pv w.heap.size)), (4, .bool false), (32, .bool false), (35, .bool false), (69, .bool false)] 6 0 hS (.cons (hB7.cell 0 rfl) (.cons (as_eq_f (by omega)) .nil)) fun a hS => ?_
 refine seg_end ?_
 refine hK21 _ _ ?_
 refine cond_f hS rfl ?_
 refine wpIn_skip ?_
 refine hK20 _ _ ?_
 refine sq fun K22 hK22 => ?_
 refine region_gh2 (G := World) wide_wide [.q .p, .q (.ld (I6 sr)), .q .p, .q .p, .q .p, .q (.ld (.slice F.pb F.L.length F.pc)), .q .p, .e, .q .p] [0, 0, 0, 0, 0, 0, 0, 0, 1] [0, 0, 0, 0, 0, 0, 0, 0, 1] [0, 1, 0, 4, 12, 28, 60, 127, 255] [7] [(7, 0)] 1 (fun wc23 => ([(0, (Pv F.t)), (1, .agg #[I6 sk, I6 sr, I6 sa, I6 sb, v]), (3, (Pv w.heap.size)), (4, .bool false), (32, .bool false), (35, .bool false), (69, .bool false), (70, (Po w.heap.size 1)), (71, I6 sr), (72, (Pv F.t)), (73, (Pv F.t)), (74, (Pv F.t)), (75, .slice F.pb F.L.length F.pc), (76, I6 ↑F.L.length), (77, I6 ↑kk), (11, I6 ↑kk)] : Fm)) (fun wc23 => [w2.drew, wc23]) (w2.drew) (fun e wc23 => hAt [True, (Ext [] w2.drew wc23) ∧ True] e) (fun wc23 w' => [(1, [w'.cell? ⟨w.heap.size, 1, none⟩ = some (I6 sr)]), (5, [w'.cell? ⟨F.t, 0, none⟩ = some (.slice F.pb F.L.length F.pc)])]) w2.drew [0, 1, 3, 4, 32, 35, 69] [] hS (by kernel_rfl) (by kernel_rfl) (by kernel_rfl) (by kernel_rfl) (fun wc23 _ => by kernel_rfl) (by kernel_rfl) (by kernel_rfl) (by kernel_rfl) trivial ?_ (by kernel_rfl) ?_ ?_
 ·rintro e wc23 w' hw hH
  refine (.cons ?_ (.cons ?_ .nil))
  ·intro h1 h2
   obtain rfl : e = 0 := Nat.le_antisymm h2 h1
   have hwe : w2.drew = w' := (hw.trans (by kernel_rfl)).symm
   subst hwe
   clear hH
   exact (.cons ((hB13.drew : Blk w2.drew w.heap.size 49 (#[I6 sk, I6 sr, I6 sa, I6 sb, v])).cell 1 rfl) .nil)
  ·intro h1 h2
   obtain rfl : e = 0 := Nat.le_antisymm h2 h1
   have hwe : w2.drew = w' := (hw.trans (by kernel_rfl)).symm
   subst hwe
   clear hH
   exact (.cons ((hB7.drew : Blk w2.drew F.t 46 (#[.slice F.pb F.L.length F.pc, .slice F.qb F.L.length F.qc, .slice F.bb F.bn F.bn])).cell 0 rfl) .nil)
 ·refine (.cons ?eq24_7 .nil)
  ·rintro wc23 hH
   clear hH
   refine eff_gh (w2.drew) (by kernel_rfl) ?_
   refine upon_call (f := 21) (vs := [I6 sr, I6 ↑F.L.length]) (cap := #[]) (d := (some 77)) (by kernel_rfl) Try.call21 #[I6 sr, I6 ↑F.L.length] (by kernel_rfl) (Round_x (k := sr) (N := F.L.length) (by omega) hkk) ?_
   rintro _ wc23 ⟨rfl, hEc23⟩
   exact ⟨_, rfl, ⟨wc23, by kernel_rfl, by kernel_rfl, by kernel_rfl, ⟨hEc23, trivial⟩⟩⟩
 rintro wc23 a w25 hS hw26 hH
 obtain ⟨hEc23, _⟩ := hH
 replace hw26 : w25 = wc23 := hw26.trans (by kernel_rfl)
 have hB27 := Blk.at' hw26 ((hB7.drew : Blk w2.drew F.t 46 (#[.slice F.pb F.L.length F.pc, .slice F.qb F.L.length F.qc, .slice F.bb F.bn F.bn])).ext hEc23 (by simp))
 have hB28 := OwnV.at' hw26 ((hB8.drew : OwnV w2.drew 24 1 (.slice F.pb F.L.length F.pc) F.L.length (F.L.map En.bp)).ext hEc23 (by simp))
 have hB29 := OwnV.at' hw26 ((hB9.drew : OwnV w2.drew 52 1 (.slice F.qb F.L.length F.qc) F.L.length (F.L.map En.cp)).ext hEc23 (by simp))
 have hB30 := Blk.at' hw26 ((hB13.drew : Blk w2.drew w.heap.size 49 (#[I6 sk, I6 sr, I6 sa, I6 sb, v])).ext hEc23 (by simp))
 have hE31 : Ext [] w w25 := by rw [hw26]; exact (hE15.drew).trans0 hEc23
 have hX32 : Ext [] w2 w25 := by rw [hw26]; exact ((Ext.refl _ _).drew).trans0 hEc23
 have hG33 : TB w0 w25 F := hG11.ext0 hX32
 have hG34 : RdV w25 1 v n (bv xs) := hG12.ext0 hX32
 replace hS := hS.kp [(0, (Pv F.t)), (1, .agg #[I6 sk, I6 sr, I6 sa, I6 sb, v]), (3, (Pv w.heap.size)), (4, .bool false), (32, .bool false), (35, .bool false), (69, .bool false), (11, I6 ↑kk)]
 refine hK22 _ _ ?_
 refine sq fun K35 hK35 => ?_
 refine sq fun K36 hK36 => ?_
 refine rgn 2 ?_
 refine sg wide_wide [.p, .ld (I6 sk)] [w25.cell? ⟨w.heap.size, 0, none⟩ = some (I6 sk)] [(0, (Pv F.t)), (1, .agg #[I6 sk, I6 sr, I6 sa, I6 sb, v]), (3, (Pv w.heap.size)), (4, .bool false), (32, .bool false), (35, .bool false), (69, .bool false), (11, I6 ↑kk), (79, I6 sk)] 2 0 hS (.cons (hB30.cell 0 rfl) .nil) fun a hS => ?_
 refine seg_end ?_
 refine hK36 _ _ ?_
 refine wpIn_block ?_
 refine sq fun K37 hK37 => ?_
 refine rgn 2 ?_
 refine sg wide_wide [.as (.bool false), .p] [Value.bool (((sk : Int) == 2)) = .bool false] [(0, (Pv F.t)), (1, .agg #[I6 sk, I6 sr, I6 sa, I6 sb, v]), (3, (Pv w.heap.size)), (4, .bool false), (32, .bool false), (35, .bool false), (69, .bool false), (11, I6 ↑kk), (79, I6 sk), (80, .bool false)] 2 0 hS (.cons (as_eq_f (by omega)) .nil) fun a hS => ?_
 refine seg_end ?_
 refine hK37 _ _ ?_
 refine cond_f hS rfl ?_
 refine sq fun K38 hK38 => ?_
 refine rgn 2 ?_
 refine sg wide_wide [.as (.bool true), .p] [Value.bool (((sk : Int) == 3)) = .bool true] [(0, (Pv F.t)), (1, .agg #[I6 sk, I6 sr, I6 sa, I6 sb, v]), (3, (Pv w.heap.size)), (4, .bool false), (32, .bool false), (35, .bool false), (69, .bool false), (11, I6 ↑kk), (79, I6 sk), (80, .bool false), (118, .bool true)] 2 0 hS (.cons (as_eq_t (by omega)) .nil) fun a hS => ?_
 refine seg_end ?_
 refine hK38 _ _ ?_
 refine cond_t hS rfl ?_
 refine sq fun K39 hK39 => ?_
 refine region_gh2 (G := World) wide_wide [.q .p, .q (.ld (I6 sa)), .q .p, .q .p, .q .p, .q (.ld (.slice F.pb F.L.length F.pc)), .q .p, .e, .q .p] [0, 0, 0, 0, 0, 0, 0, 0, 1] [0, 0, 0, 0, 0, 0, 0, 0, 1] [0, 1, 0, 4, 12, 28, 60, 127, 255] [7] [(7, 0)] 1 (fun wc40 => ([(0, (Pv F.t)), (1, .agg #[I6 sk, I6 sr, I6 sa, I6 sb, v]), (3, (Pv w.heap.size)), (4, .bool false), (32, .bool false), (35, .bool false), (69, .bool false), (11, I6 ↑kk), (79, I6 sk), (80, .bool false), (118, .bool true), (120, (Po w.heap.size 2)), (121, I6 sa), (122, (Pv F.t)), (123, (Pv F.t)), (124, (Pv F.t)), (125, .slice F.pb F.L.length F.pc), (126, I6 ↑F.L.length), (127, I6 ↑mm), (16, I6 ↑mm)] : Fm)) (fun wc40 => [w25.drew, wc40]) (w25.drew) (fun e wc40 => hAt [True, (Ext [] w25.drew wc40) ∧ True] e) (fun wc40 w' => [(1, [w'.cell? ⟨w.heap.size, 2, none⟩ = some (I6 sa)]), (5, [w'.cell? ⟨F.t, 0, none⟩ = some (.slice F.pb F.L.length F.pc)])]) w25.drew [0, 1, 3, 4, 32, 35, 69, 11, 79, 80, 118] [] hS (by kernel_rfl) (by kernel_rfl) (by kernel_rfl) (by kernel_rfl) (fun wc40 _ => by kernel_rfl) (by kernel_rfl) (by kernel_rfl) (by kernel_rfl) trivial ?_ (by kernel_rfl) ?_ ?_
 ·rintro e wc40 w' hw hH
  refine (.cons ?_ (.cons ?_ .nil))
  ·intro h1 h2
   obtain rfl : e = 0 := Nat.le_antisymm h2 h1
   have hwe : w25.drew = w' := (hw.trans (by kernel_rfl)).symm
   subst hwe
   clear hH
   exact (.cons ((hB30.drew : Blk w25.drew w.heap.size 49 (#[I6 sk, I6 sr, I6 sa, I6 sb, v])).cell 2 rfl) .nil)
  ·intro h1 h2
   obtain rfl : e = 0 := Nat.le_antisymm h2 h1
   have hwe : w25.drew = w' := (hw.trans (by kernel_rfl)).symm
   subst hwe
   clear hH
   exact (.cons ((hB27.drew : Blk w25.drew F.t 46 (#[.slice F.pb F.L.length F.pc, .slice F.qb F.L.length F.qc, .slice F.bb F.bn F.bn])).cell 0 rfl) .nil)
 ·refine (.cons ?eq41_7 .nil)
  ·rintro wc40 hH
   clear hH
   refine eff_gh (w25.drew) (by kernel_rfl) ?_
   refine upon_call (f := 21) (vs := [I6 sa, I6 ↑F.L.length]) (cap := #[]) (d := (some 127)) (by kernel_rfl) Try.call21 #[I6 sa, I6 ↑F.L.length] (by kernel_rfl) (Round_x (k := sa) (N := F.L.length) (by omega) hmm) ?_
   rintro _ wc40 ⟨rfl, hEc40⟩
   exact ⟨_, rfl, ⟨wc40, by kernel_rfl, by kernel_rfl, by kernel_rfl, ⟨hEc40, trivial⟩⟩⟩
 rintro wc40 a w42 hS hw43 hH
 obtain ⟨hEc40, _⟩ := hH
 replace hw43 : w42 = wc40 := hw43.trans (by kernel_rfl)
 have hB44 := Blk.at' hw43 ((hB27.drew : Blk w25.drew F.t 46 (#[.slice F.pb F.L.length F.pc, .slice F.qb F.L.length F.qc, .slice F.bb F.bn F.bn])).ext hEc40 (by simp))
 have hB45 := OwnV.at' hw43 ((hB28.drew : OwnV w25.drew 24 1 (.slice F.pb F.L.length F.pc) F.L.length (F.L.map En.bp)).ext hEc40 (by simp))
 have hB46 := OwnV.at' hw43 ((hB29.drew : OwnV w25.drew 52 1 (.slice F.qb F.L.length F.qc) F.L.length (F.L.map En.cp)).ext hEc40 (by simp))
 have hE48 : Ext [] w w42 := by rw [hw43]; exact (hE31.drew).trans0 hEc40
 have hX49 : Ext [] w25 w42 := by rw [hw43]; exact ((Ext.refl _ _).drew).trans0 hEc40
 have hG50 : TB w0 w42 F := hG33.ext0 hX49
 have hG51 : RdV w42 1 v n (bv xs) := hG34.ext0 hX49
 replace hS := hS.kp [(0, (Pv F.t)), (1, .agg #[I6 sk, I6 sr, I6 sa, I6 sb, v]), (3, (Pv w.heap.size)), (4, .bool false), (32, .bool false), (35, .bool false), (69, .bool false), (11, I6 ↑kk), (79, I6 sk), (80, .bool false), (118, .bool true), (16, I6 ↑mm)]
 refine hK39 _ _ ?_
 refine sq fun K52 hK52 => ?_
 refine sq fun K53 hK53 => ?_
 by_cases hsm : (obs ee.o).length + (obs ff.o).length ≤ 65536
 ·
  refine region_gh2 (G := World) wide_wide [.q .p, .q .p, .q .p, .q (.ld (.slice F.qb F.L.length F.qc)), .q .p, .q (.run ((Po (bof (.slice F.qb F.L.length F.qc)) (0 + kk * 1)))), .q (.ld ((Pv ee.c))), .q .p, .q .p, .q .p, .q (.ld (.slice F.qb F.L.length F.qc)), .q .p, .q (.run ((Po (bof (.slice F.qb F.L.length F.qc)) (0 + mm * 1)))), .q (.ld ((Pv ff.c))), .e, .q .p] [0, 0, 0, 0, 0, 0, 0, 0, 0, 0, 0, 0, 0, 0, 0, 1] [0, 0, 0, 0, 0, 0, 0, 0, 0, 0, 0, 0, 0, 0, 0, 1] [0, 1, 3, 7, 0, 31, 63, 0, 128, 384, 896, 0, 3968, 8064, 16383, 32767] [14] [(14, 0)] 1 (fun wc54 => ([(0, (Pv F.t)), (1, .agg #[I6 sk, I6 sr, I6 sa, I6 sb, v]), (3, (Pv w.heap.size)), (4, .bool false), (32, .bool false), (35, .bool false), (69, .bool false), (11, I6 ↑kk), (79, I6 sk), (80, .bool false), (118, .bool true), (16, I6 ↑mm), (128, (Pv F.t)), (129, (Pv F.t)), (130, (Po F.t 1)), (131, .slice F.qb F.L.length F.qc), (132, I6 ↑kk), (133, (Po (bof (.slice F.qb F.L.length F.qc)) (0 + kk * 1))), (134, (Pv ee.c)), (135, (Pv F.t)), (136, (Pv F.t)), (137, (Po F.t 1)), (138, .slice F.qb F.L.length F.qc), (139, I6 ↑mm), (140, (Po (bof (.slice F.qb F.L.length F.qc)) (0 + mm * 1))), (141, (Pv ff.c)), (142, .bool true), (143, .bool false)] : Fm)) (fun wc54 => [w42.drew, wc54]) (w42.drew) (fun e wc54 => hAt [True, (Ext [] w42.drew wc54) ∧ True] e) (fun wc54 w' => [(3, [w'.cell? ⟨F.t, 1, none⟩ = some (.slice F.qb F.L.length F.qc)]), (5, [Ru Try.prog (vS (Instr.indexAt 44 (.slice F.qb F.L.length F.qc) (I6 ↑kk))) ((Po (bof (.slice F.qb F.L.length F.qc)) (0 + kk * 1))) w']), (6, [w'.cell? ⟨bof (.slice F.qb F.L.length F.qc), 0 + kk * 1, none⟩ = some ((Pv ee.c))]), (10, [w'.cell? ⟨F.t, 1, none⟩ = some (.slice F.qb F.L.length F.qc)]), (12, [Ru Try.prog (vS (Instr.indexAt 44 (.slice F.qb F.L.length F.qc) (I6 ↑mm))) ((Po (bof (.slice F.qb F.L.length F.qc)) (0 + mm * 1))) w']), (13, [w'.cell? ⟨bof (.slice F.qb F.L.length F.qc), 0 + mm * 1, none⟩ = some ((Pv ff.c))])]) w42.drew [0, 1, 3, 4, 32, 35, 69, 11, 79, 80, 118, 16] [] hS (by kernel_rfl) (by kernel_rfl) (by kernel_rfl) (by kernel_rfl) (fun wc54 _ => by kernel_rfl) (by kernel_rfl) (by kernel_rfl) (by kernel_rfl) trivial ?_ (by kernel_rfl) ?_ ?_
  ·rintro e wc54 w' hw hH
   refine (.cons ?_ (.cons ?_ (.cons ?_ (.cons ?_ (.cons ?_ (.cons ?_ .nil))))))
   ·intro h1 h2
    obtain rfl : e = 0 := Nat.le_antisymm h2 h1
    have hwe : w42.drew = w' := (hw.trans (by kernel_rfl)).symm
    subst hwe
    clear hH
    exact (.cons ((hB44.drew : Blk w42.drew F.t 46 (#[.slice F.pb F.L.length F.pc, .slice F.qb F.L.length F.qc, .slice F.bb F.bn F.bn])).cell 1 rfl) .nil)
   ·intro h1 h2
    obtain rfl : e = 0 := Nat.le_antisymm h2 h1
    have hwe : w42.drew = w' := (hw.trans (by kernel_rfl)).symm
    subst hwe
    clear hH
    exact (.cons (ix_own (j := kk) (hB46) (by kernel_rfl) (by kernel_rfl) rfl hkkl) .nil)
   ·intro h1 h2
    obtain rfl : e = 0 := Nat.le_antisymm h2 h1
    have hwe : w42.drew = w' := (hw.trans (by kernel_rfl)).symm
    subst hwe
    clear hH
    exact (.cons ((hB46.drew : OwnV w42.drew 52 1 (.slice F.qb F.L.length F.qc) F.L.length (F.L.map En.cp)).cellAt _ (by simp [hee, En.cp])) .nil)
   ·intro h1 h2
    obtain rfl : e = 0 := Nat.le_antisymm h2 h1
    have hwe : w42.drew = w' := (hw.trans (by kernel_rfl)).symm
    subst hwe
    clear hH
    exact (.cons ((hB44.drew : Blk w42.drew F.t 46 (#[.slice F.pb F.L.length F.pc, .slice F.qb F.L.length F.qc, .slice F.bb F.bn F.bn])).cell 1 rfl) .nil)
   ·intro h1 h2
    obtain rfl : e = 0 := Nat.le_antisymm h2 h1
    have hwe : w42.drew = w' := (hw.trans (by kernel_rfl)).symm
    subst hwe
    clear hH
    exact (.cons (ix_own (j := mm) (hB46) (by kernel_rfl) (by kernel_rfl) rfl hmml) .nil)
   ·intro h1 h2
    obtain rfl : e = 0 := Nat.le_antisymm h2 h1
    have hwe : w42.drew = w' := (hw.trans (by kernel_rfl)).symm
    subst hwe
    clear hH
    exact (.cons ((hB46.drew : OwnV w42.drew 52 1 (.slice F.qb F.L.length F.qc) F.L.length (F.L.map En.cp)).cellAt _ (by simp [hff, En.cp])) .nil)
  ·refine (.cons ?eq55_14 .nil)
   ·rintro wc54 hH
    clear hH
    refine eff_gh (w42.drew) (by kernel_rfl) ?_
    refine upon_call (f := 62) (vs := [(Pv ee.c), (Pv ff.c)]) (cap := #[]) (d := (some 142)) (by kernel_rfl) Try.call62 #[(Pv ee.c), (Pv ff.c)] (by kernel_rfl) (small_xt ((hG50.ext0 ((Ext.refl [] _).drew)).i.q ee heem) ((hG50.ext0 ((Ext.refl [] _).drew)).i.q ff hffm) hsm) ?_
    rintro _ wc54 ⟨rfl, hEc54⟩
    exact ⟨_, rfl, ⟨wc54, by kernel_rfl, by kernel_rfl, by kernel_rfl, ⟨hEc54, trivial⟩⟩⟩
  rintro wc54 a w56 hS hw57 hH
  obtain ⟨hEc54, _⟩ := hH
  replace hw57 : w56 = wc54 := hw57.trans (by kernel_rfl)
  have hB58 := Blk.at' hw57 ((hB44.drew : Blk w42.drew F.t 46 (#[.slice F.pb F.L.length F.pc, .slice F.qb F.L.length F.qc, .slice F.bb F.bn F.bn])).ext hEc54 (by simp))
  have hB59 := OwnV.at' hw57 ((hB45.drew : OwnV w42.drew 24 1 (.slice F.pb F.L.length F.pc) F.L.length (F.L.map En.bp)).ext hEc54 (by simp))
  have hB60 := OwnV.at' hw57 ((hB46.drew : OwnV w42.drew 52 1 (.slice F.qb F.L.length F.qc) F.L.length (F.L.map En.cp)).ext hEc54 (by simp))
  have hE62 : Ext [] w w56 := by rw [hw57]; exact (hE48.drew).trans0 hEc54
  have hX63 : Ext [] w42 w56 := by rw [hw57]; exact ((Ext.refl _ _).drew).trans0 hEc54
  have hG64 : TB w0 w56 F := hG50.ext0 hX63
  have hG65 : RdV w56 1 v n (bv xs) := hG51.ext0 hX63
  replace hS := hS.kp [(0, (Pv F.t)), (1, .agg #[I6 sk, I6 sr, I6 sa, I6 sb, v]), (3, (Pv w.heap.size)), (4, .bool false), (32, .bool false), (35, .bool false), (69, .bool false), (11, I6 ↑kk), (79, I6 sk), (80, .bool false), (118, .bool true), (16, I6 ↑mm), (143, .bool false)]
  refine hK53 _ _ ?_
  refine cond_f hS rfl ?_
  refine wpIn_skip ?_
  refine hK52 _ _ ?_
  refine sq fun K66 hK66 => ?_
  refine region_gh2 (G := Value × Int × World) wide_wide [.q .p, .q .p, .q .p, .q (.ld (.slice F.pb F.L.length F.pc)), .q .p, .q (.run ((Po (bof (.slice F.pb F.L.length F.pc)) (0 + kk * 1)))), .q (.ld ((Pv ee.b))), .q .p, .q .p, .q .p, .q (.ld (.slice F.pb F.L.length F.pc)), .q .p, .q (.run ((Po (bof (.slice F.pb F.L.length F.pc)) (0 + mm * 1)))), .q (.ld ((Pv ff.b))), .e, .q .p, .q .p, .q .p, .q .p, .q .p] [0, 0, 0, 0, 0, 0, 0, 0, 0, 0, 0, 0, 0, 0, 0, 1, 1, 1, 1, 1] [0, 0, 0, 0, 0, 0, 0, 0, 0, 0, 0, 0, 0, 0, 0, 1, 1, 1, 1, 1] [0, 1, 3, 7, 0, 31, 63, 0, 128, 384, 896, 0, 3968, 8064, 16383, 32767, 65535, 65535, 131071, 524287] [14] [(14, 0)] 1 (fun ⟨p67, k67, wc67⟩ => ([(0, (Pv F.t)), (1, .agg #[I6 sk, I6 sr, I6 sa, I6 sb, v]), (3, (Pv w.heap.size)), (4, .bool false), (32, .bool false), (35, .bool false), (69, .bool false), (11, I6 ↑kk), (79, I6 sk), (80, .bool false), (118, .bool true), (16, I6 ↑mm), (143, .bool false), (145, (Pv F.t)), (146, (Pv F.t)), (147, (Pv F.t)), (148, .slice F.pb F.L.length F.pc), (149, I6 ↑kk), (150, (Po (bof (.slice F.pb F.L.length F.pc)) (0 + kk * 1))), (151, (Pv ee.b)), (152, (Pv F.t)), (153, (Pv F.t)), (154, (Pv F.t)), (155, .slice F.pb F.L.length F.pc), (156, I6 ↑mm), (157, (Po (bof (.slice F.pb F.L.length F.pc)) (0 + mm * 1))), (158, (Pv ff.b)), (159, .tuple #[p67, I6 k67]), (144, .tuple #[p67, I6 k67]), (160, p67), (161, I6 k67), (17, p67), (18, I6 k67)] : Fm)) (fun ⟨p67, k67, wc67⟩ => [w56.drew, wc67]) (w56.drew) (fun e ⟨p67, k67, wc67⟩ => hAt [True, (RpD F wc67 p67 k67 (.ok (obs ee.o ++ obs ff.o))) ∧ (Ext [] w56.drew wc67) ∧ True] e) (fun ⟨p67, k67, wc67⟩ w' => [(3, [w'.cell? ⟨F.t, 0, none⟩ = some (.slice F.pb F.L.length F.pc)]), (5, [Ru Try.prog (vS (Instr.indexAt 43 (.slice F.pb F.L.length F.pc) (I6 ↑kk))) ((Po (bof (.slice F.pb F.L.length F.pc)) (0 + kk * 1))) w']), (6, [w'.cell? ⟨bof (.slice F.pb F.L.length F.pc), 0 + kk * 1, none⟩ = some ((Pv ee.b))]), (10, [w'.cell? ⟨F.t, 0, none⟩ = some (.slice F.pb F.L.length F.pc)]), (12, [Ru Try.prog (vS (Instr.indexAt 43 (.slice F.pb F.L.length F.pc) (I6 ↑mm))) ((Po (bof (.slice F.pb F.L.length F.pc)) (0 + mm * 1))) w']), (13, [w'.cell? ⟨bof (.slice F.pb F.L.length F.pc), 0 + mm * 1, none⟩ = some ((Pv ff.b))])]) (undef, 0, w56.drew) [0, 1, 3, 4, 32, 35, 69, 11, 79, 80, 118, 16, 143] [] hS (by kernel_rfl) (by kernel_rfl) (by kernel_rfl) (by kernel_rfl) (fun ⟨p67, k67, wc67⟩ _ => by kernel_rfl) (by kernel_rfl) (by kernel_rfl) (by kernel_rfl) trivial ?_ (by kernel_rfl) ?_ ?_
  ·rintro e ⟨p67, k67, wc67⟩ w' hw hH
   refine (.cons ?_ (.cons ?_ (.cons ?_ (.cons ?_ (.cons ?_ (.cons ?_ .nil))))))
   ·intro h1 h2
    obtain rfl : e = 0 := Nat.le_antisymm h2 h1
    have hwe : w56.drew = w' := (hw.trans (by kernel_rfl)).symm
    subst hwe
    clear hH
    exact (.cons ((hB58.drew : Blk w56.drew F.t 46 (#[.slice F.pb F.L.length F.pc, .slice F.qb F.L.length F.qc, .slice F.bb F.bn F.bn])).cell 0 rfl) .nil)
   ·intro h1 h2
    obtain rfl : e = 0 := Nat.le_antisymm h2 h1
    have hwe : w56.drew = w' := (hw.trans (by kernel_rfl)).symm
    subst hwe
    clear hH
    exact (.cons (ix_own (j := kk) (hB59) (by kernel_rfl) (by kernel_rfl) rfl hkkl) .nil)
   ·intro h1 h2
    obtain rfl : e = 0 := Nat.le_antisymm h2 h1
    have hwe : w56.drew = w' := (hw.trans (by kernel_rfl)).symm
    subst hwe
    clear hH
    exact (.cons ((hB59.drew : OwnV w56.drew 24 1 (.slice F.pb F.L.length F.pc) F.L.length (F.L.map En.bp)).cellAt _ (by simp [hee, En.bp])) .nil)
   ·intro h1 h2
    obtain rfl : e = 0 := Nat.le_antisymm h2 h1
    have hwe : w56.drew = w' := (hw.trans (by kernel_rfl)).symm
    subst hwe
    clear hH
    exact (.cons ((hB58.drew : Blk w56.drew F.t 46 (#[.slice F.pb F.L.length F.pc, .slice F.qb F.L.length F.qc, .slice F.bb F.bn F.bn])).cell 0 rfl) .nil)
   ·intro h1 h2
    obtain rfl : e = 0 := Nat.le_antisymm h2 h1
    have hwe : w56.drew = w' := (hw.trans (by kernel_rfl)).symm
    subst hwe
    clear hH
    exact (.cons (ix_own (j := mm) (hB59) (by kernel_rfl) (by kernel_rfl) rfl hmml) .nil)
   ·intro h1 h2
    obtain rfl : e = 0 := Nat.le_antisymm h2 h1
    have hwe : w56.drew = w' := (hw.trans (by kernel_rfl)).symm
    subst hwe
    clear hH
    exact (.cons ((hB59.drew : OwnV w56.drew 24 1 (.slice F.pb F.L.length F.pc) F.L.length (F.L.map En.bp)).cellAt _ (by simp [hff, En.bp])) .nil)
  ·refine (.cons ?eq68_14 .nil)
   ·rintro ⟨p67, k67, wc67⟩ hH
    clear hH
    refine eff_gh (w56.drew) (by kernel_rfl) ?_
    refine upon_call (f := 18) (vs := [(Pv ee.b), (Pv ff.b)]) (cap := #[]) (d := (some 159)) (by kernel_rfl) Try.call18 #[(Pv ee.b), (Pv ff.b)] (by kernel_rfl) (Cat_X ((hG64.ext0 ((Ext.refl [] _).drew)).i.p ee heem) ((hG64.ext0 ((Ext.refl [] _).drew)).i.p ff hffm) (by omega)) ?_
    rintro _ wc67 ⟨p67, k67, rfl, hD67, hEc67⟩
    exact ⟨_, rfl, ⟨(p67, k67, wc67), by kernel_rfl, by kernel_rfl, by kernel_rfl, ⟨hD67, hEc67, trivial⟩⟩⟩
  rintro ⟨p67, k67, wc67⟩ a w69 hS hw70 hH
  obtain ⟨hD67, hEc67, _⟩ := hH
  replace hw70 : w69 = wc67 := hw70.trans (by kernel_rfl)
  have hB71 := Blk.at' hw70 ((hB58.drew : Blk w56.drew F.t 46 (#[.slice F.pb F.L.length F.pc, .slice F.qb F.L.length F.qc, .slice F.bb F.bn F.bn])).ext hEc67 (by simp))
  have hB73 := OwnV.at' hw70 ((hB60.drew : OwnV w56.drew 52 1 (.slice F.qb F.L.length F.qc) F.L.length (F.L.map En.cp)).ext hEc67 (by simp))
  have hE75 : Ext [] w w69 := by rw [hw70]; exact (hE62.drew).trans0 hEc67
  have hX76 : Ext [] w56 w69 := by rw [hw70]; exact ((Ext.refl _ _).drew).trans0 hEc67
  have hG77 : TB w0 w69 F := hG64.ext0 hX76
  have hG78 : RdV w69 1 v n (bv xs) := hG65.ext0 hX76
  replace hS := hS.kp [(0, (Pv F.t)), (1, .agg #[I6 sk, I6 sr, I6 sa, I6 sb, v]), (3, (Pv w.heap.size)), (4, .bool false), (32, .bool false), (35, .bool false), (69, .bool false), (11, I6 ↑kk), (79, I6 sk), (80, .bool false), (118, .bool true), (16, I6 ↑mm), (143, .bool false), (17, p67), (18, I6 k67)]
  refine hK66 _ _ ?_
  refine sq fun K79 hK79 => ?_
  have hD80 : RpD F w69 p67 k67 (.ok (obs ee.o ++ obs ff.o)) := by rw [hw70]; exact hD67
  refine region_gh2 (G := Value × Int × World) wide_wide [.q .p, .q .p, .q .p, .q (.ld (.slice F.qb F.L.length F.qc)), .q .p, .q (.run ((Po (bof (.slice F.qb F.L.length F.qc)) (0 + kk * 1)))), .q (.ld ((Pv ee.c))), .q .p, .q .p, .q .p, .q (.ld (.slice F.qb F.L.length F.qc)), .q .p, .q (.run ((Po (bof (.slice F.qb F.L.length F.qc)) (0 + mm * 1)))), .q (.ld ((Pv ff.c))), .e, .q .p, .q .p, .q .p, .q .p, .q .p] [0, 0, 0, 0, 0, 0, 0, 0, 0, 0, 0, 0, 0, 0, 0, 1, 1, 1, 1, 1] [0, 0, 0, 0, 0, 0, 0, 0, 0, 0, 0, 0, 0, 0, 0, 1, 1, 1, 1, 1] [0, 1, 3, 7, 0, 31, 63, 0, 128, 384, 896, 0, 3968, 8064, 16383, 32767, 65535, 65535, 131071, 524287] [14] [(14, 0)] 1 (fun ⟨p81, k81, wc81⟩ => ([(0, (Pv F.t)), (1, .agg #[I6 sk, I6 sr, I6 sa, I6 sb, v]), (3, (Pv w.heap.size)), (4, .bool false), (32, .bool false), (35, .bool false), (69, .bool false), (11, I6 ↑kk), (79, I6 sk), (80, .bool false), (118, .bool true), (16, I6 ↑mm), (143, .bool false), (17, p67), (18, I6 k67), (163, (Pv F.t)), (164, (Pv F.t)), (165, (Po F.t 1)), (166, .slice F.qb F.L.length F.qc), (167, I6 ↑kk), (168, (Po (bof (.slice F.qb F.L.length F.qc)) (0 + kk * 1))), (169, (Pv ee.c)), (170, (Pv F.t)), (171, (Pv F.t)), (172, (Po F.t 1)), (173, .slice F.qb F.L.length F.qc), (174, I6 ↑mm), (175, (Po (bof (.slice F.qb F.L.length F.qc)) (0 + mm * 1))), (176, (Pv ff.c)), (177, .tuple #[p81, I6 k81]), (162, .tuple #[p81, I6 k81]), (178, p81), (179, I6 k81), (19, p81), (20, I6 k81)] : Fm)) (fun ⟨p81, k81, wc81⟩ => [w69.drew, wc81]) (w69.drew) (fun e ⟨p81, k81, wc81⟩ => hAt [True, (RfD F wc81 p81 k81 (.ok (obs ee.o ++ obs ff.o))) ∧ (Ext [] w69.drew wc81) ∧ True] e) (fun ⟨p81, k81, wc81⟩ w' => [(3, [w'.cell? ⟨F.t, 1, none⟩ = some (.slice F.qb F.L.length F.qc)]), (5, [Ru Try.prog (vS (Instr.indexAt 44 (.slice F.qb F.L.length F.qc) (I6 ↑kk))) ((Po (bof (.slice F.qb F.L.length F.qc)) (0 + kk * 1))) w']), (6, [w'.cell? ⟨bof (.slice F.qb F.L.length F.qc), 0 + kk * 1, none⟩ = some ((Pv ee.c))]), (10, [w'.cell? ⟨F.t, 1, none⟩ = some (.slice F.qb F.L.length F.qc)]), (12, [Ru Try.prog (vS (Instr.indexAt 44 (.slice F.qb F.L.length F.qc) (I6 ↑mm))) ((Po (bof (.slice F.qb F.L.length F.qc)) (0 + mm * 1))) w']), (13, [w'.cell? ⟨bof (.slice F.qb F.L.length F.qc), 0 + mm * 1, none⟩ = some ((Pv ff.c))])]) (undef, 0, w69.drew) [0, 1, 3, 4, 32, 35, 69, 11, 79, 80, 118, 16, 143, 17, 18] [] hS (by kernel_rfl) (by kernel_rfl) (by kernel_rfl) (by kernel_rfl) (fun ⟨p81, k81, wc81⟩ _ => by kernel_rfl) (by kernel_rfl) (by kernel_rfl) (by kernel_rfl) trivial ?_ (by kernel_rfl) ?_ ?_
  ·rintro e ⟨p81, k81, wc81⟩ w' hw hH
   refine (.cons ?_ (.cons ?_ (.cons ?_ (.cons ?_ (.cons ?_ (.cons ?_ .nil))))))
   ·intro h1 h2
    obtain rfl : e = 0 := Nat.le_antisymm h2 h1
    have hwe : w69.drew = w' := (hw.trans (by kernel_rfl)).symm
    subst hwe
    clear hH
    exact (.cons ((hB71.drew : Blk w69.drew F.t 46 (#[.slice F.pb F.L.length F.pc, .slice F.qb F.L.length F.qc, .slice F.bb F.bn F.bn])).cell 1 rfl) .nil)
   ·intro h1 h2
    obtain rfl : e = 0 := Nat.le_antisymm h2 h1
    have hwe : w69.drew = w' := (hw.trans (by kernel_rfl)).symm
    subst hwe
    clear hH
    exact (.cons (ix_own (j := kk) (hB73) (by kernel_rfl) (by kernel_rfl) rfl hkkl) .nil)
   ·intro h1 h2
    obtain rfl : e = 0 := Nat.le_antisymm h2 h1
    have hwe : w69.drew = w' := (hw.trans (by kernel_rfl)).symm
    subst hwe
    clear hH
    exact (.cons ((hB73.drew : OwnV w69.drew 52 1 (.slice F.qb F.L.length F.qc) F.L.length (F.L.map En.cp)).cellAt _ (by simp [hee, En.cp])) .nil)
   ·intro h1 h2
    obtain rfl : e = 0 := Nat.le_antisymm h2 h1
    have hwe : w69.drew = w' := (hw.trans (by kernel_rfl)).symm
    subst hwe
    clear hH
    exact (.cons ((hB71.drew : Blk w69.drew F.t 46 (#[.slice F.pb F.L.length F.pc, .slice F.qb F.L.length F.qc, .slice F.bb F.bn F.bn])).cell 1 rfl) .nil)
   ·intro h1 h2
    obtain rfl : e = 0 := Nat.le_antisymm h2 h1
    have hwe : w69.drew = w' := (hw.trans (by kernel_rfl)).symm
    subst hwe
    clear hH
    exact (.cons (ix_own (j := mm) (hB73) (by kernel_rfl) (by kernel_rfl) rfl hmml) .nil)
   ·intro h1 h2
    obtain rfl : e = 0 := Nat.le_antisymm h2 h1
    have hwe : w69.drew = w' := (hw.trans (by kernel_rfl)).symm
    subst hwe
    clear hH
    exact (.cons ((hB73.drew : OwnV w69.drew 52 1 (.slice F.qb F.L.length F.qc) F.L.length (F.L.map En.cp)).cellAt _ (by simp [hff, En.cp])) .nil)
  ·refine (.cons ?eq82_14 .nil)
   ·rintro ⟨p81, k81, wc81⟩ hH
    clear hH
    refine eff_gh (w69.drew) (by kernel_rfl) ?_
    refine upon_call (f := 63) (vs := [(Pv ee.c), (Pv ff.c)]) (cap := #[]) (d := (some 177)) (by kernel_rfl) Try.call63 #[(Pv ee.c), (Pv ff.c)] (by kernel_rfl) (rCat_X (hG77.ext0 ((Ext.refl [] _).drew)).i ((hG77.ext0 ((Ext.refl [] _).drew)).i.q ee heem) ((hG77.ext0 ((Ext.refl [] _).drew)).i.q ff hffm) (by omega)) ?_
    rintro _ wc81 ⟨p81, k81, rfl, hD81, hEc81⟩
    exact ⟨_, rfl, ⟨(p81, k81, wc81), by kernel_rfl, by kernel_rfl, by kernel_rfl, ⟨hD81, hEc81, trivial⟩⟩⟩
  rintro ⟨p81, k81, wc81⟩ a w83 hS hw84 hH
  obtain ⟨hD81, hEc81, _⟩ := hH
  replace hw84 : w83 = wc81 := hw84.trans (by kernel_rfl)
  have hE89 : Ext [] w w83 := by rw [hw84]; exact (hE75.drew).trans0 hEc81
  have hX90 : Ext [] w69 w83 := by rw [hw84]; exact ((Ext.refl _ _).drew).trans0 hEc81
  have hG91 : TB w0 w83 F := hG77.ext0 hX90
  have hG92 : RdV w83 1 v n (bv xs) := hG78.ext0 hX90
  have hG93 : RpD F w83 p67 k67 (.ok (obs ee.o ++ obs ff.o)) := hD80.ext0 hX90
  replace hS := hS.kp [(0, (Pv F.t)), (1, .agg #[I6 sk, I6 sr, I6 sa, I6 sb, v]), (3, (Pv w.heap.size)), (4, .bool false), (32, .bool false), (35, .bool false), (69, .bool false), (11, I6 ↑kk), (79, I6 sk), (80, .bool false), (118, .bool true), (16, I6 ↑mm), (143, .bool false), (17, p67), (18, I6 k67), (19, p81), (20, I6 k81)]
  refine hK79 _ _ ?_
  refine sq fun K94 hK94 => ?_
  have hD95 : RfD F w83 p81 k81 (.ok (obs ee.o ++ obs ff.o)) := by rw [hw84]; exact hD81
  refine rgn 7 ?_
  refine sg wide_wide [.p, .p, .p, .p, .p] [] [(0, (Pv F.t)), (1, .agg #[I6 sk, I6 sr, I6 sa, I6 sb, v]), (3, (Pv w.heap.size)), (4, .bool false), (32, .bool false), (35, .bool false), (69, .bool false), (11, I6 ↑kk), (79, I6 sk), (80, .bool false), (118, .bool true), (16, I6 ↑mm), (143, .bool false), (17, p67), (18, I6 k67), (19, p81), (20, I6 k81), (180, (Pv F.t)), (181, p67), (182, I6 k67), (183, p81), (184, I6 k81)] 5 2 hS .nil fun a hS => ?_
  refine eff_call wide_wide (r := 1) (f := 60) (vs := [(Pv F.t), p67, I6 k67, p81, I6 k81]) (cap := #[]) (d := (some 185)) hS (by kernel_rfl) Try.call60 #[(Pv F.t), p67, I6 k67, p81, I6 k81] (by kernel_rfl) (add_T (F := F) hG91.i (by first | exact hl | (simp only [Ta.buf]; exact hl)) hG93 hD95) ?_
  rintro _ wz96 ⟨rfl, F9, hS96, hlen9⟩
  refine ⟨_, rfl, fun a hS => ?_⟩
  have hEr96 : Ext [] wz96 wz96 := Ext.refl _ _
  refine sg wide_wide [.p] [] [(0, (Pv F.t)), (1, .agg #[I6 sk, I6 sr, I6 sa, I6 sb, v]), (3, (Pv w.heap.size)), (4, .bool true), (32, .bool false), (35, .bool false), (69, .bool false), (11, I6 ↑kk), (79, I6 sk), (80, .bool false), (118, .bool true), (16, I6 ↑mm), (143, .bool false), (17, p67), (18, I6 k67), (19, p81), (20, I6 k81)] 7 0 hS .nil fun a hS => ?_
  refine seg_end ?_
  refine hK94 _ _ ?_
  refine wpIn_ret ?_
  refine inBlock_ret ?_
  refine then_ret ?_
  refine ret1 hS Try.results45 rfl ?_
  exact ⟨rfl, _, (hS96.pre hE89).trans0 hEr96⟩
 ·
  refine region_gh2 (G := World) wide_wide [.q .p, .q .p, .q .p, .q (.ld (.slice F.qb F.L.length F.qc)), .q .p, .q (.run ((Po (bof (.slice F.qb F.L.length F.qc)) (0 + kk * 1)))), .q (.ld ((Pv ee.c))), .q .p, .q .p, .q .p, .q (.ld (.slice F.qb F.L.length F.qc)), .q .p, .q (.run ((Po (bof (.slice F.qb F.L.length F.qc)) (0 + mm * 1)))), .q (.ld ((Pv ff.c))), .e, .q .p] [0, 0, 0, 0, 0, 0, 0, 0, 0, 0, 0, 0, 0, 0, 0, 1] [0, 0, 0, 0, 0, 0, 0, 0, 0, 0, 0, 0, 0, 0, 0, 1] [0, 1, 3, 7, 0, 31, 63, 0, 128, 384, 896, 0, 3968, 8064, 16383, 32767] [14] [(14, 0)] 1 (fun wc97 => ([(0, (Pv F.t)), (1, .agg #[I6 sk, I6 sr, I6 sa, I6 sb, v]), (3, (Pv w.heap.size)), (4, .bool false), (32, .bool false), (35, .bool false), (69, .bool false), (11, I6 ↑kk), (79, I6 sk), (80, .bool false), (118, .bool true), (16, I6 ↑mm), (128, (Pv F.t)), (129, (Pv F.t)), (130, (Po F.t 1)), (131, .slice F.qb F.L.length F.qc), (132, I6 ↑kk), (133, (Po (bof (.slice F.qb F.L.length F.qc)) (0 + kk * 1))), (134, (Pv ee.c)), (135, (Pv F.t)), (136, (Pv F.t)), (137, (Po F.t 1)), (138, .slice F.qb F.L.length F.qc), (139, I6 ↑mm), (140, (Po (bof (.slice F.qb F.L.length F.qc)) (0 + mm * 1))), (141, (Pv ff.c)), (142, .bool false), (143, .bool true)] : Fm)) (fun wc97 => [w42.drew, wc97]) (w42.drew) (fun e wc97 => hAt [True, (Ext [] w42.drew wc97) ∧ True] e) (fun wc97 w' => [(3, [w'.cell? ⟨F.t, 1, none⟩ = some (.slice F.qb F.L.length F.qc)]), (5, [Ru Try.prog (vS (Instr.indexAt 44 (.slice F.qb F.L.length F.qc) (I6 ↑kk))) ((Po (bof (.slice F.qb F.L.length F.qc)) (0 + kk * 1))) w']), (6, [w'.cell? ⟨bof (.slice F.qb F.L.length F.qc), 0 + kk * 1, none⟩ = some ((Pv ee.c))]), (10, [w'.cell? ⟨F.t, 1, none⟩ = some (.slice F.qb F.L.length F.qc)]), (12, [Ru Try.prog (vS (Instr.indexAt 44 (.slice F.qb F.L.length F.qc) (I6 ↑mm))) ((Po (bof (.slice F.qb F.L.length F.qc)) (0 + mm * 1))) w']), (13, [w'.cell? ⟨bof (.slice F.qb F.L.length F.qc), 0 + mm * 1, none⟩ = some ((Pv ff.c))])]) w42.drew [0, 1, 3, 4, 32, 35, 69, 11, 79, 80, 118, 16] [] hS (by kernel_rfl) (by kernel_rfl) (by kernel_rfl) (by kernel_rfl) (fun wc97 _ => by kernel_rfl) (by kernel_rfl) (by kernel_rfl) (by kernel_rfl) trivial ?_ (by kernel_rfl) ?_ ?_
  ·rintro e wc97 w' hw hH
   refine (.cons ?_ (.cons ?_ (.cons ?_ (.cons ?_ (.cons ?_ (.cons ?_ .nil))))))
   ·intro h1 h2
    obtain rfl : e = 0 := Nat.le_antisymm h2 h1
    have hwe : w42.drew = w' := (hw.trans (by kernel_rfl)).symm
    subst hwe
    clear hH
    exact (.cons ((hB44.drew : Blk w42.drew F.t 46 (#[.slice F.pb F.L.length F.pc, .slice F.qb F.L.length F.qc, .slice F.bb F.bn F.bn])).cell 1 rfl) .nil)
   ·intro h1 h2
    obtain rfl : e = 0 := Nat.le_antisymm h2 h1
    have hwe : w42.drew = w' := (hw.trans (by kernel_rfl)).symm
    subst hwe
    clear hH
    exact (.cons (ix_own (j := kk) (hB46) (by kernel_rfl) (by kernel_rfl) rfl hkkl) .nil)
   ·intro h1 h2
    obtain rfl : e = 0 := Nat.le_antisymm h2 h1
    have hwe : w42.drew = w' := (hw.trans (by kernel_rfl)).symm
    subst hwe
    clear hH
    exact (.cons ((hB46.drew : OwnV w42.drew 52 1 (.slice F.qb F.L.length F.qc) F.L.length (F.L.map En.cp)).cellAt _ (by simp [hee, En.cp])) .nil)
   ·intro h1 h2
    obtain rfl : e = 0 := Nat.le_antisymm h2 h1
    have hwe : w42.drew = w' := (hw.trans (by kernel_rfl)).symm
    subst hwe
    clear hH
    exact (.cons ((hB44.drew : Blk w42.drew F.t 46 (#[.slice F.pb F.L.length F.pc, .slice F.qb F.L.length F.qc, .slice F.bb F.bn F.bn])).cell 1 rfl) .nil)
   ·intro h1 h2
    obtain rfl : e = 0 := Nat.le_antisymm h2 h1
    have hwe : w42.drew = w' := (hw.trans (by kernel_rfl)).symm
    subst hwe
    clear hH
    exact (.cons (ix_own (j := mm) (hB46) (by kernel_rfl) (by kernel_rfl) rfl hmml) .nil)
   ·intro h1 h2
    obtain rfl : e = 0 := Nat.le_antisymm h2 h1
    have hwe : w42.drew = w' := (hw.trans (by kernel_rfl)).symm
    subst hwe
    clear hH
    exact (.cons ((hB46.drew : OwnV w42.drew 52 1 (.slice F.qb F.L.length F.qc) F.L.length (F.L.map En.cp)).cellAt _ (by simp [hff, En.cp])) .nil)
  ·refine (.cons ?eq98_14 .nil)
   ·rintro wc97 hH
    clear hH
    refine eff_gh (w42.drew) (by kernel_rfl) ?_
    refine upon_call (f := 62) (vs := [(Pv ee.c), (Pv ff.c)]) (cap := #[]) (d := (some 142)) (by kernel_rfl) Try.call62 #[(Pv ee.c), (Pv ff.c)] (by kernel_rfl) (small_xf ((hG50.ext0 ((Ext.refl [] _).drew)).i.q ee heem) ((hG50.ext0 ((Ext.refl [] _).drew)).i.q ff hffm) hsm) ?_
    rintro _ wc97 ⟨rfl, hEc97⟩
    exact ⟨_, rfl, ⟨wc97, by kernel_rfl, by kernel_rfl, by kernel_rfl, ⟨hEc97, trivial⟩⟩⟩
  rintro wc97 a w99 hS hw100 hH
  obtain ⟨hEc97, _⟩ := hH
  replace hw100 : w99 = wc97 := hw100.trans (by kernel_rfl)
  have hE105 : Ext [] w w99 := by rw [hw100]; exact (hE48.drew).trans0 hEc97
  have hX106 : Ext [] w42 w99 := by rw [hw100]; exact ((Ext.refl _ _).drew).trans0 hEc97
  have hG107 : TB w0 w99 F := hG50.ext0 hX106
  have hG108 : RdV w99 1 v n (bv xs) := hG51.ext0 hX106
  replace hS := hS.kp [(0, (Pv F.t)), (1, .agg #[I6 sk, I6 sr, I6 sa, I6 sb, v]), (3, (Pv w.heap.size)), (4, .bool false), (32, .bool false), (35, .bool false), (69, .bool false), (11, I6 ↑kk), (79, I6 sk), (80, .bool false), (118, .bool true), (16, I6 ↑mm), (143, .bool true)]
  refine hK53 _ _ ?_
  refine cond_t hS rfl ?_
  refine sq fun K109 hK109 => ?_
  refine rgn 1 ?_
  refine sg wide_wide [.p] [] [(0, (Pv F.t)), (1, .agg #[I6 sk, I6 sr, I6 sa, I6 sb, v]), (3, (Pv w.heap.size)), (4, .bool true), (32, .bool false), (35, .bool false), (69, .bool false), (11, I6 ↑kk), (79, I6 sk), (80, .bool false), (118, .bool true), (16, I6 ↑mm), (143, .bool true)] 1 0 hS .nil fun a hS => ?_
  refine seg_end ?_
  refine hK109 _ _ ?_
  refine wpIn_ret ?_
  refine then_ret ?_
  refine inBlock_ret ?_
  refine then_ret ?_
  refine ret1 hS Try.results45 rfl ?_
  exact ⟨rfl, F, (TS.refl hT.i).trans0 hE105⟩

theorem make1_spl {w0 w : World} {F : Ta} (hT : TB w0 w F) {sk sr sa sb : Int} {v : Value} {n : Nat} {xs : List Int} (hv0 : RdV w0 1 v n (bv xs)) (hB : BR xs) (hn : n ≤ 10000000000) (hl : F.L.length < 300) (h0 : F.L.length ≠ 0) (h1 : sk ≠ 1) (h2 : sk ≠ 2) (h3 : sk ≠ 3) :
  Calls Try.prog 45 #[(Pv F.t), .agg #[I6 sk, I6 sr, I6 sa, I6 sb, v]] w fun e w' => e = .returned (.bool true) ∧ ∃ F', TS w F w' F' := by
 have hv := hT.rd hv0
 have hxl : xs.length = n := by have := hv.len; simpa using this
 have hln := hT.i.ln
 obtain ⟨kk, hkk, hkkl⟩ : ∃ kk : Nat, rnd sr (F.L.length : Int) = ↑kk ∧ kk < F.L.length := by
  have h := rnd_bd sr (n := (F.L.length : Int)) (by omega)
  exact ⟨(rnd sr F.L.length).toNat, by omega, by omega⟩
 obtain ⟨ee, hee⟩ : ∃ ee, F.L[kk]? = some ee := ⟨_, List.getElem?_eq_getElem hkkl⟩
 have heem : ee ∈ F.L := List.mem_of_getElem? hee
 refine calls_body 236 [(0, (Pv F.t)), (1, .agg #[I6 sk, I6 sr, I6 sa, I6 sb, v])] Try.func45 rfl (by kernel_rfl) (by kernel_rfl) (by kernel_rfl) fun a hS => ?_
 have hE0 : Ext [] w w := Ext.refl _ _
 refine sq fun K1 hK1 => ?_
 refine rgn 2 ?_
 refine eff_box wide_wide (r := 1) (cs := #[I6 sk, I6 sr, I6 sa, I6 sb, v]) (T := 49) (d := (some 3)) hS (by kernel_rfl) fun a w2 hw3 hS => ?_
 have hB7 := Blk.at' hw3 (hT.i.f.alloc _)
 have hX10 : Ext [] w w2 := by rw [hw3]; exact (Ext.refl _ _).alloc _
 have hG11 : TB w0 w2 F := hT.ext0 hX10
 have hG12 : RdV w2 1 v n (bv xs) := hv.ext0 hX10
 have hB13 : Blk w2 (w.heap.size) 49 #[I6 sk, I6 sr, I6 sa, I6 sb, v] := by rw [hw3]; exact Blk.new _ _ _
 have hs14 : w.heap.size ≤ w.heap.size := hE0.size
 have hE15 : Ext [] w w2 := by rw [hw3]; exact hE0.alloc _
 refine sg wide_wide [.p] [] [(0, (Pv F.t)), (1, .agg #[I6 sk, I6 sr, I6 sa, I6 sb, v]), (3, (Pv w.heap.size)), (4, .bool false)] 2 0 hS .nil fun a hS => ?_
 refine seg_end ?_
 refine hK1 _ _ ?_
 refine sq fun K16 hK16 => ?_
 refine sq fun K17 hK17 => ?_
 refine rgn 6 ?_
 refine sg wide_wide [.p, .p, .p, .ld (.slice F.pb F.L.length F.pc), .p, .as (.bool false)] [w2.cell? ⟨F.t, 0, none⟩ = some (.slice F.pb F.L.length F.pc), Value.bool (decide ((↑F.L.length : Int) ≥ 300)) = .bool false] [(0, (Pv F.t)), (1, .agg #[I6 sk, I6 sr, I6 sa, I6 sb, v]), (3, (Pv w.heap.size)), (4, .bool false), (32, .bool false)] 6 0 hS (.cons (hB7.cell 0 rfl) (.cons (as_f (by omega)) .nil)) fun a hS => ?_
 refine seg_end ?_
 refine hK17 _ _ ?_
 refine cond_f hS rfl ?_
 refine wpIn_skip ?_
 refine hK16 _ _ ?_
 refine sq fun K18 hK18 => ?_
 refine sq fun K19 hK19 => ?_
 refine rgn 3 ?_
 refine sg wide_wide [.p, .ld (I6 sk), .as (.bool false)] [w2.cell? ⟨w.heap.size, 0, none⟩ = some (I6 sk), Value.bool (((sk : Int) == 1)) = .bool false] [(0, (Pv F.t)), (1, .agg #[I6 sk, I6 sr, I6 sa, I6 sb, v]), (3, (Pv w.heap.size)), (4, .bool false), (32, .bool false), (35, .bool false)] 3 0 hS (.cons (hB13.cell 0 rfl) (.cons (as_eq_f (by omega)) .nil)) fun a hS => ?_
 refine seg_end ?_
 refine hK19 _ _ ?_
 refine cond_f hS rfl ?_
 refine wpIn_skip ?_
 refine hK18 _ _ ?_
 refine sq fun K20 hK20 => ?_
 refine sq fun K21 hK21 => ?_
 refine rgn 6 ?_
 refine sg wide_wide [.p, .p, .p, .ld (.slice F.pb F.L.length F.pc), .p, .as (.bool false)] [w2.cell? ⟨F.t, 0, none⟩ = some (.slice F.pb F.L.length F.pc), Value.bool (((↑F.L.length : Int) == 0)) = .bool false] [(0, (Pv F.t)), (1, .agg #[I6 sk, I6 sr, I6 sa, I6 sb, v]), (3, (Pv w.heap.size)), (4, .bool false), (32, .bool false), (35, .bool false), (69, .bool false)] 6 0 hS (.cons (hB7.cell 0 rfl) (.cons (as_eq_f (by omega)) .nil)) fun a hS => ?_
 refine seg_end ?_
 refine hK21 _ _ ?_
 refine cond_f hS rfl ?_
 refine wpIn_skip ?_
 refine hK20 _ _ ?_
 refine sq fun K22 hK22 => ?_
 refine region_gh2 (G := World) wide_wide [.q .p, .q (.ld (I6 sr)), .q .p, .q .p, .q .p, .q (.ld (.slice F.pb F.L.length F.pc)), .q .p, .e, .q .p] [0, 0, 0, 0, 0, 0, 0, 0, 1] [0, 0, 0, 0, 0, 0, 0, 0, 1] [0, 1, 0, 4, 12, 28, 60, 127, 255] [7] [(7, 0)] 1 (fun wc23 => ([(0, (Pv F.t)), (1, .agg #[I6 sk, I6 sr, I6 sa, I6 sb, v]), (3, (Pv w.heap.size)), (4, .bool false), (32, .bool false), (35, .bool false), (69, .bool false), (70, (Po w.heap.size 1)), (71, I6 sr), (72, (Pv F.t)), (73, (Pv F.t)), (74, (Pv F.t)), (75, .slice F.pb F.L.length F.pc), (76, I6 ↑F.L.length), (77, I6 ↑kk), (11, I6 ↑kk)] : Fm)) (fun wc23 => [w2.drew, wc23]) (w2.drew) (fun e wc23 => hAt [True, (Ext [] w2.drew wc23) ∧ True] e) (fun wc23 w' => [(1, [w'.cell? ⟨w.heap.size, 1, none⟩ = some (I6 sr)]), (5, [w'.cell? ⟨F.t, 0, none⟩ = some (.slice F.pb F.L.length F.pc)])]) w2.drew [0, 1, 3, 4, 32, 35, 69] [] hS (by kernel_rfl) (by kernel_rfl) (by kernel_rfl) (by kernel_rfl) (fun wc23 _ => by kernel_rfl) (by kernel_rfl) (by kernel_rfl) (by kernel_rfl) trivial ?_ (by kernel_rfl) ?_ ?_
 ·rintro e wc23 w' hw hH
  refine (.cons ?_ (.cons ?_ .nil))
  ·intro h1 h2
   obtain rfl : e = 0 := Nat.le_antisymm h2 h1
   have hwe : w2.drew = w' := (hw.trans (by kernel_rfl)).symm
   subst hwe
   clear hH
   exact (.cons ((hB13.drew : Blk w2.drew w.heap.size 49 (#[I6 sk, I6 sr, I6 sa, I6 sb, v])).cell 1 rfl) .nil)
  ·intro h1 h2
   obtain rfl : e = 0 := Nat.le_antisymm h2 h1
   have hwe : w2.drew = w' := (hw.trans (by kernel_rfl)).symm
   subst hwe
   clear hH
   exact (.cons ((hB7.drew : Blk w2.drew F.t 46 (#[.slice F.pb F.L.length F.pc, .slice F.qb F.L.length F.qc, .slice F.bb F.bn F.bn])).cell 0 rfl) .nil)
 ·refine (.cons ?eq24_7 .nil)
  ·rintro wc23 hH
   clear hH
   refine eff_gh (w2.drew) (by kernel_rfl) ?_
   refine upon_call (f := 21) (vs := [I6 sr, I6 ↑F.L.length]) (cap := #[]) (d := (some 77)) (by kernel_rfl) Try.call21 #[I6 sr, I6 ↑F.L.length] (by kernel_rfl) (Round_x (k := sr) (N := F.L.length) (by omega) hkk) ?_
   rintro _ wc23 ⟨rfl, hEc23⟩
   exact ⟨_, rfl, ⟨wc23, by kernel_rfl, by kernel_rfl, by kernel_rfl, ⟨hEc23, trivial⟩⟩⟩
 rintro wc23 a w25 hS hw26 hH
 obtain ⟨hEc23, _⟩ := hH
 replace hw26 : w25 = wc23 := hw26.trans (by kernel_rfl)
 have hB30 := Blk.at' hw26 ((hB13.drew : Blk w2.drew w.heap.size 49 (#[I6 sk, I6 sr, I6 sa, I6 sb, v])).ext hEc23 (by simp))
 have hE31 : Ext [] w w25 := by rw [hw26]; exact (hE15.drew).trans0 hEc23
 have hX32 : Ext [] w2 w25 := by rw [hw26]; exact ((Ext.refl _ _).drew).trans0 hEc23
 have hG33 : TB w0 w25 F := hG11.ext0 hX32
 have hG34 : RdV w25 1 v n (bv xs) := hG12.ext0 hX32
 replace hS := hS.kp [(0, (Pv F.t)), (1, .agg #[I6 sk, I6 sr, I6 sa, I6 sb, v]), (3, (Pv w.heap.size)), (4, .bool false), (32, .bool false), (35, .bool false), (69, .bool false), (11, I6 ↑kk)]
 refine hK22 _ _ ?_
 refine sq fun K35 hK35 => ?_
 refine sq fun K36 hK36 => ?_
 refine rgn 2 ?_
 refine sg wide_wide [.p, .ld (I6 sk)] [w25.cell? ⟨w.heap.size, 0, none⟩ = some (I6 sk)] [(0, (Pv F.t)), (1, .agg #[I6 sk, I6 sr, I6 sa, I6 sb, v]), (3, (Pv w.heap.size)), (4, .bool false), (32, .bool false), (35, .bool false), (69, .bool false), (11, I6 ↑kk), (79, I6 sk)] 2 0 hS (.cons (hB30.cell 0 rfl) .nil) fun a hS => ?_
 refine seg_end ?_
 refine hK36 _ _ ?_
 refine wpIn_block ?_
 refine sq fun K37 hK37 => ?_
 refine rgn 2 ?_
 refine sg wide_wide [.as (.bool false), .p] [Value.bool (((sk : Int) == 2)) = .bool false] [(0, (Pv F.t)), (1, .agg #[I6 sk, I6 sr, I6 sa, I6 sb, v]), (3, (Pv w.heap.size)), (4, .bool false), (32, .bool false), (35, .bool false), (69, .bool false), (11, I6 ↑kk), (79, I6 sk), (80, .bool false)] 2 0 hS (.cons (as_eq_f (by omega)) .nil) fun a hS => ?_
 refine seg_end ?_
 refine hK37 _ _ ?_
 refine cond_f hS rfl ?_
 refine sq fun K38 hK38 => ?_
 refine rgn 2 ?_
 refine sg wide_wide [.as (.bool false), .p] [Value.bool (((sk : Int) == 3)) = .bool false] [(0, (Pv F.t)), (1, .agg #[I6 sk, I6 sr, I6 sa, I6 sb, v]), (3, (Pv w.heap.size)), (4, .bool false), (32, .bool false), (35, .bool false), (69, .bool false), (11, I6 ↑kk), (79, I6 sk), (80, .bool false), (118, .bool false)] 2 0 hS (.cons (as_eq_f (by omega)) .nil) fun a hS => ?_
 refine seg_end ?_
 refine hK38 _ _ ?_
 refine cond_f hS rfl ?_
 refine wpIn_skip ?_
 refine inBlock_normal ?_
 refine hK35 _ _ ?_
 refine sq fun K39 hK39 => ?_
 refine rgn 5 ?_
 refine sg wide_wide [.p, .p, .ld (v)] [w25.cell? ⟨w.heap.size, 4, none⟩ = some (v)] [(0, (Pv F.t)), (1, .agg #[I6 sk, I6 sr, I6 sa, I6 sb, v]), (3, (Pv w.heap.size)), (4, .bool false), (32, .bool false), (35, .bool false), (69, .bool false), (11, I6 ↑kk), (79, I6 sk), (80, .bool false), (118, .bool false), (186, (Pv F.t)), (188, v)] 3 2 hS (.cons (hB30.cell 4 rfl) .nil) fun a hS => ?_
 refine eff_call wide_wide (r := 1) (f := 57) (vs := [(Pv F.t), v]) (cap := #[]) (d := (some 189)) hS (by kernel_rfl) Try.call57 #[(Pv F.t), v] (by kernel_rfl) (lend_T hG33 hv0 hn) ?_
 rintro _ wl40 ⟨g, m, rfl, hS40, hO40⟩
 refine ⟨_, rfl, fun a hS => ?_⟩
 have hB41 := (hB30 : Blk w25 w.heap.size 49 (#[I6 sk, I6 sr, I6 sa, I6 sb, v])).ext hS40.e (hG33.i.nin hB30 (by decide))
 have hEr40 : Ext [] wl40 wl40 := Ext.refl _ _
 have hT40 := hG33.ts hS40
 have hv40 := hT40.rd hv0
 refine sg wide_wide [.p] [] [(0, (Pv F.t)), (1, .agg #[I6 sk, I6 sr, I6 sa, I6 sb, v]), (3, (Pv w.heap.size)), (4, .bool false), (32, .bool false), (35, .bool false), (69, .bool false), (11, I6 ↑kk), (79, I6 sk), (80, .bool false), (118, .bool false), (21, .slice (some ⟨g, 0, none⟩) n m)] 5 0 hS .nil fun a hS => ?_
 refine seg_end ?_
 refine hK39 _ _ ?_
 refine sq fun K42 hK42 => ?_
 refine region_gh2 (G := Value × Int × World) wide_wide [.q .p, .q .p, .q .p, .q (.ld (.slice F.pb F.L.length F.pc)), .q .p, .q (.run ((Po (bof (.slice F.pb F.L.length F.pc)) (0 + kk * 1)))), .q (.ld ((Pv ee.b))), .q .p, .q (.ld (I6 sa)), .q .p, .q (.ld (I6 sb)), .q .p, .e, .q .p, .q .p, .q .p, .q .p, .q .p] [0, 0, 0, 0, 0, 0, 0, 0, 0, 0, 0, 0, 0, 1, 1, 1, 1, 1] [0, 0, 0, 0, 0, 0, 0, 0, 0, 0, 0, 0, 0, 1, 1, 1, 1, 1] [0, 1, 3, 7, 0, 31, 63, 0, 128, 0, 512, 0, 4095, 8191, 16383, 16383, 32767, 131071] [12] [(12, 0)] 1 (fun ⟨p43, k43, wc43⟩ => ([(0, (Pv F.t)), (1, .agg #[I6 sk, I6 sr, I6 sa, I6 sb, v]), (3, (Pv w.heap.size)), (4, .bool false), (32, .bool false), (35, .bool false), (69, .bool false), (11, I6 ↑kk), (79, I6 sk), (80, .bool false), (118, .bool false), (21, .slice (some ⟨g, 0, none⟩) n m), (191, (Pv F.t)), (192, (Pv F.t)), (193, (Pv F.t)), (194, .slice F.pb F.L.length F.pc), (195, I6 ↑kk), (196, (Po (bof (.slice F.pb F.L.length F.pc)) (0 + kk * 1))), (197, (Pv ee.b)), (198, (Po w.heap.size 2)), (199, I6 sa), (200, (Po w.heap.size 3)), (201, I6 sb), (202, .slice (some ⟨g, 0, none⟩) n m), (203, .tuple #[p43, I6 k43]), (190, .tuple #[p43, I6 k43]), (204, p43), (205, I6 k43), (22, p43), (23, I6 k43)] : Fm)) (fun ⟨p43, k43, wc43⟩ => [wl40.drew, wc43]) (wl40.drew) (fun e ⟨p43, k43, wc43⟩ => hAt [True, (RpD (F.buf g m) wc43 p43 k43 (splS (obs ee.o) sa sb xs)) ∧ (Ext [] wl40.drew wc43) ∧ True] e) (fun ⟨p43, k43, wc43⟩ w' => [(3, [w'.cell? ⟨F.t, 0, none⟩ = some (.slice F.pb F.L.length F.pc)]), (5, [Ru Try.prog (vS (Instr.indexAt 43 (.slice F.pb F.L.length F.pc) (I6 ↑kk))) ((Po (bof (.slice F.pb F.L.length F.pc)) (0 + kk * 1))) w']), (6, [w'.cell? ⟨bof (.slice F.pb F.L.length F.pc), 0 + kk * 1, none⟩ = some ((Pv ee.b))]), (8, [w'.cell? ⟨w.heap.size, 2, none⟩ = some (I6 sa)]), (10, [w'.cell? ⟨w.heap.size, 3, none⟩ = some (I6 sb)])]) (undef, 0, wl40.drew) [0, 1, 3, 4, 32, 35, 69, 11, 79, 80, 118, 21] [] hS (by kernel_rfl) (by kernel_rfl) (by kernel_rfl) (by kernel_rfl) (fun ⟨p43, k43, wc43⟩ _ => by kernel_rfl) (by kernel_rfl) (by kernel_rfl) (by kernel_rfl) trivial ?_ (by kernel_rfl) ?_ ?_
 ·rintro e ⟨p43, k43, wc43⟩ w' hw hH
  refine (.cons ?_ (.cons ?_ (.cons ?_ (.cons ?_ (.cons ?_ .nil)))))
  ·intro h1 h2
   obtain rfl : e = 0 := Nat.le_antisymm h2 h1
   have hwe : wl40.drew = w' := (hw.trans (by kernel_rfl)).symm
   subst hwe
   clear hH
   exact (.cons ((hT40.i.f.drew : Blk wl40.drew F.t 46 (#[.slice F.pb F.L.length F.pc, .slice F.qb F.L.length F.qc, .slice (some ⟨g, 0, none⟩) m m])).cell 0 rfl) .nil)
  ·intro h1 h2
   obtain rfl : e = 0 := Nat.le_antisymm h2 h1
   have hwe : wl40.drew = w' := (hw.trans (by kernel_rfl)).symm
   subst hwe
   clear hH
   exact (.cons (ix_own (j := kk) (hT40.i.P) (by kernel_rfl) (by kernel_rfl) rfl hkkl) .nil)
  ·intro h1 h2
   obtain rfl : e = 0 := Nat.le_antisymm h2 h1
   have hwe : wl40.drew = w' := (hw.trans (by kernel_rfl)).symm
   subst hwe
   clear hH
   exact (.cons ((hT40.i.P.drew : OwnV wl40.drew 24 1 (.slice F.pb F.L.length F.pc) F.L.length (F.L.map En.bp)).cellAt _ (by simp [hee, En.bp])) .nil)
  ·intro h1 h2
   obtain rfl : e = 0 := Nat.le_antisymm h2 h1
   have hwe : wl40.drew = w' := (hw.trans (by kernel_rfl)).symm
   subst hwe
   clear hH
   exact (.cons ((hB41.drew : Blk wl40.drew w.heap.size 49 (#[I6 sk, I6 sr, I6 sa, I6 sb, v])).cell 2 rfl) .nil)
  ·intro h1 h2
   obtain rfl : e = 0 := Nat.le_antisymm h2 h1
   have hwe : wl40.drew = w' := (hw.trans (by kernel_rfl)).symm
   subst hwe
   clear hH
   exact (.cons ((hB41.drew : Blk wl40.drew w.heap.size 49 (#[I6 sk, I6 sr, I6 sa, I6 sb, v])).cell 3 rfl) .nil)
 ·refine (.cons ?eq44_12 .nil)
  ·rintro ⟨p43, k43, wc43⟩ hH
   clear hH
   refine eff_gh (wl40.drew) (by kernel_rfl) ?_
   refine upon_call (f := 23) (vs := [(Pv ee.b), I6 sa, I6 sb, .slice (some ⟨g, 0, none⟩) n m]) (cap := #[]) (d := (some 203)) (by kernel_rfl) Try.call23 #[(Pv ee.b), I6 sa, I6 sb, .slice (some ⟨g, 0, none⟩) n m] (by kernel_rfl) (Spl_X ((hT40.ext0 ((Ext.refl [] _).drew)).i.p ee heem) (lent_rd2 (hO40.drew : OwnR wl40.drew 5 1 g m (n + 5) (bv (xs ++ marks 5))) hxl) hB hn sa sb) ?_
   rintro _ wc43 ⟨p43, k43, rfl, hD43, hEc43⟩
   exact ⟨_, rfl, ⟨(p43, k43, wc43), by kernel_rfl, by kernel_rfl, by kernel_rfl, ⟨hD43, hEc43, trivial⟩⟩⟩
 rintro ⟨p43, k43, wc43⟩ a w45 hS hw46 hH
 obtain ⟨hD43, hEc43, _⟩ := hH
 replace hw46 : w45 = wc43 := hw46.trans (by kernel_rfl)
 have hB47 := Blk.at' hw46 ((hB41.drew : Blk wl40.drew w.heap.size 49 (#[I6 sk, I6 sr, I6 sa, I6 sb, v])).ext hEc43 (by simp))
 have hB48 := OwnR.at' hw46 ((hO40.drew : OwnR wl40.drew 5 1 g m (n + 5) (bv (xs ++ marks 5))).ext hEc43 (by simp))
 have hB49 := Blk.at' hw46 ((hT40.i.f.drew : Blk wl40.drew F.t 46 (#[.slice F.pb F.L.length F.pc, .slice F.qb F.L.length F.qc, .slice (some ⟨g, 0, none⟩) m m])).ext hEc43 (by simp))
 have hB51 := OwnV.at' hw46 ((hT40.i.R.drew : OwnV wl40.drew 52 1 (.slice F.qb F.L.length F.qc) F.L.length (F.L.map En.cp)).ext hEc43 (by simp))
 have hE52 : Ext [] wl40 w45 := by rw [hw46]; exact (hEr40.drew).trans0 hEc43
 have hX53 : Ext [] wl40 w45 := by rw [hw46]; exact ((Ext.refl _ _).drew).trans0 hEc43
 have hG54 : TB w0 w45 (F.buf g m) := hT40.ext0 hX53
 have hG55 : RdV w45 1 v n (bv xs) := hv40.ext0 hX53
 replace hS := hS.kp [(0, (Pv F.t)), (1, .agg #[I6 sk, I6 sr, I6 sa, I6 sb, v]), (3, (Pv w.heap.size)), (4, .bool false), (32, .bool false), (35, .bool false), (69, .bool false), (11, I6 ↑kk), (79, I6 sk), (80, .bool false), (118, .bool false), (21, .slice (some ⟨g, 0, none⟩) n m), (22, p43), (23, I6 k43)]
 refine hK42 _ _ ?_
 refine sq fun K56 hK56 => ?_
 have hD57 : RpD (F.buf g m) w45 p43 k43 (splS (obs ee.o) sa sb xs) := by rw [hw46]; exact hD43
 refine region_gh2 (G := Value × Int × World) wide_wide [.q .p, .q .p, .q .p, .q (.ld (.slice F.qb F.L.length F.qc)), .q .p, .q (.run ((Po (bof (.slice F.qb F.L.length F.qc)) (0 + kk * 1)))), .q (.ld ((Pv ee.c))), .q .p, .q (.ld (I6 sa)), .q .p, .q (.ld (I6 sb)), .q .p, .q (.ld (v)), .e, .q .p, .q .p, .q .p, .q .p, .q .p] [0, 0, 0, 0, 0, 0, 0, 0, 0, 0, 0, 0, 0, 0, 1, 1, 1, 1, 1] [0, 0, 0, 0, 0, 0, 0, 0, 0, 0, 0, 0, 0, 0, 1, 1, 1, 1, 1] [0, 1, 3, 7, 0, 31, 63, 0, 128, 0, 512, 0, 2048, 8191, 16383, 32767, 32767, 65535, 262143] [13] [(13, 0)] 1 (fun ⟨p58, k58, wc58⟩ => ([(0, (Pv F.t)), (1, .agg #[I6 sk, I6 sr, I6 sa, I6 sb, v]), (3, (Pv w.heap.size)), (4, .bool false), (32, .bool false), (35, .bool false), (69, .bool false), (11, I6 ↑kk), (79, I6 sk), (80, .bool false), (118, .bool false), (21, .slice (some ⟨g, 0, none⟩) n m), (22, p43), (23, I6 k43), (207, (Pv F.t)), (208, (Pv F.t)), (209, (Po F.t 1)), (210, .slice F.qb F.L.length F.qc), (211, I6 ↑kk), (212, (Po (bof (.slice F.qb F.L.length F.qc)) (0 + kk * 1))), (213, (Pv ee.c)), (214, (Po w.heap.size 2)), (215, I6 sa), (216, (Po w.heap.size 3)), (217, I6 sb), (218, (Po w.heap.size 4)), (219, v), (220, .tuple #[p58, I6 k58]), (206, .tuple #[p58, I6 k58]), (221, p58), (222, I6 k58), (24, p58), (25, I6 k58)] : Fm)) (fun ⟨p58, k58, wc58⟩ => [w45.drew, wc58]) (w45.drew) (fun e ⟨p58, k58, wc58⟩ => hAt [True, (RfD (F.buf g m) wc58 p58 k58 (splS (obs ee.o) sa sb xs)) ∧ (Ext [] w45.drew wc58) ∧ True] e) (fun ⟨p58, k58, wc58⟩ w' => [(3, [w'.cell? ⟨F.t, 1, none⟩ = some (.slice F.qb F.L.length F.qc)]), (5, [Ru Try.prog (vS (Instr.indexAt 44 (.slice F.qb F.L.length F.qc) (I6 ↑kk))) ((Po (bof (.slice F.qb F.L.length F.qc)) (0 + kk * 1))) w']), (6, [w'.cell? ⟨bof (.slice F.qb F.L.length F.qc), 0 + kk * 1, none⟩ = some ((Pv ee.c))]), (8, [w'.cell? ⟨w.heap.size, 2, none⟩ = some (I6 sa)]), (10, [w'.cell? ⟨w.heap.size, 3, none⟩ = some (I6 sb)]), (12, [w'.cell? ⟨w.heap.size, 4, none⟩ = some (v)])]) (undef, 0, w45.drew) [0, 1, 3, 4, 32, 35, 69, 11, 79, 80, 118, 21, 22, 23] [] hS (by kernel_rfl) (by kernel_rfl) (by kernel_rfl) (by kernel_rfl) (fun ⟨p58, k58, wc58⟩ _ => by kernel_rfl) (by kernel_rfl) (by kernel_rfl) (by kernel_rfl) trivial ?_ (by kernel_rfl) ?_ ?_
 ·rintro e ⟨p58, k58, wc58⟩ w' hw hH
  refine (.cons ?_ (.cons ?_ (.cons ?_ (.cons ?_ (.cons ?_ (.cons ?_ .nil))))))
  ·intro h1 h2
   obtain rfl : e = 0 := Nat.le_antisymm h2 h1
   have hwe : w45.drew = w' := (hw.trans (by kernel_rfl)).symm
   subst hwe
   clear hH
   exact (.cons ((hB49.drew : Blk w45.drew F.t 46 (#[.slice F.pb F.L.length F.pc, .slice F.qb F.L.length F.qc, .slice (some ⟨g, 0, none⟩) m m])).cell 1 rfl) .nil)
  ·intro h1 h2
   obtain rfl : e = 0 := Nat.le_antisymm h2 h1
   have hwe : w45.drew = w' := (hw.trans (by kernel_rfl)).symm
   subst hwe
   clear hH
   exact (.cons (ix_own (j := kk) (hB51) (by kernel_rfl) (by kernel_rfl) rfl hkkl) .nil)
  ·intro h1 h2
   obtain rfl : e = 0 := Nat.le_antisymm h2 h1
   have hwe : w45.drew = w' := (hw.trans (by kernel_rfl)).symm
   subst hwe
   clear hH
   exact (.cons ((hB51.drew : OwnV w45.drew 52 1 (.slice F.qb F.L.length F.qc) F.L.length (F.L.map En.cp)).cellAt _ (by simp [hee, En.cp])) .nil)
  ·intro h1 h2
   obtain rfl : e = 0 := Nat.le_antisymm h2 h1
   have hwe : w45.drew = w' := (hw.trans (by kernel_rfl)).symm
   subst hwe
   clear hH
   exact (.cons ((hB47.drew : Blk w45.drew w.heap.size 49 (#[I6 sk, I6 sr, I6 sa, I6 sb, v])).cell 2 rfl) .nil)
  ·intro h1 h2
   obtain rfl : e = 0 := Nat.le_antisymm h2 h1
   have hwe : w45.drew = w' := (hw.trans (by kernel_rfl)).symm
   subst hwe
   clear hH
   exact (.cons ((hB47.drew : Blk w45.drew w.heap.size 49 (#[I6 sk, I6 sr, I6 sa, I6 sb, v])).cell 3 rfl) .nil)
  ·intro h1 h2
   obtain rfl : e = 0 := Nat.le_antisymm h2 h1
   have hwe : w45.drew = w' := (hw.trans (by kernel_rfl)).symm
   subst hwe
   clear hH
   exact (.cons ((hB47.drew : Blk w45.drew w.heap.size 49 (#[I6 sk, I6 sr, I6 sa, I6 sb, v])).cell 4 rfl) .nil)
 ·refine (.cons ?eq59_13 .nil)
  ·rintro ⟨p58, k58, wc58⟩ hH
   clear hH
   refine eff_gh (w45.drew) (by kernel_rfl) ?_
   refine upon_call (f := 64) (vs := [(Pv ee.c), I6 sa, I6 sb, v]) (cap := #[]) (d := (some 220)) (by kernel_rfl) Try.call64 #[(Pv ee.c), I6 sa, I6 sb, v] (by kernel_rfl) (rSpl_X (hG54.ext0 ((Ext.refl [] _).drew)).i ((hG54.ext0 ((Ext.refl [] _).drew)).i.q ee heem) (hG55.ext0 ((Ext.refl [] _).drew)) hn sa sb) ?_
   rintro _ wc58 ⟨p58, k58, rfl, hD58, hEc58⟩
   exact ⟨_, rfl, ⟨(p58, k58, wc58), by kernel_rfl, by kernel_rfl, by kernel_rfl, ⟨hD58, hEc58, trivial⟩⟩⟩
 rintro ⟨p58, k58, wc58⟩ a w60 hS hw61 hH
 obtain ⟨hD58, hEc58, _⟩ := hH
 replace hw61 : w60 = wc58 := hw61.trans (by kernel_rfl)
 have hB62 := Blk.at' hw61 ((hB47.drew : Blk w45.drew w.heap.size 49 (#[I6 sk, I6 sr, I6 sa, I6 sb, v])).ext hEc58 (by simp))
 have hB63 := OwnR.at' hw61 ((hB48.drew : OwnR w45.drew 5 1 g m (n + 5) (bv (xs ++ marks 5))).ext hEc58 (by simp))
 have hE67 : Ext [] wl40 w60 := by rw [hw61]; exact (hE52.drew).trans0 hEc58
 have hX68 : Ext [] w45 w60 := by rw [hw61]; exact ((Ext.refl _ _).drew).trans0 hEc58
 have hG69 : TB w0 w60 (F.buf g m) := hG54.ext0 hX68
 have hG70 : RdV w60 1 v n (bv xs) := hG55.ext0 hX68
 have hG71 : RpD (F.buf g m) w60 p43 k43 (splS (obs ee.o) sa sb xs) := hD57.ext0 hX68
 replace hS := hS.kp [(0, (Pv F.t)), (1, .agg #[I6 sk, I6 sr, I6 sa, I6 sb, v]), (3, (Pv w.heap.size)), (4, .bool false), (32, .bool false), (35, .bool false), (69, .bool false), (11, I6 ↑kk), (79, I6 sk), (80, .bool false), (118, .bool false), (21, .slice (some ⟨g, 0, none⟩) n m), (22, p43), (23, I6 k43), (24, p58), (25, I6 k58)]
 refine hK56 _ _ ?_
 refine sq fun K72 hK72 => ?_
 have hD73 : RfD (F.buf g m) w60 p58 k58 (splS (obs ee.o) sa sb xs) := by rw [hw61]; exact hD58
 refine rgn 5 ?_
 refine sg wide_wide [.p, .p, .ld (v)] [w60.cell? ⟨w.heap.size, 4, none⟩ = some (v)] [(0, (Pv F.t)), (1, .agg #[I6 sk, I6 sr, I6 sa, I6 sb, v]), (3, (Pv w.heap.size)), (4, .bool false), (32, .bool false), (35, .bool false), (69, .bool false), (11, I6 ↑kk), (79, I6 sk), (80, .bool false), (118, .bool false), (21, .slice (some ⟨g, 0, none⟩) n m), (22, p43), (23, I6 k43), (24, p58), (25, I6 k58), (223, .slice (some ⟨g, 0, none⟩) n m), (225, v)] 3 2 hS (.cons (hB62.cell 4 rfl) .nil) fun a hS => ?_
 refine eff_call wide_wide (r := 1) (f := 59) (vs := [.slice (some ⟨g, 0, none⟩) n m, v]) (cap := #[]) (d := (some 226)) hS (by kernel_rfl) Try.call59 #[.slice (some ⟨g, 0, none⟩) n m, v] (by kernel_rfl) (Back_T hG69 hB63 hv0 hn) ?_
 rintro _ wb74 ⟨rfl, hS74⟩
 refine ⟨_, rfl, fun a hS => ?_⟩
 have hT74 := hG69.ts hS74
 have hD76 := hG71.ts (hS74.tm hG69.i)
 have hD77 := hD73.ts (hS74.tm hG69.i)
 have hEr74 : Ext [] wb74 wb74 := Ext.refl _ _
 have hv74 := hT74.rd hv0
 refine sg wide_wide [.p] [] [(0, (Pv F.t)), (1, .agg #[I6 sk, I6 sr, I6 sa, I6 sb, v]), (3, (Pv w.heap.size)), (4, .bool false), (32, .bool false), (35, .bool false), (69, .bool false), (11, I6 ↑kk), (79, I6 sk), (80, .bool false), (118, .bool false), (21, .slice (some ⟨g, 0, none⟩) n m), (22, p43), (23, I6 k43), (24, p58), (25, I6 k58), (26, .bool true)] 5 0 hS .nil fun a hS => ?_
 refine seg_end ?_
 refine hK72 _ _ ?_
 refine sq fun K78 hK78 => ?_
 refine rgn 10 ?_
 refine sg wide_wide [.p, .p, .p, .p, .p, .p, .p] [] [(0, (Pv F.t)), (1, .agg #[I6 sk, I6 sr, I6 sa, I6 sb, v]), (3, (Pv w.heap.size)), (4, .bool false), (32, .bool false), (35, .bool false), (69, .bool false), (11, I6 ↑kk), (79, I6 sk), (80, .bool false), (118, .bool false), (21, .slice (some ⟨g, 0, none⟩) n m), (22, p43), (23, I6 k43), (24, p58), (25, I6 k58), (26, .bool true), (228, .bool true), (229, (Pv F.t)), (230, p43), (231, I6 k43), (232, p58), (233, I6 k58)] 7 3 hS .nil fun a hS => ?_
 refine eff_call wide_wide (r := 2) (f := 60) (vs := [(Pv F.t), p43, I6 k43, p58, I6 k58]) (cap := #[]) (d := (some 234)) hS (by kernel_rfl) Try.call60 #[(Pv F.t), p43, I6 k43, p58, I6 k58] (by kernel_rfl) (add_T (F := (F.buf g m)) hT74.i (by first | exact hl | (simp only [Ta.buf]; exact hl)) hD76 hD77) ?_
 rintro _ wz79 ⟨rfl, F9, hS79, hlen9⟩
 refine ⟨_, rfl, fun a hS => ?_⟩
 have hEr79 : Ext [] wz79 wz79 := Ext.refl _ _
 refine sg wide_wide [.p, .p] [] [(0, (Pv F.t)), (1, .agg #[I6 sk, I6 sr, I6 sa, I6 sb, v]), (3, (Pv w.heap.size)), (4, .bool true), (32, .bool false), (35, .bool false), (69, .bool false), (11, I6 ↑kk), (79, I6 sk), (80, .bool false), (118, .bool false), (21, .slice (some ⟨g, 0, none⟩) n m), (22, p43), (23, I6 k43), (24, p58), (25, I6 k58), (26, .bool true)] 10 0 hS .nil fun a hS => ?_
 refine seg_end ?_
 refine hK78 _ _ ?_
 refine wpIn_ret ?_
 refine ret1 hS Try.results45 rfl ?_
 exact ⟨rfl, _, (((hS40.pre hE31).trans (hS74.pre hE67)).trans (hS79.pre hEr74)).trans0 hEr79⟩

/-- the table's step that makes a rope -/
theorem make1_any {w0 w : World} {F : Ta} (hT : TB w0 w F) {sk sr sa sb : Int} {v : Value} {n : Nat} {xs : List Int} (hv0 : RdV w0 1 v n (bv xs)) (hB : BR xs) (hn : n ≤ 10000000000) : Calls Try.prog 45 #[Pv F.t, .agg #[I6 sk, I6 sr, I6 sa, I6 sb, v]] w fun e w' => e = .returned (.bool true) ∧ ∃ F', TS w F w' F' := by
 by_cases hl : F.L.length < 300
 ·by_cases h1 : sk = 1
  ·exact (make1_new hT hv0 hB hn hl h1).mono fun e w' ⟨h1, F', h2, _⟩ => ⟨h1, F', h2⟩
  ·by_cases h0 : F.L.length = 0
   ·exact make1_none hT hv0 hB hn hl h1 h0
   ·by_cases h2 : sk = 2
    ·exact make1_cut hT hv0 hB hn hl h0 h2
    ·by_cases h3 : sk = 3
     ·exact make1_cat hT hv0 hB hn hl h0 h3
     ·exact make1_spl hT hv0 hB hn hl h0 h1 h2 h3
 ·exact make1_full hT hv0 hB hn hl

end Go.Proofs.Ytkdbfjomjlhfbaa
