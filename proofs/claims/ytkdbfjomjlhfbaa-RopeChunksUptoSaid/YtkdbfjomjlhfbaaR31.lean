import Derived.Test.YtkdbfjomjlhfbaaProg
import Derived.Test.YtkdbfjomjlhfbaaCh
namespace Go.Proofs.Ytkdbfjomjlhfbaa
open Go.Vc
set_option linter.unusedSectionVars false
variable [Inhabited Zt]

def xo (z : Int) : Int := IntKind.u8.wrap (((BitVec.ofInt 8 z) ^^^ (BitVec.ofInt 8 255)).toNat : Int)
theorem bin_xo {P : Program} {w : World} {T : TypeId} {a b : Operand} {z : Int} :
  (vS (do eqGuard .xor T a b (.int .u8 z) (.int .u8 255); binOp .xor T (.int .u8 z) (.int .u8 255))).run P w = .ok (.value (.int .u8 (xo z))) w := by
 refine vS_run ?_
 have h4 : (binOp .xor T (.int .u8 z) (.int .u8 255)).run P w = .ok (.int .u8 (xo z)) w := rfl
 simpa [eqGuard] using h4
theorem bv_set (xs : List Int) (k : Nat) (x : Int) : (bv xs).set k (.int .u8 x) = bv (xs.set k x) := by simp [bv, List.map_set]

set_option maxHeartbeats 4000000 in
theorem RopeChunks_any {v : Value} {l : List Sx} {x y : Int} {w : World} (hs : Scr w v l) :
  Calls Try.prog 8 #[v, I6 x, I6 y] w fun e w' => e = .returned (.bool true) ∧ Ext [] w w' := by
 refine calls_bodyM 210 [(0, v), (1, I6 x), (2, I6 y)] Try.func8 rfl (by kernel_rfl) (by kernel_rfl) (by kernel_rfl) fun a hS => ?_
 have hE0 : Ext [] w w := Ext.refl _ _
 refine sq fun K1 hK1 => ?_
 refine rgn 3 ?_
 refine eff_box wide_wide (r := 2) (cs := #[I6 x]) (T := 3) (d := (some 4)) hS (by kernel_rfl) fun a w2 hw3 hS => ?_
 have hB4 : Blk w2 (w.heap.size) 3 #[I6 x] := by rw [hw3]; exact Blk.new _ _ _
 have hs5 : w.heap.size ≤ w.heap.size := hE0.size
 have hE6 : Ext [] w w2 := by rw [hw3]; exact hE0.alloc _
 refine eff_box wide_wide (r := 1) (cs := #[I6 y]) (T := 3) (d := (some 5)) hS (by kernel_rfl) fun a w7 hw8 hS => ?_
 have hB10 := Blk.at' hw8 (hB4.alloc _)
 have hB11 : Blk w7 (w2.heap.size) 3 #[I6 y] := by rw [hw8]; exact Blk.new _ _ _
 have hs12 : w.heap.size ≤ w2.heap.size := hE6.size
 have hE13 : Ext [] w w7 := by rw [hw8]; exact hE6.alloc _
 refine eff_box wide_wide (r := 0) (cs := #[.bool false]) (T := 4) (d := (some 6)) hS (by kernel_rfl) fun a w14 hw15 hS => ?_
 have hB18 := Blk.at' hw15 (hB10.alloc _)
 have hB19 := Blk.at' hw15 (hB11.alloc _)
 have hB20 : Blk w14 (w7.heap.size) 4 #[.bool false] := by rw [hw15]; exact Blk.new _ _ _
 have hs21 : w.heap.size ≤ w7.heap.size := hE13.size
 have hE22 : Ext [] w w14 := by rw [hw15]; exact hE13.alloc _
 refine seg_end ?_
 refine hK1 _ _ ?_
 refine sq fun K23 hK23 => ?_
 refine sq fun K24 hK24 => ?_
 refine rgn 2 ?_
 refine eff_call wide_wide (r := 1) (f := 12) (vs := []) (cap := #[]) (d := (some 21)) hS (by kernel_rfl) Try.call12 #[] (by kernel_rfl) (Head_Y) ?_
 rintro _ wc25 ⟨rfl, hEc25⟩
 refine ⟨_, rfl, fun a hS => ?_⟩
 have hB26 := hB18.ext hEc25 (by simp)
 have hB27 := hB19.ext hEc25 (by simp)
 have hB28 := hB20.ext hEc25 (by simp)
 have hE29 := hE22.trans0 hEc25
 refine sg wide_wide [.p] [] [(0, v), (1, I6 x), (2, I6 y), (4, (Pv w.heap.size)), (5, (Pv w2.heap.size)), (6, (Pv w7.heap.size)), (22, .bool false)] 2 0 hS .nil fun a hS => ?_
 refine seg_end ?_
 refine hK24 _ _ ?_
 refine cond_f hS rfl ?_
 refine wpIn_skip ?_
 refine hK23 _ _ ?_
 refine sq fun K30 hK30 => ?_
 refine rgn 10 ?_
 refine sg wide_wide [.p] [] [(0, v), (1, I6 x), (2, I6 y), (4, (Pv w.heap.size)), (5, (Pv w2.heap.size)), (6, (Pv w7.heap.size)), (22, .bool false), (24, v)] 1 9 hS .nil fun a hS => ?_
 refine eff_call wide_wide (r := 8) (f := 26) (vs := [v]) (cap := #[]) (d := (some 25)) hS (by kernel_rfl) Try.call26 #[v] (by kernel_rfl) (built_any (hs.ext0 hE29)) ?_
 rintro _ wb ⟨F, b, c, q, xs, rfl, hb, hq, hEb⟩
 refine ⟨_, rfl, fun a hS => ?_⟩
 have hE1 := hE29.trans0 hEb
 have hxl := hq.2.2.2
 have hB31 := hB26.ext hEb (by simp)
 have hB32 := hB27.ext hEb (by simp)
 have hB33 := hB28.ext hEb (by simp)
 have hEbb : Ext [] wb wb := Ext.refl _ _
 refine sg wide_wide [.p, .p, .p, .p] [] [(0, v), (1, I6 x), (2, I6 y), (4, (Pv w.heap.size)), (5, (Pv w2.heap.size)), (6, (Pv w7.heap.size)), (22, .bool false), (26, (Pv b)), (27, (Pv c)), (28, .bool true)] 6 4 hS .nil fun a hS => ?_
 refine eff_box wide_wide (r := 3) (cs := #[.pointer none]) (T := 52) (d := (some 8)) hS (by kernel_rfl) fun a w34 hw35 hS => ?_
 have hn36 : w.heap.size ≠ wb.heap.size := Nat.ne_of_lt hB31.lt
 have hn37 : w2.heap.size ≠ wb.heap.size := Nat.ne_of_lt hB32.lt
 have hn38 : w7.heap.size ≠ wb.heap.size := Nat.ne_of_lt hB33.lt
 have hB39 := Blk.at' hw35 (hB31.alloc _)
 have hB40 := Blk.at' hw35 (hB32.alloc _)
 have hB41 := Blk.at' hw35 (hB33.alloc _)
 have hX42 : Ext [] wb w34 := by rw [hw35]; exact (Ext.refl _ _).alloc _
 have hG43 : Ext [] wb w34 := hEbb.trans0 hX42
 have hB44 : Blk w34 (wb.heap.size) 52 #[.pointer none] := by rw [hw35]; exact Blk.new _ _ _
 have hs45 : w.heap.size ≤ wb.heap.size := hE1.size
 have hE46 : Ext [] w w34 := by rw [hw35]; exact hE1.alloc _
 refine sg wide_wide [.p] [] [(0, v), (1, I6 x), (2, I6 y), (4, (Pv w.heap.size)), (5, (Pv w2.heap.size)), (6, (Pv w7.heap.size)), (22, .bool false), (27, (Pv c)), (28, .bool true), (8, (Pv wb.heap.size)), (7, (Pv b))] 8 2 hS .nil fun a hS => ?_
 refine eff_store wide_wide (r := 1) (b := wb.heap.size) (off := 0) (vs := [(Pv c)]) hS (by kernel_rfl) hB44 (by simp) fun a w47 hw48 hS => ?_
 have hB49 := Blk.at' hw48 (hB39.updNe (Ne.symm hn36) _ _)
 have hB50 := Blk.at' hw48 (hB40.updNe (Ne.symm hn37) _ _)
 have hB51 := Blk.at' hw48 (hB41.updNe (Ne.symm hn38) _ _)
 have hB52 : Blk w47 wb.heap.size 52 (#[(Pv c)]) := by rw [hw48]; exact hB44.upd _ _
 have hX53 : Ext [wb.heap.size] w34 w47 := by rw [hw48]; exact (Ext.refl _ _).updIn (.inl (by simp)) _ _
 have hG54 : Ext [] wb w47 := hG43.trans hX53 (fun b hb => by simp at hb; subst hb; exact .inr hEbb.size)
 have hE55 : Ext [] w w47 := by rw [hw48]; exact hE46.updIn (.inr hs45) _ _
 refine sg wide_wide [.p] [] [(0, v), (1, I6 x), (2, I6 y), (4, (Pv w.heap.size)), (5, (Pv w2.heap.size)), (6, (Pv w7.heap.size)), (22, .bool false), (8, (Pv wb.heap.size)), (7, (Pv b)), (9, .bool true)] 10 0 hS .nil fun a hS => ?_
 refine seg_end ?_
 refine hK30 _ _ ?_
 refine sq fun K56 hK56 => ?_
 refine sq fun K57 hK57 => ?_
 refine rgn 2 ?_
 refine sg wide_wide [.p, .p] [] [(0, v), (1, I6 x), (2, I6 y), (4, (Pv w.heap.size)), (5, (Pv w2.heap.size)), (6, (Pv w7.heap.size)), (22, .bool false), (8, (Pv wb.heap.size)), (7, (Pv b)), (9, .bool true), (30, .bool false)] 2 0 hS .nil fun a hS => ?_
 refine seg_end ?_
 refine hK57 _ _ ?_
 refine cond_f hS rfl ?_
 refine wpIn_skip ?_
 refine hK56 _ _ ?_
 refine sq fun K58 hK58 => ?_
 replace hS := hS.keepTo [4, 5, 6, 7, 8] (m' := [(4, (Pv w.heap.size)), (5, (Pv w2.heap.size)), (6, (Pv w7.heap.size)), (7, (Pv b)), (8, (Pv wb.heap.size))]) (by kernel_rfl)
 have hfx5 := hB49
 have hnfx : w.heap.size ≤ w.heap.size := hs5
 obtain ⟨fx, hefx⟩ : ∃ b, b = w.heap.size := ⟨_, rfl⟩
 rw [← hefx] at hS hfx5 hnfx
 have hsx5 := hB50
 have hnsx : w.heap.size ≤ w2.heap.size := hs12
 obtain ⟨sx, hesx⟩ : ∃ b, b = w2.heap.size := ⟨_, rfl⟩
 rw [← hesx] at hS hsx5 hnsx
 have hrx5 := hB51
 have hnrx : w.heap.size ≤ w7.heap.size := hs21
 obtain ⟨rx, herx⟩ : ∃ b, b = w7.heap.size := ⟨_, rfl⟩
 rw [← herx] at hS hrx5 hnrx
 have hcx5 := hB52
 have hncx : w.heap.size ≤ wb.heap.size := hs45
 obtain ⟨cx, hecx⟩ : ∃ b, b = wb.heap.size := ⟨_, rfl⟩
 rw [← hecx] at hS hcx5 hncx
 have hEw5 := hE55
 have hE55 : Ext [] w47 w47 := Ext.refl _ _
 have hb5 := hb.ext0 hG54
 have hq5 := hq.ext0 hG54
 have hc5 := hq5.1
 rcases (show (x < 0 ∨ (0 ≤ x ∧ x > (xs.length : Int))) ∨ ∃ i : Nat, x = (i : Int) ∧ i ≤ xs.length by
  by_cases h1 : x < 0
  ·exact .inl (.inl h1)
  ·by_cases h2 : x > (xs.length : Int)
   ·exact .inl (.inr ⟨by omega, h2⟩)
   ·exact .inr ⟨x.toNat, by omega, by omega⟩) with (hz | hz) | ⟨i, hxi, hi⟩
 ·
  have hEw5' := hEw5
  refine rgn 9 ?_
  refine sg wide_wide [.p, .ld (I6 x)] [w47.cell? ⟨fx, 0, none⟩ = some (I6 x)] [(4, (Pv fx)), (5, (Pv sx)), (6, (Pv rx)), (7, (Pv b)), (8, (Pv cx)), (32, (Pv b)), (33, I6 x)] 2 7 hS (.cons (hfx5.cell 0 rfl) .nil) fun a hS => ?_
  refine eff_call wide_wide (r := 6) (f := 30) (vs := [(Pv b), I6 x]) (cap := #[]) (d := (some 34)) hS (by kernel_rfl) Try.call30 #[(Pv b), I6 x] (by kernel_rfl) (Chunks_N hb5 (by omega)) ?_
  rintro _ wc59 ⟨rfl, hEc59⟩
  refine ⟨_, rfl, fun a hS => ?_⟩
  have hB60 := hfx5.ext hEc59 (by simp)
  have hB62 := hrx5.ext hEc59 (by simp)
  have hG65 : True := trivial
  have hE66 := hEw5'.trans0 hEc59
  refine sg wide_wide [.p, .p, .p] [] [(4, (Pv fx)), (5, (Pv sx)), (6, (Pv rx)), (7, (Pv b)), (8, (Pv cx)), (35, .nilFunc), (36, I6 3)] 6 3 hS .nil fun a hS => ?_
  refine eff_box wide_wide (r := 2) (cs := #[.nilFunc]) (T := 62) (d := (some 10)) hS (by kernel_rfl) fun a w67 hw68 hS => ?_
  have hn69 : fx ≠ wc59.heap.size := Nat.ne_of_lt hB60.lt
  have hn71 : rx ≠ wc59.heap.size := Nat.ne_of_lt hB62.lt
  have hB74 := Blk.at' hw68 (hB60.alloc _)
  have hB76 := Blk.at' hw68 (hB62.alloc _)
  have hG80 : True := trivial
  have hB81 : Blk w67 (wc59.heap.size) 62 #[.nilFunc] := by rw [hw68]; exact Blk.new _ _ _
  have hs82 : w.heap.size ≤ wc59.heap.size := hE66.size
  have hE83 : Ext [] w w67 := by rw [hw68]; exact hE66.alloc _
  refine eff_store wide_wide (r := 1) (b := wc59.heap.size) (off := 0) (vs := [.nilFunc]) hS (by kernel_rfl) hB81 (by simp) fun a w84 hw85 hS => ?_
  have hB86 := Blk.at' hw85 (hB74.updNe (Ne.symm hn69) _ _)
  have hB88 := Blk.at' hw85 (hB76.updNe (Ne.symm hn71) _ _)
  have hB91 : Blk w84 wc59.heap.size 62 (#[.nilFunc]) := by rw [hw85]; exact hB81.upd _ _
  have hG93 : True := trivial
  have hE94 : Ext [] w w84 := by rw [hw85]; exact hE83.updIn (.inr hs82) _ _
  refine sg wide_wide [.p] [] [(4, (Pv fx)), (5, (Pv sx)), (6, (Pv rx)), (7, (Pv b)), (8, (Pv cx)), (10, (Pv wc59.heap.size)), (11, I6 3)] 9 0 hS .nil fun a hS => ?_
  refine seg_end ?_
  refine hK58 _ _ ?_
  refine sq fun K95 hK95 => ?_
  refine sq fun K96 hK96 => ?_
  refine region_fn2 wide_wide [.q (.ld (I6 x)), .q (.as (.bool true)), .q .p, .q .no, .q .no, .q .no, .q .no, .q .no, .q .no, .q .no, .q .p] [0, 0, 0, 0, 0, 0, 0, 0, 0, 0, 0] [0, 0, 0, 0, 0, 0, 0, 0, 0, 0, 0] [0, 1, 3, 7, 7, 23, 55, 119, 247, 511, 1023] [] 0 ([(4, (Pv fx)), (5, (Pv sx)), (6, (Pv rx)), (7, (Pv b)), (8, (Pv cx)), (10, (Pv wc59.heap.size)), (11, I6 3), (37, I6 x), (38, .bool true), (39, .bool true), (40, undef), (41, undef), (42, undef), (43, undef), (44, undef), (45, undef), (46, undef), (47, .bool true)]) [w84.drew] w84.drew (fun w' => [(0, [w'.cell? ⟨fx, 0, none⟩ = some (I6 x)]), (1, [Value.bool (decide ((x : Int) < 0)) = .bool true])]) [4, 5, 6, 7, 8, 10, 11] [] hS (by kernel_rfl) (by kernel_rfl) (by kernel_rfl) (by kernel_rfl) (fun _ => by kernel_rfl) (by kernel_rfl) (by kernel_rfl) (by kernel_rfl) ?_ ?_ ?_
  ·intro e w' hw
   refine (.cons ?_ (.cons ?_ .nil))
   ·intro h1 h2
    obtain rfl : e = 0 := Nat.le_antisymm h2 h1
    obtain rfl : w' = w84.drew := hw.trans (by kernel_rfl)
    exact (.cons ((hB86.drew : Blk w84.drew fx 3 (#[I6 x])).cell 0 rfl) .nil)
   ·exact fun _ _ => (.cons (as_t (by omega)) .nil)
  ·refine .nil
  rintro a w98 hS hw99
  replace hw99 : w98 = w84.drew := hw99.trans (by kernel_rfl)
  have hB102 := Blk.at' hw99 (hB88.drew)
  have hB105 := Blk.at' hw99 (hB91.drew)
  have hE106 : Ext [] w w98 := by rw [hw99]; exact hE94.drew
  have hG108 : True := trivial
  replace hS := hS.kp [(4, (Pv fx)), (5, (Pv sx)), (6, (Pv rx)), (7, (Pv b)), (8, (Pv cx)), (10, (Pv wc59.heap.size)), (11, I6 3), (47, .bool true)]
  refine hK96 _ _ ?_
  refine cond_t hS rfl ?_
  refine sq fun K109 hK109 => ?_
  refine rgn 7 ?_
  refine sg wide_wide [.p, .p, .p, .ld (.nilFunc), .p, .p] [w98.cell? ⟨wc59.heap.size, 0, none⟩ = some (.nilFunc)] [(4, (Pv fx)), (5, (Pv sx)), (6, (Pv rx)), (7, (Pv b)), (8, (Pv cx)), (10, (Pv wc59.heap.size)), (11, I6 3), (47, .bool true), (53, .bool true)] 6 1 hS (.cons (hB105.cell 0 rfl) .nil) fun a hS => ?_
  refine eff_store wide_wide (r := 0) (b := rx) (off := 0) (vs := [.bool true]) hS (by kernel_rfl) hB102 (by simp) fun a w110 hw111 hS => ?_
  have hB114 : Blk w110 rx 4 (#[.bool true]) := by rw [hw111]; exact hB102.upd _ _
  have hG119 : True := trivial
  have hE120 : Ext [] w w110 := by rw [hw111]; exact hE106.updIn (.inr hnrx) _ _
  refine seg_end ?_
  refine hK109 _ _ ?_
  refine wpIn_ret ?_
  refine then_ret ?_
  refine retMc [] (T' := 4) hS Try.results8 (by kernel_rfl) rfl hB114 (by simp) (by simp) fun w99 hE99 => ?_
  exact ⟨rfl, hE120.trans0 hE99⟩
 ·
  have hEw5' := hEw5
  refine rgn 9 ?_
  refine sg wide_wide [.p, .ld (I6 x)] [w47.cell? ⟨fx, 0, none⟩ = some (I6 x)] [(4, (Pv fx)), (5, (Pv sx)), (6, (Pv rx)), (7, (Pv b)), (8, (Pv cx)), (32, (Pv b)), (33, I6 x)] 2 7 hS (.cons (hfx5.cell 0 rfl) .nil) fun a hS => ?_
  refine eff_call wide_wide (r := 6) (f := 30) (vs := [(Pv b), I6 x]) (cap := #[]) (d := (some 34)) hS (by kernel_rfl) Try.call30 #[(Pv b), I6 x] (by kernel_rfl) (Chunks_N hb5 (by omega)) ?_
  rintro _ wc121 ⟨rfl, hEc121⟩
  refine ⟨_, rfl, fun a hS => ?_⟩
  have hB122 := hfx5.ext hEc121 (by simp)
  have hB124 := hrx5.ext hEc121 (by simp)
  have hB125 := hcx5.ext hEc121 (by simp)
  have hB126 := hc5.ext hEc121 (by simp)
  have hG127 : True := trivial
  have hE128 := hEw5'.trans0 hEc121
  refine sg wide_wide [.p, .p, .p] [] [(4, (Pv fx)), (5, (Pv sx)), (6, (Pv rx)), (7, (Pv b)), (8, (Pv cx)), (35, .nilFunc), (36, I6 3)] 6 3 hS .nil fun a hS => ?_
  refine eff_box wide_wide (r := 2) (cs := #[.nilFunc]) (T := 62) (d := (some 10)) hS (by kernel_rfl) fun a w129 hw130 hS => ?_
  have hn131 : fx ≠ wc121.heap.size := Nat.ne_of_lt hB122.lt
  have hn133 : rx ≠ wc121.heap.size := Nat.ne_of_lt hB124.lt
  have hn134 : cx ≠ wc121.heap.size := Nat.ne_of_lt hB125.lt
  have hn135 : c ≠ wc121.heap.size := Nat.ne_of_lt hB126.lt
  have hB136 := Blk.at' hw130 (hB122.alloc _)
  have hB138 := Blk.at' hw130 (hB124.alloc _)
  have hB139 := Blk.at' hw130 (hB125.alloc _)
  have hB140 := Blk.at' hw130 (hB126.alloc _)
  have hG142 : True := trivial
  have hB143 : Blk w129 (wc121.heap.size) 62 #[.nilFunc] := by rw [hw130]; exact Blk.new _ _ _
  have hs144 : w.heap.size ≤ wc121.heap.size := hE128.size
  have hE145 : Ext [] w w129 := by rw [hw130]; exact hE128.alloc _
  refine eff_store wide_wide (r := 1) (b := wc121.heap.size) (off := 0) (vs := [.nilFunc]) hS (by kernel_rfl) hB143 (by simp) fun a w146 hw147 hS => ?_
  have hB148 := Blk.at' hw147 (hB136.updNe (Ne.symm hn131) _ _)
  have hB150 := Blk.at' hw147 (hB138.updNe (Ne.symm hn133) _ _)
  have hB151 := Blk.at' hw147 (hB139.updNe (Ne.symm hn134) _ _)
  have hB152 := Blk.at' hw147 (hB140.updNe (Ne.symm hn135) _ _)
  have hB153 : Blk w146 wc121.heap.size 62 (#[.nilFunc]) := by rw [hw147]; exact hB143.upd _ _
  have hG155 : True := trivial
  have hE156 : Ext [] w w146 := by rw [hw147]; exact hE145.updIn (.inr hs144) _ _
  refine sg wide_wide [.p] [] [(4, (Pv fx)), (5, (Pv sx)), (6, (Pv rx)), (7, (Pv b)), (8, (Pv cx)), (10, (Pv wc121.heap.size)), (11, I6 3)] 9 0 hS .nil fun a hS => ?_
  refine seg_end ?_
  refine hK58 _ _ ?_
  refine sq fun K157 hK157 => ?_
  refine sq fun K158 hK158 => ?_
  refine region_fn2 wide_wide [.q (.ld (I6 x)), .q (.as (.bool false)), .q .p, .q (.ld (I6 x)), .q (.ld ((Pv c))), .q .p, .q .p, .q (.ld (q)), .q (.run (I6 ↑xs.length)), .q (.as (.bool true)), .q .p] [0, 0, 0, 0, 0, 0, 0, 0, 0, 0, 0] [0, 0, 0, 0, 0, 0, 0, 0, 0, 0, 0] [0, 1, 3, 7, 7, 23, 55, 119, 247, 511, 1023] [] 0 ([(4, (Pv fx)), (5, (Pv sx)), (6, (Pv rx)), (7, (Pv b)), (8, (Pv cx)), (10, (Pv wc121.heap.size)), (11, I6 3), (37, I6 x), (38, .bool false), (39, .bool false), (40, I6 x), (41, (Pv c)), (42, (Pv c)), (43, (Pv c)), (44, q), (45, I6 ↑xs.length), (46, .bool true), (47, .bool true)]) [w146.drew] w146.drew (fun w' => [(0, [w'.cell? ⟨fx, 0, none⟩ = some (I6 x)]), (1, [Value.bool (decide ((x : Int) < 0)) = .bool false]), (3, [w'.cell? ⟨fx, 0, none⟩ = some (I6 x)]), (4, [w'.cell? ⟨cx, 0, none⟩ = some ((Pv c))]), (7, [w'.cell? ⟨c, 0, none⟩ = some (q)]), (8, [Ru Try.prog (vS (Builtin.len_ #[23] 3 #[q])) (I6 ↑xs.length) w']), (9, [Value.bool (decide ((x : Int) > ↑xs.length)) = .bool true])]) [4, 5, 6, 7, 8, 10, 11] [] hS (by kernel_rfl) (by kernel_rfl) (by kernel_rfl) (by kernel_rfl) (fun _ => by kernel_rfl) (by kernel_rfl) (by kernel_rfl) (by kernel_rfl) ?_ ?_ ?_
  ·intro e w' hw
   refine (.cons ?_ (.cons ?_ (.cons ?_ (.cons ?_ (.cons ?_ (.cons ?_ (.cons ?_ .nil)))))))
   ·intro h1 h2
    obtain rfl : e = 0 := Nat.le_antisymm h2 h1
    obtain rfl : w' = w146.drew := hw.trans (by kernel_rfl)
    exact (.cons ((hB148.drew : Blk w146.drew fx 3 (#[I6 x])).cell 0 rfl) .nil)
   ·exact fun _ _ => (.cons (as_f (by omega)) .nil)
   ·intro h1 h2
    obtain rfl : e = 0 := Nat.le_antisymm h2 h1
    obtain rfl : w' = w146.drew := hw.trans (by kernel_rfl)
    exact (.cons ((hB148.drew : Blk w146.drew fx 3 (#[I6 x])).cell 0 rfl) .nil)
   ·intro h1 h2
    obtain rfl : e = 0 := Nat.le_antisymm h2 h1
    obtain rfl : w' = w146.drew := hw.trans (by kernel_rfl)
    exact (.cons ((hB151.drew : Blk w146.drew cx 52 (#[(Pv c)])).cell 0 rfl) .nil)
   ·intro h1 h2
    obtain rfl : e = 0 := Nat.le_antisymm h2 h1
    obtain rfl : w' = w146.drew := hw.trans (by kernel_rfl)
    exact (.cons ((hB152.drew : Blk w146.drew c 56 (#[q])).cell 0 rfl) .nil)
   ·exact fun _ _ => (.cons (run_len_rd (e := 5) hq5.2.1 (by kernel_rfl)) .nil)
   ·exact fun _ _ => (.cons (as_t (by omega)) .nil)
  ·refine .nil
  rintro a w160 hS hw161
  replace hw161 : w160 = w146.drew := hw161.trans (by kernel_rfl)
  have hB164 := Blk.at' hw161 (hB150.drew)
  have hB167 := Blk.at' hw161 (hB153.drew)
  have hE168 : Ext [] w w160 := by rw [hw161]; exact hE156.drew
  have hG170 : True := trivial
  replace hS := hS.kp [(4, (Pv fx)), (5, (Pv sx)), (6, (Pv rx)), (7, (Pv b)), (8, (Pv cx)), (10, (Pv wc121.heap.size)), (11, I6 3), (47, .bool true)]
  refine hK158 _ _ ?_
  refine cond_t hS rfl ?_
  refine sq fun K171 hK171 => ?_
  refine rgn 7 ?_
  refine sg wide_wide [.p, .p, .p, .ld (.nilFunc), .p, .p] [w160.cell? ⟨wc121.heap.size, 0, none⟩ = some (.nilFunc)] [(4, (Pv fx)), (5, (Pv sx)), (6, (Pv rx)), (7, (Pv b)), (8, (Pv cx)), (10, (Pv wc121.heap.size)), (11, I6 3), (47, .bool true), (53, .bool true)] 6 1 hS (.cons (hB167.cell 0 rfl) .nil) fun a hS => ?_
  refine eff_store wide_wide (r := 0) (b := rx) (off := 0) (vs := [.bool true]) hS (by kernel_rfl) hB164 (by simp) fun a w172 hw173 hS => ?_
  have hB176 : Blk w172 rx 4 (#[.bool true]) := by rw [hw173]; exact hB164.upd _ _
  have hG181 : True := trivial
  have hE182 : Ext [] w w172 := by rw [hw173]; exact hE168.updIn (.inr hnrx) _ _
  refine seg_end ?_
  refine hK171 _ _ ?_
  refine wpIn_ret ?_
  refine then_ret ?_
  refine retMc [] (T' := 4) hS Try.results8 (by kernel_rfl) rfl hB176 (by simp) (by simp) fun w99 hE99 => ?_
  exact ⟨rfl, hE182.trans0 hE99⟩
 ·
  rw [hxi] at hfx5
  refine rgn 9 ?_
  refine sg wide_wide [.p, .ld (I6 ↑i)] [w47.cell? ⟨fx, 0, none⟩ = some (I6 ↑i)] [(4, (Pv fx)), (5, (Pv sx)), (6, (Pv rx)), (7, (Pv b)), (8, (Pv cx)), (32, (Pv b)), (33, I6 ↑i)] 2 7 hS (.cons (hfx5.cell 0 rfl) .nil) fun a hS => ?_
  refine eff_call wide_wide (r := 6) (f := 30) (vs := [(Pv b), I6 ↑i]) (cap := #[]) (d := (some 34)) hS (by kernel_rfl) Try.call30 #[(Pv b), I6 ↑i] (by kernel_rfl) (Chunks_Y hb5 hi) ?_
  rintro _ wc183 ⟨fb183, rb183, rfl, hSq183, hEc183⟩
  refine ⟨_, rfl, fun a hS => ?_⟩
  have hB184 := hfx5.ext hEc183 (by simp)
  have hB185 := hsx5.ext hEc183 (by simp)
  have hB186 := hrx5.ext hEc183 (by simp)
  have hB187 := hcx5.ext hEc183 (by simp)
  have hB188 := hc5.ext hEc183 (by simp)
  have hG189 : True := trivial
  have hE190 := hE55.trans0 hEc183
  have hSqq := hSq183
  have hqE : Ext [] wc183 wc183 := Ext.refl _ _
  refine sg wide_wide [.p, .p, .p] [] [(4, (Pv fx)), (5, (Pv sx)), (6, (Pv rx)), (7, (Pv b)), (8, (Pv cx)), (35, .func (.func 65) #[] #[(Pv fb183), (Pv rb183)]), (36, I6 0)] 6 3 hS .nil fun a hS => ?_
  refine eff_box wide_wide (r := 2) (cs := #[.nilFunc]) (T := 62) (d := (some 10)) hS (by kernel_rfl) fun a w191 hw192 hS => ?_
  have hn193 : fx ≠ wc183.heap.size := Nat.ne_of_lt hB184.lt
  have hn194 : sx ≠ wc183.heap.size := Nat.ne_of_lt hB185.lt
  have hn195 : rx ≠ wc183.heap.size := Nat.ne_of_lt hB186.lt
  have hn196 : cx ≠ wc183.heap.size := Nat.ne_of_lt hB187.lt
  have hn197 : c ≠ wc183.heap.size := Nat.ne_of_lt hB188.lt
  have hB198 := Blk.at' hw192 (hB184.alloc _)
  have hB199 := Blk.at' hw192 (hB185.alloc _)
  have hB200 := Blk.at' hw192 (hB186.alloc _)
  have hB201 := Blk.at' hw192 (hB187.alloc _)
  have hB202 := Blk.at' hw192 (hB188.alloc _)
  have hX203 : Ext [] wc183 w191 := by rw [hw192]; exact (Ext.refl _ _).alloc _
  have hG204 : True := trivial
  have hG205 : Ext [] wc183 w191 := hqE.trans0 hX203
  have hB206 : Blk w191 (wc183.heap.size) 62 #[.nilFunc] := by rw [hw192]; exact Blk.new _ _ _
  have hs207 : w47.heap.size ≤ wc183.heap.size := hE190.size
  have hE208 : Ext [] w47 w191 := by rw [hw192]; exact hE190.alloc _
  refine eff_store wide_wide (r := 1) (b := wc183.heap.size) (off := 0) (vs := [.func (.func 65) #[] #[(Pv fb183), (Pv rb183)]]) hS (by kernel_rfl) hB206 (by simp) fun a w209 hw210 hS => ?_
  have hB211 := Blk.at' hw210 (hB198.updNe (Ne.symm hn193) _ _)
  have hB212 := Blk.at' hw210 (hB199.updNe (Ne.symm hn194) _ _)
  have hB213 := Blk.at' hw210 (hB200.updNe (Ne.symm hn195) _ _)
  have hB214 := Blk.at' hw210 (hB201.updNe (Ne.symm hn196) _ _)
  have hB215 := Blk.at' hw210 (hB202.updNe (Ne.symm hn197) _ _)
  have hB216 : Blk w209 wc183.heap.size 62 (#[.func (.func 65) #[] #[(Pv fb183), (Pv rb183)]]) := by rw [hw210]; exact hB206.upd _ _
  have hX217 : Ext [wc183.heap.size] w191 w209 := by rw [hw210]; exact (Ext.refl _ _).updIn (.inl (by simp)) _ _
  have hG218 : True := trivial
  have hG219 : Ext [] wc183 w209 := hG205.trans hX217 (fun b hb => by simp at hb; subst hb; exact .inr hqE.size)
  have hE220 : Ext [] w47 w209 := by rw [hw210]; exact hE208.updIn (.inr hs207) _ _
  refine sg wide_wide [.p] [] [(4, (Pv fx)), (5, (Pv sx)), (6, (Pv rx)), (7, (Pv b)), (8, (Pv cx)), (10, (Pv wc183.heap.size)), (11, I6 0)] 9 0 hS .nil fun a hS => ?_
  refine seg_end ?_
  refine hK58 _ _ ?_
  refine sq fun K221 hK221 => ?_
  refine sq fun K222 hK222 => ?_
  refine region_fn2 wide_wide [.q (.ld (I6 ↑i)), .q (.as (.bool false)), .q .p, .q (.ld (I6 ↑i)), .q (.ld ((Pv c))), .q .p, .q .p, .q (.ld (q)), .q (.run (I6 ↑xs.length)), .q (.as (.bool false)), .q .p] [0, 0, 0, 0, 0, 0, 0, 0, 0, 0, 0] [0, 0, 0, 0, 0, 0, 0, 0, 0, 0, 0] [0, 1, 3, 7, 7, 23, 55, 119, 247, 511, 1023] [] 0 ([(4, (Pv fx)), (5, (Pv sx)), (6, (Pv rx)), (7, (Pv b)), (8, (Pv cx)), (10, (Pv wc183.heap.size)), (11, I6 0), (37, I6 ↑i), (38, .bool false), (39, .bool false), (40, I6 ↑i), (41, (Pv c)), (42, (Pv c)), (43, (Pv c)), (44, q), (45, I6 ↑xs.length), (46, .bool false), (47, .bool false)]) [w209.drew] w209.drew (fun w' => [(0, [w'.cell? ⟨fx, 0, none⟩ = some (I6 ↑i)]), (1, [Value.bool (decide ((↑i : Int) < 0)) = .bool false]), (3, [w'.cell? ⟨fx, 0, none⟩ = some (I6 ↑i)]), (4, [w'.cell? ⟨cx, 0, none⟩ = some ((Pv c))]), (7, [w'.cell? ⟨c, 0, none⟩ = some (q)]), (8, [Ru Try.prog (vS (Builtin.len_ #[23] 3 #[q])) (I6 ↑xs.length) w']), (9, [Value.bool (decide ((↑i : Int) > ↑xs.length)) = .bool false])]) [4, 5, 6, 7, 8, 10, 11] [] hS (by kernel_rfl) (by kernel_rfl) (by kernel_rfl) (by kernel_rfl) (fun _ => by kernel_rfl) (by kernel_rfl) (by kernel_rfl) (by kernel_rfl) ?_ ?_ ?_
  ·intro e w' hw
   refine (.cons ?_ (.cons ?_ (.cons ?_ (.cons ?_ (.cons ?_ (.cons ?_ (.cons ?_ .nil)))))))
   ·intro h1 h2
    obtain rfl : e = 0 := Nat.le_antisymm h2 h1
    obtain rfl : w' = w209.drew := hw.trans (by kernel_rfl)
    exact (.cons ((hB211.drew : Blk w209.drew fx 3 (#[I6 ↑i])).cell 0 rfl) .nil)
   ·exact fun _ _ => (.cons (as_f (by omega)) .nil)
   ·intro h1 h2
    obtain rfl : e = 0 := Nat.le_antisymm h2 h1
    obtain rfl : w' = w209.drew := hw.trans (by kernel_rfl)
    exact (.cons ((hB211.drew : Blk w209.drew fx 3 (#[I6 ↑i])).cell 0 rfl) .nil)
   ·intro h1 h2
    obtain rfl : e = 0 := Nat.le_antisymm h2 h1
    obtain rfl : w' = w209.drew := hw.trans (by kernel_rfl)
    exact (.cons ((hB214.drew : Blk w209.drew cx 52 (#[(Pv c)])).cell 0 rfl) .nil)
   ·intro h1 h2
    obtain rfl : e = 0 := Nat.le_antisymm h2 h1
    obtain rfl : w' = w209.drew := hw.trans (by kernel_rfl)
    exact (.cons ((hB215.drew : Blk w209.drew c 56 (#[q])).cell 0 rfl) .nil)
   ·exact fun _ _ => (.cons (run_len_rd (e := 5) hq5.2.1 (by kernel_rfl)) .nil)
   ·exact fun _ _ => (.cons (as_f (by omega)) .nil)
  ·refine .nil
  rintro a w224 hS hw225
  replace hw225 : w224 = w209.drew := hw225.trans (by kernel_rfl)
  have hB226 := Blk.at' hw225 (hB211.drew)
  have hB227 := Blk.at' hw225 (hB212.drew)
  have hB228 := Blk.at' hw225 (hB213.drew)
  have hB229 := Blk.at' hw225 (hB214.drew)
  have hB230 := Blk.at' hw225 (hB215.drew)
  have hB231 := Blk.at' hw225 (hB216.drew)
  have hE232 : Ext [] w47 w224 := by rw [hw225]; exact hE220.drew
  have hX233 : Ext [] w209 w224 := by rw [hw225]; exact (Ext.refl _ _).drew
  have hG234 : True := trivial
  have hG235 : Ext [] wc183 w224 := hG219.trans0 hX233
  replace hS := hS.kp [(4, (Pv fx)), (5, (Pv sx)), (6, (Pv rx)), (7, (Pv b)), (8, (Pv cx)), (10, (Pv wc183.heap.size)), (11, I6 0), (47, .bool false)]
  refine hK222 _ _ ?_
  refine cond_f hS rfl ?_
  refine wpIn_skip ?_
  refine hK221 _ _ ?_
  refine sq fun K236 hK236 => ?_
  refine sq fun K237 hK237 => ?_
  refine rgn 6 ?_
  refine sg wide_wide [.p, .p, .p, .ld (.func (.func 65) #[] #[(Pv fb183), (Pv rb183)]), .p, .p] [w224.cell? ⟨wc183.heap.size, 0, none⟩ = some (.func (.func 65) #[] #[(Pv fb183), (Pv rb183)])] [(4, (Pv fx)), (5, (Pv sx)), (6, (Pv rx)), (7, (Pv b)), (8, (Pv cx)), (10, (Pv wc183.heap.size)), (11, I6 0), (47, .bool false), (59, .bool false)] 6 0 hS (.cons (hB231.cell 0 rfl) .nil) fun a hS => ?_
  refine seg_end ?_
  refine hK237 _ _ ?_
  refine cond_f hS rfl ?_
  refine wpIn_skip ?_
  refine hK236 _ _ ?_
  refine sq fun K238 hK238 => ?_
  refine sq fun K239 hK239 => ?_
  refine rgn 2 ?_
  refine eff_box wide_wide (r := 1) (cs := #[I6 0]) (T := 3) (d := (some 12)) hS (by kernel_rfl) fun a w240 hw241 hS => ?_
  have hn242 : fx ≠ w224.heap.size := Nat.ne_of_lt hB226.lt
  have hn243 : sx ≠ w224.heap.size := Nat.ne_of_lt hB227.lt
  have hn244 : rx ≠ w224.heap.size := Nat.ne_of_lt hB228.lt
  have hn245 : cx ≠ w224.heap.size := Nat.ne_of_lt hB229.lt
  have hn246 : c ≠ w224.heap.size := Nat.ne_of_lt hB230.lt
  have hn247 : wc183.heap.size ≠ w224.heap.size := Nat.ne_of_lt hB231.lt
  have hB248 := Blk.at' hw241 (hB226.alloc _)
  have hB249 := Blk.at' hw241 (hB227.alloc _)
  have hB250 := Blk.at' hw241 (hB228.alloc _)
  have hB251 := Blk.at' hw241 (hB229.alloc _)
  have hB252 := Blk.at' hw241 (hB230.alloc _)
  have hB253 := Blk.at' hw241 (hB231.alloc _)
  have hX254 : Ext [] w224 w240 := by rw [hw241]; exact (Ext.refl _ _).alloc _
  have hG255 : True := trivial
  have hG256 : Ext [] wc183 w240 := hG235.trans0 hX254
  have hB257 : Blk w240 (w224.heap.size) 3 #[I6 0] := by rw [hw241]; exact Blk.new _ _ _
  have hs258 : w47.heap.size ≤ w224.heap.size := hE232.size
  have hE259 : Ext [] w47 w240 := by rw [hw241]; exact hE232.alloc _
  refine eff_store wide_wide (r := 0) (b := w224.heap.size) (off := 0) (vs := [I6 0]) hS (by kernel_rfl) hB257 (by simp) fun a w260 hw261 hS => ?_
  have hB262 := Blk.at' hw261 (hB248.updNe (Ne.symm hn242) _ _)
  have hB263 := Blk.at' hw261 (hB249.updNe (Ne.symm hn243) _ _)
  have hB264 := Blk.at' hw261 (hB250.updNe (Ne.symm hn244) _ _)
  have hB265 := Blk.at' hw261 (hB251.updNe (Ne.symm hn245) _ _)
  have hB266 := Blk.at' hw261 (hB252.updNe (Ne.symm hn246) _ _)
  have hB267 := Blk.at' hw261 (hB253.updNe (Ne.symm hn247) _ _)
  have hB268 : Blk w260 w224.heap.size 3 (#[I6 0]) := by rw [hw261]; exact hB257.upd _ _
  have hX269 : Ext [w224.heap.size] w240 w260 := by rw [hw261]; exact (Ext.refl _ _).updIn (.inl (by simp)) _ _
  have hG270 : True := trivial
  have hG271 : Ext [] wc183 w260 := hG256.trans hX269 (fun b hb => by simp at hb; subst hb; exact .inr hG235.size)
  have hE272 : Ext [] w47 w260 := by rw [hw261]; exact hE259.updIn (.inr hs258) _ _
  refine seg_end ?_
  refine hK239 _ _ ?_
  refine wpIn_block ?_
  replace hS := hS.keepTo [4, 5, 6, 7, 8, 10, 12] (m' := [(4, (Pv fx)), (5, (Pv sx)), (6, (Pv rx)), (7, (Pv b)), (8, (Pv cx)), (10, (Pv wc183.heap.size)), (12, (Pv w224.heap.size))]) (by kernel_rfl)
  have hqx6 := hB267
  obtain ⟨qx, heqx⟩ : ∃ b, b = wc183.heap.size := ⟨_, rfl⟩
  rw [← heqx] at hS hqx6
  have hnb6 := hB268
  obtain ⟨nb0, henb⟩ : ∃ b, b = w224.heap.size := ⟨_, rfl⟩
  rw [← henb] at hS hnb6
  have hfx6 := hB262
  have hsx6 := hB263
  have hrx6 := hB264
  have hcx6 := hB265
  have hc6 := hB266
  have hE56 := hE272
  have hE66 : Ext [] w260 w260 := Ext.refl _ _
  have hSq6 : SqC w260 fb183 rb183 i xs := hSqq.ext0 hG271
  have hEw6 := hEw5.trans0 hE56
  obtain ⟨T, hTlt, hTs⟩ := hSq6
  obtain ⟨N6, hN6⟩ : ∃ n, n = w260.heap.size := ⟨_, rfl⟩
  have hlow_fx : ∀ {k : Nat}, w260.heap.size ≤ k → fx ≠ k := fun {k} h => by have := hfx6.lt; omega
  have hlow_sx : ∀ {k : Nat}, w260.heap.size ≤ k → sx ≠ k := fun {k} h => by have := hsx6.lt; omega
  have hlow_rx : ∀ {k : Nat}, w260.heap.size ≤ k → rx ≠ k := fun {k} h => by have := hrx6.lt; omega
  have hlow_cx : ∀ {k : Nat}, w260.heap.size ≤ k → cx ≠ k := fun {k} h => by have := hcx6.lt; omega
  have hlow_c : ∀ {k : Nat}, w260.heap.size ≤ k → c ≠ k := fun {k} h => by have := hc6.lt; omega
  have hlow_qx : ∀ {k : Nat}, w260.heap.size ≤ k → qx ≠ k := fun {k} h => by have := hqx6.lt; omega
  refine loop_ghost (fun ((n, nb, Ds) : Nat × Nat × List Nat) a' w' => St 210 (Ds.map dmark) [(4, (Pv fx)), (5, (Pv sx)), (6, (Pv rx)), (7, (Pv b)), (8, (Pv cx)), (10, (Pv qx)), (12, (Pv nb))] a' ∧ n ≤ 3 ∧ Ext [] w260 w' ∧ Blk w' nb 3 #[I6 (n : Int)] ∧ (fx ≠ nb ∧ sx ≠ nb) ∧ (∀ D ∈ Ds, Dfr w' D) ∧ Ds.Nodup ∧ (∀ D ∈ Ds, w260.heap.size ≤ D)) (fun ((n, nb, Ds) : Nat × Nat × List Nat) => 3 - n) (0, nb0, []) ⟨hS.keepTo [4, 5, 6, 7, 8, 10, 12] (by kernel_rfl), by omega, Ext.refl _ _, hnb6, ⟨by rw [henb]; exact hn242, by rw [henb]; exact hn243⟩, by simp, by simp, by simp⟩ ?_
  rintro ⟨n, nb, Ds⟩ a w1 ⟨hS, hn2, hEl, hnb, ⟨hNb_fx, hNb_sx⟩, hDs, hnd, hDn⟩
  refine sq fun K273 hK273 => ?_
  refine sq fun K274 hK274 => ?_
  refine rgn 2 ?_
  refine sg wide_wide [.ld (I6 ↑n), .p] [w1.cell? ⟨nb, 0, none⟩ = some (I6 ↑n)] [(4, (Pv fx)), (5, (Pv sx)), (6, (Pv rx)), (7, (Pv b)), (8, (Pv cx)), (10, (Pv qx)), (12, (Pv nb)), (61, .bool (decide ((↑n : Int) < 3)))] 2 0 hS (.cons (hnb.cell 0 rfl) .nil) fun a hS => ?_
  refine seg_end ?_
  refine hK274 _ _ ?_
  refine cond_b hS rfl (fun hb275 => ?_) (fun hb275 => ?_)
  ·
   replace hb275 := of_decide_eq_true hb275
   refine wpIn_skip ?_
   refine hK273 _ _ ?_
   refine sq fun K276 hK276 => ?_
   refine wpIn_block ?_
   refine sq fun K277 hK277 => ?_
   rcases (show n = 0 ∨ n = 1 ∨ n = 2 by omega) with rfl | rfl | rfl
   ·
    replace hnb : Blk w1 nb 3 #[I6 0] := hnb
    refine rgn 3 ?_
    refine sg wide_wide [.ld (I6 ↑i)] [w1.cell? ⟨fx, 0, none⟩ = some (I6 ↑i)] [(4, (Pv fx)), (5, (Pv sx)), (6, (Pv rx)), (7, (Pv b)), (8, (Pv cx)), (10, (Pv qx)), (12, (Pv nb)), (64, I6 ↑i)] 1 2 hS (.cons (((hfx6.ext hEl (by simp))).cell 0 rfl) .nil) fun a hS => ?_
    refine eff_box wide_wide (r := 1) (cs := #[I6 0]) (T := 3) (d := (some 13)) hS (by kernel_rfl) fun a w278 hw279 hS => ?_
    have hn285 : qx ≠ w1.heap.size := Nat.ne_of_lt (hqx6.ext hEl (by simp)).lt
    have hn286 : nb ≠ w1.heap.size := Nat.ne_of_lt hnb.lt
    have hB292 := Blk.at' hw279 ((hqx6.ext hEl (by simp)).alloc _)
    have hB293 := Blk.at' hw279 (hnb.alloc _)
    have hX294 : Ext [] w1 w278 := by rw [hw279]; exact (Ext.refl _ _).alloc _
    have hG295 : True := trivial
    have hG296 : ∀ D ∈ Ds, Dfr w278 D := fun D hD => (hDs D hD).ext hX294 (by first | (simp; done) | simpa using (hDs D hD).ne_blk (hrx6.ext hEl (by simp)))
    have hB297 : Blk w278 (w1.heap.size) 3 #[I6 0] := by rw [hw279]; exact Blk.new _ _ _
    have hs298 : w260.heap.size ≤ w1.heap.size := hEl.size
    have hE299 : Ext [] w260 w278 := by rw [hw279]; exact hEl.alloc _
    refine eff_store wide_wide (r := 0) (b := w1.heap.size) (off := 0) (vs := [I6 ↑i]) hS (by kernel_rfl) hB297 (by simp) fun a w300 hw301 hS => ?_
    have hB307 := Blk.at' hw301 (hB292.updNe (Ne.symm hn285) _ _)
    have hB308 := Blk.at' hw301 (hB293.updNe (Ne.symm hn286) _ _)
    have hB309 : Blk w300 w1.heap.size 3 (#[I6 ↑i]) := by rw [hw301]; exact hB297.upd _ _
    have hX310 : Ext [w1.heap.size] w278 w300 := by rw [hw301]; exact (Ext.refl _ _).updIn (.inl (by simp)) _ _
    have hG311 : True := trivial
    have hG312 : ∀ D ∈ Ds, Dfr w300 D := fun D hD => (hG296 D hD).ext hX310 (by simpa using (hG296 D hD).ne_blk hB297)
    have hE313 : Ext [] w260 w300 := by rw [hw301]; exact hE299.updIn (.inr hs298) _ _
    refine seg_end ?_
    refine hK277 _ _ ?_
    refine sq fun K314 hK314 => ?_
    refine rgn 2 ?_
    refine eff_box wide_wide (r := 1) (cs := #[I6 0]) (T := 3) (d := (some 14)) hS (by kernel_rfl) fun a w315 hw316 hS => ?_
    have hn322 : qx ≠ w300.heap.size := Nat.ne_of_lt hB307.lt
    have hn323 : nb ≠ w300.heap.size := Nat.ne_of_lt hB308.lt
    have hn324 : w1.heap.size ≠ w300.heap.size := Nat.ne_of_lt hB309.lt
    have hB330 := Blk.at' hw316 (hB307.alloc _)
    have hB331 := Blk.at' hw316 (hB308.alloc _)
    have hB332 := Blk.at' hw316 (hB309.alloc _)
    have hX333 : Ext [] w300 w315 := by rw [hw316]; exact (Ext.refl _ _).alloc _
    have hG334 : True := trivial
    have hG335 : ∀ D ∈ Ds, Dfr w315 D := fun D hD => (hG312 D hD).ext hX333 (by first | (simp; done) | simpa using (hDs D hD).ne_blk (hrx6.ext hEl (by simp)))
    have hB336 : Blk w315 (w300.heap.size) 3 #[I6 0] := by rw [hw316]; exact Blk.new _ _ _
    have hs337 : w260.heap.size ≤ w300.heap.size := hE313.size
    have hE338 : Ext [] w260 w315 := by rw [hw316]; exact hE313.alloc _
    refine eff_store wide_wide (r := 0) (b := w300.heap.size) (off := 0) (vs := [I6 0]) hS (by kernel_rfl) hB336 (by simp) fun a w339 hw340 hS => ?_
    have hB346 := Blk.at' hw340 (hB330.updNe (Ne.symm hn322) _ _)
    have hB347 := Blk.at' hw340 (hB331.updNe (Ne.symm hn323) _ _)
    have hB348 := Blk.at' hw340 (hB332.updNe (Ne.symm hn324) _ _)
    have hB349 : Blk w339 w300.heap.size 3 (#[I6 0]) := by rw [hw340]; exact hB336.upd _ _
    have hX350 : Ext [w300.heap.size] w315 w339 := by rw [hw340]; exact (Ext.refl _ _).updIn (.inl (by simp)) _ _
    have hG351 : True := trivial
    have hG352 : ∀ D ∈ Ds, Dfr w339 D := fun D hD => (hG335 D hD).ext hX350 (by simpa using (hG335 D hD).ne_blk hB336)
    have hE353 : Ext [] w260 w339 := by rw [hw340]; exact hE338.updIn (.inr hs337) _ _
    refine seg_end ?_
    refine hK314 _ _ ?_
    refine sq fun K354 hK354 => ?_
    refine sq fun K355 hK355 => ?_
    refine rgn 1 ?_
    refine sg wide_wide [.ld (.func (.func 65) #[] #[(Pv fb183), (Pv rb183)])] [w339.cell? ⟨qx, 0, none⟩ = some (.func (.func 65) #[] #[(Pv fb183), (Pv rb183)])] [(4, (Pv fx)), (5, (Pv sx)), (6, (Pv rx)), (7, (Pv b)), (8, (Pv cx)), (10, (Pv qx)), (12, (Pv nb)), (13, (Pv w1.heap.size)), (14, (Pv w300.heap.size)), (65, .func (.func 65) #[] #[(Pv fb183), (Pv rb183)])] 1 0 hS (.cons (hB346.cell 0 rfl) .nil) fun a hS => ?_
    refine seg_end ?_
    refine hK355 _ _ ?_
    refine wpIn_block ?_
    replace hS := hS.keepTo [4, 5, 6, 7, 8, 10, 12, 13, 14, 65] (m' := [(4, (Pv fx)), (5, (Pv sx)), (6, (Pv rx)), (7, (Pv b)), (8, (Pv cx)), (10, (Pv qx)), (12, (Pv nb)), (13, (Pv w1.heap.size)), (14, (Pv w300.heap.size)), (65, .func (.func 65) #[] #[(Pv fb183), (Pv rb183)])]) (by kernel_rfl)
    have hkb9 := hB348
    have hpb9 := hB349
    have hnb9 := hB347
    have hlkb : w260.heap.size ≤ w1.heap.size := hs298
    have hlpb : w260.heap.size ≤ w300.heap.size := hs337
    have hnbkb : nb ≠ w1.heap.size := hn286
    have hnbpb : nb ≠ w300.heap.size := hn323
    have hkbpb : w1.heap.size ≠ w300.heap.size := hn324
    obtain ⟨kb, hkbe⟩ : ∃ x, x = w1.heap.size := ⟨_, rfl⟩
    obtain ⟨pb, hpbe⟩ : ∃ x, x = w300.heap.size := ⟨_, rfl⟩
    rw [← hkbe] at hkb9 hlkb hnbkb hkbpb
    rw [← hpbe] at hpb9 hlpb hnbpb hkbpb
    rw [← hkbe, ← hpbe] at hS
    have hE9 := hE353
    have hD9 := hG352
    have hkblt := hkb9.lt
    have hpblt := hpb9.lt
    have hl9 := hE9.size
    have hnblt := hnb9.lt
    refine range_out (α := Cp) (β := Cv) (gf := 65) (lb := #[Pv fb183, Pv rb183]) (π := (·.1)) (enc := ckE) (nb := ckB) (Ok := ckOk) (Nx := CkNx i (xs.drop i)) (Fin := CkFin (xs.drop i)) (T := T)
     (fun pre Cx W => Cx = [kb, pb] ∧ Blk W kb 3 #[I6 ((i + (told (pre.map (·.1))).length : Nat) : Int)] ∧ Blk W pb 3 #[I6 (pre.length : Int)] ∧ pre.length ≤ (told (pre.map (·.1))).length)
     (fun c pre Cx W => c = .exit 2 ∧ Cx = [kb, pb] ∧ ∃ A k : Nat, (k : Int) = y ∧ Blk W kb 3 #[I6 (A : Int)] ∧ Blk W pb 3 #[I6 (k : Int)] ∧ A ≤ 100000000 ∧ k ≤ 100000000) [kb, pb] (fun q => [(4, (Pv fx)), (5, (Pv sx)), (6, (Pv rx)), (7, (Pv b)), (8, (Pv cx)), (10, (Pv qx)), (12, (Pv nb)), (13, (Pv kb)), (14, (Pv pb)), (15, I6 q.1.1), (16, q.2)]) hS rfl Try.call65 ?_ ckOk_ext ?_ ?_ ?_ (fun _ => rfl) rfl ?_ ?_ ?_ ?_ ?_ ?_ ?_
    ·intro W hEW _
     exact hTs W (hE9.trans0 hEW)
    ·intro b hb
     exact Nat.lt_of_lt_of_le (hTlt b hb) hl9
    ·intro b hb hT
     have h1 := hTlt b hT
     rcases (by simpa using hb : b = kb ∨ b = pb) with rfl | rfl <;> omega
    ·intro b hb
     rcases (by simpa using hb : b = kb ∨ b = pb) with rfl | rfl
     ·exact hkblt
     ·exact hpblt
    ·rintro pre Cx M W W' ⟨rfl, h1, h2, h3⟩ hE hM
     exact ⟨rfl, h1.ext hE (fun hm => (hM _ hm).2 (by simp)), h2.ext hE (fun hm => (hM _ hm).2 (by simp)), h3⟩
    ·rintro c pre Cx M W W' ⟨hc, rfl, A, k, h1, h2, h3, h4⟩ hE hM
     exact ⟨hc, rfl, A, k, h1, h2.ext hE (fun hm => (hM _ hm).2 (by simp)), h3.ext hE (fun hm => (hM _ hm).2 (by simp)), h4⟩
    ·exact ⟨rfl, hkb9, hpb9, Nat.le_refl _⟩
    ·intro l2 x a' W K hS hK
     refine sq fun K356 hK356 => ?_
     refine rgn 1 ?_
     refine sg (wide_wide.inRound l2) [.p] [] [(4, (Pv fx)), (5, (Pv sx)), (6, (Pv rx)), (7, (Pv b)), (8, (Pv cx)), (10, (Pv qx)), (12, (Pv nb)), (13, (Pv kb)), (14, (Pv pb)), (66, I6 x.1.1), (67, x.2), (15, I6 x.1.1)] 1 0 hS .nil fun a hS => ?_
     refine seg_end ?_
     refine hK356 _ _ ?_
     refine rgn 1 ?_
     refine sg (wide_wide.inRound l2) [.p] [] [(4, (Pv fx)), (5, (Pv sx)), (6, (Pv rx)), (7, (Pv b)), (8, (Pv cx)), (10, (Pv qx)), (12, (Pv nb)), (13, (Pv kb)), (14, (Pv pb)), (66, I6 x.1.1), (67, x.2), (15, I6 x.1.1), (16, x.2)] 1 0 hS .nil fun a hS => ?_
     refine seg_end ?_
     exact hK _ (hS.keepTo [4, 5, 6, 7, 8, 10, 12, 13, 14, 15, 16] (by kernel_rfl))
    ·rintro l2 pre xv Cx W a ⟨hx1, hx2, rest, hx3⟩ ⟨rfl, hkbW, hpbW, hpreW⟩ hlieW hfrW hnl hrec hEW hok hnbx hS
     replace hS : St 210 [] [(4, (Pv fx)), (5, (Pv sx)), (6, (Pv rx)), (7, (Pv b)), (8, (Pv cx)), (10, (Pv qx)), (12, (Pv nb)), (13, (Pv kb)), (14, (Pv pb)), (15, I6 xv.1.1), (16, xv.2)] a := hS
     obtain ⟨⟨xp, ys⟩, xw⟩ := xv
     simp only at hx1 hx2 hx3 hS
     obtain ⟨tl, htl⟩ : ∃ tl : Nat, (told (pre.map (·.1))).length = tl := ⟨_, rfl⟩
     rw [htl] at hx1 hkbW hpreW
     have hxll := congrArg List.length hx3
     rw [List.length_append, List.length_append, List.length_drop, htl] at hxll
     have hys : 0 < ys.length := List.length_pos_iff.2 hx2
     have hcut : (xs.drop (i + tl)).take (i + tl + ys.length - (i + tl)) = ys := cut_told hx3 htl
     obtain ⟨g, cap, hxw, hg⟩ := OwnV.some_of_pos (show OwnV W 5 1 xw ys.length (bv ys) from hok) hys
     subst hxw
     rw [hx1] at hS
     have hgk : ∀ b ∈ ckB ((xp, ys), Value.slice (some ⟨g, 0, none⟩) ys.length cap), b = g := fun b hb => by simpa [ckB, ob] using hb
     obtain ⟨hgn, hglt, hgC, hgl⟩ := hnbx g (by simp [ckB, ob])
     have hgl6 : w260.heap.size ≤ g := by omega
     have hM6 : ∀ b ∈ [g, kb, pb], b ∈ ([] : List Nat) ∨ w260.heap.size ≤ b := fun b hb => by
      rcases (by simpa using hb : b = g ∨ b = kb ∨ b = pb) with rfl | rfl | rfl
      ·exact .inr hgl6
      ·exact .inr hlkb
      ·exact .inr hlpb
     have hE6W : Ext [] w260 W := hE9.trans hEW (fun b hb => hM6 b (by simp at hb ⊢; simp [hb]))
     have hnbW := hnb9.ext hEW (by simp [hnbkb, hnbpb])
     have hWW : Ext [g, kb, pb] W W := Ext.refl _ _
     have hrd0 : RdV W 1 (Value.slice (some ⟨g, 0, none⟩) ys.length cap) ys.length (bv ys) := hg.v.rd
     have hsn : (told ((pre ++ [((xp, ys), Value.slice (some ⟨g, 0, none⟩) ys.length cap)]).map (·.1))).length = tl + ys.length := by rw [List.map_append, List.map_cons, List.map_nil, told_snoc, List.length_append, htl]
     refine wpIn_block ?_
     refine sq fun K357 hK357 => ?_
     refine sq fun K358 hK358 => ?_
     refine rgn 7 ?_
     refine sg (wide_wide.inRound l2) [.ld (I6 0), .p, .p, .ld (I6 ↑pre.length), .ld (I6 y), .p, .p] [W.cell? ⟨nb, 0, none⟩ = some (I6 0), W.cell? ⟨pb, 0, none⟩ = some (I6 ↑pre.length), W.cell? ⟨sx, 0, none⟩ = some (I6 y)] [(4, (Pv fx)), (5, (Pv sx)), (6, (Pv rx)), (7, (Pv b)), (8, (Pv cx)), (10, (Pv qx)), (12, (Pv nb)), (13, (Pv kb)), (14, (Pv pb)), (15, I6 ((i + tl : Nat) : Int)), (16, .slice (some ⟨g, 0, none⟩) ys.length cap), (74, .bool ((↑pre.length : Int) == y))] 7 0 hS (.cons (hnbW.cell 0 rfl) (.cons (hpbW.cell 0 rfl) (.cons (((hsx6.ext hE6W (by simp))).cell 0 rfl) .nil))) fun a hS => ?_
     refine seg_end ?_
     refine hK358 _ _ ?_
     refine cond_b hS rfl (fun hb359 => ?_) (fun hb359 => ?_)
     ·
      replace hb359 := test_eq_t hb359
      refine wpIn_exit ?_
      refine then_exit ?_
      refine inBlock_miss rfl ?_
      exact left_exit (C' := [kb, pb]) (hWW.mono (fun b hb => by simp [ckB, ob] at hb ⊢; simp [hb])) (fun b hb => .inl (List.mem_append_right _ hb)) (hlieW.ext hWW) ⟨rfl, rfl, i + tl, pre.length, hb359, hkbW, hpbW, by omega, by omega⟩
     ·
      replace hb359 := test_eq_f hb359
      refine wpIn_skip ?_
      refine hK357 _ _ ?_
      refine sq fun K360 hK360 => ?_
      refine sq fun K361 hK361 => ?_
      refine region_gh2 (G := World) (wide_wide.inRound l2) [.q .p, .q (.ld (I6 ((i + tl : Nat) : Int))), .q (.as (.bool false)), .q .p, .q .p, .q .p, .q (.as (.bool false)), .q .p, .q .p, .q .p, .q .p, .q (.ld ((Pv c))), .q .p, .q .p, .q (.ld (q)), .q (.run (I6 ↑xs.length)), .q (.ld (I6 ((i + tl : Nat) : Int))), .q (.as (I6 (↑xs.length - ((i + tl : Nat) : Int)))), .q (.as (.bool false)), .q .p, .q .p, .q .p, .q (.ld ((Pv c))), .q .p, .q .p, .q (.ld (q)), .q (.ld (I6 ((i + tl : Nat) : Int))), .q (.ld (I6 ((i + tl : Nat) : Int))), .q .p, .q .p, .q (.as (I6 ((i + tl + ys.length : Nat) : Int))), .q (.run (rsub q (i + tl) (i + tl + ys.length) (capOf q))), .e, .q .p, .q .p] [0, 0, 0, 0, 0, 0, 0, 0, 0, 0, 0, 0, 0, 0, 0, 0, 0, 0, 0, 0, 0, 0, 0, 0, 0, 0, 0, 0, 0, 0, 0, 0, 0, 1, 1] [0, 0, 0, 0, 0, 0, 0, 0, 0, 0, 0, 0, 0, 0, 0, 0, 0, 0, 0, 0, 0, 0, 0, 0, 0, 0, 0, 0, 0, 0, 0, 0, 0, 1, 1] [0, 0, 3, 7, 15, 31, 63, 127, 255, 511, 1023, 511, 2559, 6655, 14847, 31231, 511, 129535, 262143, 524287, 1048575, 2097151, 2097151, 6291455, 14680063, 31457279, 2097151, 2097151, 2097151, 270532607, 941621247, 2145386495, 4294967295, 8589934591, 17179869183] [32] [(32, 0)] 1 (fun wc362 => ([(4, (Pv fx)), (5, (Pv sx)), (6, (Pv rx)), (7, (Pv b)), (8, (Pv cx)), (10, (Pv qx)), (12, (Pv nb)), (13, (Pv kb)), (14, (Pv pb)), (15, I6 ((i + tl : Nat) : Int)), (16, .slice (some ⟨g, 0, none⟩) ys.length cap), (75, I6 ((i + tl : Nat) : Int)), (76, I6 ((i + tl : Nat) : Int)), (77, .bool false), (78, .bool false), (79, .slice (some ⟨g, 0, none⟩) ys.length cap), (80, I6 ↑ys.length), (81, .bool false), (82, .bool false), (83, .bool false), (84, .slice (some ⟨g, 0, none⟩) ys.length cap), (85, I6 ↑ys.length), (86, (Pv c)), (87, (Pv c)), (88, (Pv c)), (89, q), (90, I6 ↑xs.length), (91, I6 ((i + tl : Nat) : Int)), (92, I6 (↑xs.length - ((i + tl : Nat) : Int))), (93, .bool false), (94, .bool false), (95, .bool false), (96, .slice (some ⟨g, 0, none⟩) ys.length cap), (97, (Pv c)), (98, (Pv c)), (99, (Pv c)), (100, q), (101, I6 ((i + tl : Nat) : Int)), (102, I6 ((i + tl : Nat) : Int)), (103, .slice (some ⟨g, 0, none⟩) ys.length cap), (104, I6 ↑ys.length), (105, I6 ((i + tl + ys.length : Nat) : Int)), (106, (rsub q (i + tl) (i + tl + ys.length) (capOf q))), (107, .bool true), (108, .bool false), (109, .bool false)] : Fm)) (fun wc362 => [W.drew, wc362]) (W.drew) (fun e wc362 => hAt [True, (Ext [] W.drew wc362) ∧ True] e) (fun wc362 w' => [(1, [w'.cell? ⟨kb, 0, none⟩ = some (I6 ((i + tl : Nat) : Int))]), (2, [Value.bool (((((i + tl : Nat) : Int) : Int) != ((i + tl : Nat) : Int))) = .bool false]), (6, [Value.bool (((↑ys.length : Int) == 0)) = .bool false]), (11, [w'.cell? ⟨cx, 0, none⟩ = some ((Pv c))]), (14, [w'.cell? ⟨c, 0, none⟩ = some (q)]), (15, [Ru Try.prog (vS (Builtin.len_ #[23] 3 #[q])) (I6 ↑xs.length) w']), (16, [w'.cell? ⟨kb, 0, none⟩ = some (I6 ((i + tl : Nat) : Int))]), (17, [Value.int .i64 (IntKind.i64.wrap (↑xs.length - ((i + tl : Nat) : Int))) = I6 (↑xs.length - ((i + tl : Nat) : Int))]), (18, [Value.bool (decide ((↑ys.length : Int) > ↑xs.length - ((i + tl : Nat) : Int))) = .bool false]), (22, [w'.cell? ⟨cx, 0, none⟩ = some ((Pv c))]), (25, [w'.cell? ⟨c, 0, none⟩ = some (q)]), (26, [w'.cell? ⟨kb, 0, none⟩ = some (I6 ((i + tl : Nat) : Int))]), (27, [w'.cell? ⟨kb, 0, none⟩ = some (I6 ((i + tl : Nat) : Int))]), (30, [Value.int .i64 (IntKind.i64.wrap (((i + tl : Nat) : Int) + ↑ys.length)) = I6 ((i + tl + ys.length : Nat) : Int)]), (31, [Ru Try.prog (vS (Instr.sliceAt 23 q (some (I6 ((i + tl : Nat) : Int))) (some (I6 ((i + tl + ys.length : Nat) : Int))) none)) (rsub q (i + tl) (i + tl + ys.length) (capOf q)) w'])]) W.drew [4, 5, 6, 7, 8, 10, 12, 13, 14, 15, 16] [] hS (by kernel_rfl) (by kernel_rfl) (by kernel_rfl) (by kernel_rfl) (fun wc362 _ => by kernel_rfl) (by kernel_rfl) (by kernel_rfl) (by kernel_rfl) trivial ?_ (by kernel_rfl) ?_ ?_
      ·rintro e wc362 w' hw hH
       refine (.cons ?_ (.cons ?_ (.cons ?_ (.cons ?_ (.cons ?_ (.cons ?_ (.cons ?_ (.cons ?_ (.cons ?_ (.cons ?_ (.cons ?_ (.cons ?_ (.cons ?_ (.cons ?_ (.cons ?_ .nil)))))))))))))))
       ·intro h1 h2
        obtain rfl : e = 0 := Nat.le_antisymm h2 h1
        have hwe : W.drew = w' := (hw.trans (by kernel_rfl)).symm
        subst hwe
        clear hH
        exact (.cons ((hkbW.drew : Blk W.drew kb 3 (#[I6 ((i + tl : Nat) : Int)])).cell 0 rfl) .nil)
       ·intro h1 h2
        obtain rfl : e = 0 := Nat.le_antisymm h2 h1
        have hwe : W.drew = w' := (hw.trans (by kernel_rfl)).symm
        subst hwe
        clear hH
        exact (.cons (as_ne_f (rfl)) .nil)
       ·intro h1 h2
        obtain rfl : e = 0 := Nat.le_antisymm h2 h1
        have hwe : W.drew = w' := (hw.trans (by kernel_rfl)).symm
        subst hwe
        clear hH
        exact (.cons (as_eq_f (by omega)) .nil)
       ·intro h1 h2
        obtain rfl : e = 0 := Nat.le_antisymm h2 h1
        have hwe : W.drew = w' := (hw.trans (by kernel_rfl)).symm
        subst hwe
        clear hH
        exact (.cons (((hcx6.ext hE6W (by simp)).drew : Blk W.drew cx 52 (#[(Pv c)])).cell 0 rfl) .nil)
       ·intro h1 h2
        obtain rfl : e = 0 := Nat.le_antisymm h2 h1
        have hwe : W.drew = w' := (hw.trans (by kernel_rfl)).symm
        subst hwe
        clear hH
        exact (.cons (((hc6.ext hE6W (by simp)).drew : Blk W.drew c 56 (#[q])).cell 0 rfl) .nil)
       ·intro h1 h2
        obtain rfl : e = 0 := Nat.le_antisymm h2 h1
        have hwe : W.drew = w' := (hw.trans (by kernel_rfl)).symm
        subst hwe
        clear hH
        exact (.cons (run_len_rd (e := 5) hq5.2.1 (by kernel_rfl)) .nil)
       ·intro h1 h2
        obtain rfl : e = 0 := Nat.le_antisymm h2 h1
        have hwe : W.drew = w' := (hw.trans (by kernel_rfl)).symm
        subst hwe
        clear hH
        exact (.cons ((hkbW.drew : Blk W.drew kb 3 (#[I6 ((i + tl : Nat) : Int)])).cell 0 rfl) .nil)
       ·intro h1 h2
        obtain rfl : e = 0 := Nat.le_antisymm h2 h1
        have hwe : W.drew = w' := (hw.trans (by kernel_rfl)).symm
        subst hwe
        clear hH
        exact (.cons (as_i64 (by omega)) .nil)
       ·intro h1 h2
        obtain rfl : e = 0 := Nat.le_antisymm h2 h1
        have hwe : W.drew = w' := (hw.trans (by kernel_rfl)).symm
        subst hwe
        clear hH
        exact (.cons (as_f (by omega)) .nil)
       ·intro h1 h2
        obtain rfl : e = 0 := Nat.le_antisymm h2 h1
        have hwe : W.drew = w' := (hw.trans (by kernel_rfl)).symm
        subst hwe
        clear hH
        exact (.cons (((hcx6.ext hE6W (by simp)).drew : Blk W.drew cx 52 (#[(Pv c)])).cell 0 rfl) .nil)
       ·intro h1 h2
        obtain rfl : e = 0 := Nat.le_antisymm h2 h1
        have hwe : W.drew = w' := (hw.trans (by kernel_rfl)).symm
        subst hwe
        clear hH
        exact (.cons (((hc6.ext hE6W (by simp)).drew : Blk W.drew c 56 (#[q])).cell 0 rfl) .nil)
       ·intro h1 h2
        obtain rfl : e = 0 := Nat.le_antisymm h2 h1
        have hwe : W.drew = w' := (hw.trans (by kernel_rfl)).symm
        subst hwe
        clear hH
        exact (.cons ((hkbW.drew : Blk W.drew kb 3 (#[I6 ((i + tl : Nat) : Int)])).cell 0 rfl) .nil)
       ·intro h1 h2
        obtain rfl : e = 0 := Nat.le_antisymm h2 h1
        have hwe : W.drew = w' := (hw.trans (by kernel_rfl)).symm
        subst hwe
        clear hH
        exact (.cons ((hkbW.drew : Blk W.drew kb 3 (#[I6 ((i + tl : Nat) : Int)])).cell 0 rfl) .nil)
       ·intro h1 h2
        obtain rfl : e = 0 := Nat.le_antisymm h2 h1
        have hwe : W.drew = w' := (hw.trans (by kernel_rfl)).symm
        subst hwe
        clear hH
        exact (.cons ((by rw [show (((i + tl : Nat) : Int) + ↑ys.length : Int) = ((i + tl + ys.length : Nat) : Int) from by omega]; exact as_i64 (by omega))) .nil)
       ·intro h1 h2
        obtain rfl : e = 0 := Nat.le_antisymm h2 h1
        have hwe : W.drew = w' := (hw.trans (by kernel_rfl)).symm
        subst hwe
        clear hH
        exact (.cons (sl_rd (e := 5) (some (I6 ((i + tl : Nat) : Int))) (some (I6 ((i + tl + ys.length : Nat) : Int))) (l := (i + tl)) (k := (i + tl + ys.length)) hq5.2.1 (by kernel_rfl) (by kernel_rfl) (.inr ⟨_, rfl⟩) (.inr ⟨_, rfl⟩) (by omega) (by omega)) .nil)
      ·refine (.cons ?eq363_32 .nil)
       ·rintro wc362 hH
        clear hH
        refine eff_gh (W.drew) (by kernel_rfl) ?_
        refine upon_call (f := 31) (vs := [.slice (some ⟨g, 0, none⟩) ys.length cap, (rsub q (i + tl) (i + tl + ys.length) (capOf q))]) (cap := #[]) (d := (some 107)) (by kernel_rfl) Try.call31 #[.slice (some ⟨g, 0, none⟩) ys.length cap, (rsub q (i + tl) (i + tl + ys.length) (capOf q))] (by kernel_rfl) (SameB_cut (hrd0.ext0 ((Ext.refl [] _).drew)) ((RdV.subb hq5.2.1 (l := (i + tl)) (k := (i + tl + ys.length)) (m := (capOf q)) (by omega) (by omega) (by have := hq5.2.1.le_cap; omega)).ext0 (hE56.trans0 (hE6W.trans0 ((Ext.refl [] _).drew)))) hcut (by omega)) ?_
        rintro _ wc362 ⟨rfl, hEc362⟩
        exact ⟨_, rfl, ⟨wc362, by kernel_rfl, by kernel_rfl, by kernel_rfl, ⟨hEc362, trivial⟩⟩⟩
      rintro wc362 a w364 hS hw365 hH
      obtain ⟨hEc362, _⟩ := hH
      replace hw365 : w364 = wc362 := hw365.trans (by kernel_rfl)
      have hB372 := Blk.at' hw365 ((hnbW.drew : Blk W.drew nb 3 (#[I6 0])).ext hEc362 (by simp))
      have hB373 := Blk.at' hw365 ((hkbW.drew : Blk W.drew kb 3 (#[I6 ((i + tl : Nat) : Int)])).ext hEc362 (by simp))
      have hB374 := Blk.at' hw365 ((hpbW.drew : Blk W.drew pb 3 (#[I6 ↑pre.length])).ext hEc362 (by simp))
      have hB375 := OwnR.at' hw365 ((hg.drew : OwnR W.drew 5 1 g cap ys.length (bv ys)).ext hEc362 (by simp))
      have hE376 : Ext [g, kb, pb] W w364 := by rw [hw365]; exact (hWW.drew).trans0 hEc362
      have hG378 : True := trivial
      replace hS := hS.kp [(4, (Pv fx)), (5, (Pv sx)), (6, (Pv rx)), (7, (Pv b)), (8, (Pv cx)), (10, (Pv qx)), (12, (Pv nb)), (13, (Pv kb)), (14, (Pv pb)), (15, I6 ((i + tl : Nat) : Int)), (16, .slice (some ⟨g, 0, none⟩) ys.length cap), (109, .bool false)]
      refine hK361 _ _ ?_
      refine cond_f hS rfl ?_
      refine wpIn_skip ?_
      refine hK360 _ _ ?_
      refine sq fun K379 hK379 => ?_
      refine rgn 5 ?_
      refine sg (wide_wide.inRound l2) [.ld (I6 ((i + tl : Nat) : Int)), .p, .p, .as (I6 ((i + tl + ys.length : Nat) : Int))] [w364.cell? ⟨kb, 0, none⟩ = some (I6 ((i + tl : Nat) : Int)), Value.int .i64 (IntKind.i64.wrap (((i + tl : Nat) : Int) + ↑ys.length)) = I6 ((i + tl + ys.length : Nat) : Int)] [(4, (Pv fx)), (5, (Pv sx)), (6, (Pv rx)), (7, (Pv b)), (8, (Pv cx)), (10, (Pv qx)), (12, (Pv nb)), (13, (Pv kb)), (14, (Pv pb)), (15, I6 ((i + tl : Nat) : Int)), (16, .slice (some ⟨g, 0, none⟩) ys.length cap), (109, .bool false), (113, I6 ((i + tl + ys.length : Nat) : Int))] 4 1 hS (.cons (hB373.cell 0 rfl) (.cons ((by rw [show (((i + tl : Nat) : Int) + ↑ys.length : Int) = ((i + tl + ys.length : Nat) : Int) from by omega]; exact as_i64 (by omega))) .nil)) fun a hS => ?_
      refine eff_store (wide_wide.inRound l2) (r := 0) (b := kb) (off := 0) (vs := [I6 ((i + tl + ys.length : Nat) : Int)]) hS (by kernel_rfl) hB373 (by simp) fun a w380 hw381 hS => ?_
      have hB388 := Blk.at' hw381 (hB372.updNe (Ne.symm hnbkb) _ _)
      have hB389 : Blk w380 kb 3 (#[I6 ((i + tl + ys.length : Nat) : Int)]) := by rw [hw381]; exact hB373.upd _ _
      have hB390 := Blk.at' hw381 (hB374.updNe hkbpb _ _)
      have hB391 := OwnR.at' hw381 (hB375.updNe ((OwnR.ne_type hB375 hB373 (by decide)).symm) _ _)
      have hG393 : True := trivial
      have hE394 : Ext [g, kb, pb] W w380 := by rw [hw381]; exact hE376.updIn (.inl (by simp)) _ _
      refine seg_end ?_
      refine hK379 _ _ ?_
      refine sq fun K395 hK395 => ?_
      refine rgn 3 ?_
      refine sg (wide_wide.inRound l2) [.ld (I6 ↑pre.length), .as (I6 ((pre.length + 1 : Nat) : Int))] [w380.cell? ⟨pb, 0, none⟩ = some (I6 ↑pre.length), Value.int .i64 (IntKind.i64.wrap (↑pre.length + 1)) = I6 ((pre.length + 1 : Nat) : Int)] [(4, (Pv fx)), (5, (Pv sx)), (6, (Pv rx)), (7, (Pv b)), (8, (Pv cx)), (10, (Pv qx)), (12, (Pv nb)), (13, (Pv kb)), (14, (Pv pb)), (15, I6 ((i + tl : Nat) : Int)), (16, .slice (some ⟨g, 0, none⟩) ys.length cap), (109, .bool false), (115, I6 ((pre.length + 1 : Nat) : Int))] 2 1 hS (.cons (hB390.cell 0 rfl) (.cons ((by rw [show (↑pre.length + 1 : Int) = ((pre.length + 1 : Nat) : Int) from by omega]; exact as_i64 (by omega))) .nil)) fun a hS => ?_
      refine eff_store (wide_wide.inRound l2) (r := 0) (b := pb) (off := 0) (vs := [I6 ((pre.length + 1 : Nat) : Int)]) hS (by kernel_rfl) hB390 (by simp) fun a w396 hw397 hS => ?_
      have hB404 := Blk.at' hw397 (hB388.updNe (Ne.symm hnbpb) _ _)
      have hB405 := Blk.at' hw397 (hB389.updNe (Ne.symm hkbpb) _ _)
      have hB406 : Blk w396 pb 3 (#[I6 ((pre.length + 1 : Nat) : Int)]) := by rw [hw397]; exact hB390.upd _ _
      have hB407 := OwnR.at' hw397 (hB391.updNe ((OwnR.ne_type hB391 hB390 (by decide)).symm) _ _)
      have hG409 : True := trivial
      have hE410 : Ext [g, kb, pb] W w396 := by rw [hw397]; exact hE394.updIn (.inl (by simp)) _ _
      refine seg_end ?_
      refine hK395 _ _ ?_
      refine sq fun K411 hK411 => ?_
      refine sq fun K412 hK412 => ?_
      refine rgn 1 ?_
      refine sg (wide_wide.inRound l2) [.p] [] [(4, (Pv fx)), (5, (Pv sx)), (6, (Pv rx)), (7, (Pv b)), (8, (Pv cx)), (10, (Pv qx)), (12, (Pv nb)), (13, (Pv kb)), (14, (Pv pb)), (15, I6 ((i + tl : Nat) : Int)), (16, .slice (some ⟨g, 0, none⟩) ys.length cap), (109, .bool false), (17, I6 0)] 1 0 hS .nil fun a hS => ?_
      refine seg_end ?_
      refine hK412 _ _ ?_
      refine wpIn_block ?_
      refine loop_ghost (fun ((j, zs) : Nat × List Int) a' w' => St 210 [] [(4, (Pv fx)), (5, (Pv sx)), (6, (Pv rx)), (7, (Pv b)), (8, (Pv cx)), (10, (Pv qx)), (12, (Pv nb)), (13, (Pv kb)), (14, (Pv pb)), (16, .slice (some ⟨g, 0, none⟩) ys.length cap), (17, I6 ↑j)] a' ∧ j ≤ ys.length ∧ zs.length = ys.length ∧ OwnR w' 5 1 g cap ys.length (bv zs) ∧ Blk w' kb 3 #[I6 ((i + tl + ys.length : Nat) : Int)] ∧ Blk w' pb 3 #[I6 ((pre.length + 1 : Nat) : Int)] ∧ Blk w' nb 3 #[I6 0] ∧ Ext [g, kb, pb] W w') (fun ((j, zs) : Nat × List Int) => ys.length - j) (0, ys) ⟨hS.keepTo [4, 5, 6, 7, 8, 10, 12, 13, 14, 16, 17] (by kernel_rfl), Nat.zero_le _, rfl, hB407, hB405, hB406, hB404, hE410⟩ ?_
      rintro ⟨j, zs⟩ a V ⟨hS, hjl, hzl, hgV, hkbV, hpbV, hnbV, hEV⟩
      have hE6V := hE6W.trans hEV hM6
      refine sq fun K413 hK413 => ?_
      refine sq fun K414 hK414 => ?_
      refine rgn 4 ?_
      refine sg (wide_wide.inRound l2) [.p, .p, .p, .p] [] [(4, (Pv fx)), (5, (Pv sx)), (6, (Pv rx)), (7, (Pv b)), (8, (Pv cx)), (10, (Pv qx)), (12, (Pv nb)), (13, (Pv kb)), (14, (Pv pb)), (16, .slice (some ⟨g, 0, none⟩) ys.length cap), (17, I6 ↑j), (119, .bool (decide ((↑j : Int) < ↑ys.length)))] 4 0 hS .nil fun a hS => ?_
      refine seg_end ?_
      refine hK414 _ _ ?_
      refine cond_b hS rfl (fun hb415 => ?_) (fun hb415 => ?_)
      ·
       replace hb415 := of_decide_eq_true hb415
       obtain ⟨z, hz⟩ : ∃ z, zs[j]? = some z := ⟨_, List.getElem?_eq_getElem (by omega)⟩
       refine wpIn_skip ?_
       refine hK413 _ _ ?_
       refine sq fun K416 hK416 => ?_
       refine wpIn_block ?_
       refine rgn 9 ?_
       refine sg (wide_wide.inRound l2) [.p, .p, .p, .p, .run ((Po g (0 + j * 1))), .ld (.int .u8 z), .run (.int .u8 (xo z)), .run ((Po g (0 + j * 1)))] [Ru Try.prog (vS (Instr.indexAt 23 (.slice (some ⟨g, 0, none⟩) ys.length cap) (I6 ↑j))) ((Po g (0 + j * 1))) V, V.cell? ⟨g, 0 + j * 1, none⟩ = some (.int .u8 z), Ru Try.prog (vS (do eqGuard .xor 5 (.tmp 127) (.const (.int .u8 255)) (.int .u8 z) (.int .u8 255); binOp .xor 5 (.int .u8 z) (.int .u8 255))) (.int .u8 (xo z)) V, Ru Try.prog (vS (Instr.indexAt 23 (.slice (some ⟨g, 0, none⟩) ys.length cap) (I6 ↑j))) ((Po g (0 + j * 1))) V] [(4, (Pv fx)), (5, (Pv sx)), (6, (Pv rx)), (7, (Pv b)), (8, (Pv cx)), (10, (Pv qx)), (12, (Pv nb)), (13, (Pv kb)), (14, (Pv pb)), (16, .slice (some ⟨g, 0, none⟩) ys.length cap), (17, I6 ↑j), (128, .int .u8 (xo z)), (129, (Po g (0 + j * 1)))] 8 1 hS (.cons (ix_slice (E := 5) (size := 1) (j := j) (by kernel_rfl) (by kernel_rfl) rfl (by omega)) (.cons (hgV.cellAt _ (by rw [Nat.zero_add, Nat.mul_one]; exact bv_at hz)) (.cons (bin_xo) (.cons (ix_slice (E := 5) (size := 1) (j := j) (by kernel_rfl) (by kernel_rfl) rfl (by omega)) .nil)))) fun a hS => ?_
       refine eff_store_own (wide_wide.inRound l2) (r := 0) (b := g) (off := 0 + j * 1) (u := Value.int .u8 (xo z)) (xs := (bv zs)) hS (by kernel_rfl) hgV (by omega) fun a ws417 hOs417 hEs417 hsz417 hS => ?_
       have hB424 := hnbV.ext hEs417 (by simpa using (OwnR.ne_type hgV hnbV (by decide)).symm)
       have hB425 := hkbV.ext hEs417 (by simpa using (OwnR.ne_type hgV hkbV (by decide)).symm)
       have hB426 := hpbV.ext hEs417 (by simpa using (OwnR.ne_type hgV hpbV (by decide)).symm)
       have hE427 : Ext [g, kb, pb] W ws417 := hEV.trans hEs417 (fun b hb => by simp at hb; subst hb; exact .inl (by simp))
       have hG428 : True := trivial
       refine seg_end ?_
       refine inBlock_normal ?_
       refine hK416 _ _ ?_
       refine rgn 3 ?_
       refine sg (wide_wide.inRound l2) [.p, .as (I6 (↑j + 1)), .p] [Value.int .i64 (IntKind.i64.wrap (↑j + 1)) = I6 (↑j + 1)] [(4, (Pv fx)), (5, (Pv sx)), (6, (Pv rx)), (7, (Pv b)), (8, (Pv cx)), (10, (Pv qx)), (12, (Pv nb)), (13, (Pv kb)), (14, (Pv pb)), (16, .slice (some ⟨g, 0, none⟩) ys.length cap), (17, I6 (↑j + 1))] 3 0 hS (.cons (as_i64 (by omega)) .nil) fun a hS => ?_
       refine seg_end ?_
       exact ⟨(j + 1, zs.set j (xo z)), ⟨hS.kp [(4, (Pv fx)), (5, (Pv sx)), (6, (Pv rx)), (7, (Pv b)), (8, (Pv cx)), (10, (Pv qx)), (12, (Pv nb)), (13, (Pv kb)), (14, (Pv pb)), (16, .slice (some ⟨g, 0, none⟩) ys.length cap), (17, I6 (↑j + 1))], by omega, by simpa using hzl, (by have h := hOs417; rw [Nat.zero_add, Nat.mul_one, bv_set] at h; exact h), hB425, hB426, hB424, hE427⟩, by simp only; omega⟩
      ·
       replace hb415 := of_decide_eq_false hb415
       refine wpIn_exit ?_
       refine then_exit ?_
       refine then_exit ?_
       refine inBlock_hit ?_
       refine hK411 _ _ ?_
       refine sq fun K429 hK429 => ?_
       refine rgn 6 ?_
       refine sg (wide_wide.inRound l2) [.ld (I6 0), .p, .p, .no, .no, .p] [V.cell? ⟨nb, 0, none⟩ = some (I6 0)] [(4, (Pv fx)), (5, (Pv sx)), (6, (Pv rx)), (7, (Pv b)), (8, (Pv cx)), (10, (Pv qx)), (12, (Pv nb)), (13, (Pv kb)), (14, (Pv pb)), (16, .slice (some ⟨g, 0, none⟩) ys.length cap), (17, I6 ↑j), (135, .bool false)] 6 0 hS (.cons (hnbV.cell 0 rfl) .nil) fun a hS => ?_
       refine seg_end ?_
       refine hK429 _ _ ?_
       refine cond_f hS rfl ?_
       refine wpIn_skip ?_
       refine inBlock_normal ?_
       refine left_normal (C' := [kb, pb]) (hEV.mono (fun b hb => by simp [ckB, ob] at hb ⊢; simp [hb])) (fun b hb => .inl (List.mem_append_right _ hb)) (hlieW.ext hEV) ⟨rfl, ?_, ?_, ?_⟩
       ·rw [hsn, ← Nat.add_assoc]; exact hkbV
       ·rw [List.length_append]; exact hpbV
       ·rw [hsn, List.length_append, List.length_singleton]; omega
    ·rintro Cx w10 a hE910 hfr10 hlie10 hD10 ⟨all, hall, rfl, hkb10, hpb10, _⟩ hS
     have hall2 : told (all.map (·.1)) = xs.drop i := hall
     rw [hall2, List.length_drop, Nat.add_sub_cancel' hi] at hkb10
     have hEl10 : Ext [] w260 w10 := hE9.trans hE910 (fun b hb => by rcases (by simpa using hb : b = kb ∨ b = pb) with rfl | rfl <;> first | exact .inr hlkb | exact .inr hlpb)
     obtain ⟨D0, hD0e⟩ : ∃ D, D = w339.heap.size := ⟨_, rfl⟩
     rw [← hD0e] at hD10 hS
     have hD0n : w260.heap.size ≤ D0 := by rw [hD0e]; exact hl9
     have hnb10 := hnb9.ext hE910 (by simp [hnbkb, hnbpb])
     have hDs10 : ∀ D ∈ D0 :: Ds, Dfr w10 D := fun D hD => by
      rcases List.mem_cons.1 hD with rfl | hD
      ·exact hD10
      ·exact (hD9 D hD).ext hE910 (by simp [(hD9 D hD).ne_blk hkb9, (hD9 D hD).ne_blk hpb9])
     have hnd2 : (D0 :: Ds).Nodup := List.nodup_cons.2 ⟨fun h => by have := (hD9 D0 h).lt; omega, hnd⟩
     have hDn2 : ∀ D ∈ D0 :: Ds, w260.heap.size ≤ D := fun D hD => by
      rcases List.mem_cons.1 hD with rfl | hD
      ·exact hD0n
      ·exact hDn D hD
     replace hS : St 210 ((D0 :: Ds).map dmark) [(4, (Pv fx)), (5, (Pv sx)), (6, (Pv rx)), (7, (Pv b)), (8, (Pv cx)), (10, (Pv qx)), (12, (Pv nb)), (13, (Pv kb)), (14, (Pv pb))] a := hS.keepTo [4, 5, 6, 7, 8, 10, 12, 13, 14] (by kernel_rfl)
     refine inBlock_normal ?_
     refine hK354 _ _ ?_
     refine sq fun K430 hK430 => ?_
     refine region_fn2 wide_wide [.q (.ld (I6 ↑xs.length)), .q (.ld ((Pv c))), .q .p, .q .p, .q (.ld (q)), .q (.run (I6 ↑xs.length)), .q (.as (.bool false)), .q .p, .q .no, .q .no, .q .no, .q .no, .q .no, .q .no, .q .no, .q .p] [0, 0, 0, 0, 0, 0, 0, 0, 0, 0, 0, 0, 0, 0, 0, 0] [0, 0, 0, 0, 0, 0, 0, 0, 0, 0, 0, 0, 0, 0, 0, 0] [0, 0, 2, 6, 14, 30, 63, 127, 255, 511, 1023, 2047, 2047, 8191, 16383, 32767] [] 0 ([(4, (Pv fx)), (5, (Pv sx)), (6, (Pv rx)), (7, (Pv b)), (8, (Pv cx)), (10, (Pv qx)), (12, (Pv nb)), (13, (Pv kb)), (14, (Pv pb)), (186, I6 ↑xs.length), (187, (Pv c)), (188, (Pv c)), (189, (Pv c)), (190, q), (191, I6 ↑xs.length), (192, .bool false), (193, .bool false), (194, undef), (195, undef), (196, undef), (197, undef), (198, undef), (199, undef), (200, undef), (201, .bool false)]) [w10.drew] w10.drew (fun w' => [(0, [w'.cell? ⟨kb, 0, none⟩ = some (I6 ↑xs.length)]), (1, [w'.cell? ⟨cx, 0, none⟩ = some ((Pv c))]), (4, [w'.cell? ⟨c, 0, none⟩ = some (q)]), (5, [Ru Try.prog (vS (Builtin.len_ #[23] 3 #[q])) (I6 ↑xs.length) w']), (6, [Value.bool (((↑xs.length : Int) != ↑xs.length)) = .bool false])]) [4, 5, 6, 7, 8, 10, 12, 13, 14] [] hS (by kernel_rfl) (by kernel_rfl) (by kernel_rfl) (by kernel_rfl) (fun _ => by kernel_rfl) (by kernel_rfl) (by kernel_rfl) (by kernel_rfl) ?_ ?_ ?_
     ·intro e w' hw
      refine (.cons ?_ (.cons ?_ (.cons ?_ (.cons ?_ (.cons ?_ .nil)))))
      ·intro h1 h2
       obtain rfl : e = 0 := Nat.le_antisymm h2 h1
       obtain rfl : w' = w10.drew := hw.trans (by kernel_rfl)
       exact (.cons ((hkb10.drew : Blk w10.drew kb 3 (#[I6 ↑xs.length])).cell 0 rfl) .nil)
      ·intro h1 h2
       obtain rfl : e = 0 := Nat.le_antisymm h2 h1
       obtain rfl : w' = w10.drew := hw.trans (by kernel_rfl)
       exact (.cons (((hcx6.ext hEl10 (by simp)).drew : Blk w10.drew cx 52 (#[(Pv c)])).cell 0 rfl) .nil)
      ·intro h1 h2
       obtain rfl : e = 0 := Nat.le_antisymm h2 h1
       obtain rfl : w' = w10.drew := hw.trans (by kernel_rfl)
       exact (.cons (((hc6.ext hEl10 (by simp)).drew : Blk w10.drew c 56 (#[q])).cell 0 rfl) .nil)
      ·exact fun _ _ => (.cons (run_len_rd (e := 5) hq5.2.1 (by kernel_rfl)) .nil)
      ·exact fun _ _ => (.cons (as_ne_f (rfl)) .nil)
     ·refine .nil
     rintro a w432 hS hw433
     replace hw433 : w432 = w10.drew := hw433.trans (by kernel_rfl)
     have hB434 := Blk.at' hw433 ((hfx6.ext hEl10 (by simp)).drew)
     have hB435 := Blk.at' hw433 ((hsx6.ext hEl10 (by simp)).drew)
     have hB440 := Blk.at' hw433 (hnb10.drew)
     have hE443 : Ext [] w260 w432 := by rw [hw433]; exact hEl10.drew
     have hX444 : Ext [] w10 w432 := by rw [hw433]; exact (Ext.refl _ _).drew
     have hG445 : True := trivial
     have hG446 : ∀ D ∈ D0 :: Ds, Dfr w432 D := fun D hD => (hDs10 D hD).ext hX444 (by simp)
     replace hS := hS.kp [(4, (Pv fx)), (5, (Pv sx)), (6, (Pv rx)), (7, (Pv b)), (8, (Pv cx)), (10, (Pv qx)), (12, (Pv nb)), (13, (Pv kb)), (14, (Pv pb)), (201, .bool false)]
     refine hK430 _ _ ?_
     refine cond_f hS rfl ?_
     refine wpIn_skip ?_
     refine inBlock_normal ?_
     refine hK276 _ _ ?_
     refine sq fun K447 hK447 => ?_
     refine sq fun K448 hK448 => ?_
     refine rgn 1 ?_
     refine sg wide_wide [.ld (I6 0)] [w432.cell? ⟨nb, 0, none⟩ = some (I6 0)] [(4, (Pv fx)), (5, (Pv sx)), (6, (Pv rx)), (7, (Pv b)), (8, (Pv cx)), (10, (Pv qx)), (12, (Pv nb)), (13, (Pv kb)), (14, (Pv pb)), (201, .bool false), (202, I6 0)] 1 0 hS (.cons (hB440.cell 0 rfl) .nil) fun a hS => ?_
     refine seg_end ?_
     refine hK448 _ _ ?_
     refine rgn 2 ?_
     refine eff_box wide_wide (r := 1) (cs := #[I6 0]) (T := 3) (d := (some 12)) hS (by kernel_rfl) fun a w449 hw450 hS => ?_
     have hn451 : fx ≠ w432.heap.size := Nat.ne_of_lt hB434.lt
     have hn452 : sx ≠ w432.heap.size := Nat.ne_of_lt hB435.lt
     have hX469 : Ext [] w432 w449 := by rw [hw450]; exact (Ext.refl _ _).alloc _
     have hG470 : True := trivial
     have hG471 : ∀ D ∈ D0 :: Ds, Dfr w449 D := fun D hD => (hG446 D hD).ext hX469 (by simp)
     have hB472 : Blk w449 (w432.heap.size) 3 #[I6 0] := by rw [hw450]; exact Blk.new _ _ _
     have hs473 : w260.heap.size ≤ w432.heap.size := hE443.size
     have hE474 : Ext [] w260 w449 := by rw [hw450]; exact hE443.alloc _
     refine eff_store wide_wide (r := 0) (b := w432.heap.size) (off := 0) (vs := [I6 0]) hS (by kernel_rfl) hB472 (by simp) fun a w475 hw476 hS => ?_
     have hB486 : Blk w475 w432.heap.size 3 (#[I6 0]) := by rw [hw476]; exact hB472.upd _ _
     have hX487 : Ext [w432.heap.size] w449 w475 := by rw [hw476]; exact (Ext.refl _ _).updIn (.inl (by simp)) _ _
     have hG488 : True := trivial
     have hG489 : ∀ D ∈ D0 :: Ds, Dfr w475 D := fun D hD => (hG471 D hD).ext hX487 (by simpa using (hG471 D hD).ne_blk hB472)
     have hE490 : Ext [] w260 w475 := by rw [hw476]; exact hE474.updIn (.inr hs473) _ _
     refine seg_end ?_
     refine hK447 _ _ ?_
     refine rgn 3 ?_
     refine sg wide_wide [.ld (I6 0), .p] [w475.cell? ⟨w432.heap.size, 0, none⟩ = some (I6 0)] [(4, (Pv fx)), (5, (Pv sx)), (6, (Pv rx)), (7, (Pv b)), (8, (Pv cx)), (10, (Pv qx)), (12, (Pv w432.heap.size)), (13, (Pv kb)), (14, (Pv pb)), (201, .bool false), (202, I6 0), (63, I6 1)] 2 1 hS (.cons (hB486.cell 0 rfl) .nil) fun a hS => ?_
     refine eff_store wide_wide (r := 0) (b := w432.heap.size) (off := 0) (vs := [I6 1]) hS (by kernel_rfl) hB486 (by simp) fun a w491 hw492 hS => ?_
     have hB502 : Blk w491 w432.heap.size 3 (#[I6 1]) := by rw [hw492]; exact hB486.upd _ _
     have hX503 : Ext [w432.heap.size] w475 w491 := by rw [hw492]; exact (Ext.refl _ _).updIn (.inl (by simp)) _ _
     have hG504 : True := trivial
     have hG505 : ∀ D ∈ D0 :: Ds, Dfr w491 D := fun D hD => (hG489 D hD).ext hX503 (by simpa using (hG489 D hD).ne_blk hB486)
     have hE506 : Ext [] w260 w491 := by rw [hw492]; exact hE490.updIn (.inr hs473) _ _
     refine seg_end ?_
     exact ⟨(1, w432.heap.size, D0 :: Ds), ⟨hS.keepTo [4, 5, 6, 7, 8, 10, 12] (by kernel_rfl), by omega, hE506, hB502, ⟨hn451, hn452⟩, hG505, hnd2, hDn2⟩, by simp⟩
    ·rintro c pre Cx w10 a hE910 hfr10 hlie10 hD10 ⟨rfl, rfl, A, k, hks, hkb10, hpb10, hA8, hk8⟩ hS
     have hEl10 : Ext [] w260 w10 := hE9.trans hE910 (fun b hb => by rcases (by simpa using hb : b = kb ∨ b = pb) with rfl | rfl <;> first | exact .inr hlkb | exact .inr hlpb)
     obtain ⟨D0, hD0e⟩ : ∃ D, D = w339.heap.size := ⟨_, rfl⟩
     rw [← hD0e] at hD10 hS
     have hD0n : w260.heap.size ≤ D0 := by rw [hD0e]; exact hl9
     have hnb10 := hnb9.ext hE910 (by simp [hnbkb, hnbpb])
     have hDs10 : ∀ D ∈ D0 :: Ds, Dfr w10 D := fun D hD => by
      rcases List.mem_cons.1 hD with rfl | hD
      ·exact hD10
      ·exact (hD9 D hD).ext hE910 (by simp [(hD9 D hD).ne_blk hkb9, (hD9 D hD).ne_blk hpb9])
     have hnd2 : (D0 :: Ds).Nodup := List.nodup_cons.2 ⟨fun h => by have := (hD9 D0 h).lt; omega, hnd⟩
     have hDn2 : ∀ D ∈ D0 :: Ds, w260.heap.size ≤ D := fun D hD => by
      rcases List.mem_cons.1 hD with rfl | hD
      ·exact hD0n
      ·exact hDn D hD
     replace hS : St 210 ((D0 :: Ds).map dmark) [(4, (Pv fx)), (5, (Pv sx)), (6, (Pv rx)), (7, (Pv b)), (8, (Pv cx)), (10, (Pv qx)), (12, (Pv nb)), (13, (Pv kb)), (14, (Pv pb))] a := hS.keepTo [4, 5, 6, 7, 8, 10, 12, 13, 14] (by kernel_rfl)
     refine wpIn_exit ?_
     refine inBlock_hit ?_
     refine hK354 _ _ ?_
     refine sq fun K507 hK507 => ?_
     by_cases hA : A = xs.length
     ·
      refine region_fn2 wide_wide [.q (.ld (I6 ↑A)), .q (.ld ((Pv c))), .q .p, .q .p, .q (.ld (q)), .q (.run (I6 ↑xs.length)), .q (.as (.bool false)), .q .p, .q .no, .q .no, .q .no, .q .no, .q .no, .q .no, .q .no, .q .p] [0, 0, 0, 0, 0, 0, 0, 0, 0, 0, 0, 0, 0, 0, 0, 0] [0, 0, 0, 0, 0, 0, 0, 0, 0, 0, 0, 0, 0, 0, 0, 0] [0, 0, 2, 6, 14, 30, 63, 127, 255, 511, 1023, 2047, 2047, 8191, 16383, 32767] [] 0 ([(4, (Pv fx)), (5, (Pv sx)), (6, (Pv rx)), (7, (Pv b)), (8, (Pv cx)), (10, (Pv qx)), (12, (Pv nb)), (13, (Pv kb)), (14, (Pv pb)), (186, I6 ↑A), (187, (Pv c)), (188, (Pv c)), (189, (Pv c)), (190, q), (191, I6 ↑xs.length), (192, .bool false), (193, .bool false), (194, undef), (195, undef), (196, undef), (197, undef), (198, undef), (199, undef), (200, undef), (201, .bool false)]) [w10.drew] w10.drew (fun w' => [(0, [w'.cell? ⟨kb, 0, none⟩ = some (I6 ↑A)]), (1, [w'.cell? ⟨cx, 0, none⟩ = some ((Pv c))]), (4, [w'.cell? ⟨c, 0, none⟩ = some (q)]), (5, [Ru Try.prog (vS (Builtin.len_ #[23] 3 #[q])) (I6 ↑xs.length) w']), (6, [Value.bool (((↑A : Int) != ↑xs.length)) = .bool false])]) [4, 5, 6, 7, 8, 10, 12, 13, 14] [] hS (by kernel_rfl) (by kernel_rfl) (by kernel_rfl) (by kernel_rfl) (fun _ => by kernel_rfl) (by kernel_rfl) (by kernel_rfl) (by kernel_rfl) ?_ ?_ ?_
      ·intro e w' hw
       refine (.cons ?_ (.cons ?_ (.cons ?_ (.cons ?_ (.cons ?_ .nil)))))
       ·intro h1 h2
        obtain rfl : e = 0 := Nat.le_antisymm h2 h1
        obtain rfl : w' = w10.drew := hw.trans (by kernel_rfl)
        exact (.cons ((hkb10.drew : Blk w10.drew kb 3 (#[I6 ↑A])).cell 0 rfl) .nil)
       ·intro h1 h2
        obtain rfl : e = 0 := Nat.le_antisymm h2 h1
        obtain rfl : w' = w10.drew := hw.trans (by kernel_rfl)
        exact (.cons (((hcx6.ext hEl10 (by simp)).drew : Blk w10.drew cx 52 (#[(Pv c)])).cell 0 rfl) .nil)
       ·intro h1 h2
        obtain rfl : e = 0 := Nat.le_antisymm h2 h1
        obtain rfl : w' = w10.drew := hw.trans (by kernel_rfl)
        exact (.cons (((hc6.ext hEl10 (by simp)).drew : Blk w10.drew c 56 (#[q])).cell 0 rfl) .nil)
       ·exact fun _ _ => (.cons (run_len_rd (e := 5) hq5.2.1 (by kernel_rfl)) .nil)
       ·exact fun _ _ => (.cons (as_ne_f (by omega)) .nil)
      ·refine .nil
      rintro a w509 hS hw510
      replace hw510 : w509 = w10.drew := hw510.trans (by kernel_rfl)
      have hB511 := Blk.at' hw510 ((hfx6.ext hEl10 (by simp)).drew)
      have hB512 := Blk.at' hw510 ((hsx6.ext hEl10 (by simp)).drew)
      have hB517 := Blk.at' hw510 (hnb10.drew)
      have hE520 : Ext [] w260 w509 := by rw [hw510]; exact hEl10.drew
      have hX521 : Ext [] w10 w509 := by rw [hw510]; exact (Ext.refl _ _).drew
      have hG522 : True := trivial
      have hG523 : ∀ D ∈ D0 :: Ds, Dfr w509 D := fun D hD => (hDs10 D hD).ext hX521 (by simp)
      replace hS := hS.kp [(4, (Pv fx)), (5, (Pv sx)), (6, (Pv rx)), (7, (Pv b)), (8, (Pv cx)), (10, (Pv qx)), (12, (Pv nb)), (13, (Pv kb)), (14, (Pv pb)), (201, .bool false)]
      refine hK507 _ _ ?_
      refine cond_f hS rfl ?_
      refine wpIn_skip ?_
      refine inBlock_normal ?_
      refine hK276 _ _ ?_
      refine sq fun K524 hK524 => ?_
      refine sq fun K525 hK525 => ?_
      refine rgn 1 ?_
      refine sg wide_wide [.ld (I6 0)] [w509.cell? ⟨nb, 0, none⟩ = some (I6 0)] [(4, (Pv fx)), (5, (Pv sx)), (6, (Pv rx)), (7, (Pv b)), (8, (Pv cx)), (10, (Pv qx)), (12, (Pv nb)), (13, (Pv kb)), (14, (Pv pb)), (201, .bool false), (202, I6 0)] 1 0 hS (.cons (hB517.cell 0 rfl) .nil) fun a hS => ?_
      refine seg_end ?_
      refine hK525 _ _ ?_
      refine rgn 2 ?_
      refine eff_box wide_wide (r := 1) (cs := #[I6 0]) (T := 3) (d := (some 12)) hS (by kernel_rfl) fun a w526 hw527 hS => ?_
      have hn528 : fx ≠ w509.heap.size := Nat.ne_of_lt hB511.lt
      have hn529 : sx ≠ w509.heap.size := Nat.ne_of_lt hB512.lt
      have hX546 : Ext [] w509 w526 := by rw [hw527]; exact (Ext.refl _ _).alloc _
      have hG547 : True := trivial
      have hG548 : ∀ D ∈ D0 :: Ds, Dfr w526 D := fun D hD => (hG523 D hD).ext hX546 (by simp)
      have hB549 : Blk w526 (w509.heap.size) 3 #[I6 0] := by rw [hw527]; exact Blk.new _ _ _
      have hs550 : w260.heap.size ≤ w509.heap.size := hE520.size
      have hE551 : Ext [] w260 w526 := by rw [hw527]; exact hE520.alloc _
      refine eff_store wide_wide (r := 0) (b := w509.heap.size) (off := 0) (vs := [I6 0]) hS (by kernel_rfl) hB549 (by simp) fun a w552 hw553 hS => ?_
      have hB563 : Blk w552 w509.heap.size 3 (#[I6 0]) := by rw [hw553]; exact hB549.upd _ _
      have hX564 : Ext [w509.heap.size] w526 w552 := by rw [hw553]; exact (Ext.refl _ _).updIn (.inl (by simp)) _ _
      have hG565 : True := trivial
      have hG566 : ∀ D ∈ D0 :: Ds, Dfr w552 D := fun D hD => (hG548 D hD).ext hX564 (by simpa using (hG548 D hD).ne_blk hB549)
      have hE567 : Ext [] w260 w552 := by rw [hw553]; exact hE551.updIn (.inr hs550) _ _
      refine seg_end ?_
      refine hK524 _ _ ?_
      refine rgn 3 ?_
      refine sg wide_wide [.ld (I6 0), .p] [w552.cell? ⟨w509.heap.size, 0, none⟩ = some (I6 0)] [(4, (Pv fx)), (5, (Pv sx)), (6, (Pv rx)), (7, (Pv b)), (8, (Pv cx)), (10, (Pv qx)), (12, (Pv w509.heap.size)), (13, (Pv kb)), (14, (Pv pb)), (201, .bool false), (202, I6 0), (63, I6 1)] 2 1 hS (.cons (hB563.cell 0 rfl) .nil) fun a hS => ?_
      refine eff_store wide_wide (r := 0) (b := w509.heap.size) (off := 0) (vs := [I6 1]) hS (by kernel_rfl) hB563 (by simp) fun a w568 hw569 hS => ?_
      have hB579 : Blk w568 w509.heap.size 3 (#[I6 1]) := by rw [hw569]; exact hB563.upd _ _
      have hX580 : Ext [w509.heap.size] w552 w568 := by rw [hw569]; exact (Ext.refl _ _).updIn (.inl (by simp)) _ _
      have hG581 : True := trivial
      have hG582 : ∀ D ∈ D0 :: Ds, Dfr w568 D := fun D hD => (hG566 D hD).ext hX580 (by simpa using (hG566 D hD).ne_blk hB563)
      have hE583 : Ext [] w260 w568 := by rw [hw569]; exact hE567.updIn (.inr hs550) _ _
      refine seg_end ?_
      exact ⟨(1, w509.heap.size, D0 :: Ds), ⟨hS.keepTo [4, 5, 6, 7, 8, 10, 12] (by kernel_rfl), by omega, hE583, hB579, ⟨hn528, hn529⟩, hG582, hnd2, hDn2⟩, by simp⟩
     ·
      refine region_fn2 wide_wide [.q (.ld (I6 ↑A)), .q (.ld ((Pv c))), .q .p, .q .p, .q (.ld (q)), .q (.run (I6 ↑xs.length)), .q (.as (.bool true)), .q .p, .q (.ld (I6 0)), .q .p, .q .p, .q (.ld (I6 ↑k)), .q (.ld (I6 y)), .q (.as (.bool false)), .q .p, .q .p] [0, 0, 0, 0, 0, 0, 0, 0, 0, 0, 0, 0, 0, 0, 0, 0] [0, 0, 0, 0, 0, 0, 0, 0, 0, 0, 0, 0, 0, 0, 0, 0] [0, 0, 2, 6, 14, 30, 63, 127, 255, 511, 1023, 2047, 2047, 8191, 16383, 32767] [] 0 ([(4, (Pv fx)), (5, (Pv sx)), (6, (Pv rx)), (7, (Pv b)), (8, (Pv cx)), (10, (Pv qx)), (12, (Pv nb)), (13, (Pv kb)), (14, (Pv pb)), (186, I6 ↑A), (187, (Pv c)), (188, (Pv c)), (189, (Pv c)), (190, q), (191, I6 ↑xs.length), (192, .bool true), (193, .bool true), (194, I6 0), (195, .bool false), (196, .bool false), (197, I6 ↑k), (198, I6 y), (199, .bool false), (200, .bool false), (201, .bool false)]) [w10.drew] w10.drew (fun w' => [(0, [w'.cell? ⟨kb, 0, none⟩ = some (I6 ↑A)]), (1, [w'.cell? ⟨cx, 0, none⟩ = some ((Pv c))]), (4, [w'.cell? ⟨c, 0, none⟩ = some (q)]), (5, [Ru Try.prog (vS (Builtin.len_ #[23] 3 #[q])) (I6 ↑xs.length) w']), (6, [Value.bool (((↑A : Int) != ↑xs.length)) = .bool true]), (8, [w'.cell? ⟨nb, 0, none⟩ = some (I6 0)]), (11, [w'.cell? ⟨pb, 0, none⟩ = some (I6 ↑k)]), (12, [w'.cell? ⟨sx, 0, none⟩ = some (I6 y)]), (13, [Value.bool (((↑k : Int) != y)) = .bool false])]) [4, 5, 6, 7, 8, 10, 12, 13, 14] [] hS (by kernel_rfl) (by kernel_rfl) (by kernel_rfl) (by kernel_rfl) (fun _ => by kernel_rfl) (by kernel_rfl) (by kernel_rfl) (by kernel_rfl) ?_ ?_ ?_
      ·intro e w' hw
       refine (.cons ?_ (.cons ?_ (.cons ?_ (.cons ?_ (.cons ?_ (.cons ?_ (.cons ?_ (.cons ?_ (.cons ?_ .nil)))))))))
       ·intro h1 h2
        obtain rfl : e = 0 := Nat.le_antisymm h2 h1
        obtain rfl : w' = w10.drew := hw.trans (by kernel_rfl)
        exact (.cons ((hkb10.drew : Blk w10.drew kb 3 (#[I6 ↑A])).cell 0 rfl) .nil)
       ·intro h1 h2
        obtain rfl : e = 0 := Nat.le_antisymm h2 h1
        obtain rfl : w' = w10.drew := hw.trans (by kernel_rfl)
        exact (.cons (((hcx6.ext hEl10 (by simp)).drew : Blk w10.drew cx 52 (#[(Pv c)])).cell 0 rfl) .nil)
       ·intro h1 h2
        obtain rfl : e = 0 := Nat.le_antisymm h2 h1
        obtain rfl : w' = w10.drew := hw.trans (by kernel_rfl)
        exact (.cons (((hc6.ext hEl10 (by simp)).drew : Blk w10.drew c 56 (#[q])).cell 0 rfl) .nil)
       ·exact fun _ _ => (.cons (run_len_rd (e := 5) hq5.2.1 (by kernel_rfl)) .nil)
       ·exact fun _ _ => (.cons (as_ne_t (by omega)) .nil)
       ·intro h1 h2
        obtain rfl : e = 0 := Nat.le_antisymm h2 h1
        obtain rfl : w' = w10.drew := hw.trans (by kernel_rfl)
        exact (.cons ((hnb10.drew : Blk w10.drew nb 3 (#[I6 0])).cell 0 rfl) .nil)
       ·intro h1 h2
        obtain rfl : e = 0 := Nat.le_antisymm h2 h1
        obtain rfl : w' = w10.drew := hw.trans (by kernel_rfl)
        exact (.cons ((hpb10.drew : Blk w10.drew pb 3 (#[I6 ↑k])).cell 0 rfl) .nil)
       ·intro h1 h2
        obtain rfl : e = 0 := Nat.le_antisymm h2 h1
        obtain rfl : w' = w10.drew := hw.trans (by kernel_rfl)
        exact (.cons (((hsx6.ext hEl10 (by simp)).drew : Blk w10.drew sx 3 (#[I6 y])).cell 0 rfl) .nil)
       ·exact fun _ _ => (.cons (as_ne_f (hks)) .nil)
      ·refine .nil
      rintro a w585 hS hw586
      replace hw586 : w585 = w10.drew := hw586.trans (by kernel_rfl)
      have hB587 := Blk.at' hw586 ((hfx6.ext hEl10 (by simp)).drew)
      have hB588 := Blk.at' hw586 ((hsx6.ext hEl10 (by simp)).drew)
      have hB593 := Blk.at' hw586 (hnb10.drew)
      have hE596 : Ext [] w260 w585 := by rw [hw586]; exact hEl10.drew
      have hX597 : Ext [] w10 w585 := by rw [hw586]; exact (Ext.refl _ _).drew
      have hG598 : True := trivial
      have hG599 : ∀ D ∈ D0 :: Ds, Dfr w585 D := fun D hD => (hDs10 D hD).ext hX597 (by simp)
      replace hS := hS.kp [(4, (Pv fx)), (5, (Pv sx)), (6, (Pv rx)), (7, (Pv b)), (8, (Pv cx)), (10, (Pv qx)), (12, (Pv nb)), (13, (Pv kb)), (14, (Pv pb)), (201, .bool false)]
      refine hK507 _ _ ?_
      refine cond_f hS rfl ?_
      refine wpIn_skip ?_
      refine inBlock_normal ?_
      refine hK276 _ _ ?_
      refine sq fun K600 hK600 => ?_
      refine sq fun K601 hK601 => ?_
      refine rgn 1 ?_
      refine sg wide_wide [.ld (I6 0)] [w585.cell? ⟨nb, 0, none⟩ = some (I6 0)] [(4, (Pv fx)), (5, (Pv sx)), (6, (Pv rx)), (7, (Pv b)), (8, (Pv cx)), (10, (Pv qx)), (12, (Pv nb)), (13, (Pv kb)), (14, (Pv pb)), (201, .bool false), (202, I6 0)] 1 0 hS (.cons (hB593.cell 0 rfl) .nil) fun a hS => ?_
      refine seg_end ?_
      refine hK601 _ _ ?_
      refine rgn 2 ?_
      refine eff_box wide_wide (r := 1) (cs := #[I6 0]) (T := 3) (d := (some 12)) hS (by kernel_rfl) fun a w602 hw603 hS => ?_
      have hn604 : fx ≠ w585.heap.size := Nat.ne_of_lt hB587.lt
      have hn605 : sx ≠ w585.heap.size := Nat.ne_of_lt hB588.lt
      have hX622 : Ext [] w585 w602 := by rw [hw603]; exact (Ext.refl _ _).alloc _
      have hG623 : True := trivial
      have hG624 : ∀ D ∈ D0 :: Ds, Dfr w602 D := fun D hD => (hG599 D hD).ext hX622 (by simp)
      have hB625 : Blk w602 (w585.heap.size) 3 #[I6 0] := by rw [hw603]; exact Blk.new _ _ _
      have hs626 : w260.heap.size ≤ w585.heap.size := hE596.size
      have hE627 : Ext [] w260 w602 := by rw [hw603]; exact hE596.alloc _
      refine eff_store wide_wide (r := 0) (b := w585.heap.size) (off := 0) (vs := [I6 0]) hS (by kernel_rfl) hB625 (by simp) fun a w628 hw629 hS => ?_
      have hB639 : Blk w628 w585.heap.size 3 (#[I6 0]) := by rw [hw629]; exact hB625.upd _ _
      have hX640 : Ext [w585.heap.size] w602 w628 := by rw [hw629]; exact (Ext.refl _ _).updIn (.inl (by simp)) _ _
      have hG641 : True := trivial
      have hG642 : ∀ D ∈ D0 :: Ds, Dfr w628 D := fun D hD => (hG624 D hD).ext hX640 (by simpa using (hG624 D hD).ne_blk hB625)
      have hE643 : Ext [] w260 w628 := by rw [hw629]; exact hE627.updIn (.inr hs626) _ _
      refine seg_end ?_
      refine hK600 _ _ ?_
      refine rgn 3 ?_
      refine sg wide_wide [.ld (I6 0), .p] [w628.cell? ⟨w585.heap.size, 0, none⟩ = some (I6 0)] [(4, (Pv fx)), (5, (Pv sx)), (6, (Pv rx)), (7, (Pv b)), (8, (Pv cx)), (10, (Pv qx)), (12, (Pv w585.heap.size)), (13, (Pv kb)), (14, (Pv pb)), (201, .bool false), (202, I6 0), (63, I6 1)] 2 1 hS (.cons (hB639.cell 0 rfl) .nil) fun a hS => ?_
      refine eff_store wide_wide (r := 0) (b := w585.heap.size) (off := 0) (vs := [I6 1]) hS (by kernel_rfl) hB639 (by simp) fun a w644 hw645 hS => ?_
      have hB655 : Blk w644 w585.heap.size 3 (#[I6 1]) := by rw [hw645]; exact hB639.upd _ _
      have hX656 : Ext [w585.heap.size] w628 w644 := by rw [hw645]; exact (Ext.refl _ _).updIn (.inl (by simp)) _ _
      have hG657 : True := trivial
      have hG658 : ∀ D ∈ D0 :: Ds, Dfr w644 D := fun D hD => (hG642 D hD).ext hX656 (by simpa using (hG642 D hD).ne_blk hB639)
      have hE659 : Ext [] w260 w644 := by rw [hw645]; exact hE643.updIn (.inr hs626) _ _
      refine seg_end ?_
      exact ⟨(1, w585.heap.size, D0 :: Ds), ⟨hS.keepTo [4, 5, 6, 7, 8, 10, 12] (by kernel_rfl), by omega, hE659, hB655, ⟨hn604, hn605⟩, hG658, hnd2, hDn2⟩, by simp⟩
   ·
    replace hnb : Blk w1 nb 3 #[I6 1] := hnb
    refine rgn 3 ?_
    refine sg wide_wide [.ld (I6 ↑i)] [w1.cell? ⟨fx, 0, none⟩ = some (I6 ↑i)] [(4, (Pv fx)), (5, (Pv sx)), (6, (Pv rx)), (7, (Pv b)), (8, (Pv cx)), (10, (Pv qx)), (12, (Pv nb)), (64, I6 ↑i)] 1 2 hS (.cons (((hfx6.ext hEl (by simp))).cell 0 rfl) .nil) fun a hS => ?_
    refine eff_box wide_wide (r := 1) (cs := #[I6 0]) (T := 3) (d := (some 13)) hS (by kernel_rfl) fun a w660 hw661 hS => ?_
    have hn667 : qx ≠ w1.heap.size := Nat.ne_of_lt (hqx6.ext hEl (by simp)).lt
    have hn668 : nb ≠ w1.heap.size := Nat.ne_of_lt hnb.lt
    have hB674 := Blk.at' hw661 ((hqx6.ext hEl (by simp)).alloc _)
    have hB675 := Blk.at' hw661 (hnb.alloc _)
    have hX676 : Ext [] w1 w660 := by rw [hw661]; exact (Ext.refl _ _).alloc _
    have hG677 : True := trivial
    have hG678 : ∀ D ∈ Ds, Dfr w660 D := fun D hD => (hDs D hD).ext hX676 (by first | (simp; done) | simpa using (hDs D hD).ne_blk (hrx6.ext hEl (by simp)))
    have hB679 : Blk w660 (w1.heap.size) 3 #[I6 0] := by rw [hw661]; exact Blk.new _ _ _
    have hs680 : w260.heap.size ≤ w1.heap.size := hEl.size
    have hE681 : Ext [] w260 w660 := by rw [hw661]; exact hEl.alloc _
    refine eff_store wide_wide (r := 0) (b := w1.heap.size) (off := 0) (vs := [I6 ↑i]) hS (by kernel_rfl) hB679 (by simp) fun a w682 hw683 hS => ?_
    have hB689 := Blk.at' hw683 (hB674.updNe (Ne.symm hn667) _ _)
    have hB690 := Blk.at' hw683 (hB675.updNe (Ne.symm hn668) _ _)
    have hB691 : Blk w682 w1.heap.size 3 (#[I6 ↑i]) := by rw [hw683]; exact hB679.upd _ _
    have hX692 : Ext [w1.heap.size] w660 w682 := by rw [hw683]; exact (Ext.refl _ _).updIn (.inl (by simp)) _ _
    have hG693 : True := trivial
    have hG694 : ∀ D ∈ Ds, Dfr w682 D := fun D hD => (hG678 D hD).ext hX692 (by simpa using (hG678 D hD).ne_blk hB679)
    have hE695 : Ext [] w260 w682 := by rw [hw683]; exact hE681.updIn (.inr hs680) _ _
    refine seg_end ?_
    refine hK277 _ _ ?_
    refine sq fun K696 hK696 => ?_
    refine rgn 2 ?_
    refine eff_box wide_wide (r := 1) (cs := #[I6 0]) (T := 3) (d := (some 14)) hS (by kernel_rfl) fun a w697 hw698 hS => ?_
    have hn704 : qx ≠ w682.heap.size := Nat.ne_of_lt hB689.lt
    have hn705 : nb ≠ w682.heap.size := Nat.ne_of_lt hB690.lt
    have hn706 : w1.heap.size ≠ w682.heap.size := Nat.ne_of_lt hB691.lt
    have hB712 := Blk.at' hw698 (hB689.alloc _)
    have hB713 := Blk.at' hw698 (hB690.alloc _)
    have hB714 := Blk.at' hw698 (hB691.alloc _)
    have hX715 : Ext [] w682 w697 := by rw [hw698]; exact (Ext.refl _ _).alloc _
    have hG716 : True := trivial
    have hG717 : ∀ D ∈ Ds, Dfr w697 D := fun D hD => (hG694 D hD).ext hX715 (by first | (simp; done) | simpa using (hDs D hD).ne_blk (hrx6.ext hEl (by simp)))
    have hB718 : Blk w697 (w682.heap.size) 3 #[I6 0] := by rw [hw698]; exact Blk.new _ _ _
    have hs719 : w260.heap.size ≤ w682.heap.size := hE695.size
    have hE720 : Ext [] w260 w697 := by rw [hw698]; exact hE695.alloc _
    refine eff_store wide_wide (r := 0) (b := w682.heap.size) (off := 0) (vs := [I6 0]) hS (by kernel_rfl) hB718 (by simp) fun a w721 hw722 hS => ?_
    have hB728 := Blk.at' hw722 (hB712.updNe (Ne.symm hn704) _ _)
    have hB729 := Blk.at' hw722 (hB713.updNe (Ne.symm hn705) _ _)
    have hB730 := Blk.at' hw722 (hB714.updNe (Ne.symm hn706) _ _)
    have hB731 : Blk w721 w682.heap.size 3 (#[I6 0]) := by rw [hw722]; exact hB718.upd _ _
    have hX732 : Ext [w682.heap.size] w697 w721 := by rw [hw722]; exact (Ext.refl _ _).updIn (.inl (by simp)) _ _
    have hG733 : True := trivial
    have hG734 : ∀ D ∈ Ds, Dfr w721 D := fun D hD => (hG717 D hD).ext hX732 (by simpa using (hG717 D hD).ne_blk hB718)
    have hE735 : Ext [] w260 w721 := by rw [hw722]; exact hE720.updIn (.inr hs719) _ _
    refine seg_end ?_
    refine hK696 _ _ ?_
    refine sq fun K736 hK736 => ?_
    refine sq fun K737 hK737 => ?_
    refine rgn 1 ?_
    refine sg wide_wide [.ld (.func (.func 65) #[] #[(Pv fb183), (Pv rb183)])] [w721.cell? ⟨qx, 0, none⟩ = some (.func (.func 65) #[] #[(Pv fb183), (Pv rb183)])] [(4, (Pv fx)), (5, (Pv sx)), (6, (Pv rx)), (7, (Pv b)), (8, (Pv cx)), (10, (Pv qx)), (12, (Pv nb)), (13, (Pv w1.heap.size)), (14, (Pv w682.heap.size)), (65, .func (.func 65) #[] #[(Pv fb183), (Pv rb183)])] 1 0 hS (.cons (hB728.cell 0 rfl) .nil) fun a hS => ?_
    refine seg_end ?_
    refine hK737 _ _ ?_
    refine wpIn_block ?_
    replace hS := hS.keepTo [4, 5, 6, 7, 8, 10, 12, 13, 14, 65] (m' := [(4, (Pv fx)), (5, (Pv sx)), (6, (Pv rx)), (7, (Pv b)), (8, (Pv cx)), (10, (Pv qx)), (12, (Pv nb)), (13, (Pv w1.heap.size)), (14, (Pv w682.heap.size)), (65, .func (.func 65) #[] #[(Pv fb183), (Pv rb183)])]) (by kernel_rfl)
    have hkb9 := hB730
    have hpb9 := hB731
    have hnb9 := hB729
    have hlkb : w260.heap.size ≤ w1.heap.size := hs680
    have hlpb : w260.heap.size ≤ w682.heap.size := hs719
    have hnbkb : nb ≠ w1.heap.size := hn668
    have hnbpb : nb ≠ w682.heap.size := hn705
    have hkbpb : w1.heap.size ≠ w682.heap.size := hn706
    obtain ⟨kb, hkbe⟩ : ∃ x, x = w1.heap.size := ⟨_, rfl⟩
    obtain ⟨pb, hpbe⟩ : ∃ x, x = w682.heap.size := ⟨_, rfl⟩
    rw [← hkbe] at hkb9 hlkb hnbkb hkbpb
    rw [← hpbe] at hpb9 hlpb hnbpb hkbpb
    rw [← hkbe, ← hpbe] at hS
    have hE9 := hE735
    have hD9 := hG734
    have hkblt := hkb9.lt
    have hpblt := hpb9.lt
    have hl9 := hE9.size
    have hnblt := hnb9.lt
    refine range_out (α := Cp) (β := Cv) (gf := 65) (lb := #[Pv fb183, Pv rb183]) (π := (·.1)) (enc := ckE) (nb := ckB) (Ok := ckOk) (Nx := CkNx i (xs.drop i)) (Fin := CkFin (xs.drop i)) (T := T)
     (fun pre Cx W => Cx = [kb, pb] ∧ Blk W kb 3 #[I6 ((i + (told (pre.map (·.1))).length : Nat) : Int)] ∧ Blk W pb 3 #[I6 (pre.length : Int)] ∧ pre.length ≤ (told (pre.map (·.1))).length)
     (fun _ _ _ _ => False) [kb, pb] (fun q => [(4, (Pv fx)), (5, (Pv sx)), (6, (Pv rx)), (7, (Pv b)), (8, (Pv cx)), (10, (Pv qx)), (12, (Pv nb)), (13, (Pv kb)), (14, (Pv pb)), (15, I6 q.1.1), (16, q.2)]) hS rfl Try.call65 ?_ ckOk_ext ?_ ?_ ?_ (fun _ => rfl) rfl ?_ ?_ ?_ ?_ ?_ ?_ ?_
    ·intro W hEW _
     exact hTs W (hE9.trans0 hEW)
    ·intro b hb
     exact Nat.lt_of_lt_of_le (hTlt b hb) hl9
    ·intro b hb hT
     have h1 := hTlt b hT
     rcases (by simpa using hb : b = kb ∨ b = pb) with rfl | rfl <;> omega
    ·intro b hb
     rcases (by simpa using hb : b = kb ∨ b = pb) with rfl | rfl
     ·exact hkblt
     ·exact hpblt
    ·rintro pre Cx M W W' ⟨rfl, h1, h2, h3⟩ hE hM
     exact ⟨rfl, h1.ext hE (fun hm => (hM _ hm).2 (by simp)), h2.ext hE (fun hm => (hM _ hm).2 (by simp)), h3⟩
    ·intro c pre Cx M W W' h; exact h.elim
    ·exact ⟨rfl, hkb9, hpb9, Nat.le_refl _⟩
    ·intro l2 x a' W K hS hK
     refine sq fun K738 hK738 => ?_
     refine rgn 1 ?_
     refine sg (wide_wide.inRound l2) [.p] [] [(4, (Pv fx)), (5, (Pv sx)), (6, (Pv rx)), (7, (Pv b)), (8, (Pv cx)), (10, (Pv qx)), (12, (Pv nb)), (13, (Pv kb)), (14, (Pv pb)), (66, I6 x.1.1), (67, x.2), (15, I6 x.1.1)] 1 0 hS .nil fun a hS => ?_
     refine seg_end ?_
     refine hK738 _ _ ?_
     refine rgn 1 ?_
     refine sg (wide_wide.inRound l2) [.p] [] [(4, (Pv fx)), (5, (Pv sx)), (6, (Pv rx)), (7, (Pv b)), (8, (Pv cx)), (10, (Pv qx)), (12, (Pv nb)), (13, (Pv kb)), (14, (Pv pb)), (66, I6 x.1.1), (67, x.2), (15, I6 x.1.1), (16, x.2)] 1 0 hS .nil fun a hS => ?_
     refine seg_end ?_
     exact hK _ (hS.keepTo [4, 5, 6, 7, 8, 10, 12, 13, 14, 15, 16] (by kernel_rfl))
    ·rintro l2 pre xv Cx W a ⟨hx1, hx2, rest, hx3⟩ ⟨rfl, hkbW, hpbW, hpreW⟩ hlieW hfrW hnl hrec hEW hok hnbx hS
     replace hS : St 210 [] [(4, (Pv fx)), (5, (Pv sx)), (6, (Pv rx)), (7, (Pv b)), (8, (Pv cx)), (10, (Pv qx)), (12, (Pv nb)), (13, (Pv kb)), (14, (Pv pb)), (15, I6 xv.1.1), (16, xv.2)] a := hS
     obtain ⟨⟨xp, ys⟩, xw⟩ := xv
     simp only at hx1 hx2 hx3 hS
     obtain ⟨tl, htl⟩ : ∃ tl : Nat, (told (pre.map (·.1))).length = tl := ⟨_, rfl⟩
     rw [htl] at hx1 hkbW hpreW
     have hxll := congrArg List.length hx3
     rw [List.length_append, List.length_append, List.length_drop, htl] at hxll
     have hys : 0 < ys.length := List.length_pos_iff.2 hx2
     have hcut : (xs.drop (i + tl)).take (i + tl + ys.length - (i + tl)) = ys := cut_told hx3 htl
     obtain ⟨g, cap, hxw, hg⟩ := OwnV.some_of_pos (show OwnV W 5 1 xw ys.length (bv ys) from hok) hys
     subst hxw
     rw [hx1] at hS
     have hgk : ∀ b ∈ ckB ((xp, ys), Value.slice (some ⟨g, 0, none⟩) ys.length cap), b = g := fun b hb => by simpa [ckB, ob] using hb
     obtain ⟨hgn, hglt, hgC, hgl⟩ := hnbx g (by simp [ckB, ob])
     have hgl6 : w260.heap.size ≤ g := by omega
     have hM6 : ∀ b ∈ [g, kb, pb], b ∈ ([] : List Nat) ∨ w260.heap.size ≤ b := fun b hb => by
      rcases (by simpa using hb : b = g ∨ b = kb ∨ b = pb) with rfl | rfl | rfl
      ·exact .inr hgl6
      ·exact .inr hlkb
      ·exact .inr hlpb
     have hE6W : Ext [] w260 W := hE9.trans hEW (fun b hb => hM6 b (by simp at hb ⊢; simp [hb]))
     have hnbW := hnb9.ext hEW (by simp [hnbkb, hnbpb])
     have hWW : Ext [g, kb, pb] W W := Ext.refl _ _
     have hrd0 : RdV W 1 (Value.slice (some ⟨g, 0, none⟩) ys.length cap) ys.length (bv ys) := hg.v.rd
     have hsn : (told ((pre ++ [((xp, ys), Value.slice (some ⟨g, 0, none⟩) ys.length cap)]).map (·.1))).length = tl + ys.length := by rw [List.map_append, List.map_cons, List.map_nil, told_snoc, List.length_append, htl]
     refine wpIn_block ?_
     refine sq fun K739 hK739 => ?_
     refine sq fun K740 hK740 => ?_
     refine rgn 7 ?_
     refine sg (wide_wide.inRound l2) [.ld (I6 1), .p, .p, .no, .no, .no, .p] [W.cell? ⟨nb, 0, none⟩ = some (I6 1)] [(4, (Pv fx)), (5, (Pv sx)), (6, (Pv rx)), (7, (Pv b)), (8, (Pv cx)), (10, (Pv qx)), (12, (Pv nb)), (13, (Pv kb)), (14, (Pv pb)), (15, I6 ((i + tl : Nat) : Int)), (16, .slice (some ⟨g, 0, none⟩) ys.length cap), (74, .bool false)] 7 0 hS (.cons (hnbW.cell 0 rfl) .nil) fun a hS => ?_
     refine seg_end ?_
     refine hK740 _ _ ?_
     refine cond_f hS rfl ?_
     refine wpIn_skip ?_
     refine hK739 _ _ ?_
     refine sq fun K741 hK741 => ?_
     refine sq fun K742 hK742 => ?_
     refine region_gh2 (G := World) (wide_wide.inRound l2) [.q .p, .q (.ld (I6 ((i + tl : Nat) : Int))), .q (.as (.bool false)), .q .p, .q .p, .q .p, .q (.as (.bool false)), .q .p, .q .p, .q .p, .q .p, .q (.ld ((Pv c))), .q .p, .q .p, .q (.ld (q)), .q (.run (I6 ↑xs.length)), .q (.ld (I6 ((i + tl : Nat) : Int))), .q (.as (I6 (↑xs.length - ((i + tl : Nat) : Int)))), .q (.as (.bool false)), .q .p, .q .p, .q .p, .q (.ld ((Pv c))), .q .p, .q .p, .q (.ld (q)), .q (.ld (I6 ((i + tl : Nat) : Int))), .q (.ld (I6 ((i + tl : Nat) : Int))), .q .p, .q .p, .q (.as (I6 ((i + tl + ys.length : Nat) : Int))), .q (.run (rsub q (i + tl) (i + tl + ys.length) (capOf q))), .e, .q .p, .q .p] [0, 0, 0, 0, 0, 0, 0, 0, 0, 0, 0, 0, 0, 0, 0, 0, 0, 0, 0, 0, 0, 0, 0, 0, 0, 0, 0, 0, 0, 0, 0, 0, 0, 1, 1] [0, 0, 0, 0, 0, 0, 0, 0, 0, 0, 0, 0, 0, 0, 0, 0, 0, 0, 0, 0, 0, 0, 0, 0, 0, 0, 0, 0, 0, 0, 0, 0, 0, 1, 1] [0, 0, 3, 7, 15, 31, 63, 127, 255, 511, 1023, 511, 2559, 6655, 14847, 31231, 511, 129535, 262143, 524287, 1048575, 2097151, 2097151, 6291455, 14680063, 31457279, 2097151, 2097151, 2097151, 270532607, 941621247, 2145386495, 4294967295, 8589934591, 17179869183] [32] [(32, 0)] 1 (fun wc743 => ([(4, (Pv fx)), (5, (Pv sx)), (6, (Pv rx)), (7, (Pv b)), (8, (Pv cx)), (10, (Pv qx)), (12, (Pv nb)), (13, (Pv kb)), (14, (Pv pb)), (15, I6 ((i + tl : Nat) : Int)), (16, .slice (some ⟨g, 0, none⟩) ys.length cap), (74, .bool false), (75, I6 ((i + tl : Nat) : Int)), (76, I6 ((i + tl : Nat) : Int)), (77, .bool false), (78, .bool false), (79, .slice (some ⟨g, 0, none⟩) ys.length cap), (80, I6 ↑ys.length), (81, .bool false), (82, .bool false), (83, .bool false), (84, .slice (some ⟨g, 0, none⟩) ys.length cap), (85, I6 ↑ys.length), (86, (Pv c)), (87, (Pv c)), (88, (Pv c)), (89, q), (90, I6 ↑xs.length), (91, I6 ((i + tl : Nat) : Int)), (92, I6 (↑xs.length - ((i + tl : Nat) : Int))), (93, .bool false), (94, .bool false), (95, .bool false), (96, .slice (some ⟨g, 0, none⟩) ys.length cap), (97, (Pv c)), (98, (Pv c)), (99, (Pv c)), (100, q), (101, I6 ((i + tl : Nat) : Int)), (102, I6 ((i + tl : Nat) : Int)), (103, .slice (some ⟨g, 0, none⟩) ys.length cap), (104, I6 ↑ys.length), (105, I6 ((i + tl + ys.length : Nat) : Int)), (106, (rsub q (i + tl) (i + tl + ys.length) (capOf q))), (107, .bool true), (108, .bool false), (109, .bool false)] : Fm)) (fun wc743 => [W.drew, wc743]) (W.drew) (fun e wc743 => hAt [True, (Ext [] W.drew wc743) ∧ True] e) (fun wc743 w' => [(1, [w'.cell? ⟨kb, 0, none⟩ = some (I6 ((i + tl : Nat) : Int))]), (2, [Value.bool (((((i + tl : Nat) : Int) : Int) != ((i + tl : Nat) : Int))) = .bool false]), (6, [Value.bool (((↑ys.length : Int) == 0)) = .bool false]), (11, [w'.cell? ⟨cx, 0, none⟩ = some ((Pv c))]), (14, [w'.cell? ⟨c, 0, none⟩ = some (q)]), (15, [Ru Try.prog (vS (Builtin.len_ #[23] 3 #[q])) (I6 ↑xs.length) w']), (16, [w'.cell? ⟨kb, 0, none⟩ = some (I6 ((i + tl : Nat) : Int))]), (17, [Value.int .i64 (IntKind.i64.wrap (↑xs.length - ((i + tl : Nat) : Int))) = I6 (↑xs.length - ((i + tl : Nat) : Int))]), (18, [Value.bool (decide ((↑ys.length : Int) > ↑xs.length - ((i + tl : Nat) : Int))) = .bool false]), (22, [w'.cell? ⟨cx, 0, none⟩ = some ((Pv c))]), (25, [w'.cell? ⟨c, 0, none⟩ = some (q)]), (26, [w'.cell? ⟨kb, 0, none⟩ = some (I6 ((i + tl : Nat) : Int))]), (27, [w'.cell? ⟨kb, 0, none⟩ = some (I6 ((i + tl : Nat) : Int))]), (30, [Value.int .i64 (IntKind.i64.wrap (((i + tl : Nat) : Int) + ↑ys.length)) = I6 ((i + tl + ys.length : Nat) : Int)]), (31, [Ru Try.prog (vS (Instr.sliceAt 23 q (some (I6 ((i + tl : Nat) : Int))) (some (I6 ((i + tl + ys.length : Nat) : Int))) none)) (rsub q (i + tl) (i + tl + ys.length) (capOf q)) w'])]) W.drew [4, 5, 6, 7, 8, 10, 12, 13, 14, 15, 16, 74] [] hS (by kernel_rfl) (by kernel_rfl) (by kernel_rfl) (by kernel_rfl) (fun wc743 _ => by kernel_rfl) (by kernel_rfl) (by kernel_rfl) (by kernel_rfl) trivial ?_ (by kernel_rfl) ?_ ?_
     ·rintro e wc743 w' hw hH
      refine (.cons ?_ (.cons ?_ (.cons ?_ (.cons ?_ (.cons ?_ (.cons ?_ (.cons ?_ (.cons ?_ (.cons ?_ (.cons ?_ (.cons ?_ (.cons ?_ (.cons ?_ (.cons ?_ (.cons ?_ .nil)))))))))))))))
      ·intro h1 h2
       obtain rfl : e = 0 := Nat.le_antisymm h2 h1
       have hwe : W.drew = w' := (hw.trans (by kernel_rfl)).symm
       subst hwe
       clear hH
       exact (.cons ((hkbW.drew : Blk W.drew kb 3 (#[I6 ((i + tl : Nat) : Int)])).cell 0 rfl) .nil)
      ·intro h1 h2
       obtain rfl : e = 0 := Nat.le_antisymm h2 h1
       have hwe : W.drew = w' := (hw.trans (by kernel_rfl)).symm
       subst hwe
       clear hH
       exact (.cons (as_ne_f (rfl)) .nil)
      ·intro h1 h2
       obtain rfl : e = 0 := Nat.le_antisymm h2 h1
       have hwe : W.drew = w' := (hw.trans (by kernel_rfl)).symm
       subst hwe
       clear hH
       exact (.cons (as_eq_f (by omega)) .nil)
      ·intro h1 h2
       obtain rfl : e = 0 := Nat.le_antisymm h2 h1
       have hwe : W.drew = w' := (hw.trans (by kernel_rfl)).symm
       subst hwe
       clear hH
       exact (.cons (((hcx6.ext hE6W (by simp)).drew : Blk W.drew cx 52 (#[(Pv c)])).cell 0 rfl) .nil)
      ·intro h1 h2
       obtain rfl : e = 0 := Nat.le_antisymm h2 h1
       have hwe : W.drew = w' := (hw.trans (by kernel_rfl)).symm
       subst hwe
       clear hH
       exact (.cons (((hc6.ext hE6W (by simp)).drew : Blk W.drew c 56 (#[q])).cell 0 rfl) .nil)
      ·intro h1 h2
       obtain rfl : e = 0 := Nat.le_antisymm h2 h1
       have hwe : W.drew = w' := (hw.trans (by kernel_rfl)).symm
       subst hwe
       clear hH
       exact (.cons (run_len_rd (e := 5) hq5.2.1 (by kernel_rfl)) .nil)
      ·intro h1 h2
       obtain rfl : e = 0 := Nat.le_antisymm h2 h1
       have hwe : W.drew = w' := (hw.trans (by kernel_rfl)).symm
       subst hwe
       clear hH
       exact (.cons ((hkbW.drew : Blk W.drew kb 3 (#[I6 ((i + tl : Nat) : Int)])).cell 0 rfl) .nil)
      ·intro h1 h2
       obtain rfl : e = 0 := Nat.le_antisymm h2 h1
       have hwe : W.drew = w' := (hw.trans (by kernel_rfl)).symm
       subst hwe
       clear hH
       exact (.cons (as_i64 (by omega)) .nil)
      ·intro h1 h2
       obtain rfl : e = 0 := Nat.le_antisymm h2 h1
       have hwe : W.drew = w' := (hw.trans (by kernel_rfl)).symm
       subst hwe
       clear hH
       exact (.cons (as_f (by omega)) .nil)
      ·intro h1 h2
       obtain rfl : e = 0 := Nat.le_antisymm h2 h1
       have hwe : W.drew = w' := (hw.trans (by kernel_rfl)).symm
       subst hwe
       clear hH
       exact (.cons (((hcx6.ext hE6W (by simp)).drew : Blk W.drew cx 52 (#[(Pv c)])).cell 0 rfl) .nil)
      ·intro h1 h2
       obtain rfl : e = 0 := Nat.le_antisymm h2 h1
       have hwe : W.drew = w' := (hw.trans (by kernel_rfl)).symm
       subst hwe
       clear hH
       exact (.cons (((hc6.ext hE6W (by simp)).drew : Blk W.drew c 56 (#[q])).cell 0 rfl) .nil)
      ·intro h1 h2
       obtain rfl : e = 0 := Nat.le_antisymm h2 h1
       have hwe : W.drew = w' := (hw.trans (by kernel_rfl)).symm
       subst hwe
       clear hH
       exact (.cons ((hkbW.drew : Blk W.drew kb 3 (#[I6 ((i + tl : Nat) : Int)])).cell 0 rfl) .nil)
      ·intro h1 h2
       obtain rfl : e = 0 := Nat.le_antisymm h2 h1
       have hwe : W.drew = w' := (hw.trans (by kernel_rfl)).symm
       subst hwe
       clear hH
       exact (.cons ((hkbW.drew : Blk W.drew kb 3 (#[I6 ((i + tl : Nat) : Int)])).cell 0 rfl) .nil)
      ·intro h1 h2
       obtain rfl : e = 0 := Nat.le_antisymm h2 h1
       have hwe : W.drew = w' := (hw.trans (by kernel_rfl)).symm
       subst hwe
       clear hH
       exact (.cons ((by rw [show (((i + tl : Nat) : Int) + ↑ys.length : Int) = ((i + tl + ys.length : Nat) : Int) from by omega]; exact as_i64 (by omega))) .nil)
      ·intro h1 h2
       obtain rfl : e = 0 := Nat.le_antisymm h2 h1
       have hwe : W.drew = w' := (hw.trans (by kernel_rfl)).symm
       subst hwe
       clear hH
       exact (.cons (sl_rd (e := 5) (some (I6 ((i + tl : Nat) : Int))) (some (I6 ((i + tl + ys.length : Nat) : Int))) (l := (i + tl)) (k := (i + tl + ys.length)) hq5.2.1 (by kernel_rfl) (by kernel_rfl) (.inr ⟨_, rfl⟩) (.inr ⟨_, rfl⟩) (by omega) (by omega)) .nil)
     ·refine (.cons ?eq744_32 .nil)
      ·rintro wc743 hH
       clear hH
       refine eff_gh (W.drew) (by kernel_rfl) ?_
       refine upon_call (f := 31) (vs := [.slice (some ⟨g, 0, none⟩) ys.length cap, (rsub q (i + tl) (i + tl + ys.length) (capOf q))]) (cap := #[]) (d := (some 107)) (by kernel_rfl) Try.call31 #[.slice (some ⟨g, 0, none⟩) ys.length cap, (rsub q (i + tl) (i + tl + ys.length) (capOf q))] (by kernel_rfl) (SameB_cut (hrd0.ext0 ((Ext.refl [] _).drew)) ((RdV.subb hq5.2.1 (l := (i + tl)) (k := (i + tl + ys.length)) (m := (capOf q)) (by omega) (by omega) (by have := hq5.2.1.le_cap; omega)).ext0 (hE56.trans0 (hE6W.trans0 ((Ext.refl [] _).drew)))) hcut (by omega)) ?_
       rintro _ wc743 ⟨rfl, hEc743⟩
       exact ⟨_, rfl, ⟨wc743, by kernel_rfl, by kernel_rfl, by kernel_rfl, ⟨hEc743, trivial⟩⟩⟩
     rintro wc743 a w745 hS hw746 hH
     obtain ⟨hEc743, _⟩ := hH
     replace hw746 : w745 = wc743 := hw746.trans (by kernel_rfl)
     have hB753 := Blk.at' hw746 ((hnbW.drew : Blk W.drew nb 3 (#[I6 1])).ext hEc743 (by simp))
     have hB754 := Blk.at' hw746 ((hkbW.drew : Blk W.drew kb 3 (#[I6 ((i + tl : Nat) : Int)])).ext hEc743 (by simp))
     have hB755 := Blk.at' hw746 ((hpbW.drew : Blk W.drew pb 3 (#[I6 ↑pre.length])).ext hEc743 (by simp))
     have hB756 := OwnR.at' hw746 ((hg.drew : OwnR W.drew 5 1 g cap ys.length (bv ys)).ext hEc743 (by simp))
     have hE757 : Ext [g, kb, pb] W w745 := by rw [hw746]; exact (hWW.drew).trans0 hEc743
     have hG759 : True := trivial
     replace hS := hS.kp [(4, (Pv fx)), (5, (Pv sx)), (6, (Pv rx)), (7, (Pv b)), (8, (Pv cx)), (10, (Pv qx)), (12, (Pv nb)), (13, (Pv kb)), (14, (Pv pb)), (15, I6 ((i + tl : Nat) : Int)), (16, .slice (some ⟨g, 0, none⟩) ys.length cap), (74, .bool false), (109, .bool false)]
     refine hK742 _ _ ?_
     refine cond_f hS rfl ?_
     refine wpIn_skip ?_
     refine hK741 _ _ ?_
     refine sq fun K760 hK760 => ?_
     refine rgn 5 ?_
     refine sg (wide_wide.inRound l2) [.ld (I6 ((i + tl : Nat) : Int)), .p, .p, .as (I6 ((i + tl + ys.length : Nat) : Int))] [w745.cell? ⟨kb, 0, none⟩ = some (I6 ((i + tl : Nat) : Int)), Value.int .i64 (IntKind.i64.wrap (((i + tl : Nat) : Int) + ↑ys.length)) = I6 ((i + tl + ys.length : Nat) : Int)] [(4, (Pv fx)), (5, (Pv sx)), (6, (Pv rx)), (7, (Pv b)), (8, (Pv cx)), (10, (Pv qx)), (12, (Pv nb)), (13, (Pv kb)), (14, (Pv pb)), (15, I6 ((i + tl : Nat) : Int)), (16, .slice (some ⟨g, 0, none⟩) ys.length cap), (74, .bool false), (109, .bool false), (113, I6 ((i + tl + ys.length : Nat) : Int))] 4 1 hS (.cons (hB754.cell 0 rfl) (.cons ((by rw [show (((i + tl : Nat) : Int) + ↑ys.length : Int) = ((i + tl + ys.length : Nat) : Int) from by omega]; exact as_i64 (by omega))) .nil)) fun a hS => ?_
     refine eff_store (wide_wide.inRound l2) (r := 0) (b := kb) (off := 0) (vs := [I6 ((i + tl + ys.length : Nat) : Int)]) hS (by kernel_rfl) hB754 (by simp) fun a w761 hw762 hS => ?_
     have hB769 := Blk.at' hw762 (hB753.updNe (Ne.symm hnbkb) _ _)
     have hB770 : Blk w761 kb 3 (#[I6 ((i + tl + ys.length : Nat) : Int)]) := by rw [hw762]; exact hB754.upd _ _
     have hB771 := Blk.at' hw762 (hB755.updNe hkbpb _ _)
     have hB772 := OwnR.at' hw762 (hB756.updNe ((OwnR.ne_type hB756 hB754 (by decide)).symm) _ _)
     have hG774 : True := trivial
     have hE775 : Ext [g, kb, pb] W w761 := by rw [hw762]; exact hE757.updIn (.inl (by simp)) _ _
     refine seg_end ?_
     refine hK760 _ _ ?_
     refine sq fun K776 hK776 => ?_
     refine rgn 3 ?_
     refine sg (wide_wide.inRound l2) [.ld (I6 ↑pre.length), .as (I6 ((pre.length + 1 : Nat) : Int))] [w761.cell? ⟨pb, 0, none⟩ = some (I6 ↑pre.length), Value.int .i64 (IntKind.i64.wrap (↑pre.length + 1)) = I6 ((pre.length + 1 : Nat) : Int)] [(4, (Pv fx)), (5, (Pv sx)), (6, (Pv rx)), (7, (Pv b)), (8, (Pv cx)), (10, (Pv qx)), (12, (Pv nb)), (13, (Pv kb)), (14, (Pv pb)), (15, I6 ((i + tl : Nat) : Int)), (16, .slice (some ⟨g, 0, none⟩) ys.length cap), (74, .bool false), (109, .bool false), (115, I6 ((pre.length + 1 : Nat) : Int))] 2 1 hS (.cons (hB771.cell 0 rfl) (.cons ((by rw [show (↑pre.length + 1 : Int) = ((pre.length + 1 : Nat) : Int) from by omega]; exact as_i64 (by omega))) .nil)) fun a hS => ?_
     refine eff_store (wide_wide.inRound l2) (r := 0) (b := pb) (off := 0) (vs := [I6 ((pre.length + 1 : Nat) : Int)]) hS (by kernel_rfl) hB771 (by simp) fun a w777 hw778 hS => ?_
     have hB785 := Blk.at' hw778 (hB769.updNe (Ne.symm hnbpb) _ _)
     have hB786 := Blk.at' hw778 (hB770.updNe (Ne.symm hkbpb) _ _)
     have hB787 : Blk w777 pb 3 (#[I6 ((pre.length + 1 : Nat) : Int)]) := by rw [hw778]; exact hB771.upd _ _
     have hB788 := OwnR.at' hw778 (hB772.updNe ((OwnR.ne_type hB772 hB771 (by decide)).symm) _ _)
     have hG790 : True := trivial
     have hE791 : Ext [g, kb, pb] W w777 := by rw [hw778]; exact hE775.updIn (.inl (by simp)) _ _
     refine seg_end ?_
     refine hK776 _ _ ?_
     refine sq fun K792 hK792 => ?_
     refine sq fun K793 hK793 => ?_
     refine rgn 1 ?_
     refine sg (wide_wide.inRound l2) [.p] [] [(4, (Pv fx)), (5, (Pv sx)), (6, (Pv rx)), (7, (Pv b)), (8, (Pv cx)), (10, (Pv qx)), (12, (Pv nb)), (13, (Pv kb)), (14, (Pv pb)), (15, I6 ((i + tl : Nat) : Int)), (16, .slice (some ⟨g, 0, none⟩) ys.length cap), (74, .bool false), (109, .bool false), (17, I6 0)] 1 0 hS .nil fun a hS => ?_
     refine seg_end ?_
     refine hK793 _ _ ?_
     refine wpIn_block ?_
     refine loop_ghost (fun ((j, zs) : Nat × List Int) a' w' => St 210 [] [(4, (Pv fx)), (5, (Pv sx)), (6, (Pv rx)), (7, (Pv b)), (8, (Pv cx)), (10, (Pv qx)), (12, (Pv nb)), (13, (Pv kb)), (14, (Pv pb)), (16, .slice (some ⟨g, 0, none⟩) ys.length cap), (17, I6 ↑j)] a' ∧ j ≤ ys.length ∧ zs.length = ys.length ∧ OwnR w' 5 1 g cap ys.length (bv zs) ∧ Blk w' kb 3 #[I6 ((i + tl + ys.length : Nat) : Int)] ∧ Blk w' pb 3 #[I6 ((pre.length + 1 : Nat) : Int)] ∧ Blk w' nb 3 #[I6 1] ∧ Ext [g, kb, pb] W w') (fun ((j, zs) : Nat × List Int) => ys.length - j) (0, ys) ⟨hS.keepTo [4, 5, 6, 7, 8, 10, 12, 13, 14, 16, 17] (by kernel_rfl), Nat.zero_le _, rfl, hB788, hB786, hB787, hB785, hE791⟩ ?_
     rintro ⟨j, zs⟩ a V ⟨hS, hjl, hzl, hgV, hkbV, hpbV, hnbV, hEV⟩
     have hE6V := hE6W.trans hEV hM6
     refine sq fun K794 hK794 => ?_
     refine sq fun K795 hK795 => ?_
     refine rgn 4 ?_
     refine sg (wide_wide.inRound l2) [.p, .p, .p, .p] [] [(4, (Pv fx)), (5, (Pv sx)), (6, (Pv rx)), (7, (Pv b)), (8, (Pv cx)), (10, (Pv qx)), (12, (Pv nb)), (13, (Pv kb)), (14, (Pv pb)), (16, .slice (some ⟨g, 0, none⟩) ys.length cap), (17, I6 ↑j), (119, .bool (decide ((↑j : Int) < ↑ys.length)))] 4 0 hS .nil fun a hS => ?_
     refine seg_end ?_
     refine hK795 _ _ ?_
     refine cond_b hS rfl (fun hb796 => ?_) (fun hb796 => ?_)
     ·
      replace hb796 := of_decide_eq_true hb796
      obtain ⟨z, hz⟩ : ∃ z, zs[j]? = some z := ⟨_, List.getElem?_eq_getElem (by omega)⟩
      refine wpIn_skip ?_
      refine hK794 _ _ ?_
      refine sq fun K797 hK797 => ?_
      refine wpIn_block ?_
      refine rgn 9 ?_
      refine sg (wide_wide.inRound l2) [.p, .p, .p, .p, .run ((Po g (0 + j * 1))), .ld (.int .u8 z), .run (.int .u8 (xo z)), .run ((Po g (0 + j * 1)))] [Ru Try.prog (vS (Instr.indexAt 23 (.slice (some ⟨g, 0, none⟩) ys.length cap) (I6 ↑j))) ((Po g (0 + j * 1))) V, V.cell? ⟨g, 0 + j * 1, none⟩ = some (.int .u8 z), Ru Try.prog (vS (do eqGuard .xor 5 (.tmp 127) (.const (.int .u8 255)) (.int .u8 z) (.int .u8 255); binOp .xor 5 (.int .u8 z) (.int .u8 255))) (.int .u8 (xo z)) V, Ru Try.prog (vS (Instr.indexAt 23 (.slice (some ⟨g, 0, none⟩) ys.length cap) (I6 ↑j))) ((Po g (0 + j * 1))) V] [(4, (Pv fx)), (5, (Pv sx)), (6, (Pv rx)), (7, (Pv b)), (8, (Pv cx)), (10, (Pv qx)), (12, (Pv nb)), (13, (Pv kb)), (14, (Pv pb)), (16, .slice (some ⟨g, 0, none⟩) ys.length cap), (17, I6 ↑j), (128, .int .u8 (xo z)), (129, (Po g (0 + j * 1)))] 8 1 hS (.cons (ix_slice (E := 5) (size := 1) (j := j) (by kernel_rfl) (by kernel_rfl) rfl (by omega)) (.cons (hgV.cellAt _ (by rw [Nat.zero_add, Nat.mul_one]; exact bv_at hz)) (.cons (bin_xo) (.cons (ix_slice (E := 5) (size := 1) (j := j) (by kernel_rfl) (by kernel_rfl) rfl (by omega)) .nil)))) fun a hS => ?_
      refine eff_store_own (wide_wide.inRound l2) (r := 0) (b := g) (off := 0 + j * 1) (u := Value.int .u8 (xo z)) (xs := (bv zs)) hS (by kernel_rfl) hgV (by omega) fun a ws798 hOs798 hEs798 hsz798 hS => ?_
      have hB805 := hnbV.ext hEs798 (by simpa using (OwnR.ne_type hgV hnbV (by decide)).symm)
      have hB806 := hkbV.ext hEs798 (by simpa using (OwnR.ne_type hgV hkbV (by decide)).symm)
      have hB807 := hpbV.ext hEs798 (by simpa using (OwnR.ne_type hgV hpbV (by decide)).symm)
      have hE808 : Ext [g, kb, pb] W ws798 := hEV.trans hEs798 (fun b hb => by simp at hb; subst hb; exact .inl (by simp))
      have hG809 : True := trivial
      refine seg_end ?_
      refine inBlock_normal ?_
      refine hK797 _ _ ?_
      refine rgn 3 ?_
      refine sg (wide_wide.inRound l2) [.p, .as (I6 (↑j + 1)), .p] [Value.int .i64 (IntKind.i64.wrap (↑j + 1)) = I6 (↑j + 1)] [(4, (Pv fx)), (5, (Pv sx)), (6, (Pv rx)), (7, (Pv b)), (8, (Pv cx)), (10, (Pv qx)), (12, (Pv nb)), (13, (Pv kb)), (14, (Pv pb)), (16, .slice (some ⟨g, 0, none⟩) ys.length cap), (17, I6 (↑j + 1))] 3 0 hS (.cons (as_i64 (by omega)) .nil) fun a hS => ?_
      refine seg_end ?_
      exact ⟨(j + 1, zs.set j (xo z)), ⟨hS.kp [(4, (Pv fx)), (5, (Pv sx)), (6, (Pv rx)), (7, (Pv b)), (8, (Pv cx)), (10, (Pv qx)), (12, (Pv nb)), (13, (Pv kb)), (14, (Pv pb)), (16, .slice (some ⟨g, 0, none⟩) ys.length cap), (17, I6 (↑j + 1))], by omega, by simpa using hzl, (by have h := hOs798; rw [Nat.zero_add, Nat.mul_one, bv_set] at h; exact h), hB806, hB807, hB805, hE808⟩, by simp only; omega⟩
     ·
      replace hb796 := of_decide_eq_false hb796
      refine wpIn_exit ?_
      refine then_exit ?_
      refine then_exit ?_
      refine inBlock_hit ?_
      refine hK792 _ _ ?_
      refine sq fun K810 hK810 => ?_
      refine rgn 6 ?_
      refine sg (wide_wide.inRound l2) [.ld (I6 1), .p, .p, .ld (I6 ((pre.length + 1 : Nat) : Int)), .p, .p] [V.cell? ⟨nb, 0, none⟩ = some (I6 1), V.cell? ⟨pb, 0, none⟩ = some (I6 ((pre.length + 1 : Nat) : Int))] [(4, (Pv fx)), (5, (Pv sx)), (6, (Pv rx)), (7, (Pv b)), (8, (Pv cx)), (10, (Pv qx)), (12, (Pv nb)), (13, (Pv kb)), (14, (Pv pb)), (16, .slice (some ⟨g, 0, none⟩) ys.length cap), (17, I6 ↑j), (135, .bool ((((pre.length + 1 : Nat) : Int) : Int) == 1))] 6 0 hS (.cons (hnbV.cell 0 rfl) (.cons (hpbV.cell 0 rfl) .nil)) fun a hS => ?_
      refine seg_end ?_
      refine hK810 _ _ ?_
      refine cond_b hS rfl (fun hb811 => ?_) (fun hb811 => ?_)
      ·
       replace hb811 := test_eq_t hb811
       refine sq fun K812 hK812 => ?_
       refine rgn 3 ?_
       refine sg (wide_wide.inRound l2) [.ld (I6 ↑i)] [V.cell? ⟨fx, 0, none⟩ = some (I6 ↑i)] [(4, (Pv fx)), (5, (Pv sx)), (6, (Pv rx)), (7, (Pv b)), (8, (Pv cx)), (10, (Pv qx)), (12, (Pv nb)), (13, (Pv kb)), (14, (Pv pb)), (16, .slice (some ⟨g, 0, none⟩) ys.length cap), (17, I6 ↑j), (135, .bool ((((pre.length + 1 : Nat) : Int) : Int) == 1)), (136, I6 ↑i)] 1 2 hS (.cons (((hfx6.ext hE6V (by simp))).cell 0 rfl) .nil) fun a hS => ?_
       refine eff_box (wide_wide.inRound l2) (r := 1) (cs := #[I6 0]) (T := 3) (d := (some 18)) hS (by kernel_rfl) fun a w813 hw814 hS => ?_
       have hn820 : qx ≠ V.heap.size := Nat.ne_of_lt (hqx6.ext hE6V (by simp)).lt
       have hn821 : nb ≠ V.heap.size := Nat.ne_of_lt hnbV.lt
       have hn822 : kb ≠ V.heap.size := Nat.ne_of_lt hkbV.lt
       have hn823 : pb ≠ V.heap.size := Nat.ne_of_lt hpbV.lt
       have hn824 : g ≠ V.heap.size := Nat.ne_of_lt hgV.lt
       have hB830 := Blk.at' hw814 ((hqx6.ext hE6V (by simp)).alloc _)
       have hB831 := Blk.at' hw814 (hnbV.alloc _)
       have hB832 := Blk.at' hw814 (hkbV.alloc _)
       have hB833 := Blk.at' hw814 (hpbV.alloc _)
       have hB834 := OwnR.at' hw814 (hgV.alloc _)
       have hG836 : True := trivial
       have hB837 : Blk w813 (V.heap.size) 3 #[I6 0] := by rw [hw814]; exact Blk.new _ _ _
       have hs838 : W.heap.size ≤ V.heap.size := hEV.size
       have hE839 : Ext [g, kb, pb] W w813 := by rw [hw814]; exact hEV.alloc _
       refine eff_store (wide_wide.inRound l2) (r := 0) (b := V.heap.size) (off := 0) (vs := [I6 ↑i]) hS (by kernel_rfl) hB837 (by simp) fun a w840 hw841 hS => ?_
       have hB847 := Blk.at' hw841 (hB830.updNe (Ne.symm hn820) _ _)
       have hB848 := Blk.at' hw841 (hB831.updNe (Ne.symm hn821) _ _)
       have hB849 := Blk.at' hw841 (hB832.updNe (Ne.symm hn822) _ _)
       have hB850 := Blk.at' hw841 (hB833.updNe (Ne.symm hn823) _ _)
       have hB851 := OwnR.at' hw841 (hB834.updNe (Ne.symm hn824) _ _)
       have hB852 : Blk w840 V.heap.size 3 (#[I6 ↑i]) := by rw [hw841]; exact hB837.upd _ _
       have hG854 : True := trivial
       have hE855 : Ext [g, kb, pb] W w840 := by rw [hw841]; exact hE839.updIn (.inr hs838) _ _
       refine seg_end ?_
       refine hK812 _ _ ?_
       refine sq fun K856 hK856 => ?_
       refine sq fun K857 hK857 => ?_
       refine rgn 1 ?_
       refine sg (wide_wide.inRound l2) [.ld (.func (.func 65) #[] #[(Pv fb183), (Pv rb183)])] [w840.cell? ⟨qx, 0, none⟩ = some (.func (.func 65) #[] #[(Pv fb183), (Pv rb183)])] [(4, (Pv fx)), (5, (Pv sx)), (6, (Pv rx)), (7, (Pv b)), (8, (Pv cx)), (10, (Pv qx)), (12, (Pv nb)), (13, (Pv kb)), (14, (Pv pb)), (16, .slice (some ⟨g, 0, none⟩) ys.length cap), (17, I6 ↑j), (135, .bool ((((pre.length + 1 : Nat) : Int) : Int) == 1)), (18, (Pv V.heap.size)), (137, .func (.func 65) #[] #[(Pv fb183), (Pv rb183)])] 1 0 hS (.cons (hB847.cell 0 rfl) .nil) fun a hS => ?_
       refine seg_end ?_
       refine hK857 _ _ ?_
       refine wpIn_block ?_
       replace hS := hS.keepTo [4, 5, 6, 7, 8, 10, 12, 13, 14, 16, 18, 137] (m' := [(4, (Pv fx)), (5, (Pv sx)), (6, (Pv rx)), (7, (Pv b)), (8, (Pv cx)), (10, (Pv qx)), (12, (Pv nb)), (13, (Pv kb)), (14, (Pv pb)), (16, .slice (some ⟨g, 0, none⟩) ys.length cap), (18, (Pv V.heap.size)), (137, .func (.func 65) #[] #[(Pv fb183), (Pv rb183)])]) (by kernel_rfl)
       have hnbi := hB848
       have hnbib : nb ≠ V.heap.size := hn821
       have hkbi := hB849
       have hkbib : kb ≠ V.heap.size := hn822
       have hpbi := hB850
       have hpbib : pb ≠ V.heap.size := hn823
       have hgi := hB851
       have hgib : g ≠ V.heap.size := hn824
       have hWib : W.heap.size ≤ V.heap.size := hs838
       have hibi := hB852
       have hlib : w260.heap.size ≤ V.heap.size := Nat.le_trans hE6W.size hs838
       obtain ⟨ib, hibe⟩ : ∃ x, x = V.heap.size := ⟨_, rfl⟩
       rw [← hibe] at hS hibi hlib hWib hnbib hkbib hpbib hgib
       have hEi := hE855
       have hE6i := hE6W.trans hEi hM6
       have hiblt := hibi.lt
       have hsz6i := hE6i.size
       have hreci := hrec.ext hEi (by
        intro hm
        rcases (by simpa using hm : l2 = g ∨ l2 = kb ∨ l2 = pb) with h | h | h
        ·exact hgl h.symm
        ·exact hnl (by simp [h])
        ·exact hnl (by simp [h]))
       refine range_in (α := Cp) (β := Cv) (gf := 65) (lb := #[Pv fb183, Pv rb183]) (π := (·.1)) (enc := ckE) (nb := ckB) (Ok := ckOk) (Nx := CkNx i (xs.drop i)) (Fin := CkFin (xs.drop i)) (T := T)
        (fun pr Cx W => Cx = [ib] ∧ Blk W ib 3 #[I6 ((i + (told (pr.map (·.1))).length : Nat) : Int)])
        (fun _ _ _ _ => False) [ib] (fun q => [(4, (Pv fx)), (5, (Pv sx)), (6, (Pv rx)), (7, (Pv b)), (8, (Pv cx)), (10, (Pv qx)), (12, (Pv nb)), (13, (Pv kb)), (14, (Pv pb)), (16, .slice (some ⟨g, 0, none⟩) ys.length cap), (18, (Pv ib)), (19, I6 q.1.1), (20, q.2)]) hS hreci rfl Try.call65 ?_ ckOk_ext ?_ ?_ ?_ (fun _ => rfl) rfl ?_ ?_ ?_ ?_ ?_ ?_ ?_
       ·intro W hEW _
        exact hTs W (hE6i.trans0 hEW)
       ·intro b hb
        exact Nat.lt_of_lt_of_le (hTlt b hb) hsz6i
       ·intro b hb hT
        have h1 := hTlt b hT
        obtain rfl : b = ib := by simpa using hb
        omega
       ·intro b hb
        obtain rfl : b = ib := by simpa using hb
        exact hiblt
       ·rintro pr Cx M W W' ⟨rfl, h1⟩ hE hM
        exact ⟨rfl, h1.ext hE (fun hm => (hM _ hm).2 (by simp))⟩
       ·intro c pr Cx M W W' h; exact h.elim
       ·exact ⟨rfl, hibi⟩
       ·intro l3 x a' W3 K hS hK
        refine sq fun K858 hK858 => ?_
        refine rgn 1 ?_
        refine sg (wide_wide.inRound l3) [.p] [] [(4, (Pv fx)), (5, (Pv sx)), (6, (Pv rx)), (7, (Pv b)), (8, (Pv cx)), (10, (Pv qx)), (12, (Pv nb)), (13, (Pv kb)), (14, (Pv pb)), (16, .slice (some ⟨g, 0, none⟩) ys.length cap), (18, (Pv ib)), (138, I6 x.1.1), (139, x.2), (19, I6 x.1.1)] 1 0 hS .nil fun a hS => ?_
        refine seg_end ?_
        refine hK858 _ _ ?_
        refine rgn 1 ?_
        refine sg (wide_wide.inRound l3) [.p] [] [(4, (Pv fx)), (5, (Pv sx)), (6, (Pv rx)), (7, (Pv b)), (8, (Pv cx)), (10, (Pv qx)), (12, (Pv nb)), (13, (Pv kb)), (14, (Pv pb)), (16, .slice (some ⟨g, 0, none⟩) ys.length cap), (18, (Pv ib)), (138, I6 x.1.1), (139, x.2), (19, I6 x.1.1), (20, x.2)] 1 0 hS .nil fun a hS => ?_
        refine seg_end ?_
        exact hK _ (hS.keepTo [4, 5, 6, 7, 8, 10, 12, 13, 14, 16, 18, 19, 20] (by kernel_rfl))
       ·rintro l3 pr xv Cx V a ⟨hx1, hx2, rst2, hx3⟩ ⟨rfl, hibV⟩ hlieV hfrV hnl3 hrec3 hEV hok2 hnbx2 hS
        replace hS : St 210 [] [(4, (Pv fx)), (5, (Pv sx)), (6, (Pv rx)), (7, (Pv b)), (8, (Pv cx)), (10, (Pv qx)), (12, (Pv nb)), (13, (Pv kb)), (14, (Pv pb)), (16, .slice (some ⟨g, 0, none⟩) ys.length cap), (18, (Pv ib)), (19, I6 xv.1.1), (20, xv.2)] a := hS
        obtain ⟨⟨xp2, zs2⟩, xw2⟩ := xv
        simp only at hx1 hx2 hx3 hS
        obtain ⟨sl, hsl⟩ : ∃ sl : Nat, (told (pr.map (·.1))).length = sl := ⟨_, rfl⟩
        rw [hsl] at hx1 hibV
        have hxl2 := congrArg List.length hx3
        rw [List.length_append, List.length_append, List.length_drop, hsl] at hxl2
        have hzs2 : 0 < zs2.length := List.length_pos_iff.2 hx2
        have hcut2 : (xs.drop (i + sl)).take (i + sl + zs2.length - (i + sl)) = zs2 := cut_told hx3 hsl
        have hrd2 : RdV V 1 xw2 zs2.length (bv zs2) := OwnV.rd (e := 5) hok2
        rw [hx1] at hS
        have hMi : ∀ b ∈ [ib], b ∈ ([] : List Nat) ∨ w260.heap.size ≤ b := fun b hb => by
         obtain rfl : b = ib := by simpa using hb
         exact .inr hlib
        have hE6V : Ext [] w260 V := hE6i.trans hEV hMi
        have hVV : Ext [ib] V V := Ext.refl _ _
        have hsn2 : (told ((pr ++ [((xp2, zs2), xw2)]).map (·.1))).length = sl + zs2.length := by rw [List.map_append, List.map_cons, List.map_nil, told_snoc, List.length_append, hsl]
        refine wpIn_block ?_
        refine sq fun K859 hK859 => ?_
        refine sq fun K860 hK860 => ?_
        refine region_gh2 (G := World) (wide_wide.inRound l3) [.q .p, .q (.ld (I6 ((i + sl : Nat) : Int))), .q (.as (.bool false)), .q .p, .q .p, .q (.run (I6 ↑zs2.length)), .q (.as (.bool false)), .q .p, .q .p, .q .p, .q (.run (I6 ↑zs2.length)), .q (.ld ((Pv c))), .q .p, .q .p, .q (.ld (q)), .q (.run (I6 ↑xs.length)), .q (.ld (I6 ((i + sl : Nat) : Int))), .q (.as (I6 (↑xs.length - ((i + sl : Nat) : Int)))), .q (.as (.bool false)), .q .p, .q .p, .q .p, .q (.ld ((Pv c))), .q .p, .q .p, .q (.ld (q)), .q (.ld (I6 ((i + sl : Nat) : Int))), .q (.ld (I6 ((i + sl : Nat) : Int))), .q .p, .q (.run (I6 ↑zs2.length)), .q (.as (I6 ((i + sl + zs2.length : Nat) : Int))), .q (.run (rsub q (i + sl) (i + sl + zs2.length) (capOf q))), .e, .q .p, .q .p] [0, 0, 0, 0, 0, 0, 0, 0, 0, 0, 0, 0, 0, 0, 0, 0, 0, 0, 0, 0, 0, 0, 0, 0, 0, 0, 0, 0, 0, 0, 0, 0, 0, 1, 1] [0, 0, 0, 0, 0, 0, 0, 0, 0, 0, 0, 0, 0, 0, 0, 0, 0, 0, 0, 0, 0, 0, 0, 0, 0, 0, 0, 0, 0, 0, 0, 0, 0, 1, 1] [0, 0, 3, 7, 15, 31, 63, 127, 255, 511, 1023, 511, 2559, 6655, 14847, 31231, 511, 129535, 262143, 524287, 1048575, 2097151, 2097151, 6291455, 14680063, 31457279, 2097151, 2097151, 2097151, 270532607, 941621247, 2145386495, 4294967295, 8589934591, 17179869183] [32] [(32, 0)] 1 (fun wc861 => ([(4, (Pv fx)), (5, (Pv sx)), (6, (Pv rx)), (7, (Pv b)), (8, (Pv cx)), (10, (Pv qx)), (12, (Pv nb)), (13, (Pv kb)), (14, (Pv pb)), (16, .slice (some ⟨g, 0, none⟩) ys.length cap), (18, (Pv ib)), (19, I6 ((i + sl : Nat) : Int)), (20, xw2), (140, I6 ((i + sl : Nat) : Int)), (141, I6 ((i + sl : Nat) : Int)), (142, .bool false), (143, .bool false), (144, xw2), (145, I6 ↑zs2.length), (146, .bool false), (147, .bool false), (148, .bool false), (149, xw2), (150, I6 ↑zs2.length), (151, (Pv c)), (152, (Pv c)), (153, (Pv c)), (154, q), (155, I6 ↑xs.length), (156, I6 ((i + sl : Nat) : Int)), (157, I6 (↑xs.length - ((i + sl : Nat) : Int))), (158, .bool false), (159, .bool false), (160, .bool false), (161, xw2), (162, (Pv c)), (163, (Pv c)), (164, (Pv c)), (165, q), (166, I6 ((i + sl : Nat) : Int)), (167, I6 ((i + sl : Nat) : Int)), (168, xw2), (169, I6 ↑zs2.length), (170, I6 ((i + sl + zs2.length : Nat) : Int)), (171, (rsub q (i + sl) (i + sl + zs2.length) (capOf q))), (172, .bool true), (173, .bool false), (174, .bool false)] : Fm)) (fun wc861 => [V.drew, wc861]) (V.drew) (fun e wc861 => hAt [True, (Ext [] V.drew wc861) ∧ True] e) (fun wc861 w' => [(1, [w'.cell? ⟨ib, 0, none⟩ = some (I6 ((i + sl : Nat) : Int))]), (2, [Value.bool (((((i + sl : Nat) : Int) : Int) != ((i + sl : Nat) : Int))) = .bool false]), (5, [Ru Try.prog (vS (Builtin.len_ #[23] 3 #[xw2])) (I6 ↑zs2.length) w']), (6, [Value.bool (((↑zs2.length : Int) == 0)) = .bool false]), (10, [Ru Try.prog (vS (Builtin.len_ #[23] 3 #[xw2])) (I6 ↑zs2.length) w']), (11, [w'.cell? ⟨cx, 0, none⟩ = some ((Pv c))]), (14, [w'.cell? ⟨c, 0, none⟩ = some (q)]), (15, [Ru Try.prog (vS (Builtin.len_ #[23] 3 #[q])) (I6 ↑xs.length) w']), (16, [w'.cell? ⟨ib, 0, none⟩ = some (I6 ((i + sl : Nat) : Int))]), (17, [Value.int .i64 (IntKind.i64.wrap (↑xs.length - ((i + sl : Nat) : Int))) = I6 (↑xs.length - ((i + sl : Nat) : Int))]), (18, [Value.bool (decide ((↑zs2.length : Int) > ↑xs.length - ((i + sl : Nat) : Int))) = .bool false]), (22, [w'.cell? ⟨cx, 0, none⟩ = some ((Pv c))]), (25, [w'.cell? ⟨c, 0, none⟩ = some (q)]), (26, [w'.cell? ⟨ib, 0, none⟩ = some (I6 ((i + sl : Nat) : Int))]), (27, [w'.cell? ⟨ib, 0, none⟩ = some (I6 ((i + sl : Nat) : Int))]), (29, [Ru Try.prog (vS (Builtin.len_ #[23] 3 #[xw2])) (I6 ↑zs2.length) w']), (30, [Value.int .i64 (IntKind.i64.wrap (((i + sl : Nat) : Int) + ↑zs2.length)) = I6 ((i + sl + zs2.length : Nat) : Int)]), (31, [Ru Try.prog (vS (Instr.sliceAt 23 q (some (I6 ((i + sl : Nat) : Int))) (some (I6 ((i + sl + zs2.length : Nat) : Int))) none)) (rsub q (i + sl) (i + sl + zs2.length) (capOf q)) w'])]) V.drew [4, 5, 6, 7, 8, 10, 12, 13, 14, 16, 18, 19, 20] [] hS (by kernel_rfl) (by kernel_rfl) (by kernel_rfl) (by kernel_rfl) (fun wc861 _ => by kernel_rfl) (by kernel_rfl) (by kernel_rfl) (by kernel_rfl) trivial ?_ (by kernel_rfl) ?_ ?_
        ·rintro e wc861 w' hw hH
         refine (.cons ?_ (.cons ?_ (.cons ?_ (.cons ?_ (.cons ?_ (.cons ?_ (.cons ?_ (.cons ?_ (.cons ?_ (.cons ?_ (.cons ?_ (.cons ?_ (.cons ?_ (.cons ?_ (.cons ?_ (.cons ?_ (.cons ?_ (.cons ?_ .nil))))))))))))))))))
         ·intro h1 h2
          obtain rfl : e = 0 := Nat.le_antisymm h2 h1
          have hwe : V.drew = w' := (hw.trans (by kernel_rfl)).symm
          subst hwe
          clear hH
          exact (.cons ((hibV.drew : Blk V.drew ib 3 (#[I6 ((i + sl : Nat) : Int)])).cell 0 rfl) .nil)
         ·intro h1 h2
          obtain rfl : e = 0 := Nat.le_antisymm h2 h1
          have hwe : V.drew = w' := (hw.trans (by kernel_rfl)).symm
          subst hwe
          clear hH
          exact (.cons (as_ne_f (rfl)) .nil)
         ·intro h1 h2
          obtain rfl : e = 0 := Nat.le_antisymm h2 h1
          have hwe : V.drew = w' := (hw.trans (by kernel_rfl)).symm
          subst hwe
          clear hH
          exact (.cons (run_len_rd (e := 5) hrd2 (by kernel_rfl)) .nil)
         ·intro h1 h2
          obtain rfl : e = 0 := Nat.le_antisymm h2 h1
          have hwe : V.drew = w' := (hw.trans (by kernel_rfl)).symm
          subst hwe
          clear hH
          exact (.cons (as_eq_f (by omega)) .nil)
         ·intro h1 h2
          obtain rfl : e = 0 := Nat.le_antisymm h2 h1
          have hwe : V.drew = w' := (hw.trans (by kernel_rfl)).symm
          subst hwe
          clear hH
          exact (.cons (run_len_rd (e := 5) hrd2 (by kernel_rfl)) .nil)
         ·intro h1 h2
          obtain rfl : e = 0 := Nat.le_antisymm h2 h1
          have hwe : V.drew = w' := (hw.trans (by kernel_rfl)).symm
          subst hwe
          clear hH
          exact (.cons (((hcx6.ext hE6V (by simp)).drew : Blk V.drew cx 52 (#[(Pv c)])).cell 0 rfl) .nil)
         ·intro h1 h2
          obtain rfl : e = 0 := Nat.le_antisymm h2 h1
          have hwe : V.drew = w' := (hw.trans (by kernel_rfl)).symm
          subst hwe
          clear hH
          exact (.cons (((hc6.ext hE6V (by simp)).drew : Blk V.drew c 56 (#[q])).cell 0 rfl) .nil)
         ·intro h1 h2
          obtain rfl : e = 0 := Nat.le_antisymm h2 h1
          have hwe : V.drew = w' := (hw.trans (by kernel_rfl)).symm
          subst hwe
          clear hH
          exact (.cons (run_len_rd (e := 5) hq5.2.1 (by kernel_rfl)) .nil)
         ·intro h1 h2
          obtain rfl : e = 0 := Nat.le_antisymm h2 h1
          have hwe : V.drew = w' := (hw.trans (by kernel_rfl)).symm
          subst hwe
          clear hH
          exact (.cons ((hibV.drew : Blk V.drew ib 3 (#[I6 ((i + sl : Nat) : Int)])).cell 0 rfl) .nil)
         ·intro h1 h2
          obtain rfl : e = 0 := Nat.le_antisymm h2 h1
          have hwe : V.drew = w' := (hw.trans (by kernel_rfl)).symm
          subst hwe
          clear hH
          exact (.cons (as_i64 (by omega)) .nil)
         ·intro h1 h2
          obtain rfl : e = 0 := Nat.le_antisymm h2 h1
          have hwe : V.drew = w' := (hw.trans (by kernel_rfl)).symm
          subst hwe
          clear hH
          exact (.cons (as_f (by omega)) .nil)
         ·intro h1 h2
          obtain rfl : e = 0 := Nat.le_antisymm h2 h1
          have hwe : V.drew = w' := (hw.trans (by kernel_rfl)).symm
          subst hwe
          clear hH
          exact (.cons (((hcx6.ext hE6V (by simp)).drew : Blk V.drew cx 52 (#[(Pv c)])).cell 0 rfl) .nil)
         ·intro h1 h2
          obtain rfl : e = 0 := Nat.le_antisymm h2 h1
          have hwe : V.drew = w' := (hw.trans (by kernel_rfl)).symm
          subst hwe
          clear hH
          exact (.cons (((hc6.ext hE6V (by simp)).drew : Blk V.drew c 56 (#[q])).cell 0 rfl) .nil)
         ·intro h1 h2
          obtain rfl : e = 0 := Nat.le_antisymm h2 h1
          have hwe : V.drew = w' := (hw.trans (by kernel_rfl)).symm
          subst hwe
          clear hH
          exact (.cons ((hibV.drew : Blk V.drew ib 3 (#[I6 ((i + sl : Nat) : Int)])).cell 0 rfl) .nil)
         ·intro h1 h2
          obtain rfl : e = 0 := Nat.le_antisymm h2 h1
          have hwe : V.drew = w' := (hw.trans (by kernel_rfl)).symm
          subst hwe
          clear hH
          exact (.cons ((hibV.drew : Blk V.drew ib 3 (#[I6 ((i + sl : Nat) : Int)])).cell 0 rfl) .nil)
         ·intro h1 h2
          obtain rfl : e = 0 := Nat.le_antisymm h2 h1
          have hwe : V.drew = w' := (hw.trans (by kernel_rfl)).symm
          subst hwe
          clear hH
          exact (.cons (run_len_rd (e := 5) hrd2 (by kernel_rfl)) .nil)
         ·intro h1 h2
          obtain rfl : e = 0 := Nat.le_antisymm h2 h1
          have hwe : V.drew = w' := (hw.trans (by kernel_rfl)).symm
          subst hwe
          clear hH
          exact (.cons ((by rw [show (((i + sl : Nat) : Int) + ↑zs2.length : Int) = ((i + sl + zs2.length : Nat) : Int) from by omega]; exact as_i64 (by omega))) .nil)
         ·intro h1 h2
          obtain rfl : e = 0 := Nat.le_antisymm h2 h1
          have hwe : V.drew = w' := (hw.trans (by kernel_rfl)).symm
          subst hwe
          clear hH
          exact (.cons (sl_rd (e := 5) (some (I6 ((i + sl : Nat) : Int))) (some (I6 ((i + sl + zs2.length : Nat) : Int))) (l := (i + sl)) (k := (i + sl + zs2.length)) hq5.2.1 (by kernel_rfl) (by kernel_rfl) (.inr ⟨_, rfl⟩) (.inr ⟨_, rfl⟩) (by omega) (by omega)) .nil)
        ·refine (.cons ?eq862_32 .nil)
         ·rintro wc861 hH
          clear hH
          refine eff_gh (V.drew) (by kernel_rfl) ?_
          refine upon_call (f := 31) (vs := [xw2, (rsub q (i + sl) (i + sl + zs2.length) (capOf q))]) (cap := #[]) (d := (some 172)) (by kernel_rfl) Try.call31 #[xw2, (rsub q (i + sl) (i + sl + zs2.length) (capOf q))] (by kernel_rfl) (SameB_cut (hrd2.ext0 ((Ext.refl [] _).drew)) ((RdV.subb hq5.2.1 (l := (i + sl)) (k := (i + sl + zs2.length)) (m := (capOf q)) (by omega) (by omega) (by have := hq5.2.1.le_cap; omega)).ext0 (hE56.trans0 (hE6V.trans0 ((Ext.refl [] _).drew)))) hcut2 (by omega)) ?_
          rintro _ wc861 ⟨rfl, hEc861⟩
          exact ⟨_, rfl, ⟨wc861, by kernel_rfl, by kernel_rfl, by kernel_rfl, ⟨hEc861, trivial⟩⟩⟩
        rintro wc861 a w863 hS hw864 hH
        obtain ⟨hEc861, _⟩ := hH
        replace hw864 : w863 = wc861 := hw864.trans (by kernel_rfl)
        have hB871 := Blk.at' hw864 ((hibV.drew : Blk V.drew ib 3 (#[I6 ((i + sl : Nat) : Int)])).ext hEc861 (by simp))
        have hE872 : Ext [ib] V w863 := by rw [hw864]; exact (hVV.drew).trans0 hEc861
        have hG874 : True := trivial
        replace hS := hS.kp [(4, (Pv fx)), (5, (Pv sx)), (6, (Pv rx)), (7, (Pv b)), (8, (Pv cx)), (10, (Pv qx)), (12, (Pv nb)), (13, (Pv kb)), (14, (Pv pb)), (16, .slice (some ⟨g, 0, none⟩) ys.length cap), (18, (Pv ib)), (19, I6 ((i + sl : Nat) : Int)), (20, xw2), (174, .bool false)]
        refine hK860 _ _ ?_
        refine cond_f hS rfl ?_
        refine wpIn_skip ?_
        refine hK859 _ _ ?_
        refine rgn 5 ?_
        refine sg (wide_wide.inRound l3) [.ld (I6 ((i + sl : Nat) : Int)), .p, .run (I6 ↑zs2.length), .as (I6 ((i + sl + zs2.length : Nat) : Int))] [w863.cell? ⟨ib, 0, none⟩ = some (I6 ((i + sl : Nat) : Int)), Ru Try.prog (vS (Builtin.len_ #[23] 3 #[xw2])) (I6 ↑zs2.length) w863, Value.int .i64 (IntKind.i64.wrap (((i + sl : Nat) : Int) + ↑zs2.length)) = I6 ((i + sl + zs2.length : Nat) : Int)] [(4, (Pv fx)), (5, (Pv sx)), (6, (Pv rx)), (7, (Pv b)), (8, (Pv cx)), (10, (Pv qx)), (12, (Pv nb)), (13, (Pv kb)), (14, (Pv pb)), (16, .slice (some ⟨g, 0, none⟩) ys.length cap), (18, (Pv ib)), (19, I6 ((i + sl : Nat) : Int)), (20, xw2), (174, .bool false), (178, I6 ((i + sl + zs2.length : Nat) : Int))] 4 1 hS (.cons (hB871.cell 0 rfl) (.cons (run_len_rd (e := 5) hrd2 (by kernel_rfl)) (.cons ((by rw [show (((i + sl : Nat) : Int) + ↑zs2.length : Int) = ((i + sl + zs2.length : Nat) : Int) from by omega]; exact as_i64 (by omega))) .nil))) fun a hS => ?_
        refine eff_store (wide_wide.inRound l3) (r := 0) (b := ib) (off := 0) (vs := [I6 ((i + sl + zs2.length : Nat) : Int)]) hS (by kernel_rfl) hB871 (by simp) fun a w875 hw876 hS => ?_
        have hB883 : Blk w875 ib 3 (#[I6 ((i + sl + zs2.length : Nat) : Int)]) := by rw [hw876]; exact hB871.upd _ _
        have hG885 : True := trivial
        have hE886 : Ext [ib] V w875 := by rw [hw876]; exact hE872.updIn (.inl (by simp)) _ _
        refine seg_end ?_
        refine inBlock_normal ?_
        refine left_normal (C' := [ib]) (hE886.mono (fun b hb => by simp at hb ⊢; simp [hb])) (fun b hb => .inl (List.mem_append_right _ hb)) (hlieV.ext hE886) ⟨rfl, ?_⟩
        rw [hsn2, ← Nat.add_assoc]; exact hB883
       ·rintro Cx V2 a hEV2 hfr2 hlie2 ⟨all2, hall2, rfl, hib2⟩ hS
        have hall3 : told (all2.map (·.1)) = xs.drop i := hall2
        rw [hall3, List.length_drop, Nat.add_sub_cancel' hi] at hib2
        have hEi2 : Ext [g, kb, pb] W V2 := hEi.trans hEV2 (fun b hb => by
         obtain rfl : b = ib := by simpa using hb
         exact .inr hWib)
        have hE6V2 := hE6W.trans hEi2 hM6
        replace hS : St 210 [] [(4, (Pv fx)), (5, (Pv sx)), (6, (Pv rx)), (7, (Pv b)), (8, (Pv cx)), (10, (Pv qx)), (12, (Pv nb)), (13, (Pv kb)), (14, (Pv pb)), (16, .slice (some ⟨g, 0, none⟩) ys.length cap), (18, (Pv ib))] a := hS.keepTo [4, 5, 6, 7, 8, 10, 12, 13, 14, 16, 18] (by kernel_rfl)
        have hkb2 := hkbi.ext hEV2 (by simpa using hkbib)
        have hpb2 := hpbi.ext hEV2 (by simpa using hpbib)
        have hg2 := hgi.ext hEV2 (by simpa using hgib)
        refine inBlock_normal ?_
        refine hK856 _ _ ?_
        refine sq fun K887 hK887 => ?_
        refine region_fn2 (wide_wide.inRound l2) [.q (.ld (I6 ↑xs.length)), .q (.ld ((Pv c))), .q .p, .q .p, .q (.ld (q)), .q (.run (I6 ↑xs.length)), .q (.as (.bool false))] [0, 0, 0, 0, 0, 0, 0] [0, 0, 0, 0, 0, 0, 0] [0, 0, 2, 6, 14, 30, 63] [] 0 ([(4, (Pv fx)), (5, (Pv sx)), (6, (Pv rx)), (7, (Pv b)), (8, (Pv cx)), (10, (Pv qx)), (12, (Pv nb)), (13, (Pv kb)), (14, (Pv pb)), (16, .slice (some ⟨g, 0, none⟩) ys.length cap), (18, (Pv ib)), (179, I6 ↑xs.length), (180, (Pv c)), (181, (Pv c)), (182, (Pv c)), (183, q), (184, I6 ↑xs.length), (185, .bool false)]) [V2.drew] V2.drew (fun w' => [(0, [w'.cell? ⟨ib, 0, none⟩ = some (I6 ↑xs.length)]), (1, [w'.cell? ⟨cx, 0, none⟩ = some ((Pv c))]), (4, [w'.cell? ⟨c, 0, none⟩ = some (q)]), (5, [Ru Try.prog (vS (Builtin.len_ #[23] 3 #[q])) (I6 ↑xs.length) w']), (6, [Value.bool (((↑xs.length : Int) != ↑xs.length)) = .bool false])]) [4, 5, 6, 7, 8, 10, 12, 13, 14, 16, 18] [] hS (by kernel_rfl) (by kernel_rfl) (by kernel_rfl) (by kernel_rfl) (fun _ => by kernel_rfl) (by kernel_rfl) (by kernel_rfl) (by kernel_rfl) ?_ ?_ ?_
        ·intro e w' hw
         refine (.cons ?_ (.cons ?_ (.cons ?_ (.cons ?_ (.cons ?_ .nil)))))
         ·intro h1 h2
          obtain rfl : e = 0 := Nat.le_antisymm h2 h1
          obtain rfl : w' = V2.drew := hw.trans (by kernel_rfl)
          exact (.cons ((hib2.drew : Blk V2.drew ib 3 (#[I6 ↑xs.length])).cell 0 rfl) .nil)
         ·intro h1 h2
          obtain rfl : e = 0 := Nat.le_antisymm h2 h1
          obtain rfl : w' = V2.drew := hw.trans (by kernel_rfl)
          exact (.cons (((hcx6.ext hE6V2 (by simp)).drew : Blk V2.drew cx 52 (#[(Pv c)])).cell 0 rfl) .nil)
         ·intro h1 h2
          obtain rfl : e = 0 := Nat.le_antisymm h2 h1
          obtain rfl : w' = V2.drew := hw.trans (by kernel_rfl)
          exact (.cons (((hc6.ext hE6V2 (by simp)).drew : Blk V2.drew c 56 (#[q])).cell 0 rfl) .nil)
         ·exact fun _ _ => (.cons (run_len_rd (e := 5) hq5.2.1 (by kernel_rfl)) .nil)
         ·exact fun _ _ => (.cons (as_ne_f (rfl)) .nil)
        ·refine .nil
        rintro a w889 hS hw890
        replace hw890 : w889 = V2.drew := hw890.trans (by kernel_rfl)
        have hB898 := Blk.at' hw890 (hkb2.drew)
        have hB899 := Blk.at' hw890 (hpb2.drew)
        have hE902 : Ext [g, kb, pb] W w889 := by rw [hw890]; exact hEi2.drew
        have hG904 : True := trivial
        replace hS := hS.kp [(4, (Pv fx)), (5, (Pv sx)), (6, (Pv rx)), (7, (Pv b)), (8, (Pv cx)), (10, (Pv qx)), (12, (Pv nb)), (13, (Pv kb)), (14, (Pv pb)), (16, .slice (some ⟨g, 0, none⟩) ys.length cap), (18, (Pv ib)), (185, .bool false)]
        refine hK887 _ _ ?_
        refine cond_f hS rfl ?_
        refine wpIn_skip ?_
        refine inBlock_normal ?_
        refine left_normal (C' := [kb, pb]) (hE902.mono (fun b hb => by simp [ckB, ob] at hb ⊢; simp [hb])) (fun b hb => .inl (List.mem_append_right _ hb)) (hlieW.ext hE902) ⟨rfl, ?_, ?_, ?_⟩
        ·rw [hsn, ← Nat.add_assoc]; exact hB898
        ·rw [List.length_append]; exact hB899
        ·rw [hsn, List.length_append, List.length_singleton]; omega
       ·intro c pr Cx W a _ _ _ h; exact h.elim
      ·
       replace hb811 := test_eq_f hb811
       refine wpIn_skip ?_
       refine inBlock_normal ?_
       refine left_normal (C' := [kb, pb]) (hEV.mono (fun b hb => by simp [ckB, ob] at hb ⊢; simp [hb])) (fun b hb => .inl (List.mem_append_right _ hb)) (hlieW.ext hEV) ⟨rfl, ?_, ?_, ?_⟩
       ·rw [hsn, ← Nat.add_assoc]; exact hkbV
       ·rw [List.length_append]; exact hpbV
       ·rw [hsn, List.length_append, List.length_singleton]; omega
    ·rintro Cx w10 a hE910 hfr10 hlie10 hD10 ⟨all, hall, rfl, hkb10, hpb10, _⟩ hS
     have hall2 : told (all.map (·.1)) = xs.drop i := hall
     rw [hall2, List.length_drop, Nat.add_sub_cancel' hi] at hkb10
     have hEl10 : Ext [] w260 w10 := hE9.trans hE910 (fun b hb => by rcases (by simpa using hb : b = kb ∨ b = pb) with rfl | rfl <;> first | exact .inr hlkb | exact .inr hlpb)
     obtain ⟨D0, hD0e⟩ : ∃ D, D = w721.heap.size := ⟨_, rfl⟩
     rw [← hD0e] at hD10 hS
     have hD0n : w260.heap.size ≤ D0 := by rw [hD0e]; exact hl9
     have hnb10 := hnb9.ext hE910 (by simp [hnbkb, hnbpb])
     have hDs10 : ∀ D ∈ D0 :: Ds, Dfr w10 D := fun D hD => by
      rcases List.mem_cons.1 hD with rfl | hD
      ·exact hD10
      ·exact (hD9 D hD).ext hE910 (by simp [(hD9 D hD).ne_blk hkb9, (hD9 D hD).ne_blk hpb9])
     have hnd2 : (D0 :: Ds).Nodup := List.nodup_cons.2 ⟨fun h => by have := (hD9 D0 h).lt; omega, hnd⟩
     have hDn2 : ∀ D ∈ D0 :: Ds, w260.heap.size ≤ D := fun D hD => by
      rcases List.mem_cons.1 hD with rfl | hD
      ·exact hD0n
      ·exact hDn D hD
     replace hS : St 210 ((D0 :: Ds).map dmark) [(4, (Pv fx)), (5, (Pv sx)), (6, (Pv rx)), (7, (Pv b)), (8, (Pv cx)), (10, (Pv qx)), (12, (Pv nb)), (13, (Pv kb)), (14, (Pv pb))] a := hS.keepTo [4, 5, 6, 7, 8, 10, 12, 13, 14] (by kernel_rfl)
     refine inBlock_normal ?_
     refine hK736 _ _ ?_
     refine sq fun K905 hK905 => ?_
     refine region_fn2 wide_wide [.q (.ld (I6 ↑xs.length)), .q (.ld ((Pv c))), .q .p, .q .p, .q (.ld (q)), .q (.run (I6 ↑xs.length)), .q (.as (.bool false)), .q .p, .q .no, .q .no, .q .no, .q .no, .q .no, .q .no, .q .no, .q .p] [0, 0, 0, 0, 0, 0, 0, 0, 0, 0, 0, 0, 0, 0, 0, 0] [0, 0, 0, 0, 0, 0, 0, 0, 0, 0, 0, 0, 0, 0, 0, 0] [0, 0, 2, 6, 14, 30, 63, 127, 255, 511, 1023, 2047, 2047, 8191, 16383, 32767] [] 0 ([(4, (Pv fx)), (5, (Pv sx)), (6, (Pv rx)), (7, (Pv b)), (8, (Pv cx)), (10, (Pv qx)), (12, (Pv nb)), (13, (Pv kb)), (14, (Pv pb)), (186, I6 ↑xs.length), (187, (Pv c)), (188, (Pv c)), (189, (Pv c)), (190, q), (191, I6 ↑xs.length), (192, .bool false), (193, .bool false), (194, undef), (195, undef), (196, undef), (197, undef), (198, undef), (199, undef), (200, undef), (201, .bool false)]) [w10.drew] w10.drew (fun w' => [(0, [w'.cell? ⟨kb, 0, none⟩ = some (I6 ↑xs.length)]), (1, [w'.cell? ⟨cx, 0, none⟩ = some ((Pv c))]), (4, [w'.cell? ⟨c, 0, none⟩ = some (q)]), (5, [Ru Try.prog (vS (Builtin.len_ #[23] 3 #[q])) (I6 ↑xs.length) w']), (6, [Value.bool (((↑xs.length : Int) != ↑xs.length)) = .bool false])]) [4, 5, 6, 7, 8, 10, 12, 13, 14] [] hS (by kernel_rfl) (by kernel_rfl) (by kernel_rfl) (by kernel_rfl) (fun _ => by kernel_rfl) (by kernel_rfl) (by kernel_rfl) (by kernel_rfl) ?_ ?_ ?_
     ·intro e w' hw
      refine (.cons ?_ (.cons ?_ (.cons ?_ (.cons ?_ (.cons ?_ .nil)))))
      ·intro h1 h2
       obtain rfl : e = 0 := Nat.le_antisymm h2 h1
       obtain rfl : w' = w10.drew := hw.trans (by kernel_rfl)
       exact (.cons ((hkb10.drew : Blk w10.drew kb 3 (#[I6 ↑xs.length])).cell 0 rfl) .nil)
      ·intro h1 h2
       obtain rfl : e = 0 := Nat.le_antisymm h2 h1
       obtain rfl : w' = w10.drew := hw.trans (by kernel_rfl)
       exact (.cons (((hcx6.ext hEl10 (by simp)).drew : Blk w10.drew cx 52 (#[(Pv c)])).cell 0 rfl) .nil)
      ·intro h1 h2
       obtain rfl : e = 0 := Nat.le_antisymm h2 h1
       obtain rfl : w' = w10.drew := hw.trans (by kernel_rfl)
       exact (.cons (((hc6.ext hEl10 (by simp)).drew : Blk w10.drew c 56 (#[q])).cell 0 rfl) .nil)
      ·exact fun _ _ => (.cons (run_len_rd (e := 5) hq5.2.1 (by kernel_rfl)) .nil)
      ·exact fun _ _ => (.cons (as_ne_f (rfl)) .nil)
     ·refine .nil
     rintro a w907 hS hw908
     replace hw908 : w907 = w10.drew := hw908.trans (by kernel_rfl)
     have hB909 := Blk.at' hw908 ((hfx6.ext hEl10 (by simp)).drew)
     have hB910 := Blk.at' hw908 ((hsx6.ext hEl10 (by simp)).drew)
     have hB915 := Blk.at' hw908 (hnb10.drew)
     have hE918 : Ext [] w260 w907 := by rw [hw908]; exact hEl10.drew
     have hX919 : Ext [] w10 w907 := by rw [hw908]; exact (Ext.refl _ _).drew
     have hG920 : True := trivial
     have hG921 : ∀ D ∈ D0 :: Ds, Dfr w907 D := fun D hD => (hDs10 D hD).ext hX919 (by simp)
     replace hS := hS.kp [(4, (Pv fx)), (5, (Pv sx)), (6, (Pv rx)), (7, (Pv b)), (8, (Pv cx)), (10, (Pv qx)), (12, (Pv nb)), (13, (Pv kb)), (14, (Pv pb)), (201, .bool false)]
     refine hK905 _ _ ?_
     refine cond_f hS rfl ?_
     refine wpIn_skip ?_
     refine inBlock_normal ?_
     refine hK276 _ _ ?_
     refine sq fun K922 hK922 => ?_
     refine sq fun K923 hK923 => ?_
     refine rgn 1 ?_
     refine sg wide_wide [.ld (I6 1)] [w907.cell? ⟨nb, 0, none⟩ = some (I6 1)] [(4, (Pv fx)), (5, (Pv sx)), (6, (Pv rx)), (7, (Pv b)), (8, (Pv cx)), (10, (Pv qx)), (12, (Pv nb)), (13, (Pv kb)), (14, (Pv pb)), (201, .bool false), (202, I6 1)] 1 0 hS (.cons (hB915.cell 0 rfl) .nil) fun a hS => ?_
     refine seg_end ?_
     refine hK923 _ _ ?_
     refine rgn 2 ?_
     refine eff_box wide_wide (r := 1) (cs := #[I6 0]) (T := 3) (d := (some 12)) hS (by kernel_rfl) fun a w924 hw925 hS => ?_
     have hn926 : fx ≠ w907.heap.size := Nat.ne_of_lt hB909.lt
     have hn927 : sx ≠ w907.heap.size := Nat.ne_of_lt hB910.lt
     have hX944 : Ext [] w907 w924 := by rw [hw925]; exact (Ext.refl _ _).alloc _
     have hG945 : True := trivial
     have hG946 : ∀ D ∈ D0 :: Ds, Dfr w924 D := fun D hD => (hG921 D hD).ext hX944 (by simp)
     have hB947 : Blk w924 (w907.heap.size) 3 #[I6 0] := by rw [hw925]; exact Blk.new _ _ _
     have hs948 : w260.heap.size ≤ w907.heap.size := hE918.size
     have hE949 : Ext [] w260 w924 := by rw [hw925]; exact hE918.alloc _
     refine eff_store wide_wide (r := 0) (b := w907.heap.size) (off := 0) (vs := [I6 1]) hS (by kernel_rfl) hB947 (by simp) fun a w950 hw951 hS => ?_
     have hB961 : Blk w950 w907.heap.size 3 (#[I6 1]) := by rw [hw951]; exact hB947.upd _ _
     have hX962 : Ext [w907.heap.size] w924 w950 := by rw [hw951]; exact (Ext.refl _ _).updIn (.inl (by simp)) _ _
     have hG963 : True := trivial
     have hG964 : ∀ D ∈ D0 :: Ds, Dfr w950 D := fun D hD => (hG946 D hD).ext hX962 (by simpa using (hG946 D hD).ne_blk hB947)
     have hE965 : Ext [] w260 w950 := by rw [hw951]; exact hE949.updIn (.inr hs948) _ _
     refine seg_end ?_
     refine hK922 _ _ ?_
     refine rgn 3 ?_
     refine sg wide_wide [.ld (I6 1), .p] [w950.cell? ⟨w907.heap.size, 0, none⟩ = some (I6 1)] [(4, (Pv fx)), (5, (Pv sx)), (6, (Pv rx)), (7, (Pv b)), (8, (Pv cx)), (10, (Pv qx)), (12, (Pv w907.heap.size)), (13, (Pv kb)), (14, (Pv pb)), (201, .bool false), (202, I6 1), (63, I6 2)] 2 1 hS (.cons (hB961.cell 0 rfl) .nil) fun a hS => ?_
     refine eff_store wide_wide (r := 0) (b := w907.heap.size) (off := 0) (vs := [I6 2]) hS (by kernel_rfl) hB961 (by simp) fun a w966 hw967 hS => ?_
     have hB977 : Blk w966 w907.heap.size 3 (#[I6 2]) := by rw [hw967]; exact hB961.upd _ _
     have hX978 : Ext [w907.heap.size] w950 w966 := by rw [hw967]; exact (Ext.refl _ _).updIn (.inl (by simp)) _ _
     have hG979 : True := trivial
     have hG980 : ∀ D ∈ D0 :: Ds, Dfr w966 D := fun D hD => (hG964 D hD).ext hX978 (by simpa using (hG964 D hD).ne_blk hB961)
     have hE981 : Ext [] w260 w966 := by rw [hw967]; exact hE965.updIn (.inr hs948) _ _
     refine seg_end ?_
     exact ⟨(2, w907.heap.size, D0 :: Ds), ⟨hS.keepTo [4, 5, 6, 7, 8, 10, 12] (by kernel_rfl), by omega, hE981, hB977, ⟨hn926, hn927⟩, hG980, hnd2, hDn2⟩, by simp⟩
    ·intro c pre Cx W a _ _ _ _ h; exact h.elim
   ·
    replace hnb : Blk w1 nb 3 #[I6 2] := hnb
    refine rgn 3 ?_
    refine sg wide_wide [.ld (I6 ↑i)] [w1.cell? ⟨fx, 0, none⟩ = some (I6 ↑i)] [(4, (Pv fx)), (5, (Pv sx)), (6, (Pv rx)), (7, (Pv b)), (8, (Pv cx)), (10, (Pv qx)), (12, (Pv nb)), (64, I6 ↑i)] 1 2 hS (.cons (((hfx6.ext hEl (by simp))).cell 0 rfl) .nil) fun a hS => ?_
    refine eff_box wide_wide (r := 1) (cs := #[I6 0]) (T := 3) (d := (some 13)) hS (by kernel_rfl) fun a w982 hw983 hS => ?_
    have hn989 : qx ≠ w1.heap.size := Nat.ne_of_lt (hqx6.ext hEl (by simp)).lt
    have hn990 : nb ≠ w1.heap.size := Nat.ne_of_lt hnb.lt
    have hB996 := Blk.at' hw983 ((hqx6.ext hEl (by simp)).alloc _)
    have hB997 := Blk.at' hw983 (hnb.alloc _)
    have hX998 : Ext [] w1 w982 := by rw [hw983]; exact (Ext.refl _ _).alloc _
    have hG999 : True := trivial
    have hG1000 : ∀ D ∈ Ds, Dfr w982 D := fun D hD => (hDs D hD).ext hX998 (by first | (simp; done) | simpa using (hDs D hD).ne_blk (hrx6.ext hEl (by simp)))
    have hB1001 : Blk w982 (w1.heap.size) 3 #[I6 0] := by rw [hw983]; exact Blk.new _ _ _
    have hs1002 : w260.heap.size ≤ w1.heap.size := hEl.size
    have hE1003 : Ext [] w260 w982 := by rw [hw983]; exact hEl.alloc _
    refine eff_store wide_wide (r := 0) (b := w1.heap.size) (off := 0) (vs := [I6 ↑i]) hS (by kernel_rfl) hB1001 (by simp) fun a w1004 hw1005 hS => ?_
    have hB1011 := Blk.at' hw1005 (hB996.updNe (Ne.symm hn989) _ _)
    have hB1012 := Blk.at' hw1005 (hB997.updNe (Ne.symm hn990) _ _)
    have hB1013 : Blk w1004 w1.heap.size 3 (#[I6 ↑i]) := by rw [hw1005]; exact hB1001.upd _ _
    have hX1014 : Ext [w1.heap.size] w982 w1004 := by rw [hw1005]; exact (Ext.refl _ _).updIn (.inl (by simp)) _ _
    have hG1015 : True := trivial
    have hG1016 : ∀ D ∈ Ds, Dfr w1004 D := fun D hD => (hG1000 D hD).ext hX1014 (by simpa using (hG1000 D hD).ne_blk hB1001)
    have hE1017 : Ext [] w260 w1004 := by rw [hw1005]; exact hE1003.updIn (.inr hs1002) _ _
    refine seg_end ?_
    refine hK277 _ _ ?_
    refine sq fun K1018 hK1018 => ?_
    refine rgn 2 ?_
    refine eff_box wide_wide (r := 1) (cs := #[I6 0]) (T := 3) (d := (some 14)) hS (by kernel_rfl) fun a w1019 hw1020 hS => ?_
    have hn1026 : qx ≠ w1004.heap.size := Nat.ne_of_lt hB1011.lt
    have hn1027 : nb ≠ w1004.heap.size := Nat.ne_of_lt hB1012.lt
    have hn1028 : w1.heap.size ≠ w1004.heap.size := Nat.ne_of_lt hB1013.lt
    have hB1034 := Blk.at' hw1020 (hB1011.alloc _)
    have hB1035 := Blk.at' hw1020 (hB1012.alloc _)
    have hB1036 := Blk.at' hw1020 (hB1013.alloc _)
    have hX1037 : Ext [] w1004 w1019 := by rw [hw1020]; exact (Ext.refl _ _).alloc _
    have hG1038 : True := trivial
    have hG1039 : ∀ D ∈ Ds, Dfr w1019 D := fun D hD => (hG1016 D hD).ext hX1037 (by first | (simp; done) | simpa using (hDs D hD).ne_blk (hrx6.ext hEl (by simp)))
    have hB1040 : Blk w1019 (w1004.heap.size) 3 #[I6 0] := by rw [hw1020]; exact Blk.new _ _ _
    have hs1041 : w260.heap.size ≤ w1004.heap.size := hE1017.size
    have hE1042 : Ext [] w260 w1019 := by rw [hw1020]; exact hE1017.alloc _
    refine eff_store wide_wide (r := 0) (b := w1004.heap.size) (off := 0) (vs := [I6 0]) hS (by kernel_rfl) hB1040 (by simp) fun a w1043 hw1044 hS => ?_
    have hB1050 := Blk.at' hw1044 (hB1034.updNe (Ne.symm hn1026) _ _)
    have hB1051 := Blk.at' hw1044 (hB1035.updNe (Ne.symm hn1027) _ _)
    have hB1052 := Blk.at' hw1044 (hB1036.updNe (Ne.symm hn1028) _ _)
    have hB1053 : Blk w1043 w1004.heap.size 3 (#[I6 0]) := by rw [hw1044]; exact hB1040.upd _ _
    have hX1054 : Ext [w1004.heap.size] w1019 w1043 := by rw [hw1044]; exact (Ext.refl _ _).updIn (.inl (by simp)) _ _
    have hG1055 : True := trivial
    have hG1056 : ∀ D ∈ Ds, Dfr w1043 D := fun D hD => (hG1039 D hD).ext hX1054 (by simpa using (hG1039 D hD).ne_blk hB1040)
    have hE1057 : Ext [] w260 w1043 := by rw [hw1044]; exact hE1042.updIn (.inr hs1041) _ _
    refine seg_end ?_
    refine hK1018 _ _ ?_
    refine sq fun K1058 hK1058 => ?_
    refine sq fun K1059 hK1059 => ?_
    refine rgn 1 ?_
    refine sg wide_wide [.ld (.func (.func 65) #[] #[(Pv fb183), (Pv rb183)])] [w1043.cell? ⟨qx, 0, none⟩ = some (.func (.func 65) #[] #[(Pv fb183), (Pv rb183)])] [(4, (Pv fx)), (5, (Pv sx)), (6, (Pv rx)), (7, (Pv b)), (8, (Pv cx)), (10, (Pv qx)), (12, (Pv nb)), (13, (Pv w1.heap.size)), (14, (Pv w1004.heap.size)), (65, .func (.func 65) #[] #[(Pv fb183), (Pv rb183)])] 1 0 hS (.cons (hB1050.cell 0 rfl) .nil) fun a hS => ?_
    refine seg_end ?_
    refine hK1059 _ _ ?_
    refine wpIn_block ?_
    replace hS := hS.keepTo [4, 5, 6, 7, 8, 10, 12, 13, 14, 65] (m' := [(4, (Pv fx)), (5, (Pv sx)), (6, (Pv rx)), (7, (Pv b)), (8, (Pv cx)), (10, (Pv qx)), (12, (Pv nb)), (13, (Pv w1.heap.size)), (14, (Pv w1004.heap.size)), (65, .func (.func 65) #[] #[(Pv fb183), (Pv rb183)])]) (by kernel_rfl)
    have hkb9 := hB1052
    have hpb9 := hB1053
    have hnb9 := hB1051
    have hlkb : w260.heap.size ≤ w1.heap.size := hs1002
    have hlpb : w260.heap.size ≤ w1004.heap.size := hs1041
    have hnbkb : nb ≠ w1.heap.size := hn990
    have hnbpb : nb ≠ w1004.heap.size := hn1027
    have hkbpb : w1.heap.size ≠ w1004.heap.size := hn1028
    obtain ⟨kb, hkbe⟩ : ∃ x, x = w1.heap.size := ⟨_, rfl⟩
    obtain ⟨pb, hpbe⟩ : ∃ x, x = w1004.heap.size := ⟨_, rfl⟩
    rw [← hkbe] at hkb9 hlkb hnbkb hkbpb
    rw [← hpbe] at hpb9 hlpb hnbpb hkbpb
    rw [← hkbe, ← hpbe] at hS
    have hE9 := hE1057
    have hD9 := hG1056
    have hkblt := hkb9.lt
    have hpblt := hpb9.lt
    have hl9 := hE9.size
    have hnblt := hnb9.lt
    refine range_out (α := Cp) (β := Cv) (gf := 65) (lb := #[Pv fb183, Pv rb183]) (π := (·.1)) (enc := ckE) (nb := ckB) (Ok := ckOk) (Nx := CkNx i (xs.drop i)) (Fin := CkFin (xs.drop i)) (T := T)
     (fun pre Cx W => Cx = [kb, pb] ∧ Blk W kb 3 #[I6 ((i + (told (pre.map (·.1))).length : Nat) : Int)] ∧ Blk W pb 3 #[I6 (pre.length : Int)] ∧ pre.length ≤ (told (pre.map (·.1))).length)
     (fun _ _ _ _ => False) [kb, pb] (fun q => [(4, (Pv fx)), (5, (Pv sx)), (6, (Pv rx)), (7, (Pv b)), (8, (Pv cx)), (10, (Pv qx)), (12, (Pv nb)), (13, (Pv kb)), (14, (Pv pb)), (15, I6 q.1.1), (16, q.2)]) hS rfl Try.call65 ?_ ckOk_ext ?_ ?_ ?_ (fun _ => rfl) rfl ?_ ?_ ?_ ?_ ?_ ?_ ?_
    ·intro W hEW _
     exact hTs W (hE9.trans0 hEW)
    ·intro b hb
     exact Nat.lt_of_lt_of_le (hTlt b hb) hl9
    ·intro b hb hT
     have h1 := hTlt b hT
     rcases (by simpa using hb : b = kb ∨ b = pb) with rfl | rfl <;> omega
    ·intro b hb
     rcases (by simpa using hb : b = kb ∨ b = pb) with rfl | rfl
     ·exact hkblt
     ·exact hpblt
    ·rintro pre Cx M W W' ⟨rfl, h1, h2, h3⟩ hE hM
     exact ⟨rfl, h1.ext hE (fun hm => (hM _ hm).2 (by simp)), h2.ext hE (fun hm => (hM _ hm).2 (by simp)), h3⟩
    ·intro c pre Cx M W W' h; exact h.elim
    ·exact ⟨rfl, hkb9, hpb9, Nat.le_refl _⟩
    ·intro l2 x a' W K hS hK
     refine sq fun K1060 hK1060 => ?_
     refine rgn 1 ?_
     refine sg (wide_wide.inRound l2) [.p] [] [(4, (Pv fx)), (5, (Pv sx)), (6, (Pv rx)), (7, (Pv b)), (8, (Pv cx)), (10, (Pv qx)), (12, (Pv nb)), (13, (Pv kb)), (14, (Pv pb)), (66, I6 x.1.1), (67, x.2), (15, I6 x.1.1)] 1 0 hS .nil fun a hS => ?_
     refine seg_end ?_
     refine hK1060 _ _ ?_
     refine rgn 1 ?_
     refine sg (wide_wide.inRound l2) [.p] [] [(4, (Pv fx)), (5, (Pv sx)), (6, (Pv rx)), (7, (Pv b)), (8, (Pv cx)), (10, (Pv qx)), (12, (Pv nb)), (13, (Pv kb)), (14, (Pv pb)), (66, I6 x.1.1), (67, x.2), (15, I6 x.1.1), (16, x.2)] 1 0 hS .nil fun a hS => ?_
     refine seg_end ?_
     exact hK _ (hS.keepTo [4, 5, 6, 7, 8, 10, 12, 13, 14, 15, 16] (by kernel_rfl))
    ·rintro l2 pre xv Cx W a ⟨hx1, hx2, rest, hx3⟩ ⟨rfl, hkbW, hpbW, hpreW⟩ hlieW hfrW hnl hrec hEW hok hnbx hS
     replace hS : St 210 [] [(4, (Pv fx)), (5, (Pv sx)), (6, (Pv rx)), (7, (Pv b)), (8, (Pv cx)), (10, (Pv qx)), (12, (Pv nb)), (13, (Pv kb)), (14, (Pv pb)), (15, I6 xv.1.1), (16, xv.2)] a := hS
     obtain ⟨⟨xp, ys⟩, xw⟩ := xv
     simp only at hx1 hx2 hx3 hS
     obtain ⟨tl, htl⟩ : ∃ tl : Nat, (told (pre.map (·.1))).length = tl := ⟨_, rfl⟩
     rw [htl] at hx1 hkbW hpreW
     have hxll := congrArg List.length hx3
     rw [List.length_append, List.length_append, List.length_drop, htl] at hxll
     have hys : 0 < ys.length := List.length_pos_iff.2 hx2
     have hcut : (xs.drop (i + tl)).take (i + tl + ys.length - (i + tl)) = ys := cut_told hx3 htl
     obtain ⟨g, cap, hxw, hg⟩ := OwnV.some_of_pos (show OwnV W 5 1 xw ys.length (bv ys) from hok) hys
     subst hxw
     rw [hx1] at hS
     have hgk : ∀ b ∈ ckB ((xp, ys), Value.slice (some ⟨g, 0, none⟩) ys.length cap), b = g := fun b hb => by simpa [ckB, ob] using hb
     obtain ⟨hgn, hglt, hgC, hgl⟩ := hnbx g (by simp [ckB, ob])
     have hgl6 : w260.heap.size ≤ g := by omega
     have hM6 : ∀ b ∈ [g, kb, pb], b ∈ ([] : List Nat) ∨ w260.heap.size ≤ b := fun b hb => by
      rcases (by simpa using hb : b = g ∨ b = kb ∨ b = pb) with rfl | rfl | rfl
      ·exact .inr hgl6
      ·exact .inr hlkb
      ·exact .inr hlpb
     have hE6W : Ext [] w260 W := hE9.trans hEW (fun b hb => hM6 b (by simp at hb ⊢; simp [hb]))
     have hnbW := hnb9.ext hEW (by simp [hnbkb, hnbpb])
     have hWW : Ext [g, kb, pb] W W := Ext.refl _ _
     have hrd0 : RdV W 1 (Value.slice (some ⟨g, 0, none⟩) ys.length cap) ys.length (bv ys) := hg.v.rd
     have hsn : (told ((pre ++ [((xp, ys), Value.slice (some ⟨g, 0, none⟩) ys.length cap)]).map (·.1))).length = tl + ys.length := by rw [List.map_append, List.map_cons, List.map_nil, told_snoc, List.length_append, htl]
     refine wpIn_block ?_
     refine sq fun K1061 hK1061 => ?_
     refine sq fun K1062 hK1062 => ?_
     refine rgn 7 ?_
     refine sg (wide_wide.inRound l2) [.ld (I6 2), .p, .p, .no, .no, .no, .p] [W.cell? ⟨nb, 0, none⟩ = some (I6 2)] [(4, (Pv fx)), (5, (Pv sx)), (6, (Pv rx)), (7, (Pv b)), (8, (Pv cx)), (10, (Pv qx)), (12, (Pv nb)), (13, (Pv kb)), (14, (Pv pb)), (15, I6 ((i + tl : Nat) : Int)), (16, .slice (some ⟨g, 0, none⟩) ys.length cap), (74, .bool false)] 7 0 hS (.cons (hnbW.cell 0 rfl) .nil) fun a hS => ?_
     refine seg_end ?_
     refine hK1062 _ _ ?_
     refine cond_f hS rfl ?_
     refine wpIn_skip ?_
     refine hK1061 _ _ ?_
     refine sq fun K1063 hK1063 => ?_
     refine sq fun K1064 hK1064 => ?_
     refine region_gh2 (G := World) (wide_wide.inRound l2) [.q .p, .q (.ld (I6 ((i + tl : Nat) : Int))), .q (.as (.bool false)), .q .p, .q .p, .q .p, .q (.as (.bool false)), .q .p, .q .p, .q .p, .q .p, .q (.ld ((Pv c))), .q .p, .q .p, .q (.ld (q)), .q (.run (I6 ↑xs.length)), .q (.ld (I6 ((i + tl : Nat) : Int))), .q (.as (I6 (↑xs.length - ((i + tl : Nat) : Int)))), .q (.as (.bool false)), .q .p, .q .p, .q .p, .q (.ld ((Pv c))), .q .p, .q .p, .q (.ld (q)), .q (.ld (I6 ((i + tl : Nat) : Int))), .q (.ld (I6 ((i + tl : Nat) : Int))), .q .p, .q .p, .q (.as (I6 ((i + tl + ys.length : Nat) : Int))), .q (.run (rsub q (i + tl) (i + tl + ys.length) (capOf q))), .e, .q .p, .q .p] [0, 0, 0, 0, 0, 0, 0, 0, 0, 0, 0, 0, 0, 0, 0, 0, 0, 0, 0, 0, 0, 0, 0, 0, 0, 0, 0, 0, 0, 0, 0, 0, 0, 1, 1] [0, 0, 0, 0, 0, 0, 0, 0, 0, 0, 0, 0, 0, 0, 0, 0, 0, 0, 0, 0, 0, 0, 0, 0, 0, 0, 0, 0, 0, 0, 0, 0, 0, 1, 1] [0, 0, 3, 7, 15, 31, 63, 127, 255, 511, 1023, 511, 2559, 6655, 14847, 31231, 511, 129535, 262143, 524287, 1048575, 2097151, 2097151, 6291455, 14680063, 31457279, 2097151, 2097151, 2097151, 270532607, 941621247, 2145386495, 4294967295, 8589934591, 17179869183] [32] [(32, 0)] 1 (fun wc1065 => ([(4, (Pv fx)), (5, (Pv sx)), (6, (Pv rx)), (7, (Pv b)), (8, (Pv cx)), (10, (Pv qx)), (12, (Pv nb)), (13, (Pv kb)), (14, (Pv pb)), (15, I6 ((i + tl : Nat) : Int)), (16, .slice (some ⟨g, 0, none⟩) ys.length cap), (74, .bool false), (75, I6 ((i + tl : Nat) : Int)), (76, I6 ((i + tl : Nat) : Int)), (77, .bool false), (78, .bool false), (79, .slice (some ⟨g, 0, none⟩) ys.length cap), (80, I6 ↑ys.length), (81, .bool false), (82, .bool false), (83, .bool false), (84, .slice (some ⟨g, 0, none⟩) ys.length cap), (85, I6 ↑ys.length), (86, (Pv c)), (87, (Pv c)), (88, (Pv c)), (89, q), (90, I6 ↑xs.length), (91, I6 ((i + tl : Nat) : Int)), (92, I6 (↑xs.length - ((i + tl : Nat) : Int))), (93, .bool false), (94, .bool false), (95, .bool false), (96, .slice (some ⟨g, 0, none⟩) ys.length cap), (97, (Pv c)), (98, (Pv c)), (99, (Pv c)), (100, q), (101, I6 ((i + tl : Nat) : Int)), (102, I6 ((i + tl : Nat) : Int)), (103, .slice (some ⟨g, 0, none⟩) ys.length cap), (104, I6 ↑ys.length), (105, I6 ((i + tl + ys.length : Nat) : Int)), (106, (rsub q (i + tl) (i + tl + ys.length) (capOf q))), (107, .bool true), (108, .bool false), (109, .bool false)] : Fm)) (fun wc1065 => [W.drew, wc1065]) (W.drew) (fun e wc1065 => hAt [True, (Ext [] W.drew wc1065) ∧ True] e) (fun wc1065 w' => [(1, [w'.cell? ⟨kb, 0, none⟩ = some (I6 ((i + tl : Nat) : Int))]), (2, [Value.bool (((((i + tl : Nat) : Int) : Int) != ((i + tl : Nat) : Int))) = .bool false]), (6, [Value.bool (((↑ys.length : Int) == 0)) = .bool false]), (11, [w'.cell? ⟨cx, 0, none⟩ = some ((Pv c))]), (14, [w'.cell? ⟨c, 0, none⟩ = some (q)]), (15, [Ru Try.prog (vS (Builtin.len_ #[23] 3 #[q])) (I6 ↑xs.length) w']), (16, [w'.cell? ⟨kb, 0, none⟩ = some (I6 ((i + tl : Nat) : Int))]), (17, [Value.int .i64 (IntKind.i64.wrap (↑xs.length - ((i + tl : Nat) : Int))) = I6 (↑xs.length - ((i + tl : Nat) : Int))]), (18, [Value.bool (decide ((↑ys.length : Int) > ↑xs.length - ((i + tl : Nat) : Int))) = .bool false]), (22, [w'.cell? ⟨cx, 0, none⟩ = some ((Pv c))]), (25, [w'.cell? ⟨c, 0, none⟩ = some (q)]), (26, [w'.cell? ⟨kb, 0, none⟩ = some (I6 ((i + tl : Nat) : Int))]), (27, [w'.cell? ⟨kb, 0, none⟩ = some (I6 ((i + tl : Nat) : Int))]), (30, [Value.int .i64 (IntKind.i64.wrap (((i + tl : Nat) : Int) + ↑ys.length)) = I6 ((i + tl + ys.length : Nat) : Int)]), (31, [Ru Try.prog (vS (Instr.sliceAt 23 q (some (I6 ((i + tl : Nat) : Int))) (some (I6 ((i + tl + ys.length : Nat) : Int))) none)) (rsub q (i + tl) (i + tl + ys.length) (capOf q)) w'])]) W.drew [4, 5, 6, 7, 8, 10, 12, 13, 14, 15, 16, 74] [] hS (by kernel_rfl) (by kernel_rfl) (by kernel_rfl) (by kernel_rfl) (fun wc1065 _ => by kernel_rfl) (by kernel_rfl) (by kernel_rfl) (by kernel_rfl) trivial ?_ (by kernel_rfl) ?_ ?_
     ·rintro e wc1065 w' hw hH
      refine (.cons ?_ (.cons ?_ (.cons ?_ (.cons ?_ (.cons ?_ (.cons ?_ (.cons ?_ (.cons ?_ (.cons ?_ (.cons ?_ (.cons ?_ (.cons ?_ (.cons ?_ (.cons ?_ (.cons ?_ .nil)))))))))))))))
      ·intro h1 h2
       obtain rfl : e = 0 := Nat.le_antisymm h2 h1
       have hwe : W.drew = w' := (hw.trans (by kernel_rfl)).symm
       subst hwe
       clear hH
       exact (.cons ((hkbW.drew : Blk W.drew kb 3 (#[I6 ((i + tl : Nat) : Int)])).cell 0 rfl) .nil)
      ·intro h1 h2
       obtain rfl : e = 0 := Nat.le_antisymm h2 h1
       have hwe : W.drew = w' := (hw.trans (by kernel_rfl)).symm
       subst hwe
       clear hH
       exact (.cons (as_ne_f (rfl)) .nil)
      ·intro h1 h2
       obtain rfl : e = 0 := Nat.le_antisymm h2 h1
       have hwe : W.drew = w' := (hw.trans (by kernel_rfl)).symm
       subst hwe
       clear hH
       exact (.cons (as_eq_f (by omega)) .nil)
      ·intro h1 h2
       obtain rfl : e = 0 := Nat.le_antisymm h2 h1
       have hwe : W.drew = w' := (hw.trans (by kernel_rfl)).symm
       subst hwe
       clear hH
       exact (.cons (((hcx6.ext hE6W (by simp)).drew : Blk W.drew cx 52 (#[(Pv c)])).cell 0 rfl) .nil)
      ·intro h1 h2
       obtain rfl : e = 0 := Nat.le_antisymm h2 h1
       have hwe : W.drew = w' := (hw.trans (by kernel_rfl)).symm
       subst hwe
       clear hH
       exact (.cons (((hc6.ext hE6W (by simp)).drew : Blk W.drew c 56 (#[q])).cell 0 rfl) .nil)
      ·intro h1 h2
       obtain rfl : e = 0 := Nat.le_antisymm h2 h1
       have hwe : W.drew = w' := (hw.trans (by kernel_rfl)).symm
       subst hwe
       clear hH
       exact (.cons (run_len_rd (e := 5) hq5.2.1 (by kernel_rfl)) .nil)
      ·intro h1 h2
       obtain rfl : e = 0 := Nat.le_antisymm h2 h1
       have hwe : W.drew = w' := (hw.trans (by kernel_rfl)).symm
       subst hwe
       clear hH
       exact (.cons ((hkbW.drew : Blk W.drew kb 3 (#[I6 ((i + tl : Nat) : Int)])).cell 0 rfl) .nil)
      ·intro h1 h2
       obtain rfl : e = 0 := Nat.le_antisymm h2 h1
       have hwe : W.drew = w' := (hw.trans (by kernel_rfl)).symm
       subst hwe
       clear hH
       exact (.cons (as_i64 (by omega)) .nil)
      ·intro h1 h2
       obtain rfl : e = 0 := Nat.le_antisymm h2 h1
       have hwe : W.drew = w' := (hw.trans (by kernel_rfl)).symm
       subst hwe
       clear hH
       exact (.cons (as_f (by omega)) .nil)
      ·intro h1 h2
       obtain rfl : e = 0 := Nat.le_antisymm h2 h1
       have hwe : W.drew = w' := (hw.trans (by kernel_rfl)).symm
       subst hwe
       clear hH
       exact (.cons (((hcx6.ext hE6W (by simp)).drew : Blk W.drew cx 52 (#[(Pv c)])).cell 0 rfl) .nil)
      ·intro h1 h2
       obtain rfl : e = 0 := Nat.le_antisymm h2 h1
       have hwe : W.drew = w' := (hw.trans (by kernel_rfl)).symm
       subst hwe
       clear hH
       exact (.cons (((hc6.ext hE6W (by simp)).drew : Blk W.drew c 56 (#[q])).cell 0 rfl) .nil)
      ·intro h1 h2
       obtain rfl : e = 0 := Nat.le_antisymm h2 h1
       have hwe : W.drew = w' := (hw.trans (by kernel_rfl)).symm
       subst hwe
       clear hH
       exact (.cons ((hkbW.drew : Blk W.drew kb 3 (#[I6 ((i + tl : Nat) : Int)])).cell 0 rfl) .nil)
      ·intro h1 h2
       obtain rfl : e = 0 := Nat.le_antisymm h2 h1
       have hwe : W.drew = w' := (hw.trans (by kernel_rfl)).symm
       subst hwe
       clear hH
       exact (.cons ((hkbW.drew : Blk W.drew kb 3 (#[I6 ((i + tl : Nat) : Int)])).cell 0 rfl) .nil)
      ·intro h1 h2
       obtain rfl : e = 0 := Nat.le_antisymm h2 h1
       have hwe : W.drew = w' := (hw.trans (by kernel_rfl)).symm
       subst hwe
       clear hH
       exact (.cons ((by rw [show (((i + tl : Nat) : Int) + ↑ys.length : Int) = ((i + tl + ys.length : Nat) : Int) from by omega]; exact as_i64 (by omega))) .nil)
      ·intro h1 h2
       obtain rfl : e = 0 := Nat.le_antisymm h2 h1
       have hwe : W.drew = w' := (hw.trans (by kernel_rfl)).symm
       subst hwe
       clear hH
       exact (.cons (sl_rd (e := 5) (some (I6 ((i + tl : Nat) : Int))) (some (I6 ((i + tl + ys.length : Nat) : Int))) (l := (i + tl)) (k := (i + tl + ys.length)) hq5.2.1 (by kernel_rfl) (by kernel_rfl) (.inr ⟨_, rfl⟩) (.inr ⟨_, rfl⟩) (by omega) (by omega)) .nil)
     ·refine (.cons ?eq1066_32 .nil)
      ·rintro wc1065 hH
       clear hH
       refine eff_gh (W.drew) (by kernel_rfl) ?_
       refine upon_call (f := 31) (vs := [.slice (some ⟨g, 0, none⟩) ys.length cap, (rsub q (i + tl) (i + tl + ys.length) (capOf q))]) (cap := #[]) (d := (some 107)) (by kernel_rfl) Try.call31 #[.slice (some ⟨g, 0, none⟩) ys.length cap, (rsub q (i + tl) (i + tl + ys.length) (capOf q))] (by kernel_rfl) (SameB_cut (hrd0.ext0 ((Ext.refl [] _).drew)) ((RdV.subb hq5.2.1 (l := (i + tl)) (k := (i + tl + ys.length)) (m := (capOf q)) (by omega) (by omega) (by have := hq5.2.1.le_cap; omega)).ext0 (hE56.trans0 (hE6W.trans0 ((Ext.refl [] _).drew)))) hcut (by omega)) ?_
       rintro _ wc1065 ⟨rfl, hEc1065⟩
       exact ⟨_, rfl, ⟨wc1065, by kernel_rfl, by kernel_rfl, by kernel_rfl, ⟨hEc1065, trivial⟩⟩⟩
     rintro wc1065 a w1067 hS hw1068 hH
     obtain ⟨hEc1065, _⟩ := hH
     replace hw1068 : w1067 = wc1065 := hw1068.trans (by kernel_rfl)
     have hB1075 := Blk.at' hw1068 ((hnbW.drew : Blk W.drew nb 3 (#[I6 2])).ext hEc1065 (by simp))
     have hB1076 := Blk.at' hw1068 ((hkbW.drew : Blk W.drew kb 3 (#[I6 ((i + tl : Nat) : Int)])).ext hEc1065 (by simp))
     have hB1077 := Blk.at' hw1068 ((hpbW.drew : Blk W.drew pb 3 (#[I6 ↑pre.length])).ext hEc1065 (by simp))
     have hB1078 := OwnR.at' hw1068 ((hg.drew : OwnR W.drew 5 1 g cap ys.length (bv ys)).ext hEc1065 (by simp))
     have hE1079 : Ext [g, kb, pb] W w1067 := by rw [hw1068]; exact (hWW.drew).trans0 hEc1065
     have hG1081 : True := trivial
     replace hS := hS.kp [(4, (Pv fx)), (5, (Pv sx)), (6, (Pv rx)), (7, (Pv b)), (8, (Pv cx)), (10, (Pv qx)), (12, (Pv nb)), (13, (Pv kb)), (14, (Pv pb)), (15, I6 ((i + tl : Nat) : Int)), (16, .slice (some ⟨g, 0, none⟩) ys.length cap), (74, .bool false), (109, .bool false)]
     refine hK1064 _ _ ?_
     refine cond_f hS rfl ?_
     refine wpIn_skip ?_
     refine hK1063 _ _ ?_
     refine sq fun K1082 hK1082 => ?_
     refine rgn 5 ?_
     refine sg (wide_wide.inRound l2) [.ld (I6 ((i + tl : Nat) : Int)), .p, .p, .as (I6 ((i + tl + ys.length : Nat) : Int))] [w1067.cell? ⟨kb, 0, none⟩ = some (I6 ((i + tl : Nat) : Int)), Value.int .i64 (IntKind.i64.wrap (((i + tl : Nat) : Int) + ↑ys.length)) = I6 ((i + tl + ys.length : Nat) : Int)] [(4, (Pv fx)), (5, (Pv sx)), (6, (Pv rx)), (7, (Pv b)), (8, (Pv cx)), (10, (Pv qx)), (12, (Pv nb)), (13, (Pv kb)), (14, (Pv pb)), (15, I6 ((i + tl : Nat) : Int)), (16, .slice (some ⟨g, 0, none⟩) ys.length cap), (74, .bool false), (109, .bool false), (113, I6 ((i + tl + ys.length : Nat) : Int))] 4 1 hS (.cons (hB1076.cell 0 rfl) (.cons ((by rw [show (((i + tl : Nat) : Int) + ↑ys.length : Int) = ((i + tl + ys.length : Nat) : Int) from by omega]; exact as_i64 (by omega))) .nil)) fun a hS => ?_
     refine eff_store (wide_wide.inRound l2) (r := 0) (b := kb) (off := 0) (vs := [I6 ((i + tl + ys.length : Nat) : Int)]) hS (by kernel_rfl) hB1076 (by simp) fun a w1083 hw1084 hS => ?_
     have hB1091 := Blk.at' hw1084 (hB1075.updNe (Ne.symm hnbkb) _ _)
     have hB1092 : Blk w1083 kb 3 (#[I6 ((i + tl + ys.length : Nat) : Int)]) := by rw [hw1084]; exact hB1076.upd _ _
     have hB1093 := Blk.at' hw1084 (hB1077.updNe hkbpb _ _)
     have hB1094 := OwnR.at' hw1084 (hB1078.updNe ((OwnR.ne_type hB1078 hB1076 (by decide)).symm) _ _)
     have hG1096 : True := trivial
     have hE1097 : Ext [g, kb, pb] W w1083 := by rw [hw1084]; exact hE1079.updIn (.inl (by simp)) _ _
     refine seg_end ?_
     refine hK1082 _ _ ?_
     refine sq fun K1098 hK1098 => ?_
     refine rgn 3 ?_
     refine sg (wide_wide.inRound l2) [.ld (I6 ↑pre.length), .as (I6 ((pre.length + 1 : Nat) : Int))] [w1083.cell? ⟨pb, 0, none⟩ = some (I6 ↑pre.length), Value.int .i64 (IntKind.i64.wrap (↑pre.length + 1)) = I6 ((pre.length + 1 : Nat) : Int)] [(4, (Pv fx)), (5, (Pv sx)), (6, (Pv rx)), (7, (Pv b)), (8, (Pv cx)), (10, (Pv qx)), (12, (Pv nb)), (13, (Pv kb)), (14, (Pv pb)), (15, I6 ((i + tl : Nat) : Int)), (16, .slice (some ⟨g, 0, none⟩) ys.length cap), (74, .bool false), (109, .bool false), (115, I6 ((pre.length + 1 : Nat) : Int))] 2 1 hS (.cons (hB1093.cell 0 rfl) (.cons ((by rw [show (↑pre.length + 1 : Int) = ((pre.length + 1 : Nat) : Int) from by omega]; exact as_i64 (by omega))) .nil)) fun a hS => ?_
     refine eff_store (wide_wide.inRound l2) (r := 0) (b := pb) (off := 0) (vs := [I6 ((pre.length + 1 : Nat) : Int)]) hS (by kernel_rfl) hB1093 (by simp) fun a w1099 hw1100 hS => ?_
     have hB1107 := Blk.at' hw1100 (hB1091.updNe (Ne.symm hnbpb) _ _)
     have hB1108 := Blk.at' hw1100 (hB1092.updNe (Ne.symm hkbpb) _ _)
     have hB1109 : Blk w1099 pb 3 (#[I6 ((pre.length + 1 : Nat) : Int)]) := by rw [hw1100]; exact hB1093.upd _ _
     have hB1110 := OwnR.at' hw1100 (hB1094.updNe ((OwnR.ne_type hB1094 hB1093 (by decide)).symm) _ _)
     have hG1112 : True := trivial
     have hE1113 : Ext [g, kb, pb] W w1099 := by rw [hw1100]; exact hE1097.updIn (.inl (by simp)) _ _
     refine seg_end ?_
     refine hK1098 _ _ ?_
     refine sq fun K1114 hK1114 => ?_
     refine sq fun K1115 hK1115 => ?_
     refine rgn 1 ?_
     refine sg (wide_wide.inRound l2) [.p] [] [(4, (Pv fx)), (5, (Pv sx)), (6, (Pv rx)), (7, (Pv b)), (8, (Pv cx)), (10, (Pv qx)), (12, (Pv nb)), (13, (Pv kb)), (14, (Pv pb)), (15, I6 ((i + tl : Nat) : Int)), (16, .slice (some ⟨g, 0, none⟩) ys.length cap), (74, .bool false), (109, .bool false), (17, I6 0)] 1 0 hS .nil fun a hS => ?_
     refine seg_end ?_
     refine hK1115 _ _ ?_
     refine wpIn_block ?_
     refine loop_ghost (fun ((j, zs) : Nat × List Int) a' w' => St 210 [] [(4, (Pv fx)), (5, (Pv sx)), (6, (Pv rx)), (7, (Pv b)), (8, (Pv cx)), (10, (Pv qx)), (12, (Pv nb)), (13, (Pv kb)), (14, (Pv pb)), (16, .slice (some ⟨g, 0, none⟩) ys.length cap), (17, I6 ↑j)] a' ∧ j ≤ ys.length ∧ zs.length = ys.length ∧ OwnR w' 5 1 g cap ys.length (bv zs) ∧ Blk w' kb 3 #[I6 ((i + tl + ys.length : Nat) : Int)] ∧ Blk w' pb 3 #[I6 ((pre.length + 1 : Nat) : Int)] ∧ Blk w' nb 3 #[I6 2] ∧ Ext [g, kb, pb] W w') (fun ((j, zs) : Nat × List Int) => ys.length - j) (0, ys) ⟨hS.keepTo [4, 5, 6, 7, 8, 10, 12, 13, 14, 16, 17] (by kernel_rfl), Nat.zero_le _, rfl, hB1110, hB1108, hB1109, hB1107, hE1113⟩ ?_
     rintro ⟨j, zs⟩ a V ⟨hS, hjl, hzl, hgV, hkbV, hpbV, hnbV, hEV⟩
     have hE6V := hE6W.trans hEV hM6
     refine sq fun K1116 hK1116 => ?_
     refine sq fun K1117 hK1117 => ?_
     refine rgn 4 ?_
     refine sg (wide_wide.inRound l2) [.p, .p, .p, .p] [] [(4, (Pv fx)), (5, (Pv sx)), (6, (Pv rx)), (7, (Pv b)), (8, (Pv cx)), (10, (Pv qx)), (12, (Pv nb)), (13, (Pv kb)), (14, (Pv pb)), (16, .slice (some ⟨g, 0, none⟩) ys.length cap), (17, I6 ↑j), (119, .bool (decide ((↑j : Int) < ↑ys.length)))] 4 0 hS .nil fun a hS => ?_
     refine seg_end ?_
     refine hK1117 _ _ ?_
     refine cond_b hS rfl (fun hb1118 => ?_) (fun hb1118 => ?_)
     ·
      replace hb1118 := of_decide_eq_true hb1118
      obtain ⟨z, hz⟩ : ∃ z, zs[j]? = some z := ⟨_, List.getElem?_eq_getElem (by omega)⟩
      refine wpIn_skip ?_
      refine hK1116 _ _ ?_
      refine sq fun K1119 hK1119 => ?_
      refine wpIn_block ?_
      refine rgn 9 ?_
      refine sg (wide_wide.inRound l2) [.p, .p, .p, .p, .run ((Po g (0 + j * 1))), .ld (.int .u8 z), .run (.int .u8 (xo z)), .run ((Po g (0 + j * 1)))] [Ru Try.prog (vS (Instr.indexAt 23 (.slice (some ⟨g, 0, none⟩) ys.length cap) (I6 ↑j))) ((Po g (0 + j * 1))) V, V.cell? ⟨g, 0 + j * 1, none⟩ = some (.int .u8 z), Ru Try.prog (vS (do eqGuard .xor 5 (.tmp 127) (.const (.int .u8 255)) (.int .u8 z) (.int .u8 255); binOp .xor 5 (.int .u8 z) (.int .u8 255))) (.int .u8 (xo z)) V, Ru Try.prog (vS (Instr.indexAt 23 (.slice (some ⟨g, 0, none⟩) ys.length cap) (I6 ↑j))) ((Po g (0 + j * 1))) V] [(4, (Pv fx)), (5, (Pv sx)), (6, (Pv rx)), (7, (Pv b)), (8, (Pv cx)), (10, (Pv qx)), (12, (Pv nb)), (13, (Pv kb)), (14, (Pv pb)), (16, .slice (some ⟨g, 0, none⟩) ys.length cap), (17, I6 ↑j), (128, .int .u8 (xo z)), (129, (Po g (0 + j * 1)))] 8 1 hS (.cons (ix_slice (E := 5) (size := 1) (j := j) (by kernel_rfl) (by kernel_rfl) rfl (by omega)) (.cons (hgV.cellAt _ (by rw [Nat.zero_add, Nat.mul_one]; exact bv_at hz)) (.cons (bin_xo) (.cons (ix_slice (E := 5) (size := 1) (j := j) (by kernel_rfl) (by kernel_rfl) rfl (by omega)) .nil)))) fun a hS => ?_
      refine eff_store_own (wide_wide.inRound l2) (r := 0) (b := g) (off := 0 + j * 1) (u := Value.int .u8 (xo z)) (xs := (bv zs)) hS (by kernel_rfl) hgV (by omega) fun a ws1120 hOs1120 hEs1120 hsz1120 hS => ?_
      have hB1127 := hnbV.ext hEs1120 (by simpa using (OwnR.ne_type hgV hnbV (by decide)).symm)
      have hB1128 := hkbV.ext hEs1120 (by simpa using (OwnR.ne_type hgV hkbV (by decide)).symm)
      have hB1129 := hpbV.ext hEs1120 (by simpa using (OwnR.ne_type hgV hpbV (by decide)).symm)
      have hE1130 : Ext [g, kb, pb] W ws1120 := hEV.trans hEs1120 (fun b hb => by simp at hb; subst hb; exact .inl (by simp))
      have hG1131 : True := trivial
      refine seg_end ?_
      refine inBlock_normal ?_
      refine hK1119 _ _ ?_
      refine rgn 3 ?_
      refine sg (wide_wide.inRound l2) [.p, .as (I6 (↑j + 1)), .p] [Value.int .i64 (IntKind.i64.wrap (↑j + 1)) = I6 (↑j + 1)] [(4, (Pv fx)), (5, (Pv sx)), (6, (Pv rx)), (7, (Pv b)), (8, (Pv cx)), (10, (Pv qx)), (12, (Pv nb)), (13, (Pv kb)), (14, (Pv pb)), (16, .slice (some ⟨g, 0, none⟩) ys.length cap), (17, I6 (↑j + 1))] 3 0 hS (.cons (as_i64 (by omega)) .nil) fun a hS => ?_
      refine seg_end ?_
      exact ⟨(j + 1, zs.set j (xo z)), ⟨hS.kp [(4, (Pv fx)), (5, (Pv sx)), (6, (Pv rx)), (7, (Pv b)), (8, (Pv cx)), (10, (Pv qx)), (12, (Pv nb)), (13, (Pv kb)), (14, (Pv pb)), (16, .slice (some ⟨g, 0, none⟩) ys.length cap), (17, I6 (↑j + 1))], by omega, by simpa using hzl, (by have h := hOs1120; rw [Nat.zero_add, Nat.mul_one, bv_set] at h; exact h), hB1128, hB1129, hB1127, hE1130⟩, by simp only; omega⟩
     ·
      replace hb1118 := of_decide_eq_false hb1118
      refine wpIn_exit ?_
      refine then_exit ?_
      refine then_exit ?_
      refine inBlock_hit ?_
      refine hK1114 _ _ ?_
      refine sq fun K1132 hK1132 => ?_
      refine rgn 6 ?_
      refine sg (wide_wide.inRound l2) [.ld (I6 2), .p, .p, .no, .no, .p] [V.cell? ⟨nb, 0, none⟩ = some (I6 2)] [(4, (Pv fx)), (5, (Pv sx)), (6, (Pv rx)), (7, (Pv b)), (8, (Pv cx)), (10, (Pv qx)), (12, (Pv nb)), (13, (Pv kb)), (14, (Pv pb)), (16, .slice (some ⟨g, 0, none⟩) ys.length cap), (17, I6 ↑j), (135, .bool false)] 6 0 hS (.cons (hnbV.cell 0 rfl) .nil) fun a hS => ?_
      refine seg_end ?_
      refine hK1132 _ _ ?_
      refine cond_f hS rfl ?_
      refine wpIn_skip ?_
      refine inBlock_normal ?_
      refine left_normal (C' := [kb, pb]) (hEV.mono (fun b hb => by simp [ckB, ob] at hb ⊢; simp [hb])) (fun b hb => .inl (List.mem_append_right _ hb)) (hlieW.ext hEV) ⟨rfl, ?_, ?_, ?_⟩
      ·rw [hsn, ← Nat.add_assoc]; exact hkbV
      ·rw [List.length_append]; exact hpbV
      ·rw [hsn, List.length_append, List.length_singleton]; omega
    ·rintro Cx w10 a hE910 hfr10 hlie10 hD10 ⟨all, hall, rfl, hkb10, hpb10, _⟩ hS
     have hall2 : told (all.map (·.1)) = xs.drop i := hall
     rw [hall2, List.length_drop, Nat.add_sub_cancel' hi] at hkb10
     have hEl10 : Ext [] w260 w10 := hE9.trans hE910 (fun b hb => by rcases (by simpa using hb : b = kb ∨ b = pb) with rfl | rfl <;> first | exact .inr hlkb | exact .inr hlpb)
     obtain ⟨D0, hD0e⟩ : ∃ D, D = w1043.heap.size := ⟨_, rfl⟩
     rw [← hD0e] at hD10 hS
     have hD0n : w260.heap.size ≤ D0 := by rw [hD0e]; exact hl9
     have hnb10 := hnb9.ext hE910 (by simp [hnbkb, hnbpb])
     have hDs10 : ∀ D ∈ D0 :: Ds, Dfr w10 D := fun D hD => by
      rcases List.mem_cons.1 hD with rfl | hD
      ·exact hD10
      ·exact (hD9 D hD).ext hE910 (by simp [(hD9 D hD).ne_blk hkb9, (hD9 D hD).ne_blk hpb9])
     have hnd2 : (D0 :: Ds).Nodup := List.nodup_cons.2 ⟨fun h => by have := (hD9 D0 h).lt; omega, hnd⟩
     have hDn2 : ∀ D ∈ D0 :: Ds, w260.heap.size ≤ D := fun D hD => by
      rcases List.mem_cons.1 hD with rfl | hD
      ·exact hD0n
      ·exact hDn D hD
     replace hS : St 210 ((D0 :: Ds).map dmark) [(4, (Pv fx)), (5, (Pv sx)), (6, (Pv rx)), (7, (Pv b)), (8, (Pv cx)), (10, (Pv qx)), (12, (Pv nb)), (13, (Pv kb)), (14, (Pv pb))] a := hS.keepTo [4, 5, 6, 7, 8, 10, 12, 13, 14] (by kernel_rfl)
     refine inBlock_normal ?_
     refine hK1058 _ _ ?_
     refine sq fun K1133 hK1133 => ?_
     refine region_fn2 wide_wide [.q (.ld (I6 ↑xs.length)), .q (.ld ((Pv c))), .q .p, .q .p, .q (.ld (q)), .q (.run (I6 ↑xs.length)), .q (.as (.bool false)), .q .p, .q .no, .q .no, .q .no, .q .no, .q .no, .q .no, .q .no, .q .p] [0, 0, 0, 0, 0, 0, 0, 0, 0, 0, 0, 0, 0, 0, 0, 0] [0, 0, 0, 0, 0, 0, 0, 0, 0, 0, 0, 0, 0, 0, 0, 0] [0, 0, 2, 6, 14, 30, 63, 127, 255, 511, 1023, 2047, 2047, 8191, 16383, 32767] [] 0 ([(4, (Pv fx)), (5, (Pv sx)), (6, (Pv rx)), (7, (Pv b)), (8, (Pv cx)), (10, (Pv qx)), (12, (Pv nb)), (13, (Pv kb)), (14, (Pv pb)), (186, I6 ↑xs.length), (187, (Pv c)), (188, (Pv c)), (189, (Pv c)), (190, q), (191, I6 ↑xs.length), (192, .bool false), (193, .bool false), (194, undef), (195, undef), (196, undef), (197, undef), (198, undef), (199, undef), (200, undef), (201, .bool false)]) [w10.drew] w10.drew (fun w' => [(0, [w'.cell? ⟨kb, 0, none⟩ = some (I6 ↑xs.length)]), (1, [w'.cell? ⟨cx, 0, none⟩ = some ((Pv c))]), (4, [w'.cell? ⟨c, 0, none⟩ = some (q)]), (5, [Ru Try.prog (vS (Builtin.len_ #[23] 3 #[q])) (I6 ↑xs.length) w']), (6, [Value.bool (((↑xs.length : Int) != ↑xs.length)) = .bool false])]) [4, 5, 6, 7, 8, 10, 12, 13, 14] [] hS (by kernel_rfl) (by kernel_rfl) (by kernel_rfl) (by kernel_rfl) (fun _ => by kernel_rfl) (by kernel_rfl) (by kernel_rfl) (by kernel_rfl) ?_ ?_ ?_
     ·intro e w' hw
      refine (.cons ?_ (.cons ?_ (.cons ?_ (.cons ?_ (.cons ?_ .nil)))))
      ·intro h1 h2
       obtain rfl : e = 0 := Nat.le_antisymm h2 h1
       obtain rfl : w' = w10.drew := hw.trans (by kernel_rfl)
       exact (.cons ((hkb10.drew : Blk w10.drew kb 3 (#[I6 ↑xs.length])).cell 0 rfl) .nil)
      ·intro h1 h2
       obtain rfl : e = 0 := Nat.le_antisymm h2 h1
       obtain rfl : w' = w10.drew := hw.trans (by kernel_rfl)
       exact (.cons (((hcx6.ext hEl10 (by simp)).drew : Blk w10.drew cx 52 (#[(Pv c)])).cell 0 rfl) .nil)
      ·intro h1 h2
       obtain rfl : e = 0 := Nat.le_antisymm h2 h1
       obtain rfl : w' = w10.drew := hw.trans (by kernel_rfl)
       exact (.cons (((hc6.ext hEl10 (by simp)).drew : Blk w10.drew c 56 (#[q])).cell 0 rfl) .nil)
      ·exact fun _ _ => (.cons (run_len_rd (e := 5) hq5.2.1 (by kernel_rfl)) .nil)
      ·exact fun _ _ => (.cons (as_ne_f (rfl)) .nil)
     ·refine .nil
     rintro a w1135 hS hw1136
     replace hw1136 : w1135 = w10.drew := hw1136.trans (by kernel_rfl)
     have hB1137 := Blk.at' hw1136 ((hfx6.ext hEl10 (by simp)).drew)
     have hB1138 := Blk.at' hw1136 ((hsx6.ext hEl10 (by simp)).drew)
     have hB1143 := Blk.at' hw1136 (hnb10.drew)
     have hE1146 : Ext [] w260 w1135 := by rw [hw1136]; exact hEl10.drew
     have hX1147 : Ext [] w10 w1135 := by rw [hw1136]; exact (Ext.refl _ _).drew
     have hG1148 : True := trivial
     have hG1149 : ∀ D ∈ D0 :: Ds, Dfr w1135 D := fun D hD => (hDs10 D hD).ext hX1147 (by simp)
     replace hS := hS.kp [(4, (Pv fx)), (5, (Pv sx)), (6, (Pv rx)), (7, (Pv b)), (8, (Pv cx)), (10, (Pv qx)), (12, (Pv nb)), (13, (Pv kb)), (14, (Pv pb)), (201, .bool false)]
     refine hK1133 _ _ ?_
     refine cond_f hS rfl ?_
     refine wpIn_skip ?_
     refine inBlock_normal ?_
     refine hK276 _ _ ?_
     refine sq fun K1150 hK1150 => ?_
     refine sq fun K1151 hK1151 => ?_
     refine rgn 1 ?_
     refine sg wide_wide [.ld (I6 2)] [w1135.cell? ⟨nb, 0, none⟩ = some (I6 2)] [(4, (Pv fx)), (5, (Pv sx)), (6, (Pv rx)), (7, (Pv b)), (8, (Pv cx)), (10, (Pv qx)), (12, (Pv nb)), (13, (Pv kb)), (14, (Pv pb)), (201, .bool false), (202, I6 2)] 1 0 hS (.cons (hB1143.cell 0 rfl) .nil) fun a hS => ?_
     refine seg_end ?_
     refine hK1151 _ _ ?_
     refine rgn 2 ?_
     refine eff_box wide_wide (r := 1) (cs := #[I6 0]) (T := 3) (d := (some 12)) hS (by kernel_rfl) fun a w1152 hw1153 hS => ?_
     have hn1154 : fx ≠ w1135.heap.size := Nat.ne_of_lt hB1137.lt
     have hn1155 : sx ≠ w1135.heap.size := Nat.ne_of_lt hB1138.lt
     have hX1172 : Ext [] w1135 w1152 := by rw [hw1153]; exact (Ext.refl _ _).alloc _
     have hG1173 : True := trivial
     have hG1174 : ∀ D ∈ D0 :: Ds, Dfr w1152 D := fun D hD => (hG1149 D hD).ext hX1172 (by simp)
     have hB1175 : Blk w1152 (w1135.heap.size) 3 #[I6 0] := by rw [hw1153]; exact Blk.new _ _ _
     have hs1176 : w260.heap.size ≤ w1135.heap.size := hE1146.size
     have hE1177 : Ext [] w260 w1152 := by rw [hw1153]; exact hE1146.alloc _
     refine eff_store wide_wide (r := 0) (b := w1135.heap.size) (off := 0) (vs := [I6 2]) hS (by kernel_rfl) hB1175 (by simp) fun a w1178 hw1179 hS => ?_
     have hB1189 : Blk w1178 w1135.heap.size 3 (#[I6 2]) := by rw [hw1179]; exact hB1175.upd _ _
     have hX1190 : Ext [w1135.heap.size] w1152 w1178 := by rw [hw1179]; exact (Ext.refl _ _).updIn (.inl (by simp)) _ _
     have hG1191 : True := trivial
     have hG1192 : ∀ D ∈ D0 :: Ds, Dfr w1178 D := fun D hD => (hG1174 D hD).ext hX1190 (by simpa using (hG1174 D hD).ne_blk hB1175)
     have hE1193 : Ext [] w260 w1178 := by rw [hw1179]; exact hE1177.updIn (.inr hs1176) _ _
     refine seg_end ?_
     refine hK1150 _ _ ?_
     refine rgn 3 ?_
     refine sg wide_wide [.ld (I6 2), .p] [w1178.cell? ⟨w1135.heap.size, 0, none⟩ = some (I6 2)] [(4, (Pv fx)), (5, (Pv sx)), (6, (Pv rx)), (7, (Pv b)), (8, (Pv cx)), (10, (Pv qx)), (12, (Pv w1135.heap.size)), (13, (Pv kb)), (14, (Pv pb)), (201, .bool false), (202, I6 2), (63, I6 3)] 2 1 hS (.cons (hB1189.cell 0 rfl) .nil) fun a hS => ?_
     refine eff_store wide_wide (r := 0) (b := w1135.heap.size) (off := 0) (vs := [I6 3]) hS (by kernel_rfl) hB1189 (by simp) fun a w1194 hw1195 hS => ?_
     have hB1205 : Blk w1194 w1135.heap.size 3 (#[I6 3]) := by rw [hw1195]; exact hB1189.upd _ _
     have hX1206 : Ext [w1135.heap.size] w1178 w1194 := by rw [hw1195]; exact (Ext.refl _ _).updIn (.inl (by simp)) _ _
     have hG1207 : True := trivial
     have hG1208 : ∀ D ∈ D0 :: Ds, Dfr w1194 D := fun D hD => (hG1192 D hD).ext hX1206 (by simpa using (hG1192 D hD).ne_blk hB1189)
     have hE1209 : Ext [] w260 w1194 := by rw [hw1195]; exact hE1193.updIn (.inr hs1176) _ _
     refine seg_end ?_
     exact ⟨(3, w1135.heap.size, D0 :: Ds), ⟨hS.keepTo [4, 5, 6, 7, 8, 10, 12] (by kernel_rfl), by omega, hE1209, hB1205, ⟨hn1154, hn1155⟩, hG1208, hnd2, hDn2⟩, by simp⟩
    ·intro c pre Cx W a _ _ _ _ h; exact h.elim
  ·
   replace hb275 := of_decide_eq_false hb275
   have hEw1 : Ext [] w w1 := hEw6.trans0 hEl
   refine wpIn_exit ?_
   refine then_exit ?_
   refine then_exit ?_
   refine inBlock_hit ?_
   refine hK238 _ _ ?_
   refine sq fun K1210 hK1210 => ?_
   refine region_gh2 (G := Value × World × World) wide_wide [.q .p, .e, .q (.ld ((Pv c))), .q .p, .q .p, .q (.ld (q)), .e, .e] [0, 0, 0, 0, 0, 0, 1, 2] [0, 0, 1, 1, 1, 1, 1, 2] [0, 1, 0, 4, 12, 28, 63, 127] [1, 6, 7] [(1, 0), (6, 1), (7, 2)] 3 (fun ⟨q1211, wc1211, wc1212⟩ => ([(4, (Pv fx)), (5, (Pv sx)), (6, (Pv rx)), (7, (Pv b)), (8, (Pv cx)), (10, (Pv qx)), (12, (Pv nb)), (203, (Pv b)), (204, q1211), (205, (Pv c)), (206, (Pv c)), (207, (Pv c)), (208, q), (209, .bool true)] : Fm)) (fun ⟨q1211, wc1211, wc1212⟩ => [w1.drew, wc1211, wc1212, upd (wc1212) (rx) 4 #[.bool true]]) (w1.drew) (fun e ⟨q1211, wc1211, wc1212⟩ => hAt [True, (RdV wc1211 1 q1211 xs.length (bv xs)) ∧ (Ext [] w1.drew wc1211) ∧ True, (RdV wc1211 1 q1211 xs.length (bv xs)) ∧ (Ext [] w1.drew wc1211) ∧ (Ext [] wc1211 wc1212) ∧ True, (RdV wc1211 1 q1211 xs.length (bv xs)) ∧ (Ext [] w1.drew wc1211) ∧ (Ext [] wc1211 wc1212) ∧ True] e) (fun ⟨q1211, wc1211, wc1212⟩ w' => [(2, [w'.cell? ⟨cx, 0, none⟩ = some ((Pv c))]), (5, [w'.cell? ⟨c, 0, none⟩ = some (q)])]) (undef, w1.drew, w) [4, 5, 6, 7, 8, 10, 12] [] hS (by kernel_rfl) (by kernel_rfl) (by kernel_rfl) (by kernel_rfl) (fun ⟨q1211, wc1211, wc1212⟩ _ => by kernel_rfl) (by kernel_rfl) (by kernel_rfl) (by kernel_rfl) trivial ?_ (by kernel_rfl) ?_ ?_
   ·rintro e ⟨q1211, wc1211, wc1212⟩ w' hw hH
    refine (.cons ?_ (.cons ?_ .nil))
    ·intro h1 h2
     replace h1 : 0 ≤ e := h1
     replace h2 : e ≤ 1 := h2
     have he : e = 0 ∨ e = 1 := by omega
     rcases he with rfl | rfl
     ·have hwe : w1.drew = w' := (hw.trans (by kernel_rfl)).symm
      subst hwe
      clear hH
      exact (.cons (((hcx6.ext hEl (by simp)).drew : Blk w1.drew cx 52 (#[(Pv c)])).cell 0 rfl) .nil)
     ·have hwe : wc1211 = w' := (hw.trans (by kernel_rfl)).symm
      subst hwe
      obtain ⟨hO1211, hEc1211, _⟩ := hH
      exact (.cons ((((hcx6.ext hEl (by simp)).drew : Blk w1.drew cx 52 (#[(Pv c)])).ext hEc1211 (by simp) : Blk wc1211 cx 52 (#[(Pv c)])).cell 0 rfl) .nil)
    ·intro h1 h2
     replace h1 : 0 ≤ e := h1
     replace h2 : e ≤ 1 := h2
     have he : e = 0 ∨ e = 1 := by omega
     rcases he with rfl | rfl
     ·have hwe : w1.drew = w' := (hw.trans (by kernel_rfl)).symm
      subst hwe
      clear hH
      exact (.cons (((hc6.ext hEl (by simp)).drew : Blk w1.drew c 56 (#[q])).cell 0 rfl) .nil)
     ·have hwe : wc1211 = w' := (hw.trans (by kernel_rfl)).symm
      subst hwe
      obtain ⟨hO1211, hEc1211, _⟩ := hH
      exact (.cons ((((hc6.ext hEl (by simp)).drew : Blk w1.drew c 56 (#[q])).ext hEc1211 (by simp) : Blk wc1211 c 56 (#[q])).cell 0 rfl) .nil)
   ·refine (.cons ?eq1213_1 (.cons ?eq1213_6 (.cons ?eq1213_7 .nil)))
    ·rintro ⟨q1211, wc1211, wc1212⟩ hH
     clear hH
     refine eff_gh (w1.drew) (by kernel_rfl) ?_
     refine upon_call (f := 32) (vs := [(Pv b)]) (cap := #[]) (d := (some 204)) (by kernel_rfl) Try.call32 #[(Pv b)] (by kernel_rfl) (Bytes_Z (hb5.ext0 (hE56.trans0 (hEl.trans0 ((Ext.refl [] _).drew))))) ?_
     rintro _ wc1211 ⟨q1211, rfl, hO1211, hEc1211⟩
     exact ⟨_, rfl, ⟨(q1211, wc1211, wc1212), by kernel_rfl, by kernel_rfl, by kernel_rfl, ⟨hO1211, hEc1211, trivial⟩⟩⟩
    ·rintro ⟨q1211, wc1211, wc1212⟩ hH
     obtain ⟨hO1211, hEc1211, _⟩ := hH
     refine eff_gh (wc1211) (by kernel_rfl) ?_
     refine upon_call (f := 31) (vs := [q1211, q]) (cap := #[]) (d := (some 209)) (by kernel_rfl) Try.call31 #[q1211, q] (by kernel_rfl) (SameB_true (F := F) hO1211 (hq5.2.1.ext0 (hE56.trans0 (hEl.trans0 ((((Ext.refl [] _).drew)).trans0 hEc1211)))) (by omega)) ?_
     rintro _ wc1212 ⟨rfl, hEc1212⟩
     exact ⟨_, rfl, ⟨(q1211, wc1211, wc1212), by kernel_rfl, by kernel_rfl, by kernel_rfl, ⟨hO1211, hEc1211, hEc1212, trivial⟩⟩⟩
    ·rintro ⟨q1211, wc1211, wc1212⟩ hH
     obtain ⟨hO1211, hEc1211, hEc1212, _⟩ := hH
     refine eff_gh (wc1212) (by kernel_rfl) ?_
     exact upon_store (b := rx) (off := 0) (vs := [.bool true]) (by kernel_rfl) ((((hrx6.ext hEl (by simp)).drew : Blk w1.drew rx 4 (#[.bool false])).ext hEc1211 (by simp) : Blk wc1211 rx 4 (#[.bool false])).ext hEc1212 (by simp) : Blk wc1212 rx 4 (#[.bool false])) (by simp) ⟨(q1211, wc1211, wc1212), by kernel_rfl, by kernel_rfl, by kernel_rfl, ⟨hO1211, hEc1211, hEc1212, trivial⟩⟩
   rintro ⟨q1211, wc1211, wc1212⟩ a w1214 hS hw1215 hH
   obtain ⟨hO1211, hEc1211, hEc1212, _⟩ := hH
   replace hw1215 : w1214 = upd (wc1212) (rx) 4 #[.bool true] := hw1215.trans (by kernel_rfl)
   have hB1218 : Blk w1214 rx 4 (#[.bool true]) := by rw [hw1215]; exact ((((hrx6.ext hEl (by simp)).drew : Blk w1.drew rx 4 (#[.bool false])).ext hEc1211 (by simp) : Blk wc1211 rx 4 (#[.bool false])).ext hEc1212 (by simp)).upd _ _
   have hE1223 : Ext [] w w1214 := by rw [hw1215]; exact (((hEw1.drew).trans0 hEc1211).trans0 hEc1212).updIn (.inr hnrx) _ _
   have hX1224 : Ext [rx] w1 w1214 := by rw [hw1215]; exact ((((Ext.refl _ _).drew).trans0 hEc1211).trans0 hEc1212).updIn (.inl (by simp)) _ _
   have hG1225 : True := trivial
   have hG1226 : ∀ D ∈ Ds, Dfr w1214 D := fun D hD => (hDs D hD).ext hX1224 (by first | (simp; done) | simpa using (hDs D hD).ne_blk (hrx6.ext hEl (by simp)))
   replace hS := hS.kp [(4, (Pv fx)), (5, (Pv sx)), (6, (Pv rx)), (7, (Pv b)), (8, (Pv cx)), (10, (Pv qx)), (12, (Pv nb))]
   refine hK1210 _ _ ?_
   refine wpIn_ret ?_
   refine retMc Ds (T' := 4) hS Try.results8 (by kernel_rfl) rfl hB1218 hG1226 hnd fun w99 hE99 => ?_
   exact ⟨rfl, (hE1223).trans hE99 (fun D hD => .inr (Nat.le_trans hEw6.size (hDn D hD)))⟩

end Go.Proofs.Ytkdbfjomjlhfbaa
