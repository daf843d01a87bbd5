import Derived.Test.YtkdbfjomjlhfbaaProg
import Derived.Test.YtkdbfjomjlhfbaaR9
namespace Go.Proofs.Ytkdbfjomjlhfbaa
open Go.Vc
set_option linter.unusedSectionVars false
variable [Inhabited Zt]

def WayR (F : Nat → Prop) (p : Prop) (w : World) (xs : List Int) (e : Ending) (w' : World) : Prop := ∃ wb pv lv ys st, e = .returned (Pv wb) ∧ Wy F w.heap.size w' wb pv lv ys st ∧ ys ++ rst st = xs ∧ ys.length + (rst st).length ≤ 100000000 ∧ Ext [] w w' ∧ (p → ys ≠ [])
theorem BlkSize {w w' : World} {M : List Nat} (h : Ext M w w') : w.heap.size ≤ w'.heap.size := h.size

theorem way_none {b i : Nat} {w : World} (hb : Blk w b 84 #[.pointer none]) :
  Calls Try.prog 52 #[(Pv b), I6 ↑i] w fun e w' => WayR (fun _ => False) False w [] e w' := by
 refine calls_body 21 [(0, (Pv b)), (1, I6 ↑i)] Try.func52 rfl (by kernel_rfl) (by kernel_rfl) (by kernel_rfl) fun a hS => ?_
 have hE0 : Ext [] w w := Ext.refl _ _
 refine sq fun K1 hK1 => ?_
 refine rgn 1 ?_
 refine sg wide_wide [.p] [] [(0, (Pv b)), (1, I6 ↑i), (4, .pointer none)] 1 0 hS .nil fun a hS => ?_
 refine seg_end ?_
 refine hK1 _ _ ?_
 refine sq fun K2 hK2 => ?_
 refine rgn 3 ?_
 refine sg wide_wide [.p] [] [(0, (Pv b)), (1, I6 ↑i), (4, .pointer none), (6, .agg #[.slice none 0 0, .slice none 0 0])] 1 2 hS .nil fun a hS => ?_
 refine eff_box wide_wide (r := 1) (cs := #[.slice none 0 0, .slice none 0 0]) (T := 105) (d := (some 7)) hS (by kernel_rfl) fun a w3 hw4 hS => ?_
 have hB6 := Blk.at' hw4 (hb.alloc _)
 have hB7 : Blk w3 (w.heap.size) 105 #[.slice none 0 0, .slice none 0 0] := by rw [hw4]; exact Blk.new _ _ _
 have hs8 : w.heap.size ≤ w.heap.size := hE0.size
 have hE9 : Ext [] w w3 := by rw [hw4]; exact hE0.alloc _
 refine sg wide_wide [.p] [] [(0, (Pv b)), (1, I6 ↑i), (4, .pointer none), (5, (Pv w.heap.size))] 3 0 hS .nil fun a hS => ?_
 refine seg_end ?_
 refine hK2 _ _ ?_
 refine sq fun K10 hK10 => ?_
 refine sq fun K11 hK11 => ?_
 refine rgn 5 ?_
 refine sg wide_wide [.p, .p, .p, .ld (.pointer none), .p] [w3.cell? ⟨b, 0, none⟩ = some (.pointer none)] [(0, (Pv b)), (1, I6 ↑i), (4, .pointer none), (5, (Pv w.heap.size)), (12, .bool false)] 5 0 hS (.cons (hB6.cell 0 rfl) .nil) fun a hS => ?_
 refine seg_end ?_
 refine hK11 _ _ ?_
 refine cond_f hS rfl ?_
 refine wpIn_skip ?_
 refine hK10 _ _ ?_
 refine sq fun K12 hK12 => ?_
 refine rgn 2 ?_
 refine sg wide_wide [.p, .p] [] [(0, (Pv b)), (1, I6 ↑i), (4, (Pv w.heap.size)), (5, (Pv w.heap.size)), (12, .bool false)] 2 0 hS .nil fun a hS => ?_
 refine seg_end ?_
 refine hK12 _ _ ?_
 refine wpIn_ret ?_
 refine ret1 hS Try.results52 rfl ?_
 exact ⟨w.heap.size, _, _, [], [], rfl, ⟨hB7, .inl ⟨_, _, rfl, rfl, rfl⟩, OwnV.nil _ _ _, (fun _ h => by cases h), BR.nil, (fun _ h => by cases h), (fun _ h => by simp [ob] at h), hs8, (fun _ h => by simp [ob] at h), (fun _ h => h.elim)⟩, rfl, by simp [rst], hE9, fun h => h.elim⟩

theorem way_some {b i : Nat} {t : Nd} {w : World} (hb : Blk w b 84 #[Pv t.b]) (ht : t.Ok w) (hi : i ≤ t.n) (hn : t.n ≤ 16777216) :
  Calls Try.prog 52 #[(Pv b), I6 ↑i] w fun e w' => WayR t.Foot (i < t.n) w (t.bs.drop i) e w' := by
 refine calls_body 21 [(0, (Pv b)), (1, I6 ↑i)] Try.func52 rfl (by kernel_rfl) (by kernel_rfl) (by kernel_rfl) fun a hS => ?_
 have hE0 : Ext [] w w := Ext.refl _ _
 refine sq fun K1 hK1 => ?_
 refine rgn 1 ?_
 refine sg wide_wide [.p] [] [(0, (Pv b)), (1, I6 ↑i), (4, .pointer none)] 1 0 hS .nil fun a hS => ?_
 refine seg_end ?_
 refine hK1 _ _ ?_
 refine sq fun K2 hK2 => ?_
 refine rgn 3 ?_
 refine sg wide_wide [.p] [] [(0, (Pv b)), (1, I6 ↑i), (4, .pointer none), (6, .agg #[.slice none 0 0, .slice none 0 0])] 1 2 hS .nil fun a hS => ?_
 refine eff_box wide_wide (r := 1) (cs := #[.slice none 0 0, .slice none 0 0]) (T := 105) (d := (some 7)) hS (by kernel_rfl) fun a w3 hw4 hS => ?_
 have hB7 := Blk.at' hw4 (hb.alloc _)
 have hX9 : Ext [] w w3 := by rw [hw4]; exact (Ext.refl _ _).alloc _
 have hG10 : t.Ok w3 := ht.ext0 hX9
 have hB11 : Blk w3 (w.heap.size) 105 #[.slice none 0 0, .slice none 0 0] := by rw [hw4]; exact Blk.new _ _ _
 have hs12 : w.heap.size ≤ w.heap.size := hE0.size
 have hE13 : Ext [] w w3 := by rw [hw4]; exact hE0.alloc _
 refine sg wide_wide [.p] [] [(0, (Pv b)), (1, I6 ↑i), (4, .pointer none), (5, (Pv w.heap.size))] 3 0 hS .nil fun a hS => ?_
 refine seg_end ?_
 refine hK2 _ _ ?_
 refine sq fun K14 hK14 => ?_
 refine sq fun K15 hK15 => ?_
 refine rgn 5 ?_
 refine sg wide_wide [.p, .p, .p, .ld ((Pv t.b)), .p] [w3.cell? ⟨b, 0, none⟩ = some ((Pv t.b))] [(0, (Pv b)), (1, I6 ↑i), (4, .pointer none), (5, (Pv w.heap.size)), (12, .bool true)] 5 0 hS (.cons (hB7.cell 0 rfl) .nil) fun a hS => ?_
 refine seg_end ?_
 refine hK15 _ _ ?_
 refine cond_t hS rfl ?_
 refine rgn 7 ?_
 refine sg wide_wide [.p, .p, .p, .p, .ld ((Pv t.b)), .p] [w3.cell? ⟨b, 0, none⟩ = some ((Pv t.b))] [(0, (Pv b)), (1, I6 ↑i), (4, .pointer none), (5, (Pv w.heap.size)), (12, .bool true), (13, (Pv w.heap.size)), (17, (Pv t.b)), (18, I6 ↑i)] 6 1 hS (.cons (hB7.cell 0 rfl) .nil) fun a hS => ?_
 refine eff_call wide_wide (r := 0) (f := 66) (vs := [(Pv w.heap.size), (Pv t.b), I6 ↑i]) (cap := #[]) (d := (some 19)) hS (by kernel_rfl) Try.call66 #[(Pv w.heap.size), (Pv t.b), I6 ↑i] (by kernel_rfl) (down_any (F := t.Foot) (p := i < t.n) (N := w.heap.size) (lv0 := .slice none 0 0) (pv0 := .slice none 0 0) (G := t.bs.drop i) (st0 := []) (Dn.mk hG10 (fun x hx => hx) hi hB11 (OwnV.nil _ _ _) (fun _ h => by cases h) (fun _ h => by cases h) hs12 (fun _ h => by simp [ob] at h) (by simp [rst]) (by simp [rst]; omega) (Ext.refl _ _) (Fresh.refl _ _) (fun x hx => ht.foot x hx) id)) ?_
 rintro _ w9 ⟨rfl, pv, lv, ys, st, hW, hall, hbd, hE9, hF9, hnz9⟩
 refine ⟨_, rfl, fun a hS => ?_⟩
 have hEf : Ext [] w w9 := hE13.trans hE9 (fun x hx => .inr (by simp [ob] at hx; subst hx; exact hs12))
 refine seg_end ?_
 refine hK14 _ _ ?_
 refine sq fun K16 hK16 => ?_
 refine rgn 2 ?_
 refine sg wide_wide [.p, .p] [] [(0, (Pv b)), (1, I6 ↑i), (4, (Pv w.heap.size)), (5, (Pv w.heap.size)), (12, .bool true)] 2 0 hS .nil fun a hS => ?_
 refine seg_end ?_
 refine hK16 _ _ ?_
 refine wpIn_ret ?_
 refine ret1 hS Try.results52 rfl ?_
 exact ⟨_, pv, lv, ys, st, rfl, hW, hall, hbd, hEf, hnz9⟩

theorem way_any {b i : Nat} {o : Option Nd} {w : World} (hR : RpOk w b o) (hi : i ≤ on o) : Calls Try.prog 52 #[Pv b, I6 i] w (WayR (footO o) (i < on o) w ((obs o).drop i)) := by
 cases o with
 | none =>
  have : (obs none).drop i = [] := by simp [obs]
  have hF : footO none = fun _ => False := rfl
  rw [this, hF]
  exact (way_none hR.1).mono fun e w' ⟨wb, pv, lv, ys, st, h1, h2, h3, h4, h5, h6⟩ => ⟨wb, pv, lv, ys, st, h1, h2, h3, h4, h5, fun h => by simp [on, obs] at h⟩
 | some t =>
  have he : (i < on (some t)) = (i < t.n) := by rw [on, obs, Nd.len]
  rw [he]
  exact way_some hR.1 hR.2.1 (by simpa [on, obs, Nd.len] using hi) (by have := hR.2.2; simpa [on, obs, Nd.len] using this)

theorem next_no {F : Nat → Prop} {N wb : Nat} {pv lv : Value} {ys : List Int} {w : World} (hW : Wy F N w wb pv lv ys []) {c : Nat} {bs : Option Addr} (hl : lv = .slice bs 0 c) :
  Calls Try.prog 53 #[(Pv wb)] w fun e w' => e = .returned (.bool false) ∧ Wy F N w' wb (.slice none 0 0) lv [] [] ∧ Ext (wb :: ob lv) w w' := by
 subst hl
 refine calls_body 42 [(0, (Pv wb))] Try.func53 rfl (by kernel_rfl) (by kernel_rfl) (by kernel_rfl) fun a hS => ?_
 have hE0 : Ext (wb :: ob (.slice bs 0 c)) w w := Ext.refl _ _
 refine sq fun K1 hK1 => ?_
 refine rgn 1 ?_
 refine sg wide_wide [.p] [] [(0, (Pv wb)), (2, .bool false)] 1 0 hS .nil fun a hS => ?_
 refine seg_end ?_
 refine hK1 _ _ ?_
 refine sq fun K2 hK2 => ?_
 refine rgn 4 ?_
 refine sg wide_wide [.p, .p, .p] [] [(0, (Pv wb)), (2, .bool false), (6, (Pv wb))] 3 1 hS .nil fun a hS => ?_
 refine eff_store wide_wide (r := 0) (b := wb) (off := 0) (vs := [.slice none 0 0]) hS (by kernel_rfl) hW.blk (by simp) fun a w3 hw4 hS => ?_
 have hB5 : Blk w3 wb 105 (#[.slice none 0 0, .slice bs 0 c]) := by rw [hw4]; exact hW.blk.upd _ _
 have hB6 := OwnV.at' hw4 (hW.own.updNe (OwnV.ne hW.own hW.blk (by decide)) _ _)
 have hE7 : Ext (wb :: ob (.slice bs 0 c)) w w3 := by rw [hw4]; exact hE0.updIn (.inl (by simp)) _ _
 refine seg_end ?_
 refine hK2 _ _ ?_
 refine sq fun K8 hK8 => ?_
 refine sq fun K9 hK9 => ?_
 refine rgn 6 ?_
 refine sg wide_wide [.p, .p, .p, .ld (.slice bs 0 c), .p, .p] [w3.cell? ⟨wb, 1, none⟩ = some (.slice bs 0 c)] [(0, (Pv wb)), (2, .bool false), (12, .bool true)] 6 0 hS (.cons (hB5.cell 1 rfl) .nil) fun a hS => ?_
 refine seg_end ?_
 refine hK9 _ _ ?_
 refine cond_t hS rfl ?_
 refine sq fun K10 hK10 => ?_
 refine rgn 1 ?_
 refine sg wide_wide [.p] [] [(0, (Pv wb)), (2, .bool false), (12, .bool true)] 1 0 hS .nil fun a hS => ?_
 refine seg_end ?_
 refine hK10 _ _ ?_
 refine wpIn_ret ?_
 refine then_ret ?_
 refine ret1 hS Try.results53 rfl ?_
 exact ⟨rfl, ⟨hB5, .inl ⟨_, _, rfl, rfl, rfl⟩, hB6, (fun _ h => by cases h), BR.nil, (fun _ h => by cases h), (fun _ h => by simp [ob] at h), hW.wN, hW.lN, hW.FN⟩, hE7⟩

theorem next_yes {F : Nat → Prop} {N wb : Nat} {pv : Value} {st : List Nd} {t : Nd} {w : World} {c : Nat} {bs : Option Addr} (hB : Blk w wb 105 #[pv, .slice bs (st.length + 1) c]) (hO : OwnV w 81 1 (.slice bs (st.length + 1) c) (st.length + 1) (st.map Nd.ptr ++ [t.ptr])) (hst : ∀ s ∈ st, s.Ok w) (ht : t.Ok w) (hFN : ∀ x, F x → x < N) (hfN : ∀ s ∈ st, ∀ x, s.Foot x → F x) (htN : ∀ x, t.Foot x → F x) (hwN : N ≤ wb) (hlN : ∀ b ∈ ob (.slice bs (st.length + 1) c), N ≤ b) (hbd : t.n + (rst st).length ≤ 100000000) :
  Calls Try.prog 53 #[(Pv wb)] w fun e w' => e = .returned (.bool true) ∧ DnR F True N w (.slice bs (st.length + 1) c) wb (t.bs ++ rst st) w' := by
 have hlen := rst_len st hst
 refine calls_body 42 [(0, (Pv wb))] Try.func53 rfl (by kernel_rfl) (by kernel_rfl) (by kernel_rfl) fun a hS => ?_
 have hE0 : Ext (wb :: ob (.slice bs (st.length + 1) c)) w w := Ext.refl _ _
 refine sq fun K1 hK1 => ?_
 refine rgn 1 ?_
 refine sg wide_wide [.p] [] [(0, (Pv wb)), (2, .bool false)] 1 0 hS .nil fun a hS => ?_
 refine seg_end ?_
 refine hK1 _ _ ?_
 refine sq fun K2 hK2 => ?_
 refine rgn 4 ?_
 refine sg wide_wide [.p, .p, .p] [] [(0, (Pv wb)), (2, .bool false), (6, (Pv wb))] 3 1 hS .nil fun a hS => ?_
 refine eff_store wide_wide (r := 0) (b := wb) (off := 0) (vs := [.slice none 0 0]) hS (by kernel_rfl) hB (by simp) fun a w3 hw4 hS => ?_
 have hB5 : Blk w3 wb 105 (#[.slice none 0 0, .slice bs (st.length + 1) c]) := by rw [hw4]; exact hB.upd _ _
 have hB6 := OwnV.at' hw4 (hO.updNe (OwnV.ne hO hB (by decide)) _ _)
 have hE7 : Ext (wb :: ob (.slice bs (st.length + 1) c)) w w3 := by rw [hw4]; exact hE0.updIn (.inl (by simp)) _ _
 refine seg_end ?_
 refine hK2 _ _ ?_
 refine sq fun K8 hK8 => ?_
 refine sq fun K9 hK9 => ?_
 refine rgn 6 ?_
 refine sg wide_wide [.p, .p, .p, .ld (.slice bs (st.length + 1) c), .p, .as (.bool false)] [w3.cell? ⟨wb, 1, none⟩ = some (.slice bs (st.length + 1) c), Value.bool (((((st.length + 1 : Nat) : Int) : Int) == 0)) = .bool false] [(0, (Pv wb)), (2, .bool false), (12, .bool false)] 6 0 hS (.cons (hB5.cell 1 rfl) (.cons (as_eq_f (by omega)) .nil)) fun a hS => ?_
 refine seg_end ?_
 refine hK9 _ _ ?_
 refine cond_f hS rfl ?_
 refine wpIn_skip ?_
 refine hK8 _ _ ?_
 refine sq fun K10 hK10 => ?_
 refine region_fn2 wide_wide [.q .p, .q .p, .q .p, .q (.ld (.slice bs (st.length + 1) c)), .q .p, .q .p, .q .p, .q (.ld (.slice bs (st.length + 1) c)), .q .p, .q (.as (I6 ↑st.length)), .q (.run ((Po (bof (.slice bs (st.length + 1) c)) (0 + st.length * 1)))), .q (.ld ((Pv t.b))), .q .p] [0, 0, 0, 0, 0, 0, 0, 0, 0, 0, 0, 0, 0] [0, 0, 0, 0, 0, 0, 0, 0, 0, 0, 0, 0, 0] [0, 1, 3, 7, 0, 16, 48, 112, 240, 496, 1023, 2047, 4095] [] 0 ([(0, (Pv wb)), (2, .bool false), (12, .bool false), (13, (Pv wb)), (14, (Pv wb)), (15, (Po wb 1)), (16, .slice bs (st.length + 1) c), (17, (Pv wb)), (18, (Pv wb)), (19, (Po wb 1)), (20, .slice bs (st.length + 1) c), (21, I6 ((st.length + 1 : Nat) : Int)), (22, I6 ↑st.length), (23, (Po (bof (.slice bs (st.length + 1) c)) (0 + st.length * 1))), (24, (Pv t.b)), (3, (Pv t.b))]) [w3.drew] w3.drew (fun w' => [(3, [w'.cell? ⟨wb, 1, none⟩ = some (.slice bs (st.length + 1) c)]), (7, [w'.cell? ⟨wb, 1, none⟩ = some (.slice bs (st.length + 1) c)]), (9, [Value.int .i64 (IntKind.i64.wrap (((st.length + 1 : Nat) : Int) - 1)) = I6 ↑st.length]), (10, [Ru Try.prog (vS (Instr.indexAt 103 (.slice bs (st.length + 1) c) (I6 ↑st.length))) ((Po (bof (.slice bs (st.length + 1) c)) (0 + st.length * 1))) w']), (11, [w'.cell? ⟨bof (.slice bs (st.length + 1) c), 0 + st.length * 1, none⟩ = some ((Pv t.b))])]) [0, 2, 12] [] hS (by kernel_rfl) (by kernel_rfl) (by kernel_rfl) (by kernel_rfl) (fun _ => by kernel_rfl) (by kernel_rfl) (by kernel_rfl) (by kernel_rfl) ?_ ?_ ?_
 ·intro e w' hw
  refine (.cons ?_ (.cons ?_ (.cons ?_ (.cons ?_ (.cons ?_ .nil)))))
  ·intro h1 h2
   obtain rfl : e = 0 := Nat.le_antisymm h2 h1
   obtain rfl : w' = w3.drew := hw.trans (by kernel_rfl)
   exact (.cons ((hB5.drew : Blk w3.drew wb 105 (#[.slice none 0 0, .slice bs (st.length + 1) c])).cell 1 rfl) .nil)
  ·intro h1 h2
   obtain rfl : e = 0 := Nat.le_antisymm h2 h1
   obtain rfl : w' = w3.drew := hw.trans (by kernel_rfl)
   exact (.cons ((hB5.drew : Blk w3.drew wb 105 (#[.slice none 0 0, .slice bs (st.length + 1) c])).cell 1 rfl) .nil)
  ·exact fun _ _ => (.cons ((by rw [show (((st.length + 1 : Nat) : Int) - 1 : Int) = ↑st.length from by omega]; exact as_i64 (by omega))) .nil)
  ·exact fun _ _ => (.cons (ix_own (j := st.length) (hB6) (by kernel_rfl) (by kernel_rfl) rfl (by omega)) .nil)
  ·intro h1 h2
   obtain rfl : e = 0 := Nat.le_antisymm h2 h1
   obtain rfl : w' = w3.drew := hw.trans (by kernel_rfl)
   exact (.cons ((hB6.drew : OwnV w3.drew 81 1 (.slice bs (st.length + 1) c) (st.length + 1) (st.map Nd.ptr ++ [t.ptr])).cellAt _ (by simp [Nd.ptr])) .nil)
 ·refine .nil
 rintro a w12 hS hw13
 replace hw13 : w12 = w3.drew := hw13.trans (by kernel_rfl)
 have hB14 := Blk.at' hw13 (hB5.drew)
 have hB15 := OwnV.at' hw13 (hB6.drew)
 have hE16 : Ext (wb :: ob (.slice bs (st.length + 1) c)) w w12 := by rw [hw13]; exact hE7.drew
 replace hS := hS.kp [(0, (Pv wb)), (2, .bool false), (12, .bool false), (3, (Pv t.b))]
 refine hK10 _ _ ?_
 refine sq fun K17 hK17 => ?_
 refine region_fn2 wide_wide [.q .p, .q .p, .q .p, .q .p, .q (.ld (.slice bs (st.length + 1) c)), .q .p, .q .p, .q .p, .q (.ld (.slice bs (st.length + 1) c)), .q .p, .q (.as (I6 ↑st.length)), .q (.run (.slice bs st.length c)), .q .p, .q .p, .e] [0, 0, 0, 0, 0, 0, 0, 0, 0, 0, 0, 0, 0, 0, 0] [0, 0, 0, 0, 0, 0, 0, 0, 0, 0, 0, 0, 0, 0, 0] [0, 0, 2, 6, 14, 0, 32, 96, 224, 480, 992, 2046, 4095, 8191, 16383] [14] 1 ([(0, (Pv wb)), (2, .bool false), (12, .bool false), (3, (Pv t.b)), (25, (Pv wb)), (26, (Pv wb)), (27, (Pv wb)), (28, (Po wb 1)), (29, .slice bs (st.length + 1) c), (30, (Pv wb)), (31, (Pv wb)), (32, (Po wb 1)), (33, .slice bs (st.length + 1) c), (34, I6 ((st.length + 1 : Nat) : Int)), (35, I6 ↑st.length), (36, .slice bs st.length c), (37, (Pv wb)), (38, (Po wb 1))]) [w12.drew, upd (w12.drew) (wb) 105 #[.slice none 0 0, .slice bs st.length c]] w12.drew (fun w' => [(4, [w'.cell? ⟨wb, 1, none⟩ = some (.slice bs (st.length + 1) c)]), (8, [w'.cell? ⟨wb, 1, none⟩ = some (.slice bs (st.length + 1) c)]), (10, [Value.int .i64 (IntKind.i64.wrap (((st.length + 1 : Nat) : Int) - 1)) = I6 ↑st.length]), (11, [Ru Try.prog (vS (Instr.sliceAt 103 (.slice bs (st.length + 1) c) none (some (I6 ↑st.length)) none)) (.slice bs st.length c) w'])]) [0, 2, 12, 3] [] hS (by kernel_rfl) (by kernel_rfl) (by kernel_rfl) (by kernel_rfl) (fun _ => by kernel_rfl) (by kernel_rfl) (by kernel_rfl) (by kernel_rfl) ?_ ?_ ?_
 ·intro e w' hw
  refine (.cons ?_ (.cons ?_ (.cons ?_ (.cons ?_ .nil))))
  ·intro h1 h2
   obtain rfl : e = 0 := Nat.le_antisymm h2 h1
   obtain rfl : w' = w12.drew := hw.trans (by kernel_rfl)
   exact (.cons ((hB14.drew : Blk w12.drew wb 105 (#[.slice none 0 0, .slice bs (st.length + 1) c])).cell 1 rfl) .nil)
  ·intro h1 h2
   obtain rfl : e = 0 := Nat.le_antisymm h2 h1
   obtain rfl : w' = w12.drew := hw.trans (by kernel_rfl)
   exact (.cons ((hB14.drew : Blk w12.drew wb 105 (#[.slice none 0 0, .slice bs (st.length + 1) c])).cell 1 rfl) .nil)
  ·exact fun _ _ => (.cons ((by rw [show (((st.length + 1 : Nat) : Int) - 1 : Int) = ↑st.length from by omega]; exact as_i64 (by omega))) .nil)
  ·exact fun _ _ => (.cons (sl_own (k := st.length) (hB15) (by kernel_rfl) (by kernel_rfl) rfl (by omega)) .nil)
 ·refine (.cons ?eq18_14 .nil)
  ·refine eff_at (w12.drew) (upd (w12.drew) (wb) 105 #[.slice none 0 0, .slice bs st.length c]) (by kernel_rfl) (by kernel_rfl) ?_
   exact upon_store (b := wb) (off := 1) (vs := [.slice bs st.length c]) (by kernel_rfl) (hB14.drew : Blk w12.drew wb 105 (#[.slice none 0 0, .slice bs (st.length + 1) c])) (by simp) ⟨by kernel_rfl, by kernel_rfl⟩
 rintro a w19 hS hw20
 replace hw20 : w19 = upd (w12.drew) (wb) 105 #[.slice none 0 0, .slice bs st.length c] := hw20.trans (by kernel_rfl)
 have hB21 : Blk w19 wb 105 (#[.slice none 0 0, .slice bs st.length c]) := by rw [hw20]; exact (hB14.drew).upd _ _
 have hB22 := OwnV.at' hw20 ((hB15.drew).updNe (OwnV.ne hB15 hB14 (by decide)) _ _)
 have hE23 : Ext (wb :: ob (.slice bs (st.length + 1) c)) w w19 := by rw [hw20]; exact (hE16.drew).updIn (.inl (by simp)) _ _
 replace hS := hS.kp [(0, (Pv wb)), (2, .bool false), (12, .bool false), (3, (Pv t.b))]
 refine hK17 _ _ ?_
 refine sq fun K24 hK24 => ?_
 refine rgn 3 ?_
 refine sg wide_wide [.p, .p] [] [(0, (Pv wb)), (2, .bool false), (12, .bool false), (3, (Pv t.b)), (39, (Pv wb)), (40, (Pv t.b))] 2 1 hS .nil fun a hS => ?_
 have hM : ∀ x ∈ wb :: ob (.slice bs (st.length + 1) c), N ≤ x := fun x hx => by
  rcases List.mem_cons.1 hx with rfl | hx
  ·exact hwN
  ·exact hlN x hx
 have hOt : OwnV w19 81 1 (.slice bs st.length c) st.length (st.map Nd.ptr) := by
  have h := hB22.take (k := st.length) (by omega)
  simpa using h
 have hob : ob (.slice bs st.length c) = ob (.slice bs (st.length + 1) c) := by cases bs <;> rfl
 refine eff_call wide_wide (r := 0) (f := 66) (vs := [(Pv wb), (Pv t.b), I6 0]) (cap := #[]) (d := (some 41)) hS (by kernel_rfl) Try.call66 #[(Pv wb), (Pv t.b), I6 0] (by kernel_rfl) (down_any (F := F) (p := True) (N := N) (lv0 := .slice bs st.length c) (pv0 := .slice none 0 0) (G := t.bs ++ rst st) (st0 := st) (i0 := 0) (Dn.mk (ht.ext hE23 fun x hx hfx => by have h1 := hM x hx; have h2 := hFN x (htN x hfx); omega) htN (Nat.zero_le _) hB21 hOt (fun s hs => ((hst s hs).ext hE23 fun x hx hfx => by have h1 := hM x hx; have h2 := hFN x (hfN s hs x hfx); omega)) hfN hwN (by rw [hob]; exact hlN) (by simp) hbd (Ext.refl _ _) (Fresh.refl _ _) hFN (fun _ => ht.pos))) ?_
 rintro _ w9 ⟨rfl, pv', lv, ys, st', hW, hall, hbd', hE9, hF9, hnz9⟩
 refine ⟨_, rfl, fun a hS => ?_⟩
 have hEf : Ext (wb :: ob (.slice bs (st.length + 1) c)) w w9 := hE23.trans hE9 (fun x hx => .inl (by rw [hob] at hx; exact hx))
 have hFf : Fresh w.heap.size (ob (.slice bs (st.length + 1) c)) (ob lv) := fun x hx => (hF9 x hx).imp (fun h => by rw [hob] at h; exact h) (fun h => Nat.le_trans hE23.size h)
 refine seg_end ?_
 refine hK24 _ _ ?_
 refine sq fun K25 hK25 => ?_
 refine rgn 1 ?_
 refine sg wide_wide [.p] [] [(0, (Pv wb)), (2, .bool true), (12, .bool false), (3, (Pv t.b))] 1 0 hS .nil fun a hS => ?_
 refine seg_end ?_
 refine hK25 _ _ ?_
 refine wpIn_ret ?_
 refine ret1 hS Try.results53 rfl ?_
 exact ⟨rfl, pv', lv, ys, st', hW, hall, hbd', hEf, hFf, hnz9⟩

theorem next_f {F : Nat → Prop} {N wb : Nat} {pv lv : Value} {ys : List Int} {st : List Nd} {w : World} (hW : Wy F N w wb pv lv ys st) (h : st = []) :
  Calls Try.prog 53 #[Pv wb] w fun e w' => e = .returned (.bool false) ∧ Wy F N w' wb (.slice none 0 0) lv [] [] ∧ Ext (wb :: ob lv) w w' := by
 obtain ⟨bs, c, hl⟩ := hW.own.form
 subst h
 exact next_no hW hl
theorem next_t {F : Nat → Prop} {N wb : Nat} {pv lv : Value} {ys : List Int} {st : List Nd} {w : World} (hW : Wy F N w wb pv lv ys st) (h : st ≠ []) (hbd : (rst st).length ≤ 100000000) :
  Calls Try.prog 53 #[Pv wb] w fun e w' => e = .returned (.bool true) ∧ DnR F True N w lv wb (rst st) w' := by
 obtain ⟨bs, c, hl⟩ := hW.own.form
 obtain ⟨s0, t, rfl⟩ : ∃ s0 t, st = s0 ++ [t] := ⟨st.dropLast, st.getLast h, (List.dropLast_concat_getLast h).symm⟩
 rw [List.length_append, List.length_singleton] at hl
 subst hl
 have hO := hW.own
 rw [List.length_append, List.length_singleton, List.map_append] at hO
 rw [rst_snoc] at hbd ⊢
 rw [List.length_append, Nd.len] at hbd
 exact next_yes hW.blk hO (fun s hs => hW.ok s (by simp [hs])) (hW.ok t (by simp)) hW.FN (fun s hs => hW.fN s (by simp [hs])) (hW.fN t (by simp)) hW.wN hW.lN hbd

end Go.Proofs.Ytkdbfjomjlhfbaa
