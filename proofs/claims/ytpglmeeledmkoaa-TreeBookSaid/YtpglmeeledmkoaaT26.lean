import Derived.Test.YtpglmeeledmkoaaProg
import Derived.Test.YtpglmeeledmkoaaVc
import Derived.Test.YtpglmeeledmkoaaT25
namespace Go.Proofs.Ytpglmeeledmkoaa
open Go.Vc

/-- a step of a script -/
structure Sx where
 sx : Int
 isl : Bool
 lk : Int
 ls : Int
 ll : Int
 lr : Int
 kd : Int
 nn : Int
 ks : Value
 n : Nat
 zs : List Int
def Sx.cells (s : Sx) : List Value := [I6 s.sx, .bool s.isl, I6 s.lk, I6 s.ls, I6 s.ll, I6 s.lr, I6 s.kd, I6 s.nn, s.ks]
structure SxOk (w0 : World) (s : Sx) : Prop where
 rd : RdV w0 1 s.ks s.n (ints s.zs)
 n : s.n ≤ 17592186044000
 nn : s.nn ≤ 9223372036854775807
def scells : List Sx → List Value
 | [] => []
 | s :: l => s.cells ++ scells l
theorem scells_at : ∀ (l : List Sx) (j i : Nat) (s : Sx), l[j]? = some s → i < 9 → (scells l)[j * 9 + i]? = s.cells[i]?
 | [], j, i, s, hj, _ => by simp at hj
 | s :: l, 0, i, q, hj, hi => by
  simp only [List.getElem?_cons_zero, Option.some.injEq] at hj
  subst hj
  simp only [scells, Nat.zero_mul, Nat.zero_add]
  rw [List.getElem?_append_left (by simpa [Sx.cells] using hi)]
 | s :: l, j + 1, i, q, hj, hi => by
  simp only [List.getElem?_cons_succ] at hj
  have ih := scells_at l j i q hj hi
  simp only [scells]
  rw [List.getElem?_append_right (by simp [Sx.cells]; omega), ← ih]
  congr 1
  simp [Sx.cells]; omega
structure Scr (w0 : World) (v : Value) (l : List Sx) : Prop where
 rd : RdV w0 9 v l.length (scells l)
 ok : ∀ s ∈ l, SxOk w0 s
 max : l.length ≤ 4398046510000

theorem Step_any {m : Nat} {w0 w : World} {F : Fo} {s : Sx} (hF : FI w0.heap.size m w F) (hE : Ext [] w0 w) (hs : SxOk w0 s) (hm : m ≤ 4398046511000) :
  Calls Try.prog 34 #[(Pv F.fb), .agg #[I6 s.sx, .bool s.isl, I6 s.lk, I6 s.ls, I6 s.ll, I6 s.lr, I6 s.kd, I6 s.nn, s.ks]] w fun e w' =>
   ∃ F', e = .returned (.bool true) ∧ FI w0.heap.size (m + 1) w' F' ∧ (F'.fb = F.fb ∧ F'.s0 = F.s0 ∧ F'.s1 = F.s1) ∧ (F'.L = F.L ∨ ∃ r, F'.L = F.L ++ [r]) ∧ Ext [] w0 w' := by
 obtain ⟨fb, s0, s1, c0, c1, pb, pc, qb, qc, bb, bn, bc, L⟩ := F
 obtain ⟨sx, isl, lk, ls, ll, lr, kd, nn, ks, n, zs⟩ := s
 have hk : sx % 2 = 0 ∨ sx % 2 = 1 := by omega
 by_cases hl : isl = true ∨ L.length = 0
 ·rcases hk with hk | hk
  ·exact Step_leaf0 hF hE hs.rd hm hs.n hk hl
  ·exact Step_leaf1 hF hE hs.rd hm hs.n hk hl
 ·have hi : isl = false := by cases isl <;> simp_all
  have hL : 0 < L.length := Nat.pos_of_ne_zero fun h => hl (.inr h)
  subst hi
  rcases hk with hk | hk
  ·exact Step_make0 hF hE hs.rd hm hs.n hk hL hs.nn
  ·exact Step_make1 hF hE hs.rd hm hs.n hk hL hs.nn

set_option maxHeartbeats 1000000 in
theorem Grown_any {v : Value} {l : List Sx} {w : World} (hs : Scr w v l) :
  Calls Try.prog 12 #[v] w fun e w' => ∃ F, e = .returned (.tuple #[(Pv F.fb), .bool true]) ∧ FI w.heap.size l.length w' F ∧ Ext [] w w' := by
 have hmax := hs.max
 refine calls_body 40 [(0, v)] Try.func12 rfl (by kernel_rfl) (by kernel_rfl) (by kernel_rfl) fun a hS => ?_
 have hE0 : Ext [] w w := Ext.refl _ _
 refine sq fun K1 hK1 => ?_
 refine rgn 2 ?_
 refine sg wide_wide [.p, .p] [] [(0, v), (2, .pointer none), (3, .bool false)] 2 0 hS .nil fun a hS => ?_
 refine seg_end ?_
 refine hK1 _ _ ?_
 refine sq fun K2 hK2 => ?_
 refine rgn 6 ?_
 refine eff_call wide_wide (r := 5) (f := 16) (vs := []) (cap := #[]) (d := (some 6)) hS (by kernel_rfl) Try.call16 #[] (by kernel_rfl) (New_any w) ?_
 rintro _ wn0 ⟨rfl, hw3⟩
 refine ⟨_, rfl, fun a hS => ?_⟩
 have hEn0 : Ext [] w wn0 := by rw [hw3]; exact (Ext.refl _ _).alloc _
 have hBs0 : Blk wn0 w.heap.size 102 #[I6 0] := by rw [hw3]; exact Blk.new _ _ _
 have hEm0 := hE0.trans0 hEn0
 obtain ⟨s0, hg0⟩ : ∃ x, x = w.heap.size := ⟨_, rfl⟩
 rw [← hg0] at hS hBs0
 have hns0 : w.heap.size ≤ s0 := by rw [hg0]; exact hE0.size
 refine eff_call wide_wide (r := 4) (f := 16) (vs := []) (cap := #[]) (d := (some 7)) hS (by kernel_rfl) Try.call16 #[] (by kernel_rfl) (New_any wn0) ?_
 rintro _ wn1 ⟨rfl, hw4⟩
 refine ⟨_, rfl, fun a hS => ?_⟩
 have hEn1 : Ext [] wn0 wn1 := by rw [hw4]; exact (Ext.refl _ _).alloc _
 have hBs1 : Blk wn1 wn0.heap.size 102 #[I6 0] := by rw [hw4]; exact Blk.new _ _ _
 have hEm1 := hEm0.trans0 hEn1
 have hB5 := hBs0.ext hEn1 (by simp)
 obtain ⟨s1, hg1⟩ : ∃ x, x = wn0.heap.size := ⟨_, rfl⟩
 rw [← hg1] at hS hBs1
 have hns1 : w.heap.size ≤ s1 := by rw [hg1]; exact hEm0.size
 refine sg wide_wide [.p, .p] [] [(0, v), (2, .pointer none), (3, .bool false), (9, .agg #[(Pv s0), (Pv s1), .slice none 0 0, .slice none 0 0, .slice none 0 0])] 4 2 hS .nil fun a hS => ?_
 refine eff_box wide_wide (r := 1) (cs := #[(Pv s0), (Pv s1), .slice none 0 0, .slice none 0 0, .slice none 0 0]) (T := 35) (d := (some 10)) hS (by kernel_rfl) fun a w6 hw7 hS => ?_
 have hB10 := Blk.at' hw7 (hB5.alloc _)
 have hB11 := Blk.at' hw7 (hBs1.alloc _)
 have hB12 : Blk w6 (wn1.heap.size) 35 #[(Pv s0), (Pv s1), .slice none 0 0, .slice none 0 0, .slice none 0 0] := by rw [hw7]; exact Blk.new _ _ _
 have hs13 : w.heap.size ≤ wn1.heap.size := hEm1.size
 have hE14 : Ext [] w w6 := by rw [hw7]; exact hEm1.alloc _
 refine sg wide_wide [.p] [] [(0, v), (2, .pointer none), (3, .bool false), (4, (Pv wn1.heap.size))] 6 0 hS .nil fun a hS => ?_
 refine seg_end ?_
 refine hK2 _ _ ?_
 refine sq fun K15 hK15 => ?_
 refine sq fun K16 hK16 => ?_
 refine rgn 14 ?_
 refine sg wide_wide [.p, .p, .p, .p, .ld ((Pv s0)), .p, .p, .p, .p, .p, .p, .ld ((Pv s1)), .p, .p] [_, _] [(0, v), (2, .pointer none), (3, .bool false), (4, (Pv wn1.heap.size)), (24, .bool false)] 14 0 hS (.cons (hB12.cell 0 rfl) (.cons (hB12.cell 1 rfl) .nil)) fun a hS => ?_
 refine seg_end ?_
 refine hK16 _ _ ?_
 refine cond_f hS rfl ?_
 refine wpIn_skip ?_
 refine hK15 _ _ ?_
 refine sq fun K17 hK17 => ?_
 refine sq fun K18 hK18 => ?_
 refine rgn 1 ?_
 refine sg wide_wide [.p] [] [(0, v), (2, .pointer none), (3, .bool false), (4, (Pv wn1.heap.size)), (24, .bool false), (5, I6 0)] 1 0 hS .nil fun a hS => ?_
 refine seg_end ?_
 refine hK18 _ _ ?_
 refine wpIn_block ?_
 have hFI0 : FI w.heap.size 0 w6 ⟨wn1.heap.size, s0, s1, 0, 0, none, 0, none, 0, none, 0, 0, []⟩ := {
  f := hB12, h0 := hB10, h1 := hB11, ne := ?_, P := .inl ⟨rfl, rfl, rfl⟩, R := .inl ⟨rfl, rfl, rfl⟩, B := ⟨[], .inl ⟨rfl, rfl, rfl⟩⟩, ok := ⟨fun i r h => (by simp at h), fun r hr => (by cases hr)⟩, num := fun r hr => (by cases hr), inj := fun i j ri rj _ h => (by simp at h),
  cb := ⟨Int.le_refl _, Int.le_refl _, by simp, Nat.le_refl _⟩, dP := fun x hx => (by cases hx), dR := fun x hx => (by cases hx), dB := fun x hx => (by cases hx), nw := ⟨hs13, hns0, hns1, fun x hx => (by cases hx), fun x hx => (by cases hx), fun x hx => (by cases hx)⟩ }
 rotate_left
 ·show s0 ≠ s1
  rw [hg1]; exact Nat.ne_of_lt (hBs0.lt)
 refine loop_ghost (fun ((i, F) : Nat × Fo) a' w' => St 40 [] [(0, v), (4, (Pv F.fb)), (5, I6 ↑i)] a' ∧ i ≤ l.length ∧ FI w.heap.size i w' F ∧ Ext [] w w') (fun ((i, F) : Nat × Fo) => l.length - i) (0, ⟨wn1.heap.size, s0, s1, 0, 0, none, 0, none, 0, none, 0, 0, []⟩) ⟨hS.keepTo [0, 4, 5] (by kernel_rfl), Nat.zero_le _, hFI0, hE14⟩ ?_
 rintro ⟨i, F⟩ a wi ⟨hS, hil, hFi, hEx⟩
 refine sq fun K19 hK19 => ?_
 refine sq fun K20 hK20 => ?_
 refine rgn 4 ?_
 refine sg wide_wide [.p, .p, .run (I6 ↑l.length), .p] [Ru Try.prog (vS (Builtin.len_ #[23] 3 #[v])) (I6 ↑l.length) wi] [(0, v), (4, (Pv F.fb)), (5, I6 ↑i), (28, .bool (decide ((↑i : Int) < ↑l.length)))] 4 0 hS (.cons (run_len_rd (e := 68) hs.rd (by kernel_rfl)) .nil) fun a hS => ?_
 refine seg_end ?_
 refine hK20 _ _ ?_
 refine cond_b hS rfl (fun hb21 => ?_) (fun hb21 => ?_)
 ·
  replace hb21 := of_decide_eq_true hb21
  have hi : i < l.length := by omega
  obtain ⟨s, hsi⟩ : ∃ s, l[i]? = some s := ⟨_, List.getElem?_eq_getElem hi⟩
  have hss := hs.ok s (List.mem_of_getElem? hsi)
  have hrd := hs.rd.ext0 hEx
  refine wpIn_skip ?_
  refine hK19 _ _ ?_
  refine sq fun K22 hK22 => ?_
  refine wpIn_block ?_
  refine sq fun K23 hK23 => ?_
  refine rgn 7 ?_
  refine sg wide_wide [.p, .p, .p, .run ((Po (bof v) (oof v + i * 9))), .lds [I6 s.sx, .bool s.isl, I6 s.lk, I6 s.ls, I6 s.ll, I6 s.lr, I6 s.kd, I6 s.nn, s.ks]] [Ru Try.prog (vS (Instr.indexAt 23 (v) (I6 ↑i))) ((Po (bof v) (oof v + i * 9))) wi, wi.cell? ⟨bof v, oof v + i * 9, none⟩ = some (I6 s.sx), wi.cell? ⟨bof v, oof v + i * 9 + 1, none⟩ = some (.bool s.isl), wi.cell? ⟨bof v, oof v + i * 9 + 2, none⟩ = some (I6 s.lk), wi.cell? ⟨bof v, oof v + i * 9 + 3, none⟩ = some (I6 s.ls), wi.cell? ⟨bof v, oof v + i * 9 + 4, none⟩ = some (I6 s.ll), wi.cell? ⟨bof v, oof v + i * 9 + 5, none⟩ = some (I6 s.lr), wi.cell? ⟨bof v, oof v + i * 9 + 6, none⟩ = some (I6 s.kd), wi.cell? ⟨bof v, oof v + i * 9 + 7, none⟩ = some (I6 s.nn), wi.cell? ⟨bof v, oof v + i * 9 + 8, none⟩ = some (s.ks)] [(0, v), (4, (Pv F.fb)), (5, I6 ↑i), (31, (Pv F.fb)), (35, .agg #[I6 s.sx, .bool s.isl, I6 s.lk, I6 s.ls, I6 s.ll, I6 s.lr, I6 s.kd, I6 s.nn, s.ks])] 5 2 hS (.cons (ix_rd (e := 68) (j := i) hs.rd (by kernel_rfl) (by kernel_rfl) rfl hi) (.cons (hrd.cellAt (i * 9 + 0) (by omega) (scells_at l i 0 s hsi (by omega))) (.cons (hrd.cellAt (i * 9 + 1) (by omega) (scells_at l i 1 s hsi (by omega))) (.cons (hrd.cellAt (i * 9 + 2) (by omega) (scells_at l i 2 s hsi (by omega))) (.cons (hrd.cellAt (i * 9 + 3) (by omega) (scells_at l i 3 s hsi (by omega))) (.cons (hrd.cellAt (i * 9 + 4) (by omega) (scells_at l i 4 s hsi (by omega))) (.cons (hrd.cellAt (i * 9 + 5) (by omega) (scells_at l i 5 s hsi (by omega))) (.cons (hrd.cellAt (i * 9 + 6) (by omega) (scells_at l i 6 s hsi (by omega))) (.cons (hrd.cellAt (i * 9 + 7) (by omega) (scells_at l i 7 s hsi (by omega))) (.cons (hrd.cellAt (i * 9 + 8) (by omega) (scells_at l i 8 s hsi (by omega))) .nil)))))))))) fun a hS => ?_
  refine eff_call wide_wide (r := 1) (f := 34) (vs := [(Pv F.fb), .agg #[I6 s.sx, .bool s.isl, I6 s.lk, I6 s.ls, I6 s.ll, I6 s.lr, I6 s.kd, I6 s.nn, s.ks]]) (cap := #[]) (d := (some 36)) hS (by kernel_rfl) Try.call34 #[(Pv F.fb), .agg #[I6 s.sx, .bool s.isl, I6 s.lk, I6 s.ls, I6 s.ll, I6 s.lr, I6 s.kd, I6 s.nn, s.ks]] (by kernel_rfl) (Step_any hFi hEx hss (by omega)) ?_
  rintro _ wj ⟨F', rfl, hFj, hfe, _, hEj⟩
  refine ⟨_, rfl, fun a hS => ?_⟩
  refine sg wide_wide [.p] [] [(0, v), (4, (Pv F.fb)), (5, I6 ↑i), (37, .bool false)] 7 0 hS .nil fun a hS => ?_
  refine seg_end ?_
  refine hK23 _ _ ?_
  refine cond_f hS rfl ?_
  refine wpIn_skip ?_
  refine inBlock_normal ?_
  refine hK22 _ _ ?_
  refine rgn 3 ?_
  refine sg wide_wide [.p, .as (I6 (↑i + 1)), .p] [Value.int .i64 (IntKind.i64.wrap (↑i + 1)) = I6 (↑i + 1)] [(0, v), (4, (Pv F.fb)), (5, I6 (↑i + 1)), (37, .bool false)] 3 0 hS (.cons (as_i64 (by omega)) .nil) fun a hS => ?_
  refine seg_end ?_
  exact ⟨(i + 1, F'), ⟨by rw [hfe.1]; exact hS.keepTo [0, 4, 5] (by kernel_rfl), by omega, hFj, hEj⟩, by simp; omega⟩
 ·
  replace hb21 := of_decide_eq_false hb21
  obtain rfl : i = l.length := by omega
  refine wpIn_exit ?_
  refine then_exit ?_
  refine then_exit ?_
  refine inBlock_hit ?_
  refine hK17 _ _ ?_
  refine sq fun K24 hK24 => ?_
  refine rgn 4 ?_
  refine sg wide_wide [.p] [] [(0, v), (4, (Pv F.fb)), (38, (Pv F.fb))] 1 3 hS .nil fun a hS => ?_
  refine eff_call wide_wide (r := 2) (f := 17) (vs := []) (cap := #[]) (d := (some 39)) hS (by kernel_rfl) Try.call17 #[] (by kernel_rfl) (Head_any wi) ?_
  rintro _ wh ⟨rfl, hEh⟩
  refine ⟨_, rfl, fun a hS => ?_⟩
  have hEh2 := hEx.trans0 hEh
  refine sg wide_wide [.p, .p] [] [(0, v), (4, (Pv F.fb)), (2, (Pv F.fb)), (3, .bool true)] 4 0 hS .nil fun a hS => ?_
  refine seg_end ?_
  refine hK24 _ _ ?_
  refine wpIn_ret ?_
  refine ret2 hS Try.results12 rfl rfl ?_
  exact ⟨F, rfl, hFi.ext0 hEh, hEh2⟩

end Go.Proofs.Ytpglmeeledmkoaa
