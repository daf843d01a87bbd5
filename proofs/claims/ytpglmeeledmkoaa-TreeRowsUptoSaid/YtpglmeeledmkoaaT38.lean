import Derived.Test.YtpglmeeledmkoaaProg
import Derived.Test.YtpglmeeledmkoaaVc
import Derived.Test.YtpglmeeledmkoaaT37
import Derived.Test.YtpglmeeledmkoaaLv
namespace Go.Proofs.Ytpglmeeledmkoaa
open Go.Vc

theorem rowsP_len : ∀ l : List Tr, (rowsP l).length = 6 * l.length
  | [] => rfl
  | t :: l => by simp only [rowsP, List.length_append, rowsP_len l, List.length_cons]; simp only [rowP, List.length_cons, List.length_nil]; omega
theorem Cpy.rows {t t' : Tr} (h : Cpy t t') : rowsP (pre t) = rowsP (pre t') := by
  have := Cpys.rows (a := [t]) (b := [t']) ⟨t', [], rfl, h, rfl⟩
  simpa [pres] using this
theorem Cpy.plen {t t' : Tr} (h : Cpy t t') : (pre t').length = (pre t).length := by
  have := congrArg List.length h.rows
  rw [rowsP_len, rowsP_len] at this
  omega
theorem lsum_nonneg : ∀ {l : List (Int × Tr)}, (∀ q ∈ l, 0 ≤ q.2.wd) → 0 ≤ lsum l
  | [], _ => by simp [lsum]
  | q :: l, h => by
    have h1 := h q (by simp)
    have h2 := lsum_nonneg (l := l) (fun q hq => h q (by simp [hq]))
    simp only [lsum]; omega

set_option maxHeartbeats 4000000 in
theorem TreeRows_any {v : Value} {l : List Sx} {w : World} (hs : Scr w v l) :
    Calls Try.prog 6 #[v] w fun e w' => e = .returned (.bool true) ∧ Ext [] w w' := by
  have hmax := hs.max
  refine calls_bodyM 177 [(0, v)] Try.func6 rfl (by kernel_rfl) (by kernel_rfl) (by kernel_rfl) fun a hS => ?_
  have hE0 : Ext [] w w := Ext.refl _ _
  refine wpIn_seq_k fun K1 hK1 => ?_
  refine region 1 (by kernel_rfl) ?_
  refine eff_box wide_wide (r := 0) (cs := #[.bool false]) (T := 4) (d := (some 2)) hS (by kernel_rfl) fun a w2 hw3 hS => ?_
  have hB4 : Blk w2 (w.heap.size) 4 #[.bool false] := by rw [hw3]; exact Blk.new _ _ _
  have hs5 : w.heap.size ≤ w.heap.size := hE0.size
  have hE6 : Ext [] w w2 := by rw [hw3]; exact hE0.alloc _
  refine seg_end ?_
  refine hK1 _ _ ?_
  refine wpIn_seq_k fun K7 hK7 => ?_
  refine region 7 (by kernel_rfl) ?_
  refine seg wide_wide [.p] [0, 2, 21] [] [(0, v), (2, .pointer (some ⟨w.heap.size, 0, none⟩)), (21, v)] 1 6 hS (by kernel_rfl) (by kernel_rfl) (by kernel_rfl) .nil fun a hS => ?_
  refine eff_call wide_wide (r := 5) (f := 12) (vs := [v]) (cap := #[]) (d := (some 22)) hS (by kernel_rfl) Try.call12 #[v] (by kernel_rfl) (Grown_any (hs.ext0 hE6)) ?_
  rintro _ w1 ⟨F, rfl, hF, hE12⟩
  refine ⟨_, rfl, fun a hS => ?_⟩
  have hE1 := hE6.trans0 hE12
  have hB8 := hB4.ext hE12 (by simp)
  have hcb := hF.cb
  refine seg wide_wide [.p, .p, .p, .p, .p] [0, 2, 3, 4] [] [(0, v), (2, .pointer (some ⟨w.heap.size, 0, none⟩)), (3, .pointer (some ⟨F.fb, 0, none⟩)), (4, .bool true)] 7 0 hS (by kernel_rfl) (by kernel_rfl) (by kernel_rfl) .nil fun a hS => ?_
  refine seg_end ?_
  refine hK7 _ _ ?_
  refine wpIn_seq_k fun K9 hK9 => ?_
  refine wpIn_seq_k fun K10 hK10 => ?_
  refine region 2 (by kernel_rfl) ?_
  refine seg wide_wide [.p, .p] [0, 2, 3, 4, 26] [] [(0, v), (2, .pointer (some ⟨w.heap.size, 0, none⟩)), (3, .pointer (some ⟨F.fb, 0, none⟩)), (4, .bool true), (26, .bool false)] 2 0 hS (by kernel_rfl) (by kernel_rfl) (by kernel_rfl) .nil fun a hS => ?_
  refine seg_end ?_
  refine hK10 _ _ ?_
  refine cond_f hS rfl ?_
  refine wpIn_skip ?_
  refine hK9 _ _ ?_
  refine wpIn_seq_k fun K11 hK11 => ?_
  refine region 3 (by kernel_rfl) ?_
  refine seg wide_wide [.p] [0, 2, 3, 4, 26, 27] [] [(0, v), (2, .pointer (some ⟨w.heap.size, 0, none⟩)), (3, .pointer (some ⟨F.fb, 0, none⟩)), (4, .bool true), (26, .bool false), (27, .pointer (some ⟨F.fb, 0, none⟩))] 1 2 hS (by kernel_rfl) (by kernel_rfl) (by kernel_rfl) .nil fun a hS => ?_
  refine eff_call wide_wide (r := 1) (f := 13) (vs := [.pointer (some ⟨F.fb, 0, none⟩)]) (cap := #[]) (d := (some 28)) hS (by kernel_rfl) Try.call13 #[.pointer (some ⟨F.fb, 0, none⟩)] (by kernel_rfl) (Last_any hF (by omega)) ?_
  rintro _ wL ⟨hwL, hlast⟩
  rw [hwL]
  rcases hlast with ⟨i, r, rfl, hr, hsz⟩ | rfl
  · -- an alternative
    refine ⟨_, rfl, fun a hS => ?_⟩
    have hi : i < F.L.length := (List.getElem?_eq_some_iff.1 hr).1
    have hrm := List.mem_of_getElem? hr
    have hx1 : r.t.Ok w1 (sOf F.s0 F.s1 r.k) := (hF.ok.one r hrm).ok
    have hxmax := hx1.nums.max
    have hxtt := Tr.Ok.tt_pos r.t hx1
    have hwl := walk_len r.t hx1 0
    obtain ⟨N, hN⟩ : ∃ N, N = (pre r.t).length := ⟨_, rfl⟩
    have hNw : (walk r.t 0).length = N := by rw [hN, walk_plen]
    have hNt : (N : Int) = r.t.tt := by rw [← hNw]; exact hwl
    have hTx : Blk w1 r.t.b 106 #[.pointer (some ⟨(sOf F.s0 F.s1 r.k), 0, none⟩), .int .i64 r.t.num, .int .i64 r.t.kd, .int .i64 r.t.nn, .int .i64 r.t.lk, .int .i64 r.t.ls, .int .i64 r.t.ll, .int .i64 r.t.lr, r.t.ks, .int .i64 r.t.wd, .int .i64 r.t.lf, .int .i64 r.t.tt, .bool r.t.fl] := hx1.blk
    refine seg wide_wide [.p] [0, 2, 3, 4, 26, 5] [] [(0, v), (2, .pointer (some ⟨w.heap.size, 0, none⟩)), (3, .pointer (some ⟨F.fb, 0, none⟩)), (4, .bool true), (26, .bool false), (5, .int .i64 ↑i)] 3 0 hS (by kernel_rfl) (by kernel_rfl) (by kernel_rfl) .nil fun a hS => ?_
    refine seg_end ?_
    refine hK11 _ _ ?_
    refine wpIn_seq_k fun K12 hK12 => ?_
    refine wpIn_seq_k fun K13 hK13 => ?_
    refine region 2 (by kernel_rfl) ?_
    refine seg wide_wide [.p, .as (.bool false)] [0, 2, 3, 4, 26, 5, 30] [Value.bool (decide ((↑i : Int) < 0)) = .bool false] [(0, v), (2, .pointer (some ⟨w.heap.size, 0, none⟩)), (3, .pointer (some ⟨F.fb, 0, none⟩)), (4, .bool true), (26, .bool false), (5, .int .i64 ↑i), (30, .bool false)] 2 0 hS (by kernel_rfl) (by kernel_rfl) (by kernel_rfl) (.cons (as_f (by omega)) .nil) fun a hS => ?_
    refine seg_end ?_
    refine hK13 _ _ ?_
    refine cond_f hS rfl ?_
    refine wpIn_skip ?_
    refine hK12 _ _ ?_
    refine wpIn_seq_k fun K14 hK14 => ?_
    refine region 8 (by kernel_rfl) ?_
    refine seg wide_wide [.p, .p, .p, .ld (.slice F.pb F.L.length F.pc), .p, .run (.pointer (some ⟨bof (.slice F.pb F.L.length F.pc), 0 + i * 1, none⟩)), .ld (.pointer (some ⟨r.t.b, 0, none⟩)), .p] [0, 2, 3, 4, 26, 5, 30, 6] [w1.cell? ⟨F.fb, 2, none⟩ = some (.slice F.pb F.L.length F.pc), Sem.run Try.prog (vS (Instr.indexAt 32 (.slice F.pb F.L.length F.pc) (.int .i64 ↑i))) w1 = .ok (.value (.pointer (some ⟨bof (.slice F.pb F.L.length F.pc), 0 + i * 1, none⟩))) w1, w1.cell? ⟨bof (.slice F.pb F.L.length F.pc), 0 + i * 1, none⟩ = some (.pointer (some ⟨r.t.b, 0, none⟩))] [(0, v), (2, .pointer (some ⟨w.heap.size, 0, none⟩)), (3, .pointer (some ⟨F.fb, 0, none⟩)), (4, .bool true), (26, .bool false), (5, .int .i64 ↑i), (30, .bool false), (6, .pointer (some ⟨r.t.b, 0, none⟩))] 8 0 hS (by kernel_rfl) (by kernel_rfl) (by kernel_rfl) (.cons ((hF.f).cell 2 rfl) (.cons (ix_own (j := i) (hF.P) (by kernel_rfl) (by kernel_rfl) rfl hi) (.cons ((hF.P).cellAt _ (by simp [hr, Tr.ptr])) .nil))) fun a hS => ?_
    refine seg_end ?_
    refine hK14 _ _ ?_
    refine wpIn_seq_k fun K15 hK15 => ?_
    refine region 4 (by kernel_rfl) ?_
    refine seg wide_wide [.p] [0, 2, 3, 4, 26, 5, 30, 6, 38] [] [(0, v), (2, .pointer (some ⟨w.heap.size, 0, none⟩)), (3, .pointer (some ⟨F.fb, 0, none⟩)), (4, .bool true), (26, .bool false), (5, .int .i64 ↑i), (30, .bool false), (6, .pointer (some ⟨r.t.b, 0, none⟩)), (38, .pointer (some ⟨r.t.b, 0, none⟩))] 1 3 hS (by kernel_rfl) (by kernel_rfl) (by kernel_rfl) .nil fun a hS => ?_
    refine eff_call wide_wide (r := 2) (f := 25) (vs := [.pointer (some ⟨r.t.b, 0, none⟩)]) (cap := #[]) (d := (some 39)) hS (by kernel_rfl) Try.call25 #[.pointer (some ⟨r.t.b, 0, none⟩)] (by kernel_rfl) (Rows_n hx1 hNw (rowsOf_pre r.t 0)) ?_
    rintro _ w2 ⟨gr, cr, rfl, hOr, hE25, hgr0⟩
    refine ⟨_, rfl, fun a hS => ?_⟩
    have hE2 := hE1.trans0 hE25
    have hB16 := hB8.ext hE25 (by simp)
    have hB17 := hTx.ext hE25 (by simp)
    have hG18 : r.t.Ok w2 (sOf F.s0 F.s1 r.k) := hx1.ext hE25 _ (by simp)
    have hgrn : w.heap.size ≤ gr := Nat.le_trans hE1.size hgr0
    refine eff_box wide_wide (r := 1) (cs := #[.slice none 0 0]) (T := 54) (d := (some 7)) hS (by kernel_rfl) fun a w19 hw20 hS => ?_
    have hn21 : w.heap.size ≠ w2.heap.size := Nat.ne_of_lt hB16.lt
    have hn22 : r.t.b ≠ w2.heap.size := Nat.ne_of_lt hB17.lt
    have hn23 : gr ≠ w2.heap.size := Nat.ne_of_lt hOr.lt
    have hB24 := Blk.at' hw20 (hB16.alloc _)
    have hB25 := Blk.at' hw20 (hB17.alloc _)
    have hB26 := OwnR.at' hw20 (hOr.alloc _)
    have hX27 : Ext [] w2 w19 := by rw [hw20]; exact (Ext.refl _ _).alloc _
    have hG28 : r.t.Ok w19 (sOf F.s0 F.s1 r.k) := hG18.ext hX27 _ (by simp)
    have hB29 : Blk w19 (w2.heap.size) 54 #[.slice none 0 0] := by rw [hw20]; exact Blk.new _ _ _
    have hs30 : w.heap.size ≤ w2.heap.size := hE2.size
    have hE31 : Ext [] w w19 := by rw [hw20]; exact hE2.alloc _
    refine eff_store wide_wide (r := 0) (b := w2.heap.size) (off := 0) (vs := [.slice (some ⟨gr, 0, none⟩) N cr]) hS (by kernel_rfl) hB29 (by simp) fun a w32 hw33 hS => ?_
    have hB34 := Blk.at' hw33 (hB24.updNe (Ne.symm hn21) _ _)
    have hB35 := Blk.at' hw33 (hB25.updNe (Ne.symm hn22) _ _)
    have hB36 := OwnR.at' hw33 (hB26.updNe (Ne.symm hn23) _ _)
    have hB37 : Blk w32 w2.heap.size 54 (#[.slice (some ⟨gr, 0, none⟩) N cr]) := by rw [hw33]; exact hB29.upd _ _
    have hX38 : Ext [w2.heap.size] w19 w32 := by rw [hw33]; exact (Ext.refl _ _).updIn (.inl (by simp)) _ _
    have hG39 : r.t.Ok w32 (sOf F.s0 F.s1 r.k) := hG28.ext hX38 _ (fun b hb => by simp at hb; subst hb; exact hG28.not_foot hB29 (by decide) (by decide))
    have hE40 : Ext [] w w32 := by rw [hw33]; exact hE31.updIn (.inr hs30) _ _
    refine seg_end ?_
    refine hK15 _ _ ?_
    refine wpIn_seq_k fun K41 hK41 => ?_
    refine region 2 (by kernel_rfl) ?_
    refine eff_call wide_wide (r := 1) (f := 16) (vs := []) (cap := #[]) (d := (some 40)) hS (by kernel_rfl) Try.call16 #[] (by kernel_rfl) (New_any w32) ?_
    rintro _ w3 ⟨rfl, hw42⟩
    refine ⟨_, rfl, fun a hS => ?_⟩
    have hEn : Ext [] w32 w3 := by rw [hw42]; exact (Ext.refl _ _).alloc _
    have hBs : Blk w3 w32.heap.size 102 #[.int .i64 0] := by rw [hw42]; exact Blk.new _ _ _
    have hE3 := hE40.trans0 hEn
    have hnsb : w.heap.size ≤ w32.heap.size := hE40.size
    have hB43 := hB34.ext hEn (by simp)
    have hB44 := hB35.ext hEn (by simp)
    have hB45 := hB36.ext hEn (by simp)
    have hB46 := hB37.ext hEn (by simp)
    have hG47 : r.t.Ok w3 (sOf F.s0 F.s1 r.k) := hG39.ext hEn _ (by simp)
    obtain ⟨sb, hsbe⟩ : ∃ x, x = w32.heap.size := ⟨_, rfl⟩
    rw [← hsbe] at hS hBs hnsb
    refine seg wide_wide [.p] [0, 2, 3, 4, 26, 5, 30, 6, 7, 8] [] [(0, v), (2, .pointer (some ⟨w.heap.size, 0, none⟩)), (3, .pointer (some ⟨F.fb, 0, none⟩)), (4, .bool true), (26, .bool false), (5, .int .i64 ↑i), (30, .bool false), (6, .pointer (some ⟨r.t.b, 0, none⟩)), (7, .pointer (some ⟨w2.heap.size, 0, none⟩)), (8, .pointer (some ⟨sb, 0, none⟩))] 2 0 hS (by kernel_rfl) (by kernel_rfl) (by kernel_rfl) .nil fun a hS => ?_
    refine seg_end ?_
    refine hK41 _ _ ?_
    refine wpIn_seq_k fun K48 hK48 => ?_
    refine wpIn_seq_k fun K49 hK49 => ?_
    refine region 2 (by kernel_rfl) ?_
    refine seg wide_wide [.p, .p] [0, 2, 3, 4, 26, 5, 30, 6, 7, 8, 42] [] [(0, v), (2, .pointer (some ⟨w.heap.size, 0, none⟩)), (3, .pointer (some ⟨F.fb, 0, none⟩)), (4, .bool true), (26, .bool false), (5, .int .i64 ↑i), (30, .bool false), (6, .pointer (some ⟨r.t.b, 0, none⟩)), (7, .pointer (some ⟨w2.heap.size, 0, none⟩)), (8, .pointer (some ⟨sb, 0, none⟩)), (42, .bool false)] 2 0 hS (by kernel_rfl) (by kernel_rfl) (by kernel_rfl) .nil fun a hS => ?_
    refine seg_end ?_
    refine hK49 _ _ ?_
    refine cond_f hS rfl ?_
    refine wpIn_skip ?_
    refine hK48 _ _ ?_
    refine wpIn_seq_k fun K50 hK50 => ?_
    refine region 8 (by kernel_rfl) ?_
    refine seg wide_wide [.p, .ld (.slice (some ⟨gr, 0, none⟩) N cr)] [0, 2, 3, 4, 26, 5, 30, 6, 7, 8, 42, 44, 45] [w3.cell? ⟨w2.heap.size, 0, none⟩ = some (.slice (some ⟨gr, 0, none⟩) N cr)] [(0, v), (2, .pointer (some ⟨w.heap.size, 0, none⟩)), (3, .pointer (some ⟨F.fb, 0, none⟩)), (4, .bool true), (26, .bool false), (5, .int .i64 ↑i), (30, .bool false), (6, .pointer (some ⟨r.t.b, 0, none⟩)), (7, .pointer (some ⟨w2.heap.size, 0, none⟩)), (8, .pointer (some ⟨sb, 0, none⟩)), (42, .bool false), (44, .pointer (some ⟨sb, 0, none⟩)), (45, .slice (some ⟨gr, 0, none⟩) N cr)] 2 6 hS (by kernel_rfl) (by kernel_rfl) (by kernel_rfl) (.cons (hB46.cell 0 rfl) .nil) fun a hS => ?_
    refine eff_call wide_wide (r := 5) (f := 26) (vs := [.pointer (some ⟨sb, 0, none⟩), .slice (some ⟨gr, 0, none⟩) N cr]) (cap := #[]) (d := (some 46)) hS (by kernel_rfl) Try.call26 #[.pointer (some ⟨sb, 0, none⟩), .slice (some ⟨gr, 0, none⟩) N cr] (by kernel_rfl) (Tall_any hG47 hB45 hN (by omega) hBs) ?_
    rintro _ w4 ⟨y, rfl, hY, hcy, hE26⟩
    refine ⟨_, rfl, fun a hS => ?_⟩
    have hE4 := hE3.trans hE26 (fun b hb => by simp at hb; subst hb; exact .inr hnsb)
    have hx4 := hG47.ext hE26 _ (fun b hb => by simp at hb; subst hb; exact hG47.not_foot hBs (by decide) (by decide))
    have hB51 := hB43.ext hE26 (by simpa using (Blk.ne_type hB43 hBs (by decide)))
    have hB52 := hB44.ext hE26 (by simpa using (Blk.ne_type hB44 hBs (by decide)))
    have hB53 := hB45.ext hE26 (by simpa using (OwnR.ne_type hB45 hBs (by decide)))
    have hB54 := hB46.ext hE26 (by simpa using (Blk.ne_type hB46 hBs (by decide)))
    obtain ⟨⟨_, _, _, _, hcw, hcl, _, hcf⟩, _⟩ := (cpy_iff _ _).1 hcy
    have hNy : N = (pre y).length := by rw [hcy.plen]; exact hN
    have hNyw : (walk y 0).length = N := by rw [hNy, walk_plen]
    have hrow := hcy.rows
    have hTy : Blk w4 y.b 106 #[.pointer (some ⟨sb, 0, none⟩), .int .i64 y.num, .int .i64 y.kd, .int .i64 y.nn, .int .i64 y.lk, .int .i64 y.ls, .int .i64 y.ll, .int .i64 y.lr, y.ks, .int .i64 y.wd, .int .i64 y.lf, .int .i64 y.tt, .bool y.fl] := hY.blk
    refine seg wide_wide [.p, .p, .p, .p, .p] [0, 2, 3, 4, 26, 5, 30, 6, 7, 8, 42, 9, 10] [] [(0, v), (2, .pointer (some ⟨w.heap.size, 0, none⟩)), (3, .pointer (some ⟨F.fb, 0, none⟩)), (4, .bool true), (26, .bool false), (5, .int .i64 ↑i), (30, .bool false), (6, .pointer (some ⟨r.t.b, 0, none⟩)), (7, .pointer (some ⟨w2.heap.size, 0, none⟩)), (8, .pointer (some ⟨sb, 0, none⟩)), (42, .bool false), (9, .pointer (some ⟨y.b, 0, none⟩)), (10, .bool true)] 8 0 hS (by kernel_rfl) (by kernel_rfl) (by kernel_rfl) .nil fun a hS => ?_
    refine seg_end ?_
    refine hK50 _ _ ?_
    refine wpIn_seq_k fun K55 hK55 => ?_
    refine wpIn_seq_k fun K56 hK56 => ?_
    refine region_gh2 (G := Nat × Nat × World × (Option Addr) × Nat × World × (Option Addr) × Nat × World × World) wide_wide [.q .p, .q .p, .q .p, .q .p, .e, .e, .q (.ld (.slice (some ⟨gr, 0, none⟩) N cr)), .e, .e, .q .p, .q .p, .q .p, .q .p, .e, .q .p, .e, .q (.as (.bool false)), .q .p, .q .p, .q .p, .e, .q .p, .e, .q (.as (.bool false)), .q .p, .q .p, .q .p, .e, .q .p, .e, .q (.as (.bool false)), .q .p] [0, 0, 0, 0, 0, 1, 0, 2, 3, 4, 4, 4, 4, 4, 4, 5, 6, 6, 6, 6, 6, 6, 7, 8, 8, 8, 8, 8, 8, 9, 10, 10] [0, 0, 0, 0, 0, 1, 2, 2, 3, 4, 4, 4, 4, 4, 5, 5, 6, 6, 6, 6, 6, 7, 7, 8, 8, 8, 8, 8, 9, 9, 10, 10] [0, 1, 3, 7, 15, 31, 7, 127, 255, 511, 1023, 2047, 4095, 8191, 4095, 32767, 65535, 131071, 262143, 524287, 1048575, 524287, 4194303, 8388607, 16777215, 33554431, 67108863, 134217727, 67108863, 536870911, 1073741823, 2147483647] [4, 5, 7, 8, 13, 15, 20, 22, 27, 29] [(4, 0), (5, 1), (7, 2), (8, 3), (13, 4), (15, 5), (20, 6), (22, 7), (27, 8), (29, 9)] 10 (fun ⟨gy, cy, wq1, ba, ca, wq2a, bb, cb, wq2b, wq3⟩ => ([(0, v), (2, .pointer (some ⟨w.heap.size, 0, none⟩)), (3, .pointer (some ⟨F.fb, 0, none⟩)), (4, .bool true), (26, .bool false), (5, .int .i64 ↑i), (30, .bool false), (6, .pointer (some ⟨r.t.b, 0, none⟩)), (7, .pointer (some ⟨w2.heap.size, 0, none⟩)), (8, .pointer (some ⟨sb, 0, none⟩)), (42, .bool false), (9, .pointer (some ⟨y.b, 0, none⟩)), (10, .bool true), (49, .bool true), (50, .bool false), (51, .bool false), (52, .pointer (some ⟨y.b, 0, none⟩)), (53, .slice (some ⟨gy, 0, none⟩) N cy), (54, .slice ba N ca), (55, .slice (some ⟨gr, 0, none⟩) N cr), (56, .slice bb N cb), (57, .bool true), (58, .bool false), (59, .bool false), (60, .bool false), (61, .pointer (some ⟨y.b, 0, none⟩)), (62, .int .i64 y.wd), (63, .pointer (some ⟨r.t.b, 0, none⟩)), (64, .int .i64 r.t.wd), (65, .bool false), (66, .bool false), (67, .bool false), (68, .pointer (some ⟨y.b, 0, none⟩)), (69, .int .i64 y.lf), (70, .pointer (some ⟨r.t.b, 0, none⟩)), (71, .int .i64 r.t.lf), (72, .bool false), (73, .bool false), (74, .bool false), (75, .pointer (some ⟨y.b, 0, none⟩)), (76, .bool y.fl), (77, .pointer (some ⟨r.t.b, 0, none⟩)), (78, .bool r.t.fl), (79, .bool false), (80, .bool false)] : Fm)) (fun ⟨gy, cy, wq1, ba, ca, wq2a, bb, cb, wq2b, wq3⟩ => [w4.drew, wq1, wq2a, wq2b, wq3, wq3, wq3, wq3, wq3, wq3, wq3]) (w4.drew) (fun e ⟨gy, cy, wq1, ba, ca, wq2a, bb, cb, wq2b, wq3⟩ => hAt [True, (OwnR wq1 64 6 gy cy N (rowsT (pre y))) ∧ (Ext [] (w4.drew) wq1) ∧ True, (OwnR wq1 64 6 gy cy N (rowsT (pre y))) ∧ (Ext [] (w4.drew) wq1) ∧ (OwnV wq2a 64 6 (.slice ba N ca) N (rowsP (pre y))) ∧ (Ext [] wq1 wq2a) ∧ True, (OwnR wq1 64 6 gy cy N (rowsT (pre y))) ∧ (Ext [] (w4.drew) wq1) ∧ (OwnV wq2a 64 6 (.slice ba N ca) N (rowsP (pre y))) ∧ (Ext [] wq1 wq2a) ∧ (OwnV wq2b 64 6 (.slice bb N cb) N (rowsP (pre y))) ∧ (Ext [] wq2a wq2b) ∧ True, (OwnR wq1 64 6 gy cy N (rowsT (pre y))) ∧ (Ext [] (w4.drew) wq1) ∧ (OwnV wq2a 64 6 (.slice ba N ca) N (rowsP (pre y))) ∧ (Ext [] wq1 wq2a) ∧ (OwnV wq2b 64 6 (.slice bb N cb) N (rowsP (pre y))) ∧ (Ext [] wq2a wq2b) ∧ (Ext [] wq2b wq3) ∧ True, (OwnR wq1 64 6 gy cy N (rowsT (pre y))) ∧ (Ext [] (w4.drew) wq1) ∧ (OwnV wq2a 64 6 (.slice ba N ca) N (rowsP (pre y))) ∧ (Ext [] wq1 wq2a) ∧ (OwnV wq2b 64 6 (.slice bb N cb) N (rowsP (pre y))) ∧ (Ext [] wq2a wq2b) ∧ (Ext [] wq2b wq3) ∧ True, (OwnR wq1 64 6 gy cy N (rowsT (pre y))) ∧ (Ext [] (w4.drew) wq1) ∧ (OwnV wq2a 64 6 (.slice ba N ca) N (rowsP (pre y))) ∧ (Ext [] wq1 wq2a) ∧ (OwnV wq2b 64 6 (.slice bb N cb) N (rowsP (pre y))) ∧ (Ext [] wq2a wq2b) ∧ (Ext [] wq2b wq3) ∧ True, (OwnR wq1 64 6 gy cy N (rowsT (pre y))) ∧ (Ext [] (w4.drew) wq1) ∧ (OwnV wq2a 64 6 (.slice ba N ca) N (rowsP (pre y))) ∧ (Ext [] wq1 wq2a) ∧ (OwnV wq2b 64 6 (.slice bb N cb) N (rowsP (pre y))) ∧ (Ext [] wq2a wq2b) ∧ (Ext [] wq2b wq3) ∧ True, (OwnR wq1 64 6 gy cy N (rowsT (pre y))) ∧ (Ext [] (w4.drew) wq1) ∧ (OwnV wq2a 64 6 (.slice ba N ca) N (rowsP (pre y))) ∧ (Ext [] wq1 wq2a) ∧ (OwnV wq2b 64 6 (.slice bb N cb) N (rowsP (pre y))) ∧ (Ext [] wq2a wq2b) ∧ (Ext [] wq2b wq3) ∧ True, (OwnR wq1 64 6 gy cy N (rowsT (pre y))) ∧ (Ext [] (w4.drew) wq1) ∧ (OwnV wq2a 64 6 (.slice ba N ca) N (rowsP (pre y))) ∧ (Ext [] wq1 wq2a) ∧ (OwnV wq2b 64 6 (.slice bb N cb) N (rowsP (pre y))) ∧ (Ext [] wq2a wq2b) ∧ (Ext [] wq2b wq3) ∧ True, (OwnR wq1 64 6 gy cy N (rowsT (pre y))) ∧ (Ext [] (w4.drew) wq1) ∧ (OwnV wq2a 64 6 (.slice ba N ca) N (rowsP (pre y))) ∧ (Ext [] wq1 wq2a) ∧ (OwnV wq2b 64 6 (.slice bb N cb) N (rowsP (pre y))) ∧ (Ext [] wq2a wq2b) ∧ (Ext [] wq2b wq3) ∧ True] e) (fun ⟨gy, cy, wq1, ba, ca, wq2a, bb, cb, wq2b, wq3⟩ w' => [(6, [w'.cell? ⟨w2.heap.size, 0, none⟩ = some (.slice (some ⟨gr, 0, none⟩) N cr)]), (16, [Value.bool (((y.wd : Int) != r.t.wd)) = .bool false]), (23, [Value.bool (((y.lf : Int) != r.t.lf)) = .bool false]), (30, [Value.bool (!(y.fl == r.t.fl)) = .bool false])]) (0, 0, w4, none, 0, w4, none, 0, w4, w4) [0, 2, 3, 4, 26, 5, 30, 6, 7, 8, 42, 9, 10] [] hS (by kernel_rfl) (by kernel_rfl) (by kernel_rfl) (by kernel_rfl) (fun ⟨gy, cy, wq1, ba, ca, wq2a, bb, cb, wq2b, wq3⟩ _ => by kernel_rfl) (by kernel_rfl) (by kernel_rfl) (by kernel_rfl) trivial ?_ (by kernel_rfl) ?_ ?_
    · rintro e ⟨gy, cy, wq1, ba, ca, wq2a, bb, cb, wq2b, wq3⟩ w' hw hH
      refine (.cons ?_ (.cons ?_ (.cons ?_ (.cons ?_ .nil))))
      · intro h1 h2
        replace h1 : 0 ≤ e := h1
        replace h2 : e ≤ 2 := h2
        have he : e = 0 ∨ e = 1 ∨ e = 2 := by omega
        rcases he with rfl | rfl | rfl
        · have hwe : w4.drew = w' := (hw.trans (by kernel_rfl)).symm
          subst hwe
          clear hH
          exact (.cons ((hB54.drew : Blk w4.drew w2.heap.size 54 (#[.slice (some ⟨gr, 0, none⟩) N cr])).cell 0 rfl) .nil)
        · have hwe : wq1 = w' := (hw.trans (by kernel_rfl)).symm
          subst hwe
          obtain ⟨hOy, hq1, _⟩ := hH
          exact (.cons (((hB54.drew : Blk w4.drew w2.heap.size 54 (#[.slice (some ⟨gr, 0, none⟩) N cr])).ext hq1 (by simp) : Blk wq1 w2.heap.size 54 (#[.slice (some ⟨gr, 0, none⟩) N cr])).cell 0 rfl) .nil)
        · have hwe : wq2a = w' := (hw.trans (by kernel_rfl)).symm
          subst hwe
          obtain ⟨hOy, hq1, hpa, hqa, _⟩ := hH
          exact (.cons ((((hB54.drew : Blk w4.drew w2.heap.size 54 (#[.slice (some ⟨gr, 0, none⟩) N cr])).ext hq1 (by simp) : Blk wq1 w2.heap.size 54 (#[.slice (some ⟨gr, 0, none⟩) N cr])).ext hqa (by simp) : Blk wq2a w2.heap.size 54 (#[.slice (some ⟨gr, 0, none⟩) N cr])).cell 0 rfl) .nil)
      · intro h1 h2
        obtain rfl : e = 6 := Nat.le_antisymm h2 h1
        have hwe : wq3 = w' := (hw.trans (by kernel_rfl)).symm
        subst hwe
        obtain ⟨hOy, hq1, hpa, hqa, hpb, hqb, hq3, _⟩ := hH
        exact (.cons (as_ne_f (hcw)) .nil)
      · intro h1 h2
        obtain rfl : e = 8 := Nat.le_antisymm h2 h1
        have hwe : wq3 = w' := (hw.trans (by kernel_rfl)).symm
        subst hwe
        obtain ⟨hOy, hq1, hpa, hqa, hpb, hqb, hq3, _⟩ := hH
        exact (.cons (as_ne_f (hcl)) .nil)
      · intro h1 h2
        obtain rfl : e = 10 := Nat.le_antisymm h2 h1
        have hwe : wq3 = w' := (hw.trans (by kernel_rfl)).symm
        subst hwe
        obtain ⟨hOy, hq1, hpa, hqa, hpb, hqb, hq3, _⟩ := hH
        exact (.cons ((by simp [hcf])) .nil)
    · refine (.cons ?eq57_4 (.cons ?eq57_5 (.cons ?eq57_7 (.cons ?eq57_8 (.cons ?eq57_13 (.cons ?eq57_15 (.cons ?eq57_20 (.cons ?eq57_22 (.cons ?eq57_27 (.cons ?eq57_29 .nil))))))))))
      · rintro ⟨gy, cy, wq1, ba, ca, wq2a, bb, cb, wq2b, wq3⟩ hH
        clear hH
        refine eff_gh (w4.drew) (by kernel_rfl) ?_
        refine upon_call (f := 25) (vs := [.pointer (some ⟨y.b, 0, none⟩)]) (cap := #[]) (d := (some 53)) (by kernel_rfl) Try.call25 #[.pointer (some ⟨y.b, 0, none⟩)] (by kernel_rfl) (Rows_n (hY.ext ((Ext.refl [] _).drew) y (by simp)) hNyw (rowsOf_pre y 0)) ?_
        rintro _ wq1 ⟨gy, cy, rfl, hOy, hq1, _⟩
        exact ⟨_, rfl, ⟨(gy, cy, wq1, ba, ca, wq2a, bb, cb, wq2b, wq3), by kernel_rfl, by kernel_rfl, by kernel_rfl, ⟨hOy, hq1, trivial⟩⟩⟩
      · rintro ⟨gy, cy, wq1, ba, ca, wq2a, bb, cb, wq2b, wq3⟩ hH
        obtain ⟨hOy, hq1, _⟩ := hH
        refine eff_gh (wq1) (by kernel_rfl) ?_
        refine upon_call (f := 28) (vs := [.slice (some ⟨gy, 0, none⟩) N cy]) (cap := #[]) (d := (some 54)) (by kernel_rfl) Try.call28 #[.slice (some ⟨gy, 0, none⟩) N cy] (by kernel_rfl) (Plain_any (hOy : OwnR wq1 64 6 gy cy N (rowsT (pre y))) hNy (by omega)) ?_
        rintro _ wq2a ⟨ba, ca, rfl, hpa, hqa⟩
        exact ⟨_, rfl, ⟨(gy, cy, wq1, ba, ca, wq2a, bb, cb, wq2b, wq3), by kernel_rfl, by kernel_rfl, by kernel_rfl, ⟨hOy, hq1, hpa, hqa, trivial⟩⟩⟩
      · rintro ⟨gy, cy, wq1, ba, ca, wq2a, bb, cb, wq2b, wq3⟩ hH
        obtain ⟨hOy, hq1, hpa, hqa, _⟩ := hH
        refine eff_gh (wq2a) (by kernel_rfl) ?_
        refine upon_call (f := 28) (vs := [.slice (some ⟨gr, 0, none⟩) N cr]) (cap := #[]) (d := (some 56)) (by kernel_rfl) Try.call28 #[.slice (some ⟨gr, 0, none⟩) N cr] (by kernel_rfl) (Plain_any (((hB53.drew : OwnR w4.drew 64 6 gr cr N (rowsT (pre r.t))).ext hq1 (by simp) : OwnR wq1 64 6 gr cr N (rowsT (pre r.t))).ext hqa (by simp) : OwnR wq2a 64 6 gr cr N (rowsT (pre r.t))) hN (by omega)) ?_
        rintro _ wq2b ⟨bb, cb, rfl, hpb, hqb⟩
        exact ⟨_, rfl, ⟨(gy, cy, wq1, ba, ca, wq2a, bb, cb, wq2b, wq3), by kernel_rfl, by kernel_rfl, by kernel_rfl, ⟨hOy, hq1, hpa, hqa, (by rw [← hrow]; exact hpb), hqb, trivial⟩⟩⟩
      · rintro ⟨gy, cy, wq1, ba, ca, wq2a, bb, cb, wq2b, wq3⟩ hH
        obtain ⟨hOy, hq1, hpa, hqa, hpb, hqb, _⟩ := hH
        refine eff_gh (wq2b) (by kernel_rfl) ?_
        refine upon_call (f := 27) (vs := [.slice ba N ca, .slice bb N cb]) (cap := #[]) (d := (some 57)) (by kernel_rfl) Try.call27 #[.slice ba N ca, .slice bb N cb] (by kernel_rfl) (SameRows_eq ((hpa : OwnV wq2a 64 6 (.slice ba N ca) N (rowsP (pre y))).ext hqb (by simp) : OwnV wq2b 64 6 (.slice ba N ca) N (rowsP (pre y))) (hpb : OwnV wq2b 64 6 (.slice bb N cb) N (rowsP (pre y))) hNy (by omega)) ?_
        rintro _ wq3 ⟨rfl, hq3⟩
        exact ⟨_, rfl, ⟨(gy, cy, wq1, ba, ca, wq2a, bb, cb, wq2b, wq3), by kernel_rfl, by kernel_rfl, by kernel_rfl, ⟨hOy, hq1, hpa, hqa, hpb, hqb, hq3, trivial⟩⟩⟩
      · rintro ⟨gy, cy, wq1, ba, ca, wq2a, bb, cb, wq2b, wq3⟩ hH
        obtain ⟨hOy, hq1, hpa, hqa, hpb, hqb, hq3, _⟩ := hH
        refine eff_gh (wq3) (by kernel_rfl) ?_
        refine upon_call (f := 19) (vs := [.pointer (some ⟨y.b, 0, none⟩)]) (cap := #[]) (d := (some 62)) (by kernel_rfl) Try.call19 #[.pointer (some ⟨y.b, 0, none⟩)] (by kernel_rfl) (Width_any (((((hTy.drew : Blk w4.drew y.b 106 (#[.pointer (some ⟨sb, 0, none⟩), .int .i64 y.num, .int .i64 y.kd, .int .i64 y.nn, .int .i64 y.lk, .int .i64 y.ls, .int .i64 y.ll, .int .i64 y.lr, y.ks, .int .i64 y.wd, .int .i64 y.lf, .int .i64 y.tt, .bool y.fl])).ext hq1 (by simp) : Blk wq1 y.b 106 (#[.pointer (some ⟨sb, 0, none⟩), .int .i64 y.num, .int .i64 y.kd, .int .i64 y.nn, .int .i64 y.lk, .int .i64 y.ls, .int .i64 y.ll, .int .i64 y.lr, y.ks, .int .i64 y.wd, .int .i64 y.lf, .int .i64 y.tt, .bool y.fl])).ext hqa (by simp) : Blk wq2a y.b 106 (#[.pointer (some ⟨sb, 0, none⟩), .int .i64 y.num, .int .i64 y.kd, .int .i64 y.nn, .int .i64 y.lk, .int .i64 y.ls, .int .i64 y.ll, .int .i64 y.lr, y.ks, .int .i64 y.wd, .int .i64 y.lf, .int .i64 y.tt, .bool y.fl])).ext hqb (by simp) : Blk wq2b y.b 106 (#[.pointer (some ⟨sb, 0, none⟩), .int .i64 y.num, .int .i64 y.kd, .int .i64 y.nn, .int .i64 y.lk, .int .i64 y.ls, .int .i64 y.ll, .int .i64 y.lr, y.ks, .int .i64 y.wd, .int .i64 y.lf, .int .i64 y.tt, .bool y.fl])).ext hq3 (by simp) : Blk wq3 y.b 106 (#[.pointer (some ⟨sb, 0, none⟩), .int .i64 y.num, .int .i64 y.kd, .int .i64 y.nn, .int .i64 y.lk, .int .i64 y.ls, .int .i64 y.ll, .int .i64 y.lr, y.ks, .int .i64 y.wd, .int .i64 y.lf, .int .i64 y.tt, .bool y.fl]))) ?_
        rintro _ wq ⟨rfl, hwq⟩
        rw [hwq]
        exact ⟨_, rfl, ⟨(gy, cy, wq1, ba, ca, wq2a, bb, cb, wq2b, wq3), by kernel_rfl, by kernel_rfl, by kernel_rfl, ⟨hOy, hq1, hpa, hqa, hpb, hqb, hq3, trivial⟩⟩⟩
      · rintro ⟨gy, cy, wq1, ba, ca, wq2a, bb, cb, wq2b, wq3⟩ hH
        obtain ⟨hOy, hq1, hpa, hqa, hpb, hqb, hq3, _⟩ := hH
        refine eff_gh (wq3) (by kernel_rfl) ?_
        refine upon_call (f := 19) (vs := [.pointer (some ⟨r.t.b, 0, none⟩)]) (cap := #[]) (d := (some 64)) (by kernel_rfl) Try.call19 #[.pointer (some ⟨r.t.b, 0, none⟩)] (by kernel_rfl) (Width_any (((((hB52.drew : Blk w4.drew r.t.b 106 (#[.pointer (some ⟨(sOf F.s0 F.s1 r.k), 0, none⟩), .int .i64 r.t.num, .int .i64 r.t.kd, .int .i64 r.t.nn, .int .i64 r.t.lk, .int .i64 r.t.ls, .int .i64 r.t.ll, .int .i64 r.t.lr, r.t.ks, .int .i64 r.t.wd, .int .i64 r.t.lf, .int .i64 r.t.tt, .bool r.t.fl])).ext hq1 (by simp) : Blk wq1 r.t.b 106 (#[.pointer (some ⟨(sOf F.s0 F.s1 r.k), 0, none⟩), .int .i64 r.t.num, .int .i64 r.t.kd, .int .i64 r.t.nn, .int .i64 r.t.lk, .int .i64 r.t.ls, .int .i64 r.t.ll, .int .i64 r.t.lr, r.t.ks, .int .i64 r.t.wd, .int .i64 r.t.lf, .int .i64 r.t.tt, .bool r.t.fl])).ext hqa (by simp) : Blk wq2a r.t.b 106 (#[.pointer (some ⟨(sOf F.s0 F.s1 r.k), 0, none⟩), .int .i64 r.t.num, .int .i64 r.t.kd, .int .i64 r.t.nn, .int .i64 r.t.lk, .int .i64 r.t.ls, .int .i64 r.t.ll, .int .i64 r.t.lr, r.t.ks, .int .i64 r.t.wd, .int .i64 r.t.lf, .int .i64 r.t.tt, .bool r.t.fl])).ext hqb (by simp) : Blk wq2b r.t.b 106 (#[.pointer (some ⟨(sOf F.s0 F.s1 r.k), 0, none⟩), .int .i64 r.t.num, .int .i64 r.t.kd, .int .i64 r.t.nn, .int .i64 r.t.lk, .int .i64 r.t.ls, .int .i64 r.t.ll, .int .i64 r.t.lr, r.t.ks, .int .i64 r.t.wd, .int .i64 r.t.lf, .int .i64 r.t.tt, .bool r.t.fl])).ext hq3 (by simp) : Blk wq3 r.t.b 106 (#[.pointer (some ⟨(sOf F.s0 F.s1 r.k), 0, none⟩), .int .i64 r.t.num, .int .i64 r.t.kd, .int .i64 r.t.nn, .int .i64 r.t.lk, .int .i64 r.t.ls, .int .i64 r.t.ll, .int .i64 r.t.lr, r.t.ks, .int .i64 r.t.wd, .int .i64 r.t.lf, .int .i64 r.t.tt, .bool r.t.fl]))) ?_
        rintro _ wq ⟨rfl, hwq⟩
        rw [hwq]
        exact ⟨_, rfl, ⟨(gy, cy, wq1, ba, ca, wq2a, bb, cb, wq2b, wq3), by kernel_rfl, by kernel_rfl, by kernel_rfl, ⟨hOy, hq1, hpa, hqa, hpb, hqb, hq3, trivial⟩⟩⟩
      · rintro ⟨gy, cy, wq1, ba, ca, wq2a, bb, cb, wq2b, wq3⟩ hH
        obtain ⟨hOy, hq1, hpa, hqa, hpb, hqb, hq3, _⟩ := hH
        refine eff_gh (wq3) (by kernel_rfl) ?_
        refine upon_call (f := 21) (vs := [.pointer (some ⟨y.b, 0, none⟩)]) (cap := #[]) (d := (some 69)) (by kernel_rfl) Try.call21 #[.pointer (some ⟨y.b, 0, none⟩)] (by kernel_rfl) (Leafs_any (((((hTy.drew : Blk w4.drew y.b 106 (#[.pointer (some ⟨sb, 0, none⟩), .int .i64 y.num, .int .i64 y.kd, .int .i64 y.nn, .int .i64 y.lk, .int .i64 y.ls, .int .i64 y.ll, .int .i64 y.lr, y.ks, .int .i64 y.wd, .int .i64 y.lf, .int .i64 y.tt, .bool y.fl])).ext hq1 (by simp) : Blk wq1 y.b 106 (#[.pointer (some ⟨sb, 0, none⟩), .int .i64 y.num, .int .i64 y.kd, .int .i64 y.nn, .int .i64 y.lk, .int .i64 y.ls, .int .i64 y.ll, .int .i64 y.lr, y.ks, .int .i64 y.wd, .int .i64 y.lf, .int .i64 y.tt, .bool y.fl])).ext hqa (by simp) : Blk wq2a y.b 106 (#[.pointer (some ⟨sb, 0, none⟩), .int .i64 y.num, .int .i64 y.kd, .int .i64 y.nn, .int .i64 y.lk, .int .i64 y.ls, .int .i64 y.ll, .int .i64 y.lr, y.ks, .int .i64 y.wd, .int .i64 y.lf, .int .i64 y.tt, .bool y.fl])).ext hqb (by simp) : Blk wq2b y.b 106 (#[.pointer (some ⟨sb, 0, none⟩), .int .i64 y.num, .int .i64 y.kd, .int .i64 y.nn, .int .i64 y.lk, .int .i64 y.ls, .int .i64 y.ll, .int .i64 y.lr, y.ks, .int .i64 y.wd, .int .i64 y.lf, .int .i64 y.tt, .bool y.fl])).ext hq3 (by simp) : Blk wq3 y.b 106 (#[.pointer (some ⟨sb, 0, none⟩), .int .i64 y.num, .int .i64 y.kd, .int .i64 y.nn, .int .i64 y.lk, .int .i64 y.ls, .int .i64 y.ll, .int .i64 y.lr, y.ks, .int .i64 y.wd, .int .i64 y.lf, .int .i64 y.tt, .bool y.fl]))) ?_
        rintro _ wq ⟨rfl, hwq⟩
        rw [hwq]
        exact ⟨_, rfl, ⟨(gy, cy, wq1, ba, ca, wq2a, bb, cb, wq2b, wq3), by kernel_rfl, by kernel_rfl, by kernel_rfl, ⟨hOy, hq1, hpa, hqa, hpb, hqb, hq3, trivial⟩⟩⟩
      · rintro ⟨gy, cy, wq1, ba, ca, wq2a, bb, cb, wq2b, wq3⟩ hH
        obtain ⟨hOy, hq1, hpa, hqa, hpb, hqb, hq3, _⟩ := hH
        refine eff_gh (wq3) (by kernel_rfl) ?_
        refine upon_call (f := 21) (vs := [.pointer (some ⟨r.t.b, 0, none⟩)]) (cap := #[]) (d := (some 71)) (by kernel_rfl) Try.call21 #[.pointer (some ⟨r.t.b, 0, none⟩)] (by kernel_rfl) (Leafs_any (((((hB52.drew : Blk w4.drew r.t.b 106 (#[.pointer (some ⟨(sOf F.s0 F.s1 r.k), 0, none⟩), .int .i64 r.t.num, .int .i64 r.t.kd, .int .i64 r.t.nn, .int .i64 r.t.lk, .int .i64 r.t.ls, .int .i64 r.t.ll, .int .i64 r.t.lr, r.t.ks, .int .i64 r.t.wd, .int .i64 r.t.lf, .int .i64 r.t.tt, .bool r.t.fl])).ext hq1 (by simp) : Blk wq1 r.t.b 106 (#[.pointer (some ⟨(sOf F.s0 F.s1 r.k), 0, none⟩), .int .i64 r.t.num, .int .i64 r.t.kd, .int .i64 r.t.nn, .int .i64 r.t.lk, .int .i64 r.t.ls, .int .i64 r.t.ll, .int .i64 r.t.lr, r.t.ks, .int .i64 r.t.wd, .int .i64 r.t.lf, .int .i64 r.t.tt, .bool r.t.fl])).ext hqa (by simp) : Blk wq2a r.t.b 106 (#[.pointer (some ⟨(sOf F.s0 F.s1 r.k), 0, none⟩), .int .i64 r.t.num, .int .i64 r.t.kd, .int .i64 r.t.nn, .int .i64 r.t.lk, .int .i64 r.t.ls, .int .i64 r.t.ll, .int .i64 r.t.lr, r.t.ks, .int .i64 r.t.wd, .int .i64 r.t.lf, .int .i64 r.t.tt, .bool r.t.fl])).ext hqb (by simp) : Blk wq2b r.t.b 106 (#[.pointer (some ⟨(sOf F.s0 F.s1 r.k), 0, none⟩), .int .i64 r.t.num, .int .i64 r.t.kd, .int .i64 r.t.nn, .int .i64 r.t.lk, .int .i64 r.t.ls, .int .i64 r.t.ll, .int .i64 r.t.lr, r.t.ks, .int .i64 r.t.wd, .int .i64 r.t.lf, .int .i64 r.t.tt, .bool r.t.fl])).ext hq3 (by simp) : Blk wq3 r.t.b 106 (#[.pointer (some ⟨(sOf F.s0 F.s1 r.k), 0, none⟩), .int .i64 r.t.num, .int .i64 r.t.kd, .int .i64 r.t.nn, .int .i64 r.t.lk, .int .i64 r.t.ls, .int .i64 r.t.ll, .int .i64 r.t.lr, r.t.ks, .int .i64 r.t.wd, .int .i64 r.t.lf, .int .i64 r.t.tt, .bool r.t.fl]))) ?_
        rintro _ wq ⟨rfl, hwq⟩
        rw [hwq]
        exact ⟨_, rfl, ⟨(gy, cy, wq1, ba, ca, wq2a, bb, cb, wq2b, wq3), by kernel_rfl, by kernel_rfl, by kernel_rfl, ⟨hOy, hq1, hpa, hqa, hpb, hqb, hq3, trivial⟩⟩⟩
      · rintro ⟨gy, cy, wq1, ba, ca, wq2a, bb, cb, wq2b, wq3⟩ hH
        obtain ⟨hOy, hq1, hpa, hqa, hpb, hqb, hq3, _⟩ := hH
        refine eff_gh (wq3) (by kernel_rfl) ?_
        refine upon_call (f := 23) (vs := [.pointer (some ⟨y.b, 0, none⟩)]) (cap := #[]) (d := (some 76)) (by kernel_rfl) Try.call23 #[.pointer (some ⟨y.b, 0, none⟩)] (by kernel_rfl) (Failed_any (((((hTy.drew : Blk w4.drew y.b 106 (#[.pointer (some ⟨sb, 0, none⟩), .int .i64 y.num, .int .i64 y.kd, .int .i64 y.nn, .int .i64 y.lk, .int .i64 y.ls, .int .i64 y.ll, .int .i64 y.lr, y.ks, .int .i64 y.wd, .int .i64 y.lf, .int .i64 y.tt, .bool y.fl])).ext hq1 (by simp) : Blk wq1 y.b 106 (#[.pointer (some ⟨sb, 0, none⟩), .int .i64 y.num, .int .i64 y.kd, .int .i64 y.nn, .int .i64 y.lk, .int .i64 y.ls, .int .i64 y.ll, .int .i64 y.lr, y.ks, .int .i64 y.wd, .int .i64 y.lf, .int .i64 y.tt, .bool y.fl])).ext hqa (by simp) : Blk wq2a y.b 106 (#[.pointer (some ⟨sb, 0, none⟩), .int .i64 y.num, .int .i64 y.kd, .int .i64 y.nn, .int .i64 y.lk, .int .i64 y.ls, .int .i64 y.ll, .int .i64 y.lr, y.ks, .int .i64 y.wd, .int .i64 y.lf, .int .i64 y.tt, .bool y.fl])).ext hqb (by simp) : Blk wq2b y.b 106 (#[.pointer (some ⟨sb, 0, none⟩), .int .i64 y.num, .int .i64 y.kd, .int .i64 y.nn, .int .i64 y.lk, .int .i64 y.ls, .int .i64 y.ll, .int .i64 y.lr, y.ks, .int .i64 y.wd, .int .i64 y.lf, .int .i64 y.tt, .bool y.fl])).ext hq3 (by simp) : Blk wq3 y.b 106 (#[.pointer (some ⟨sb, 0, none⟩), .int .i64 y.num, .int .i64 y.kd, .int .i64 y.nn, .int .i64 y.lk, .int .i64 y.ls, .int .i64 y.ll, .int .i64 y.lr, y.ks, .int .i64 y.wd, .int .i64 y.lf, .int .i64 y.tt, .bool y.fl]))) ?_
        rintro _ wq ⟨rfl, hwq⟩
        rw [hwq]
        exact ⟨_, rfl, ⟨(gy, cy, wq1, ba, ca, wq2a, bb, cb, wq2b, wq3), by kernel_rfl, by kernel_rfl, by kernel_rfl, ⟨hOy, hq1, hpa, hqa, hpb, hqb, hq3, trivial⟩⟩⟩
      · rintro ⟨gy, cy, wq1, ba, ca, wq2a, bb, cb, wq2b, wq3⟩ hH
        obtain ⟨hOy, hq1, hpa, hqa, hpb, hqb, hq3, _⟩ := hH
        refine eff_gh (wq3) (by kernel_rfl) ?_
        refine upon_call (f := 23) (vs := [.pointer (some ⟨r.t.b, 0, none⟩)]) (cap := #[]) (d := (some 78)) (by kernel_rfl) Try.call23 #[.pointer (some ⟨r.t.b, 0, none⟩)] (by kernel_rfl) (Failed_any (((((hB52.drew : Blk w4.drew r.t.b 106 (#[.pointer (some ⟨(sOf F.s0 F.s1 r.k), 0, none⟩), .int .i64 r.t.num, .int .i64 r.t.kd, .int .i64 r.t.nn, .int .i64 r.t.lk, .int .i64 r.t.ls, .int .i64 r.t.ll, .int .i64 r.t.lr, r.t.ks, .int .i64 r.t.wd, .int .i64 r.t.lf, .int .i64 r.t.tt, .bool r.t.fl])).ext hq1 (by simp) : Blk wq1 r.t.b 106 (#[.pointer (some ⟨(sOf F.s0 F.s1 r.k), 0, none⟩), .int .i64 r.t.num, .int .i64 r.t.kd, .int .i64 r.t.nn, .int .i64 r.t.lk, .int .i64 r.t.ls, .int .i64 r.t.ll, .int .i64 r.t.lr, r.t.ks, .int .i64 r.t.wd, .int .i64 r.t.lf, .int .i64 r.t.tt, .bool r.t.fl])).ext hqa (by simp) : Blk wq2a r.t.b 106 (#[.pointer (some ⟨(sOf F.s0 F.s1 r.k), 0, none⟩), .int .i64 r.t.num, .int .i64 r.t.kd, .int .i64 r.t.nn, .int .i64 r.t.lk, .int .i64 r.t.ls, .int .i64 r.t.ll, .int .i64 r.t.lr, r.t.ks, .int .i64 r.t.wd, .int .i64 r.t.lf, .int .i64 r.t.tt, .bool r.t.fl])).ext hqb (by simp) : Blk wq2b r.t.b 106 (#[.pointer (some ⟨(sOf F.s0 F.s1 r.k), 0, none⟩), .int .i64 r.t.num, .int .i64 r.t.kd, .int .i64 r.t.nn, .int .i64 r.t.lk, .int .i64 r.t.ls, .int .i64 r.t.ll, .int .i64 r.t.lr, r.t.ks, .int .i64 r.t.wd, .int .i64 r.t.lf, .int .i64 r.t.tt, .bool r.t.fl])).ext hq3 (by simp) : Blk wq3 r.t.b 106 (#[.pointer (some ⟨(sOf F.s0 F.s1 r.k), 0, none⟩), .int .i64 r.t.num, .int .i64 r.t.kd, .int .i64 r.t.nn, .int .i64 r.t.lk, .int .i64 r.t.ls, .int .i64 r.t.ll, .int .i64 r.t.lr, r.t.ks, .int .i64 r.t.wd, .int .i64 r.t.lf, .int .i64 r.t.tt, .bool r.t.fl]))) ?_
        rintro _ wq ⟨rfl, hwq⟩
        rw [hwq]
        exact ⟨_, rfl, ⟨(gy, cy, wq1, ba, ca, wq2a, bb, cb, wq2b, wq3), by kernel_rfl, by kernel_rfl, by kernel_rfl, ⟨hOy, hq1, hpa, hqa, hpb, hqb, hq3, trivial⟩⟩⟩
    rintro ⟨gy, cy, wq1, ba, ca, wq2a, bb, cb, wq2b, wq3⟩ a w58 hS hw59 hH
    obtain ⟨hOy, hq1, hpa, hqa, hpb, hqb, hq3, _⟩ := hH
    replace hw59 : w58 = wq3 := hw59.trans (by kernel_rfl)
    have hB60 := Blk.at' hw59 (((((hB51.drew : Blk w4.drew w.heap.size 4 (#[.bool false])).ext hq1 (by simp) : Blk wq1 w.heap.size 4 (#[.bool false])).ext hqa (by simp) : Blk wq2a w.heap.size 4 (#[.bool false])).ext hqb (by simp) : Blk wq2b w.heap.size 4 (#[.bool false])).ext hq3 (by simp))
    have hB61 := Blk.at' hw59 (((((hB52.drew : Blk w4.drew r.t.b 106 (#[.pointer (some ⟨(sOf F.s0 F.s1 r.k), 0, none⟩), .int .i64 r.t.num, .int .i64 r.t.kd, .int .i64 r.t.nn, .int .i64 r.t.lk, .int .i64 r.t.ls, .int .i64 r.t.ll, .int .i64 r.t.lr, r.t.ks, .int .i64 r.t.wd, .int .i64 r.t.lf, .int .i64 r.t.tt, .bool r.t.fl])).ext hq1 (by simp) : Blk wq1 r.t.b 106 (#[.pointer (some ⟨(sOf F.s0 F.s1 r.k), 0, none⟩), .int .i64 r.t.num, .int .i64 r.t.kd, .int .i64 r.t.nn, .int .i64 r.t.lk, .int .i64 r.t.ls, .int .i64 r.t.ll, .int .i64 r.t.lr, r.t.ks, .int .i64 r.t.wd, .int .i64 r.t.lf, .int .i64 r.t.tt, .bool r.t.fl])).ext hqa (by simp) : Blk wq2a r.t.b 106 (#[.pointer (some ⟨(sOf F.s0 F.s1 r.k), 0, none⟩), .int .i64 r.t.num, .int .i64 r.t.kd, .int .i64 r.t.nn, .int .i64 r.t.lk, .int .i64 r.t.ls, .int .i64 r.t.ll, .int .i64 r.t.lr, r.t.ks, .int .i64 r.t.wd, .int .i64 r.t.lf, .int .i64 r.t.tt, .bool r.t.fl])).ext hqb (by simp) : Blk wq2b r.t.b 106 (#[.pointer (some ⟨(sOf F.s0 F.s1 r.k), 0, none⟩), .int .i64 r.t.num, .int .i64 r.t.kd, .int .i64 r.t.nn, .int .i64 r.t.lk, .int .i64 r.t.ls, .int .i64 r.t.ll, .int .i64 r.t.lr, r.t.ks, .int .i64 r.t.wd, .int .i64 r.t.lf, .int .i64 r.t.tt, .bool r.t.fl])).ext hq3 (by simp))
    have hB62 := OwnR.at' hw59 (((((hB53.drew : OwnR w4.drew 64 6 gr cr N (rowsT (pre r.t))).ext hq1 (by simp) : OwnR wq1 64 6 gr cr N (rowsT (pre r.t))).ext hqa (by simp) : OwnR wq2a 64 6 gr cr N (rowsT (pre r.t))).ext hqb (by simp) : OwnR wq2b 64 6 gr cr N (rowsT (pre r.t))).ext hq3 (by simp))
    have hB63 := Blk.at' hw59 (((((hB54.drew : Blk w4.drew w2.heap.size 54 (#[.slice (some ⟨gr, 0, none⟩) N cr])).ext hq1 (by simp) : Blk wq1 w2.heap.size 54 (#[.slice (some ⟨gr, 0, none⟩) N cr])).ext hqa (by simp) : Blk wq2a w2.heap.size 54 (#[.slice (some ⟨gr, 0, none⟩) N cr])).ext hqb (by simp) : Blk wq2b w2.heap.size 54 (#[.slice (some ⟨gr, 0, none⟩) N cr])).ext hq3 (by simp))
    have hB64 := Blk.at' hw59 (((((hTy.drew : Blk w4.drew y.b 106 (#[.pointer (some ⟨sb, 0, none⟩), .int .i64 y.num, .int .i64 y.kd, .int .i64 y.nn, .int .i64 y.lk, .int .i64 y.ls, .int .i64 y.ll, .int .i64 y.lr, y.ks, .int .i64 y.wd, .int .i64 y.lf, .int .i64 y.tt, .bool y.fl])).ext hq1 (by simp) : Blk wq1 y.b 106 (#[.pointer (some ⟨sb, 0, none⟩), .int .i64 y.num, .int .i64 y.kd, .int .i64 y.nn, .int .i64 y.lk, .int .i64 y.ls, .int .i64 y.ll, .int .i64 y.lr, y.ks, .int .i64 y.wd, .int .i64 y.lf, .int .i64 y.tt, .bool y.fl])).ext hqa (by simp) : Blk wq2a y.b 106 (#[.pointer (some ⟨sb, 0, none⟩), .int .i64 y.num, .int .i64 y.kd, .int .i64 y.nn, .int .i64 y.lk, .int .i64 y.ls, .int .i64 y.ll, .int .i64 y.lr, y.ks, .int .i64 y.wd, .int .i64 y.lf, .int .i64 y.tt, .bool y.fl])).ext hqb (by simp) : Blk wq2b y.b 106 (#[.pointer (some ⟨sb, 0, none⟩), .int .i64 y.num, .int .i64 y.kd, .int .i64 y.nn, .int .i64 y.lk, .int .i64 y.ls, .int .i64 y.ll, .int .i64 y.lr, y.ks, .int .i64 y.wd, .int .i64 y.lf, .int .i64 y.tt, .bool y.fl])).ext hq3 (by simp))
    have hB65 : OwnR w58 64 6 gy cy N (rowsT (pre y)) := by rw [hw59]; exact (((hOy : OwnR wq1 64 6 gy cy N (rowsT (pre y))).ext hqa (by simp) : OwnR wq2a 64 6 gy cy N (rowsT (pre y))).ext hqb (by simp) : OwnR wq2b 64 6 gy cy N (rowsT (pre y))).ext hq3 (by simp)
    have hB66 : OwnV w58 64 6 (.slice ba N ca) N (rowsP (pre y)) := by rw [hw59]; exact ((hpa : OwnV wq2a 64 6 (.slice ba N ca) N (rowsP (pre y))).ext hqb (by simp) : OwnV wq2b 64 6 (.slice ba N ca) N (rowsP (pre y))).ext hq3 (by simp)
    have hB67 : OwnV w58 64 6 (.slice bb N cb) N (rowsP (pre y)) := by rw [hw59]; exact (hpb : OwnV wq2b 64 6 (.slice bb N cb) N (rowsP (pre y))).ext hq3 (by simp)
    have hE68 : Ext [] w w58 := by rw [hw59]; exact ((((hE4.drew).trans0 hq1).trans0 hqa).trans0 hqb).trans0 hq3
    have hX69 : Ext [] w4 w58 := by rw [hw59]; exact (((((Ext.refl _ _).drew).trans0 hq1).trans0 hqa).trans0 hqb).trans0 hq3
    have hG70 : r.t.Ok w58 (sOf F.s0 F.s1 r.k) := hx4.ext hX69 _ (by simp)
    replace hS := hS.keepTo [0, 2, 3, 4, 26, 5, 30, 6, 7, 8, 42, 9, 10, 80] (m' := [(0, v), (2, .pointer (some ⟨w.heap.size, 0, none⟩)), (3, .pointer (some ⟨F.fb, 0, none⟩)), (4, .bool true), (26, .bool false), (5, .int .i64 ↑i), (30, .bool false), (6, .pointer (some ⟨r.t.b, 0, none⟩)), (7, .pointer (some ⟨w2.heap.size, 0, none⟩)), (8, .pointer (some ⟨sb, 0, none⟩)), (42, .bool false), (9, .pointer (some ⟨y.b, 0, none⟩)), (10, .bool true), (80, .bool false)]) (by kernel_rfl)
    refine hK56 _ _ ?_
    refine cond_f hS rfl ?_
    refine wpIn_skip ?_
    refine hK55 _ _ ?_
    refine wpIn_seq_k fun K71 hK71 => ?_
    refine region 3 (by kernel_rfl) ?_
    refine seg wide_wide [.p] [0, 2, 3, 4, 26, 5, 30, 6, 7, 8, 42, 9, 10, 80, 81] [] [(0, v), (2, .pointer (some ⟨w.heap.size, 0, none⟩)), (3, .pointer (some ⟨F.fb, 0, none⟩)), (4, .bool true), (26, .bool false), (5, .int .i64 ↑i), (30, .bool false), (6, .pointer (some ⟨r.t.b, 0, none⟩)), (7, .pointer (some ⟨w2.heap.size, 0, none⟩)), (8, .pointer (some ⟨sb, 0, none⟩)), (42, .bool false), (9, .pointer (some ⟨y.b, 0, none⟩)), (10, .bool true), (80, .bool false), (81, .pointer (some ⟨r.t.b, 0, none⟩))] 1 2 hS (by kernel_rfl) (by kernel_rfl) (by kernel_rfl) .nil fun a hS => ?_
    refine eff_call wide_wide (r := 1) (f := 29) (vs := [.pointer (some ⟨r.t.b, 0, none⟩)]) (cap := #[]) (d := (some 82)) hS (by kernel_rfl) Try.call29 #[.pointer (some ⟨r.t.b, 0, none⟩)] (by kernel_rfl) (Walk_any r.t.b w58) ?_
    rintro _ wi1 ⟨rfl, hw72⟩
    refine ⟨_, rfl, fun a hS => ?_⟩
    have hEwi1 : Ext [] w58 wi1 := by rw [hw72]; exact (Ext.refl _ _).alloc _
    have hXwi1 : Blk wi1 w58.heap.size 47 #[pv r.t.b] := by rw [hw72]; exact Blk.new _ _ _
    have hFwi1 := hE68.trans0 hEwi1
    have hnwi1 : w.heap.size ≤ w58.heap.size := hE68.size
    have hB73 := hB60.ext hEwi1 (by simp)
    have hB74 := hB61.ext hEwi1 (by simp)
    have hB75 := hB62.ext hEwi1 (by simp)
    have hB76 := hB63.ext hEwi1 (by simp)
    have hB77 := hB64.ext hEwi1 (by simp)
    have hB78 := hB65.ext hEwi1 (by simp)
    have hB79 := hB66.ext hEwi1 (by simp)
    have hB80 := hB67.ext hEwi1 (by simp)
    have hG81 : r.t.Ok wi1 (sOf F.s0 F.s1 r.k) := hG70.ext hEwi1 _ (by simp)
    obtain ⟨bx, hebx⟩ : ∃ x, x = w58.heap.size := ⟨_, rfl⟩
    rw [← hebx] at hS hXwi1 hnwi1
    refine seg wide_wide [.p] [0, 2, 3, 4, 26, 5, 30, 6, 7, 8, 42, 9, 10, 80, 11] [] [(0, v), (2, .pointer (some ⟨w.heap.size, 0, none⟩)), (3, .pointer (some ⟨F.fb, 0, none⟩)), (4, .bool true), (26, .bool false), (5, .int .i64 ↑i), (30, .bool false), (6, .pointer (some ⟨r.t.b, 0, none⟩)), (7, .pointer (some ⟨w2.heap.size, 0, none⟩)), (8, .pointer (some ⟨sb, 0, none⟩)), (42, .bool false), (9, .pointer (some ⟨y.b, 0, none⟩)), (10, .bool true), (80, .bool false), (11, .func (.func 55) #[] #[.pointer (some ⟨bx, 0, none⟩)])] 3 0 hS (by kernel_rfl) (by kernel_rfl) (by kernel_rfl) .nil fun a hS => ?_
    refine seg_end ?_
    refine hK71 _ _ ?_
    refine wpIn_seq_k fun K82 hK82 => ?_
    refine region 3 (by kernel_rfl) ?_
    refine seg wide_wide [.p] [0, 2, 3, 4, 26, 5, 30, 6, 7, 8, 42, 9, 10, 80, 11, 83] [] [(0, v), (2, .pointer (some ⟨w.heap.size, 0, none⟩)), (3, .pointer (some ⟨F.fb, 0, none⟩)), (4, .bool true), (26, .bool false), (5, .int .i64 ↑i), (30, .bool false), (6, .pointer (some ⟨r.t.b, 0, none⟩)), (7, .pointer (some ⟨w2.heap.size, 0, none⟩)), (8, .pointer (some ⟨sb, 0, none⟩)), (42, .bool false), (9, .pointer (some ⟨y.b, 0, none⟩)), (10, .bool true), (80, .bool false), (11, .func (.func 55) #[] #[.pointer (some ⟨bx, 0, none⟩)]), (83, .pointer (some ⟨r.t.b, 0, none⟩))] 1 2 hS (by kernel_rfl) (by kernel_rfl) (by kernel_rfl) .nil fun a hS => ?_
    refine eff_call wide_wide (r := 1) (f := 30) (vs := [.pointer (some ⟨r.t.b, 0, none⟩)]) (cap := #[]) (d := (some 84)) hS (by kernel_rfl) Try.call30 #[.pointer (some ⟨r.t.b, 0, none⟩)] (by kernel_rfl) (Leaves_any r.t.b wi1) ?_
    rintro _ wi2 ⟨rfl, hw83⟩
    refine ⟨_, rfl, fun a hS => ?_⟩
    have hEwi2 : Ext [] wi1 wi2 := by rw [hw83]; exact (Ext.refl _ _).alloc _
    have hXwi2 : Blk wi2 wi1.heap.size 47 #[pv r.t.b] := by rw [hw83]; exact Blk.new _ _ _
    have hFwi2 := hFwi1.trans0 hEwi2
    have hnwi2 : w.heap.size ≤ wi1.heap.size := hFwi1.size
    have hB84 := hB73.ext hEwi2 (by simp)
    have hB85 := hB74.ext hEwi2 (by simp)
    have hB86 := hB75.ext hEwi2 (by simp)
    have hB87 := hB76.ext hEwi2 (by simp)
    have hB88 := hB77.ext hEwi2 (by simp)
    have hB89 := hB78.ext hEwi2 (by simp)
    have hB90 := hB79.ext hEwi2 (by simp)
    have hB91 := hB80.ext hEwi2 (by simp)
    have hB92 := hXwi1.ext hEwi2 (by simp)
    have hG93 : r.t.Ok wi2 (sOf F.s0 F.s1 r.k) := hG81.ext hEwi2 _ (by simp)
    obtain ⟨by_, heby_⟩ : ∃ x, x = wi1.heap.size := ⟨_, rfl⟩
    rw [← heby_] at hS hXwi2 hnwi2
    refine seg wide_wide [.p] [0, 2, 3, 4, 26, 5, 30, 6, 7, 8, 42, 9, 10, 80, 11, 12] [] [(0, v), (2, .pointer (some ⟨w.heap.size, 0, none⟩)), (3, .pointer (some ⟨F.fb, 0, none⟩)), (4, .bool true), (26, .bool false), (5, .int .i64 ↑i), (30, .bool false), (6, .pointer (some ⟨r.t.b, 0, none⟩)), (7, .pointer (some ⟨w2.heap.size, 0, none⟩)), (8, .pointer (some ⟨sb, 0, none⟩)), (42, .bool false), (9, .pointer (some ⟨y.b, 0, none⟩)), (10, .bool true), (80, .bool false), (11, .func (.func 55) #[] #[.pointer (some ⟨bx, 0, none⟩)]), (12, .func (.func 57) #[] #[.pointer (some ⟨by_, 0, none⟩)])] 3 0 hS (by kernel_rfl) (by kernel_rfl) (by kernel_rfl) .nil fun a hS => ?_
    refine seg_end ?_
    refine hK82 _ _ ?_
    refine wpIn_seq_k fun K94 hK94 => ?_
    refine wpIn_seq_k fun K95 hK95 => ?_
    refine region 6 (by kernel_rfl) ?_
    refine seg wide_wide [.p, .p, .p, .p, .p, .p] [0, 2, 3, 4, 26, 5, 30, 6, 7, 8, 42, 9, 10, 80, 11, 12, 90] [] [(0, v), (2, .pointer (some ⟨w.heap.size, 0, none⟩)), (3, .pointer (some ⟨F.fb, 0, none⟩)), (4, .bool true), (26, .bool false), (5, .int .i64 ↑i), (30, .bool false), (6, .pointer (some ⟨r.t.b, 0, none⟩)), (7, .pointer (some ⟨w2.heap.size, 0, none⟩)), (8, .pointer (some ⟨sb, 0, none⟩)), (42, .bool false), (9, .pointer (some ⟨y.b, 0, none⟩)), (10, .bool true), (80, .bool false), (11, .func (.func 55) #[] #[.pointer (some ⟨bx, 0, none⟩)]), (12, .func (.func 57) #[] #[.pointer (some ⟨by_, 0, none⟩)]), (90, .bool false)] 6 0 hS (by kernel_rfl) (by kernel_rfl) (by kernel_rfl) .nil fun a hS => ?_
    refine seg_end ?_
    refine hK95 _ _ ?_
    refine cond_f hS rfl ?_
    refine wpIn_skip ?_
    refine hK94 _ _ ?_
    refine wpIn_seq_k fun K96 hK96 => ?_
    refine region 2 (by kernel_rfl) ?_
    refine eff_box wide_wide (r := 1) (cs := #[.int .i64 0]) (T := 3) (d := (some 13)) hS (by kernel_rfl) fun a w97 hw98 hS => ?_
    have hn99 : w.heap.size ≠ wi2.heap.size := Nat.ne_of_lt hB84.lt
    have hn100 : r.t.b ≠ wi2.heap.size := Nat.ne_of_lt hB85.lt
    have hn101 : gr ≠ wi2.heap.size := Nat.ne_of_lt hB86.lt
    have hn102 : w2.heap.size ≠ wi2.heap.size := Nat.ne_of_lt hB87.lt
    have hn103 : y.b ≠ wi2.heap.size := Nat.ne_of_lt hB88.lt
    have hn104 : gy ≠ wi2.heap.size := Nat.ne_of_lt hB89.lt
    have hn105 : ∀ x ∈ ob (.slice ba N ca), wi2.heap.size ≠ x := fun x hx => Nat.ne_of_gt (hB90.lie x hx)
    have hn106 : ∀ x ∈ ob (.slice bb N cb), wi2.heap.size ≠ x := fun x hx => Nat.ne_of_gt (hB91.lie x hx)
    have hn107 : bx ≠ wi2.heap.size := Nat.ne_of_lt hB92.lt
    have hn108 : by_ ≠ wi2.heap.size := Nat.ne_of_lt hXwi2.lt
    have hB109 := Blk.at' hw98 (hB84.alloc _)
    have hB110 := Blk.at' hw98 (hB85.alloc _)
    have hB111 := OwnR.at' hw98 (hB86.alloc _)
    have hB112 := Blk.at' hw98 (hB87.alloc _)
    have hB113 := Blk.at' hw98 (hB88.alloc _)
    have hB114 := OwnR.at' hw98 (hB89.alloc _)
    have hB115 := OwnV.at' hw98 (hB90.alloc _)
    have hB116 := OwnV.at' hw98 (hB91.alloc _)
    have hB117 := Blk.at' hw98 (hB92.alloc _)
    have hB118 := Blk.at' hw98 (hXwi2.alloc _)
    have hX119 : Ext [] wi2 w97 := by rw [hw98]; exact (Ext.refl _ _).alloc _
    have hG120 : r.t.Ok w97 (sOf F.s0 F.s1 r.k) := hG93.ext hX119 _ (by simp)
    have hB121 : Blk w97 (wi2.heap.size) 3 #[.int .i64 0] := by rw [hw98]; exact Blk.new _ _ _
    have hs122 : w.heap.size ≤ wi2.heap.size := hFwi2.size
    have hE123 : Ext [] w w97 := by rw [hw98]; exact hFwi2.alloc _
    refine eff_store wide_wide (r := 0) (b := wi2.heap.size) (off := 0) (vs := [.int .i64 0]) hS (by kernel_rfl) hB121 (by simp) fun a w124 hw125 hS => ?_
    have hB126 := Blk.at' hw125 (hB109.updNe (Ne.symm hn99) _ _)
    have hB127 := Blk.at' hw125 (hB110.updNe (Ne.symm hn100) _ _)
    have hB128 := OwnR.at' hw125 (hB111.updNe (Ne.symm hn101) _ _)
    have hB129 := Blk.at' hw125 (hB112.updNe (Ne.symm hn102) _ _)
    have hB130 := Blk.at' hw125 (hB113.updNe (Ne.symm hn103) _ _)
    have hB131 := OwnR.at' hw125 (hB114.updNe (Ne.symm hn104) _ _)
    have hB132 := OwnV.at' hw125 (hB115.updNe hn105 _ _)
    have hB133 := OwnV.at' hw125 (hB116.updNe hn106 _ _)
    have hB134 := Blk.at' hw125 (hB117.updNe (Ne.symm hn107) _ _)
    have hB135 := Blk.at' hw125 (hB118.updNe (Ne.symm hn108) _ _)
    have hB136 : Blk w124 wi2.heap.size 3 (#[.int .i64 0]) := by rw [hw125]; exact hB121.upd _ _
    have hX137 : Ext [wi2.heap.size] w97 w124 := by rw [hw125]; exact (Ext.refl _ _).updIn (.inl (by simp)) _ _
    have hG138 : r.t.Ok w124 (sOf F.s0 F.s1 r.k) := hG120.ext hX137 _ (fun b hb => by simp at hb; subst hb; exact hG120.not_foot hB121 (by decide) (by decide))
    have hE139 : Ext [] w w124 := by rw [hw125]; exact hE123.updIn (.inr hs122) _ _
    refine seg_end ?_
    refine hK96 _ _ ?_
    refine wpIn_seq_k fun K140 hK140 => ?_
    refine wpIn_seq_k fun K141 hK141 => ?_
    refine region 1 (by kernel_rfl) ?_
    refine seg wide_wide [.p] [0, 2, 3, 4, 26, 5, 30, 6, 7, 8, 42, 9, 10, 80, 11, 12, 90, 13, 91] [] [(0, v), (2, .pointer (some ⟨w.heap.size, 0, none⟩)), (3, .pointer (some ⟨F.fb, 0, none⟩)), (4, .bool true), (26, .bool false), (5, .int .i64 ↑i), (30, .bool false), (6, .pointer (some ⟨r.t.b, 0, none⟩)), (7, .pointer (some ⟨w2.heap.size, 0, none⟩)), (8, .pointer (some ⟨sb, 0, none⟩)), (42, .bool false), (9, .pointer (some ⟨y.b, 0, none⟩)), (10, .bool true), (80, .bool false), (11, .func (.func 55) #[] #[.pointer (some ⟨bx, 0, none⟩)]), (12, .func (.func 57) #[] #[.pointer (some ⟨by_, 0, none⟩)]), (90, .bool false), (13, .pointer (some ⟨wi2.heap.size, 0, none⟩)), (91, .func (.func 55) #[] #[.pointer (some ⟨bx, 0, none⟩)])] 1 0 hS (by kernel_rfl) (by kernel_rfl) (by kernel_rfl) .nil fun a hS => ?_
    refine seg_end ?_
    refine hK141 _ _ ?_
    refine wpIn_block ?_
    replace hS := hS.keepTo [2, 6, 7, 12, 13, 91] (m' := [(2, .pointer (some ⟨w.heap.size, 0, none⟩)), (6, .pointer (some ⟨r.t.b, 0, none⟩)), (7, .pointer (some ⟨w2.heap.size, 0, none⟩)), (12, .func (.func 57) #[] #[.pointer (some ⟨by_, 0, none⟩)]), (13, .pointer (some ⟨wi2.heap.size, 0, none⟩)), (91, .func (.func 55) #[] #[.pointer (some ⟨bx, 0, none⟩)])]) (by kernel_rfl)
    have hNrb := hB126
    obtain ⟨rb, herb⟩ : ∃ x, x = w.heap.size := ⟨_, rfl⟩
    rw [← herb] at hS hNrb
    have hwrb : w.heap.size ≤ rb := by rw [herb]; exact hs5
    have hNvb := hB129
    obtain ⟨vb, hevb⟩ : ∃ x, x = w2.heap.size := ⟨_, rfl⟩
    rw [← hevb] at hS hNvb
    have hwvb : w.heap.size ≤ vb := by rw [hevb]; exact hs30
    have hNkb := hB136
    obtain ⟨kb, hekb⟩ : ∃ x, x = wi2.heap.size := ⟨_, rfl⟩
    rw [← hekb] at hS hNkb
    have hwkb : w.heap.size ≤ kb := by rw [hekb]; exact hs122
    have hnertbkb : r.t.b ≠ kb := (by rw [hekb]; exact hn100)
    have hnegrkb : gr ≠ kb := (by rw [hekb]; exact hn101)
    have hnebxkb : bx ≠ kb := (by rw [hekb]; exact hn107)
    have hneby_kb : by_ ≠ kb := (by rw [hekb]; exact hn108)
    have hnerbkb : rb ≠ kb := (by rw [hekb]; exact (by rw [herb]; exact hn99))
    have hnevbkb : vb ≠ kb := (by rw [hekb]; exact (by rw [hevb]; exact hn102))
    refine range_out (gf := 55) (lb := #[pv bx]) (enc := encW) (xs := (walk r.t 0)) (T := fun b => b = bx ∨ r.t.Foot b)
      (fun pr Cx W => Cx = [kb] ∧ Blk W kb 3 #[.int .i64 (pr.length : Int)])
      (fun _ _ _ _ => False) [kb] (fun q => [(2, .pointer (some ⟨rb, 0, none⟩)), (6, .pointer (some ⟨r.t.b, 0, none⟩)), (7, .pointer (some ⟨vb, 0, none⟩)), (12, .func (.func 57) #[] #[.pointer (some ⟨by_, 0, none⟩)]), (13, .pointer (some ⟨kb, 0, none⟩)), (15, .pointer (some ⟨q.2.b, 0, none⟩))]) hS rfl Try.call55 ?_ ?_ ?_ ?_ (fun _ => rfl) rfl ?_ ?_ ?_ ?_ ?_ ?_ ?_
    · intro W hEW _
      exact Walk1_any (hB134.ext hEW (by simp)) (hG138.ext hEW r.t (by simp))
    · rintro b (rfl | hb)
      · exact hB134.lt
      · exact hG138.foot_lt hb
    · intro b hb hT
      rcases hT with hT | hT
      · exact hnebxkb (by rw [← hT]; simpa using hb)
      · obtain rfl : b = kb := by simpa using hb
        exact hG138.not_foot hNkb (by decide) (by decide) hT
    · intro b hb
      obtain rfl : b = kb := by simpa using hb
      exact hNkb.lt
    · rintro s Cx M W W' ⟨rfl, h1⟩ hE hM
      exact ⟨rfl, h1.ext hE (fun hm => (hM _ hm).2 (by simp))⟩
    · intro c s Cx M W W' h; exact h.elim
    · exact ⟨rfl, hNkb⟩
    · intro l2 q a' W K hS hK
      refine region 1 (by kernel_rfl) ?_
      refine seg (wide_wide.inRound l2) [.p] [2, 6, 7, 12, 13, 93, 15] [] [(2, .pointer (some ⟨rb, 0, none⟩)), (6, .pointer (some ⟨r.t.b, 0, none⟩)), (7, .pointer (some ⟨vb, 0, none⟩)), (12, .func (.func 57) #[] #[.pointer (some ⟨by_, 0, none⟩)]), (13, .pointer (some ⟨kb, 0, none⟩)), (93, q.2.ptr), (15, q.2.ptr)] 1 0 hS (by kernel_rfl) (by kernel_rfl) (by kernel_rfl) .nil fun a hS => ?_
      refine seg_end ?_
      exact hK _ (hS.keepTo [2, 6, 7, 12, 13, 15] (by kernel_rfl))
    · rintro l2 pr ⟨qp, tq⟩ post Cx W a hxs2 ⟨rfl, hkbW⟩ hlieW hfrW hnl hrec hEW hS
      have hWW : Ext [kb] W W := Ext.refl _ _
      have hxW := hG138.ext hEW r.t (fun b hb hf => by
        obtain rfl : b = kb := by simpa using hb
        exact hG138.not_foot hNkb (by decide) (by decide) hf)
      have hkl : pr.length < N := by
        have := congrArg List.length hxs2
        rw [hNw] at this
        simp at this
        omega
      have hqx : (pre r.t)[pr.length]? = some tq := by rw [← walk_pre r.t 0, hxs2]; simp
      have hqo : tq.Ok W (sOf F.s0 F.s1 r.k) := pre_ok hxW tq (List.mem_of_getElem? hqx)
      have hTq : Blk W tq.b 106 #[.pointer (some ⟨(sOf F.s0 F.s1 r.k), 0, none⟩), .int .i64 tq.num, .int .i64 tq.kd, .int .i64 tq.nn, .int .i64 tq.lk, .int .i64 tq.ls, .int .i64 tq.ll, .int .i64 tq.lr, tq.ks, .int .i64 tq.wd, .int .i64 tq.lf, .int .i64 tq.tt, .bool tq.fl] := hqo.blk
      replace hS : St 177 [] [(2, .pointer (some ⟨rb, 0, none⟩)), (6, .pointer (some ⟨r.t.b, 0, none⟩)), (7, .pointer (some ⟨vb, 0, none⟩)), (12, .func (.func 57) #[] #[.pointer (some ⟨by_, 0, none⟩)]), (13, .pointer (some ⟨kb, 0, none⟩)), (15, .pointer (some ⟨tq.b, 0, none⟩))] a := hS
      have hWgr := hB128.ext hEW (by simpa using hnegrkb)
      have hWbx := hB134.ext hEW (by simpa using hnebxkb)
      have hWby_ := hB135.ext hEW (by simpa using hneby_kb)
      have hWrb := hNrb.ext hEW (by simpa using hnerbkb)
      have hWvb := hNvb.ext hEW (by simpa using hnevbkb)
      refine wpIn_block ?_
      refine wpIn_seq_k fun K142 hK142 => ?_
      refine wpIn_seq_k fun K143 hK143 => ?_
      refine region_fn2 (wide_wide.inRound l2) [.q .p, .q .p, .q .p, .q (.ld (.int .i64 ↑pr.length)), .q (.ld (.slice (some ⟨gr, 0, none⟩) N cr)), .q .p, .q (.as (.bool false)), .q .p, .q .p, .q .p, .e, .q (.ld (.slice (some ⟨gr, 0, none⟩) N cr)), .q (.ld (.int .i64 ↑pr.length)), .q (.run (.pointer (some ⟨gr, 0 + pr.length * 6, none⟩))), .q .p, .q (.ld (.int .i64 tq.num)), .q (.as (.bool false)), .q .p, .q .p, .q .p, .e, .q (.ld (.slice (some ⟨gr, 0, none⟩) N cr)), .q (.ld (.int .i64 ↑pr.length)), .q (.run (.pointer (some ⟨gr, 0 + pr.length * 6, none⟩))), .q .p, .q (.ld (.int .i64 ↑tq.kids.length)), .q (.as (.bool false)), .q .p, .q .p, .q .p, .e, .q (.ld (.slice (some ⟨gr, 0, none⟩) N cr)), .q (.ld (.int .i64 ↑pr.length)), .q (.run (.pointer (some ⟨gr, 0 + pr.length * 6, none⟩))), .q .p, .q (.ld (.int .i64 tq.kd)), .q (.as (.bool false)), .q .p] [0, 0, 0, 0, 0, 0, 0, 0, 0, 0, 0, 0, 0, 0, 0, 0, 1, 1, 1, 1, 1, 1, 1, 1, 1, 1, 2, 2, 2, 2, 2, 2, 2, 2, 2, 2, 3, 3] [0, 0, 0, 0, 0, 0, 0, 0, 0, 0, 0, 1, 1, 1, 1, 1, 1, 1, 1, 1, 1, 2, 2, 2, 2, 2, 2, 2, 2, 2, 2, 3, 3, 3, 3, 3, 3, 3] [0, 1, 3, 7, 7, 23, 63, 127, 255, 511, 1023, 511, 511, 6655, 14847, 31231, 65535, 131071, 262143, 524287, 1048575, 524287, 524287, 6815743, 15204351, 31981567, 67108863, 134217727, 268435455, 536870911, 1073741823, 536870911, 536870911, 6979321855, 15569256447, 32749125631, 68719476735, 137438953471] [10, 20, 30] 3 ([(2, .pointer (some ⟨rb, 0, none⟩)), (6, .pointer (some ⟨r.t.b, 0, none⟩)), (7, .pointer (some ⟨vb, 0, none⟩)), (12, .func (.func 57) #[] #[.pointer (some ⟨by_, 0, none⟩)]), (13, .pointer (some ⟨kb, 0, none⟩)), (15, .pointer (some ⟨tq.b, 0, none⟩)), (94, .pointer (some ⟨tq.b, 0, none⟩)), (95, .bool false), (96, .bool false), (97, .int .i64 ↑pr.length), (98, .slice (some ⟨gr, 0, none⟩) N cr), (99, .int .i64 ↑N), (100, .bool false), (101, .bool false), (102, .bool false), (103, .pointer (some ⟨tq.b, 0, none⟩)), (104, .int .i64 tq.num), (105, .slice (some ⟨gr, 0, none⟩) N cr), (106, .int .i64 ↑pr.length), (107, .pointer (some ⟨gr, 0 + pr.length * 6, none⟩)), (108, .pointer (some ⟨gr, 0 + pr.length * 6 + 5, none⟩)), (109, .int .i64 tq.num), (110, .bool false), (111, .bool false), (112, .bool false), (113, .pointer (some ⟨tq.b, 0, none⟩)), (114, .int .i64 ↑tq.kids.length), (115, .slice (some ⟨gr, 0, none⟩) N cr), (116, .int .i64 ↑pr.length), (117, .pointer (some ⟨gr, 0 + pr.length * 6, none⟩)), (118, .pointer (some ⟨gr, 0 + pr.length * 6 + 4, none⟩)), (119, .int .i64 ↑tq.kids.length), (120, .bool false), (121, .bool false), (122, .bool false), (123, .pointer (some ⟨tq.b, 0, none⟩)), (124, .int .i64 tq.kd), (125, .slice (some ⟨gr, 0, none⟩) N cr), (126, .int .i64 ↑pr.length), (127, .pointer (some ⟨gr, 0 + pr.length * 6, none⟩)), (128, .pointer (some ⟨gr, 0 + pr.length * 6, none⟩)), (129, .int .i64 tq.kd), (130, .bool false), (131, .bool false)]) [W.drew, W.drew, W.drew, W.drew] W.drew (fun w' => [(3, [w'.cell? ⟨kb, 0, none⟩ = some (.int .i64 ↑pr.length)]), (4, [w'.cell? ⟨vb, 0, none⟩ = some (.slice (some ⟨gr, 0, none⟩) N cr)]), (6, [Value.bool (decide ((↑pr.length : Int) ≥ ↑N)) = .bool false]), (11, [w'.cell? ⟨vb, 0, none⟩ = some (.slice (some ⟨gr, 0, none⟩) N cr)]), (12, [w'.cell? ⟨kb, 0, none⟩ = some (.int .i64 ↑pr.length)]), (13, [Sem.run Try.prog (vS (Instr.indexAt 54 (.slice (some ⟨gr, 0, none⟩) N cr) (.int .i64 ↑pr.length))) w' = .ok (.value (.pointer (some ⟨gr, 0 + pr.length * 6, none⟩))) w']), (15, [w'.cell? ⟨gr, 0 + pr.length * 6 + 5, none⟩ = some (.int .i64 tq.num)]), (16, [Value.bool (((tq.num : Int) != tq.num)) = .bool false]), (21, [w'.cell? ⟨vb, 0, none⟩ = some (.slice (some ⟨gr, 0, none⟩) N cr)]), (22, [w'.cell? ⟨kb, 0, none⟩ = some (.int .i64 ↑pr.length)]), (23, [Sem.run Try.prog (vS (Instr.indexAt 54 (.slice (some ⟨gr, 0, none⟩) N cr) (.int .i64 ↑pr.length))) w' = .ok (.value (.pointer (some ⟨gr, 0 + pr.length * 6, none⟩))) w']), (25, [w'.cell? ⟨gr, 0 + pr.length * 6 + 4, none⟩ = some (.int .i64 ↑tq.kids.length)]), (26, [Value.bool (((↑tq.kids.length : Int) != ↑tq.kids.length)) = .bool false]), (31, [w'.cell? ⟨vb, 0, none⟩ = some (.slice (some ⟨gr, 0, none⟩) N cr)]), (32, [w'.cell? ⟨kb, 0, none⟩ = some (.int .i64 ↑pr.length)]), (33, [Sem.run Try.prog (vS (Instr.indexAt 54 (.slice (some ⟨gr, 0, none⟩) N cr) (.int .i64 ↑pr.length))) w' = .ok (.value (.pointer (some ⟨gr, 0 + pr.length * 6, none⟩))) w']), (35, [w'.cell? ⟨gr, 0 + pr.length * 6, none⟩ = some (.int .i64 tq.kd)]), (36, [Value.bool (((tq.kd : Int) != tq.kd)) = .bool false])]) [2, 6, 7, 12, 13, 15] [] hS (by kernel_rfl) (by kernel_rfl) (by kernel_rfl) (by kernel_rfl) (fun _ => by kernel_rfl) (by kernel_rfl) (by kernel_rfl) (by kernel_rfl) ?_ ?_ ?_
      · intro e w' hw
        refine (.cons ?_ (.cons ?_ (.cons ?_ (.cons ?_ (.cons ?_ (.cons ?_ (.cons ?_ (.cons ?_ (.cons ?_ (.cons ?_ (.cons ?_ (.cons ?_ (.cons ?_ (.cons ?_ (.cons ?_ (.cons ?_ (.cons ?_ (.cons ?_ .nil))))))))))))))))))
        · intro h1 h2
          obtain rfl : e = 0 := Nat.le_antisymm h2 h1
          obtain rfl : w' = W.drew := hw.trans (by kernel_rfl)
          exact (.cons ((hkbW.drew : Blk W.drew kb 3 (#[.int .i64 ↑pr.length])).cell 0 rfl) .nil)
        · intro h1 h2
          obtain rfl : e = 0 := Nat.le_antisymm h2 h1
          obtain rfl : w' = W.drew := hw.trans (by kernel_rfl)
          exact (.cons ((hWvb.drew : Blk W.drew vb 54 (#[.slice (some ⟨gr, 0, none⟩) N cr])).cell 0 rfl) .nil)
        · exact fun _ _ => (.cons (as_f (by omega)) .nil)
        · intro h1 h2
          replace h1 : 0 ≤ e := h1
          replace h2 : e ≤ 1 := h2
          have he : e = 0 ∨ e = 1 := by omega
          rcases he with rfl | rfl
          · obtain rfl : w' = W.drew := hw.trans (by kernel_rfl)
            exact (.cons ((hWvb.drew : Blk W.drew vb 54 (#[.slice (some ⟨gr, 0, none⟩) N cr])).cell 0 rfl) .nil)
          · obtain rfl : w' = W.drew := hw.trans (by kernel_rfl)
            exact (.cons ((hWvb.drew : Blk W.drew vb 54 (#[.slice (some ⟨gr, 0, none⟩) N cr])).cell 0 rfl) .nil)
        · intro h1 h2
          replace h1 : 0 ≤ e := h1
          replace h2 : e ≤ 1 := h2
          have he : e = 0 ∨ e = 1 := by omega
          rcases he with rfl | rfl
          · obtain rfl : w' = W.drew := hw.trans (by kernel_rfl)
            exact (.cons ((hkbW.drew : Blk W.drew kb 3 (#[.int .i64 ↑pr.length])).cell 0 rfl) .nil)
          · obtain rfl : w' = W.drew := hw.trans (by kernel_rfl)
            exact (.cons ((hkbW.drew : Blk W.drew kb 3 (#[.int .i64 ↑pr.length])).cell 0 rfl) .nil)
        · exact fun _ _ => (.cons (ix_slice (E := 64) (size := 6) (j := pr.length) (by kernel_rfl) (by kernel_rfl) rfl hkl) .nil)
        · intro h1 h2
          replace h1 : 0 ≤ e := h1
          replace h2 : e ≤ 1 := h2
          have he : e = 0 ∨ e = 1 := by omega
          rcases he with rfl | rfl
          · obtain rfl : w' = W.drew := hw.trans (by kernel_rfl)
            exact (.cons ((hWgr.drew : OwnR W.drew 64 6 gr cr N (rowsT (pre r.t))).cellAt _ (by rw [show 0 + pr.length * 6 + 5 = 0 + pr.length * 6 + 5 from rfl, rowsT_at (pre r.t) pr.length 5 tq hqx (by omega)]; rfl)) .nil)
          · obtain rfl : w' = W.drew := hw.trans (by kernel_rfl)
            exact (.cons ((hWgr.drew : OwnR W.drew 64 6 gr cr N (rowsT (pre r.t))).cellAt _ (by rw [show 0 + pr.length * 6 + 5 = 0 + pr.length * 6 + 5 from rfl, rowsT_at (pre r.t) pr.length 5 tq hqx (by omega)]; rfl)) .nil)
        · exact fun _ _ => (.cons (as_ne_f (rfl)) .nil)
        · intro h1 h2
          replace h1 : 1 ≤ e := h1
          replace h2 : e ≤ 2 := h2
          have he : e = 1 ∨ e = 2 := by omega
          rcases he with rfl | rfl
          · obtain rfl : w' = W.drew := hw.trans (by kernel_rfl)
            exact (.cons ((hWvb.drew : Blk W.drew vb 54 (#[.slice (some ⟨gr, 0, none⟩) N cr])).cell 0 rfl) .nil)
          · obtain rfl : w' = W.drew := hw.trans (by kernel_rfl)
            exact (.cons ((hWvb.drew : Blk W.drew vb 54 (#[.slice (some ⟨gr, 0, none⟩) N cr])).cell 0 rfl) .nil)
        · intro h1 h2
          replace h1 : 1 ≤ e := h1
          replace h2 : e ≤ 2 := h2
          have he : e = 1 ∨ e = 2 := by omega
          rcases he with rfl | rfl
          · obtain rfl : w' = W.drew := hw.trans (by kernel_rfl)
            exact (.cons ((hkbW.drew : Blk W.drew kb 3 (#[.int .i64 ↑pr.length])).cell 0 rfl) .nil)
          · obtain rfl : w' = W.drew := hw.trans (by kernel_rfl)
            exact (.cons ((hkbW.drew : Blk W.drew kb 3 (#[.int .i64 ↑pr.length])).cell 0 rfl) .nil)
        · exact fun _ _ => (.cons (ix_slice (E := 64) (size := 6) (j := pr.length) (by kernel_rfl) (by kernel_rfl) rfl hkl) .nil)
        · intro h1 h2
          replace h1 : 1 ≤ e := h1
          replace h2 : e ≤ 2 := h2
          have he : e = 1 ∨ e = 2 := by omega
          rcases he with rfl | rfl
          · obtain rfl : w' = W.drew := hw.trans (by kernel_rfl)
            exact (.cons ((hWgr.drew : OwnR W.drew 64 6 gr cr N (rowsT (pre r.t))).cellAt _ (by rw [show 0 + pr.length * 6 + 4 = 0 + pr.length * 6 + 4 from rfl, rowsT_at (pre r.t) pr.length 4 tq hqx (by omega)]; rfl)) .nil)
          · obtain rfl : w' = W.drew := hw.trans (by kernel_rfl)
            exact (.cons ((hWgr.drew : OwnR W.drew 64 6 gr cr N (rowsT (pre r.t))).cellAt _ (by rw [show 0 + pr.length * 6 + 4 = 0 + pr.length * 6 + 4 from rfl, rowsT_at (pre r.t) pr.length 4 tq hqx (by omega)]; rfl)) .nil)
        · exact fun _ _ => (.cons (as_ne_f (rfl)) .nil)
        · intro h1 h2
          replace h1 : 2 ≤ e := h1
          replace h2 : e ≤ 3 := h2
          have he : e = 2 ∨ e = 3 := by omega
          rcases he with rfl | rfl
          · obtain rfl : w' = W.drew := hw.trans (by kernel_rfl)
            exact (.cons ((hWvb.drew : Blk W.drew vb 54 (#[.slice (some ⟨gr, 0, none⟩) N cr])).cell 0 rfl) .nil)
          · obtain rfl : w' = W.drew := hw.trans (by kernel_rfl)
            exact (.cons ((hWvb.drew : Blk W.drew vb 54 (#[.slice (some ⟨gr, 0, none⟩) N cr])).cell 0 rfl) .nil)
        · intro h1 h2
          replace h1 : 2 ≤ e := h1
          replace h2 : e ≤ 3 := h2
          have he : e = 2 ∨ e = 3 := by omega
          rcases he with rfl | rfl
          · obtain rfl : w' = W.drew := hw.trans (by kernel_rfl)
            exact (.cons ((hkbW.drew : Blk W.drew kb 3 (#[.int .i64 ↑pr.length])).cell 0 rfl) .nil)
          · obtain rfl : w' = W.drew := hw.trans (by kernel_rfl)
            exact (.cons ((hkbW.drew : Blk W.drew kb 3 (#[.int .i64 ↑pr.length])).cell 0 rfl) .nil)
        · exact fun _ _ => (.cons (ix_slice (E := 64) (size := 6) (j := pr.length) (by kernel_rfl) (by kernel_rfl) rfl hkl) .nil)
        · intro h1 h2
          replace h1 : 2 ≤ e := h1
          replace h2 : e ≤ 3 := h2
          have he : e = 2 ∨ e = 3 := by omega
          rcases he with rfl | rfl
          · obtain rfl : w' = W.drew := hw.trans (by kernel_rfl)
            exact (.cons ((hWgr.drew : OwnR W.drew 64 6 gr cr N (rowsT (pre r.t))).cellAt _ (by rw [show 0 + pr.length * 6 = 0 + pr.length * 6 + 0 from rfl, rowsT_at (pre r.t) pr.length 0 tq hqx (by omega)]; rfl)) .nil)
          · obtain rfl : w' = W.drew := hw.trans (by kernel_rfl)
            exact (.cons ((hWgr.drew : OwnR W.drew 64 6 gr cr N (rowsT (pre r.t))).cellAt _ (by rw [show 0 + pr.length * 6 = 0 + pr.length * 6 + 0 from rfl, rowsT_at (pre r.t) pr.length 0 tq hqx (by omega)]; rfl)) .nil)
        · exact fun _ _ => (.cons (as_ne_f (rfl)) .nil)
      · refine (.cons ?eq144_10 (.cons ?eq144_20 (.cons ?eq144_30 .nil)))
        · refine eff_at (W.drew) (W.drew) (by kernel_rfl) (by kernel_rfl) ?_
          refine upon_call (f := 31) (vs := [.pointer (some ⟨tq.b, 0, none⟩)]) (cap := #[]) (d := (some 104)) (by kernel_rfl) Try.call31 #[.pointer (some ⟨tq.b, 0, none⟩)] (by kernel_rfl) (Number_any (hTq.drew : Blk W.drew tq.b 106 (#[.pointer (some ⟨(sOf F.s0 F.s1 r.k), 0, none⟩), .int .i64 tq.num, .int .i64 tq.kd, .int .i64 tq.nn, .int .i64 tq.lk, .int .i64 tq.ls, .int .i64 tq.ll, .int .i64 tq.lr, tq.ks, .int .i64 tq.wd, .int .i64 tq.lf, .int .i64 tq.tt, .bool tq.fl]))) ?_
          rintro _ _ ⟨rfl, rfl⟩
          exact ⟨_, rfl, ⟨by kernel_rfl, by kernel_rfl⟩⟩
        · refine eff_at (W.drew) (W.drew) (by kernel_rfl) (by kernel_rfl) ?_
          refine upon_call (f := 32) (vs := [.pointer (some ⟨tq.b, 0, none⟩)]) (cap := #[]) (d := (some 114)) (by kernel_rfl) Try.call32 #[.pointer (some ⟨tq.b, 0, none⟩)] (by kernel_rfl) (Count_any (hqo.ext ((Ext.refl [] _).drew) tq (by simp))) ?_
          rintro _ _ ⟨rfl, rfl⟩
          exact ⟨_, rfl, ⟨by kernel_rfl, by kernel_rfl⟩⟩
        · refine eff_at (W.drew) (W.drew) (by kernel_rfl) (by kernel_rfl) ?_
          refine upon_call (f := 33) (vs := [.pointer (some ⟨tq.b, 0, none⟩)]) (cap := #[]) (d := (some 124)) (by kernel_rfl) Try.call33 #[.pointer (some ⟨tq.b, 0, none⟩)] (by kernel_rfl) (Kind_any (hTq.drew : Blk W.drew tq.b 106 (#[.pointer (some ⟨(sOf F.s0 F.s1 r.k), 0, none⟩), .int .i64 tq.num, .int .i64 tq.kd, .int .i64 tq.nn, .int .i64 tq.lk, .int .i64 tq.ls, .int .i64 tq.ll, .int .i64 tq.lr, tq.ks, .int .i64 tq.wd, .int .i64 tq.lf, .int .i64 tq.tt, .bool tq.fl]))) ?_
          rintro _ _ ⟨rfl, rfl⟩
          exact ⟨_, rfl, ⟨by kernel_rfl, by kernel_rfl⟩⟩
      rintro a w145 hS hw146
      replace hw146 : w145 = W.drew := hw146.trans (by kernel_rfl)
      have hB147 := OwnR.at' hw146 (hWgr.drew)
      have hB148 := Blk.at' hw146 (hWbx.drew)
      have hB149 := Blk.at' hw146 (hWby_.drew)
      have hB150 := Blk.at' hw146 (hWrb.drew)
      have hB151 := Blk.at' hw146 (hWvb.drew)
      have hB152 := Blk.at' hw146 (hTq.drew)
      have hB153 := Blk.at' hw146 (hkbW.drew)
      have hE154 : Ext [kb] W w145 := by rw [hw146]; exact hWW.drew
      replace hS := hS.keepTo [2, 6, 7, 12, 13, 15, 131] (m' := [(2, .pointer (some ⟨rb, 0, none⟩)), (6, .pointer (some ⟨r.t.b, 0, none⟩)), (7, .pointer (some ⟨vb, 0, none⟩)), (12, .func (.func 57) #[] #[.pointer (some ⟨by_, 0, none⟩)]), (13, .pointer (some ⟨kb, 0, none⟩)), (15, .pointer (some ⟨tq.b, 0, none⟩)), (131, .bool false)]) (by kernel_rfl)
      refine hK143 _ _ ?_
      refine cond_f hS rfl ?_
      refine wpIn_skip ?_
      refine hK142 _ _ ?_
      refine region 3 (by kernel_rfl) ?_
      refine seg (wide_wide.inRound l2) [.ld (.int .i64 ↑pr.length), .as (.int .i64 (↑pr.length + 1))] [2, 6, 7, 12, 13, 15, 131, 133] [w145.cell? ⟨kb, 0, none⟩ = some (.int .i64 ↑pr.length), Value.int .i64 (IntKind.i64.wrap (↑pr.length + 1)) = .int .i64 (↑pr.length + 1)] [(2, .pointer (some ⟨rb, 0, none⟩)), (6, .pointer (some ⟨r.t.b, 0, none⟩)), (7, .pointer (some ⟨vb, 0, none⟩)), (12, .func (.func 57) #[] #[.pointer (some ⟨by_, 0, none⟩)]), (13, .pointer (some ⟨kb, 0, none⟩)), (15, .pointer (some ⟨tq.b, 0, none⟩)), (131, .bool false), (133, .int .i64 (↑pr.length + 1))] 2 1 hS (by kernel_rfl) (by kernel_rfl) (by kernel_rfl) (.cons (hB153.cell 0 rfl) (.cons (as_i64 (by omega)) .nil)) fun a hS => ?_
      refine eff_store (wide_wide.inRound l2) (r := 0) (b := kb) (off := 0) (vs := [.int .i64 (↑pr.length + 1)]) hS (by kernel_rfl) hB153 (by simp) fun a w155 hw156 hS => ?_
      have hB157 := OwnR.at' hw156 (hB147.updNe (Ne.symm hnegrkb) _ _)
      have hB158 := Blk.at' hw156 (hB148.updNe (Ne.symm hnebxkb) _ _)
      have hB159 := Blk.at' hw156 (hB149.updNe (Ne.symm hneby_kb) _ _)
      have hB160 := Blk.at' hw156 (hB150.updNe (Ne.symm hnerbkb) _ _)
      have hB161 := Blk.at' hw156 (hB151.updNe (Ne.symm hnevbkb) _ _)
      have hB162 := Blk.at' hw156 (hB152.updNe (Blk.ne_type hB153 hB152 (by decide)) _ _)
      have hB163 : Blk w155 kb 3 (#[.int .i64 (↑pr.length + 1)]) := by rw [hw156]; exact hB153.upd _ _
      have hE164 : Ext [kb] W w155 := by rw [hw156]; exact hE154.updIn (.inl (by simp)) _ _
      refine seg_end ?_
      refine inBlock_normal ?_
      exact left_normal (C' := [kb]) hE164 (Fresh.refl _ _) (hlieW.ext hE164) ⟨rfl, by simpa using hB163⟩
    · rintro Cx wd1 a hEd1 hfrd1 hlied1 hDd1 ⟨rfl, hkd⟩ hS
      obtain ⟨D1, hDe1⟩ : ∃ D, D = w124.heap.size := ⟨_, rfl⟩
      rw [← hDe1] at hDd1 hS
      have hDn1 : w.heap.size ≤ D1 := by rw [hDe1]; exact hE139.size
      have hEe1 := hE139.trans hEd1 (fun b hb => by obtain rfl := (by simpa using hb : b = kb); exact .inr hwkb)
      have hxd1 := hG138.ext hEd1 r.t (fun b hb hf => by
        obtain rfl : b = kb := by simpa using hb
        exact hG138.not_foot hNkb (by decide) (by decide) hf)
      replace hS : St 177 ([D1].map dmark) [(2, .pointer (some ⟨rb, 0, none⟩)), (6, .pointer (some ⟨r.t.b, 0, none⟩)), (7, .pointer (some ⟨vb, 0, none⟩)), (12, .func (.func 57) #[] #[.pointer (some ⟨by_, 0, none⟩)]), (13, .pointer (some ⟨kb, 0, none⟩))] a := hS.keepTo [2, 6, 7, 12, 13] (by kernel_rfl)
      have hd1rtb := hB127.ext hEd1 (by simpa using hnertbkb)
      have hd1gr := hB128.ext hEd1 (by simpa using hnegrkb)
      have hd1bx := hB134.ext hEd1 (by simpa using hnebxkb)
      have hd1by_ := hB135.ext hEd1 (by simpa using hneby_kb)
      have hd1rb := hNrb.ext hEd1 (by simpa using hnerbkb)
      have hd1vb := hNvb.ext hEd1 (by simpa using hnevbkb)
      rw [hNw] at hkd
      refine inBlock_normal ?_
      refine hK140 _ _ ?_
      refine wpIn_seq_k fun K165 hK165 => ?_
      refine region 2 (by kernel_rfl) ?_
      refine eff_box wide_wide (r := 1) (cs := #[.int .i64 0]) (T := 3) (d := (some 16)) hS (by kernel_rfl) fun a w166 hw167 hS => ?_
      have hn168 : r.t.b ≠ wd1.heap.size := Nat.ne_of_lt hd1rtb.lt
      have hn169 : gr ≠ wd1.heap.size := Nat.ne_of_lt hd1gr.lt
      have hn170 : bx ≠ wd1.heap.size := Nat.ne_of_lt hd1bx.lt
      have hn171 : by_ ≠ wd1.heap.size := Nat.ne_of_lt hd1by_.lt
      have hn172 : rb ≠ wd1.heap.size := Nat.ne_of_lt hd1rb.lt
      have hn173 : vb ≠ wd1.heap.size := Nat.ne_of_lt hd1vb.lt
      have hn174 : kb ≠ wd1.heap.size := Nat.ne_of_lt hkd.lt
      have hB175 := Blk.at' hw167 (hd1rtb.alloc _)
      have hB176 := OwnR.at' hw167 (hd1gr.alloc _)
      have hB177 := Blk.at' hw167 (hd1bx.alloc _)
      have hB178 := Blk.at' hw167 (hd1by_.alloc _)
      have hB179 := Blk.at' hw167 (hd1rb.alloc _)
      have hB180 := Blk.at' hw167 (hd1vb.alloc _)
      have hB181 := Blk.at' hw167 (hkd.alloc _)
      have hX182 : Ext [] wd1 w166 := by rw [hw167]; exact (Ext.refl _ _).alloc _
      have hG183 : r.t.Ok w166 (sOf F.s0 F.s1 r.k) := hxd1.ext hX182 _ (by simp)
      have hG184 : Dfr w166 D1 := hDd1.ext hX182 (by simp)
      have hB185 : Blk w166 (wd1.heap.size) 3 #[.int .i64 0] := by rw [hw167]; exact Blk.new _ _ _
      have hs186 : w.heap.size ≤ wd1.heap.size := hEe1.size
      have hE187 : Ext [] w w166 := by rw [hw167]; exact hEe1.alloc _
      refine eff_store wide_wide (r := 0) (b := wd1.heap.size) (off := 0) (vs := [.int .i64 0]) hS (by kernel_rfl) hB185 (by simp) fun a w188 hw189 hS => ?_
      have hB190 := Blk.at' hw189 (hB175.updNe (Ne.symm hn168) _ _)
      have hB191 := OwnR.at' hw189 (hB176.updNe (Ne.symm hn169) _ _)
      have hB192 := Blk.at' hw189 (hB177.updNe (Ne.symm hn170) _ _)
      have hB193 := Blk.at' hw189 (hB178.updNe (Ne.symm hn171) _ _)
      have hB194 := Blk.at' hw189 (hB179.updNe (Ne.symm hn172) _ _)
      have hB195 := Blk.at' hw189 (hB180.updNe (Ne.symm hn173) _ _)
      have hB196 := Blk.at' hw189 (hB181.updNe (Ne.symm hn174) _ _)
      have hB197 : Blk w188 wd1.heap.size 3 (#[.int .i64 0]) := by rw [hw189]; exact hB185.upd _ _
      have hX198 : Ext [wd1.heap.size] w166 w188 := by rw [hw189]; exact (Ext.refl _ _).updIn (.inl (by simp)) _ _
      have hG199 : r.t.Ok w188 (sOf F.s0 F.s1 r.k) := hG183.ext hX198 _ (fun b hb => by simp at hb; subst hb; exact hG183.not_foot hB185 (by decide) (by decide))
      have hG200 : Dfr w188 D1 := hG184.ext hX198 (by simpa using hG184.ne_blk hB185)
      have hE201 : Ext [] w w188 := by rw [hw189]; exact hE187.updIn (.inr hs186) _ _
      refine seg_end ?_
      refine hK165 _ _ ?_
      refine wpIn_seq_k fun K202 hK202 => ?_
      refine region 2 (by kernel_rfl) ?_
      refine eff_box wide_wide (r := 1) (cs := #[.int .i64 0]) (T := 3) (d := (some 17)) hS (by kernel_rfl) fun a w203 hw204 hS => ?_
      have hn205 : r.t.b ≠ w188.heap.size := Nat.ne_of_lt hB190.lt
      have hn206 : gr ≠ w188.heap.size := Nat.ne_of_lt hB191.lt
      have hn207 : bx ≠ w188.heap.size := Nat.ne_of_lt hB192.lt
      have hn208 : by_ ≠ w188.heap.size := Nat.ne_of_lt hB193.lt
      have hn209 : rb ≠ w188.heap.size := Nat.ne_of_lt hB194.lt
      have hn210 : vb ≠ w188.heap.size := Nat.ne_of_lt hB195.lt
      have hn211 : kb ≠ w188.heap.size := Nat.ne_of_lt hB196.lt
      have hn212 : wd1.heap.size ≠ w188.heap.size := Nat.ne_of_lt hB197.lt
      have hB213 := Blk.at' hw204 (hB190.alloc _)
      have hB214 := OwnR.at' hw204 (hB191.alloc _)
      have hB215 := Blk.at' hw204 (hB192.alloc _)
      have hB216 := Blk.at' hw204 (hB193.alloc _)
      have hB217 := Blk.at' hw204 (hB194.alloc _)
      have hB218 := Blk.at' hw204 (hB195.alloc _)
      have hB219 := Blk.at' hw204 (hB196.alloc _)
      have hB220 := Blk.at' hw204 (hB197.alloc _)
      have hX221 : Ext [] w188 w203 := by rw [hw204]; exact (Ext.refl _ _).alloc _
      have hG222 : r.t.Ok w203 (sOf F.s0 F.s1 r.k) := hG199.ext hX221 _ (by simp)
      have hG223 : Dfr w203 D1 := hG200.ext hX221 (by simp)
      have hB224 : Blk w203 (w188.heap.size) 3 #[.int .i64 0] := by rw [hw204]; exact Blk.new _ _ _
      have hs225 : w.heap.size ≤ w188.heap.size := hE201.size
      have hE226 : Ext [] w w203 := by rw [hw204]; exact hE201.alloc _
      refine eff_store wide_wide (r := 0) (b := w188.heap.size) (off := 0) (vs := [.int .i64 0]) hS (by kernel_rfl) hB224 (by simp) fun a w227 hw228 hS => ?_
      have hB229 := Blk.at' hw228 (hB213.updNe (Ne.symm hn205) _ _)
      have hB230 := OwnR.at' hw228 (hB214.updNe (Ne.symm hn206) _ _)
      have hB231 := Blk.at' hw228 (hB215.updNe (Ne.symm hn207) _ _)
      have hB232 := Blk.at' hw228 (hB216.updNe (Ne.symm hn208) _ _)
      have hB233 := Blk.at' hw228 (hB217.updNe (Ne.symm hn209) _ _)
      have hB234 := Blk.at' hw228 (hB218.updNe (Ne.symm hn210) _ _)
      have hB235 := Blk.at' hw228 (hB219.updNe (Ne.symm hn211) _ _)
      have hB236 := Blk.at' hw228 (hB220.updNe (Ne.symm hn212) _ _)
      have hB237 : Blk w227 w188.heap.size 3 (#[.int .i64 0]) := by rw [hw228]; exact hB224.upd _ _
      have hX238 : Ext [w188.heap.size] w203 w227 := by rw [hw228]; exact (Ext.refl _ _).updIn (.inl (by simp)) _ _
      have hG239 : r.t.Ok w227 (sOf F.s0 F.s1 r.k) := hG222.ext hX238 _ (fun b hb => by simp at hb; subst hb; exact hG222.not_foot hB224 (by decide) (by decide))
      have hG240 : Dfr w227 D1 := hG223.ext hX238 (by simpa using hG223.ne_blk hB224)
      have hE241 : Ext [] w w227 := by rw [hw228]; exact hE226.updIn (.inr hs225) _ _
      refine seg_end ?_
      refine hK202 _ _ ?_
      refine wpIn_seq_k fun K242 hK242 => ?_
      refine wpIn_seq_k fun K243 hK243 => ?_
      refine region 1 (by kernel_rfl) ?_
      refine seg wide_wide [.p] [2, 6, 7, 12, 13, 16, 17, 134] [] [(2, .pointer (some ⟨rb, 0, none⟩)), (6, .pointer (some ⟨r.t.b, 0, none⟩)), (7, .pointer (some ⟨vb, 0, none⟩)), (12, .func (.func 57) #[] #[.pointer (some ⟨by_, 0, none⟩)]), (13, .pointer (some ⟨kb, 0, none⟩)), (16, .pointer (some ⟨wd1.heap.size, 0, none⟩)), (17, .pointer (some ⟨w188.heap.size, 0, none⟩)), (134, .func (.func 57) #[] #[.pointer (some ⟨by_, 0, none⟩)])] 1 0 hS (by kernel_rfl) (by kernel_rfl) (by kernel_rfl) .nil fun a hS => ?_
      refine seg_end ?_
      refine hK243 _ _ ?_
      refine wpIn_block ?_
      replace hS := hS.keepTo [2, 6, 7, 13, 16, 17, 134] (m' := [(2, .pointer (some ⟨rb, 0, none⟩)), (6, .pointer (some ⟨r.t.b, 0, none⟩)), (7, .pointer (some ⟨vb, 0, none⟩)), (13, .pointer (some ⟨kb, 0, none⟩)), (16, .pointer (some ⟨wd1.heap.size, 0, none⟩)), (17, .pointer (some ⟨w188.heap.size, 0, none⟩)), (134, .func (.func 57) #[] #[.pointer (some ⟨by_, 0, none⟩)])]) (by kernel_rfl)
      have hNab := hB236
      obtain ⟨ab, heab⟩ : ∃ x, x = wd1.heap.size := ⟨_, rfl⟩
      rw [← heab] at hS hNab
      have hwab : w.heap.size ≤ ab := by rw [heab]; exact hs186
      have hNlb := hB237
      obtain ⟨lb, helb⟩ : ∃ x, x = w188.heap.size := ⟨_, rfl⟩
      rw [← helb] at hS hNlb
      have hwlb : w.heap.size ≤ lb := by rw [helb]; exact hs225
      have hnertbab : r.t.b ≠ ab := (by rw [heab]; exact hn168)
      have hnertblb : r.t.b ≠ lb := (by rw [helb]; exact hn205)
      have hnegrab : gr ≠ ab := (by rw [heab]; exact hn169)
      have hnegrlb : gr ≠ lb := (by rw [helb]; exact hn206)
      have hnebxab : bx ≠ ab := (by rw [heab]; exact hn170)
      have hnebxlb : bx ≠ lb := (by rw [helb]; exact hn207)
      have hneby_ab : by_ ≠ ab := (by rw [heab]; exact hn171)
      have hneby_lb : by_ ≠ lb := (by rw [helb]; exact hn208)
      have hnerbab : rb ≠ ab := (by rw [heab]; exact hn172)
      have hnerblb : rb ≠ lb := (by rw [helb]; exact hn209)
      have hnevbab : vb ≠ ab := (by rw [heab]; exact hn173)
      have hnevblb : vb ≠ lb := (by rw [helb]; exact hn210)
      have hnekbab : kb ≠ ab := (by rw [heab]; exact hn174)
      have hnekblb : kb ≠ lb := (by rw [helb]; exact hn211)
      have hneablb : ab ≠ lb := (by rw [helb]; exact (by rw [heab]; exact hn212))
      refine range_out (gf := 57) (lb := #[pv by_]) (enc := encW) (xs := ((walk r.t 0).filter isLeaf)) (T := fun b => b = by_ ∨ r.t.Foot b)
        (fun pr Cx W => Cx = [ab, lb] ∧ Blk W ab 3 #[.int .i64 (lsum pr)] ∧ Blk W lb 3 #[.int .i64 (pr.length : Int)])
        (fun _ _ _ _ => False) [ab, lb] (fun q => [(2, .pointer (some ⟨rb, 0, none⟩)), (6, .pointer (some ⟨r.t.b, 0, none⟩)), (7, .pointer (some ⟨vb, 0, none⟩)), (13, .pointer (some ⟨kb, 0, none⟩)), (16, .pointer (some ⟨ab, 0, none⟩)), (17, .pointer (some ⟨lb, 0, none⟩)), (18, .int .i64 q.1), (19, .pointer (some ⟨q.2.b, 0, none⟩))]) hS rfl Try.call57 ?_ ?_ ?_ ?_ (fun _ => rfl) rfl ?_ ?_ ?_ ?_ ?_ ?_ ?_
      · intro W hEW _
        exact Leaves1_any (hB232.ext hEW (by simp)) (hG239.ext hEW r.t (by simp))
      · rintro b (rfl | hb)
        · exact hB232.lt
        · exact hG239.foot_lt hb
      · intro b hb hT
        rcases hT with hT | hT
        · rcases (by simpa using hb : b = ab ∨ b = lb) with h | h
          · exact hneby_ab (by rw [← hT]; exact h)
          · exact hneby_lb (by rw [← hT]; exact h)
        · rcases (by simpa using hb : b = ab ∨ b = lb) with rfl | rfl
          · exact hG239.not_foot hNab (by decide) (by decide) hT
          · exact hG239.not_foot hNlb (by decide) (by decide) hT
      · intro b hb
        rcases (by simpa using hb : b = ab ∨ b = lb) with rfl | rfl
        · exact hNab.lt
        · exact hNlb.lt
      · rintro s Cx M W W' ⟨rfl, h1, h2⟩ hE hM
        exact ⟨rfl, h1.ext hE (fun hm => (hM _ hm).2 (by simp)), h2.ext hE (fun hm => (hM _ hm).2 (by simp))⟩
      · intro c s Cx M W W' h; exact h.elim
      · exact ⟨rfl, hNab, hNlb⟩
      · intro l2 q a' W K hS hK
        refine wpIn_seq_k fun K244 hK244 => ?_
        refine region 1 (by kernel_rfl) ?_
        refine seg (wide_wide.inRound l2) [.p] [2, 6, 7, 13, 16, 17, 135, 136, 18] [] [(2, .pointer (some ⟨rb, 0, none⟩)), (6, .pointer (some ⟨r.t.b, 0, none⟩)), (7, .pointer (some ⟨vb, 0, none⟩)), (13, .pointer (some ⟨kb, 0, none⟩)), (16, .pointer (some ⟨ab, 0, none⟩)), (17, .pointer (some ⟨lb, 0, none⟩)), (135, .int .i64 q.1), (136, q.2.ptr), (18, .int .i64 q.1)] 1 0 hS (by kernel_rfl) (by kernel_rfl) (by kernel_rfl) .nil fun a hS => ?_
        refine seg_end ?_
        refine hK244 _ _ ?_
        refine region 1 (by kernel_rfl) ?_
        refine seg (wide_wide.inRound l2) [.p] [2, 6, 7, 13, 16, 17, 135, 136, 18, 19] [] [(2, .pointer (some ⟨rb, 0, none⟩)), (6, .pointer (some ⟨r.t.b, 0, none⟩)), (7, .pointer (some ⟨vb, 0, none⟩)), (13, .pointer (some ⟨kb, 0, none⟩)), (16, .pointer (some ⟨ab, 0, none⟩)), (17, .pointer (some ⟨lb, 0, none⟩)), (135, .int .i64 q.1), (136, q.2.ptr), (18, .int .i64 q.1), (19, q.2.ptr)] 1 0 hS (by kernel_rfl) (by kernel_rfl) (by kernel_rfl) .nil fun a hS => ?_
        refine seg_end ?_
        exact hK _ (hS.keepTo [2, 6, 7, 13, 16, 17, 18, 19] (by kernel_rfl))
      · rintro l2 pr ⟨qp, tq⟩ post Cx W a hxs2 ⟨rfl, habW, hlbW⟩ hlieW hfrW hnl hrec hEW hS
        have hWW : Ext [ab, lb] W W := Ext.refl _ _
        have hxW := hG239.ext hEW r.t (fun b hb hf => by
          rcases (by simpa using hb : b = ab ∨ b = lb) with rfl | rfl
          · exact hG239.not_foot hNab (by decide) (by decide) hf
          · exact hG239.not_foot hNlb (by decide) (by decide) hf)
        have hqm : (qp, tq) ∈ (walk r.t 0).filter isLeaf := by rw [hxs2]; simp
        have hlv := leaves_cum r.t hxW 0
        have hqk : tq.kd = 1 := by simpa [isLeaf] using (List.mem_filter.1 hqm).2
        have hqo : tq.Ok W (sOf F.s0 F.s1 r.k) := (walk_ok r.t hxW 0 _ (List.mem_filter.1 hqm).1).1
        obtain rfl : qp = lsum pr := by
          have h := hlv.1
          rw [hxs2] at h
          have := Cum.at pr (qp, tq) post 0 h
          simpa using this
        have hnn : ∀ q ∈ (walk r.t 0).filter isLeaf, 0 ≤ q.2.wd := fun q hq => (Tr.Ok.tt_pos q.2 (walk_ok r.t hxW 0 q (List.mem_filter.1 hq).1).1).2.1
        have hs1 : 0 ≤ lsum pr := lsum_nonneg fun q hq => hnn q (by rw [hxs2]; simp [hq])
        have hs2 : 0 ≤ lsum post := lsum_nonneg fun q hq => hnn q (by rw [hxs2]; simp [hq])
        have hs3 : 0 ≤ tq.wd := hnn _ hqm
        have hs4 : lsum pr + (tq.wd + lsum post) = r.t.wd := by
          have h := hlv.2.1
          rw [hxs2, lsum_append] at h
          exact h
        have hs5 : (pr.length : Int) + 1 ≤ r.t.lf := by
          have h := hlv.2.2
          rw [hxs2] at h
          simp only [List.length_append, List.length_cons] at h
          omega
        have hTq : Blk W tq.b 106 #[.pointer (some ⟨(sOf F.s0 F.s1 r.k), 0, none⟩), .int .i64 tq.num, .int .i64 tq.kd, .int .i64 tq.nn, .int .i64 tq.lk, .int .i64 tq.ls, .int .i64 tq.ll, .int .i64 tq.lr, tq.ks, .int .i64 tq.wd, .int .i64 tq.lf, .int .i64 tq.tt, .bool tq.fl] := hqo.blk
        replace hS : St 177 [] [(2, .pointer (some ⟨rb, 0, none⟩)), (6, .pointer (some ⟨r.t.b, 0, none⟩)), (7, .pointer (some ⟨vb, 0, none⟩)), (13, .pointer (some ⟨kb, 0, none⟩)), (16, .pointer (some ⟨ab, 0, none⟩)), (17, .pointer (some ⟨lb, 0, none⟩)), (18, .int .i64 (lsum pr)), (19, .pointer (some ⟨tq.b, 0, none⟩))] a := hS
        have hWgr := hB230.ext hEW (by simpa using ⟨hnegrab, hnegrlb⟩)
        have hWbx := hB231.ext hEW (by simpa using ⟨hnebxab, hnebxlb⟩)
        have hWby_ := hB232.ext hEW (by simpa using ⟨hneby_ab, hneby_lb⟩)
        have hWrb := hB233.ext hEW (by simpa using ⟨hnerbab, hnerblb⟩)
        have hWvb := hB234.ext hEW (by simpa using ⟨hnevbab, hnevblb⟩)
        have hWkb := hB235.ext hEW (by simpa using ⟨hnekbab, hnekblb⟩)
        refine wpIn_block ?_
        refine wpIn_seq_k fun K245 hK245 => ?_
        refine wpIn_seq_k fun K246 hK246 => ?_
        refine region 12 (by kernel_rfl) ?_
        refine seg (wide_wide.inRound l2) [.p, .p, .p, .p, .ld (.int .i64 (lsum pr)), .as (.bool false), .p, .p, .p] [2, 6, 7, 13, 16, 17, 18, 19, 144, 145] [W.cell? ⟨ab, 0, none⟩ = some (.int .i64 (lsum pr)), Value.bool (((lsum pr : Int) != (lsum pr))) = .bool false] [(2, .pointer (some ⟨rb, 0, none⟩)), (6, .pointer (some ⟨r.t.b, 0, none⟩)), (7, .pointer (some ⟨vb, 0, none⟩)), (13, .pointer (some ⟨kb, 0, none⟩)), (16, .pointer (some ⟨ab, 0, none⟩)), (17, .pointer (some ⟨lb, 0, none⟩)), (18, .int .i64 (lsum pr)), (19, .pointer (some ⟨tq.b, 0, none⟩)), (144, .bool false), (145, .pointer (some ⟨tq.b, 0, none⟩))] 9 3 hS (by kernel_rfl) (by kernel_rfl) (by kernel_rfl) (.cons (habW.cell 0 rfl) (.cons (as_ne_f (rfl)) .nil)) fun a hS => ?_
        refine eff_call_ro (wide_wide.inRound l2) (r := 2) (f := 33) (vs := [.pointer (some ⟨tq.b, 0, none⟩)]) (cap := #[]) (d := (some 146)) (v := Value.int .i64 tq.kd) hS (by kernel_rfl) Try.call33 #[.pointer (some ⟨tq.b, 0, none⟩)] (by kernel_rfl) (Kind_any (hTq : Blk W tq.b 106 (#[.pointer (some ⟨(sOf F.s0 F.s1 r.k), 0, none⟩), .int .i64 tq.num, .int .i64 tq.kd, .int .i64 tq.nn, .int .i64 tq.lk, .int .i64 tq.ls, .int .i64 tq.ll, .int .i64 tq.lr, tq.ks, .int .i64 tq.wd, .int .i64 tq.lf, .int .i64 tq.tt, .bool tq.fl]))) fun a hS => ?_
        refine seg (wide_wide.inRound l2) [.as (.bool false), .p] [2, 6, 7, 13, 16, 17, 18, 19, 148] [Value.bool (((tq.kd : Int) != 1)) = .bool false] [(2, .pointer (some ⟨rb, 0, none⟩)), (6, .pointer (some ⟨r.t.b, 0, none⟩)), (7, .pointer (some ⟨vb, 0, none⟩)), (13, .pointer (some ⟨kb, 0, none⟩)), (16, .pointer (some ⟨ab, 0, none⟩)), (17, .pointer (some ⟨lb, 0, none⟩)), (18, .int .i64 (lsum pr)), (19, .pointer (some ⟨tq.b, 0, none⟩)), (148, .bool false)] 12 0 hS (by kernel_rfl) (by kernel_rfl) (by kernel_rfl) (.cons (as_ne_f (hqk)) .nil) fun a hS => ?_
        refine seg_end ?_
        refine hK246 _ _ ?_
        refine cond_f hS rfl ?_
        refine wpIn_skip ?_
        refine hK245 _ _ ?_
        refine wpIn_seq_k fun K247 hK247 => ?_
        refine region_fn2 (wide_wide.inRound l2) [.q (.ld (.int .i64 (lsum pr))), .q .p, .e, .q (.as (.int .i64 ((lsum pr) + tq.wd))), .e] [0, 0, 0, 1, 1] [1, 0, 0, 1, 1] [0, 0, 2, 7, 15] [2, 4] 2 ([(2, .pointer (some ⟨rb, 0, none⟩)), (6, .pointer (some ⟨r.t.b, 0, none⟩)), (7, .pointer (some ⟨vb, 0, none⟩)), (13, .pointer (some ⟨kb, 0, none⟩)), (16, .pointer (some ⟨ab, 0, none⟩)), (17, .pointer (some ⟨lb, 0, none⟩)), (18, .int .i64 (lsum pr)), (19, .pointer (some ⟨tq.b, 0, none⟩)), (148, .bool false), (149, .int .i64 (lsum pr)), (150, .pointer (some ⟨tq.b, 0, none⟩)), (151, .int .i64 tq.wd), (152, .int .i64 ((lsum pr) + tq.wd))]) [W.drew, W.drew, upd (W.drew) (ab) 3 #[.int .i64 ((lsum pr) + tq.wd)]] W.drew (fun w' => [(0, [w'.cell? ⟨ab, 0, none⟩ = some (.int .i64 (lsum pr))]), (3, [Value.int .i64 (IntKind.i64.wrap ((lsum pr) + tq.wd)) = .int .i64 ((lsum pr) + tq.wd)])]) [2, 6, 7, 13, 16, 17, 18, 19, 148] [] hS (by kernel_rfl) (by kernel_rfl) (by kernel_rfl) (by kernel_rfl) (fun _ => by kernel_rfl) (by kernel_rfl) (by kernel_rfl) (by kernel_rfl) ?_ ?_ ?_
        · intro e w' hw
          refine (.cons ?_ (.cons ?_ .nil))
          · intro h1 h2
            replace h1 : 0 ≤ e := h1
            replace h2 : e ≤ 1 := h2
            have he : e = 0 ∨ e = 1 := by omega
            rcases he with rfl | rfl
            · obtain rfl : w' = W.drew := hw.trans (by kernel_rfl)
              exact (.cons ((habW.drew : Blk W.drew ab 3 (#[.int .i64 (lsum pr)])).cell 0 rfl) .nil)
            · obtain rfl : w' = W.drew := hw.trans (by kernel_rfl)
              exact (.cons ((habW.drew : Blk W.drew ab 3 (#[.int .i64 (lsum pr)])).cell 0 rfl) .nil)
          · exact fun _ _ => (.cons (as_i64 (by omega)) .nil)
        · refine (.cons ?eq248_2 (.cons ?eq248_4 .nil))
          · refine eff_at (W.drew) (W.drew) (by kernel_rfl) (by kernel_rfl) ?_
            refine upon_call (f := 19) (vs := [.pointer (some ⟨tq.b, 0, none⟩)]) (cap := #[]) (d := (some 151)) (by kernel_rfl) Try.call19 #[.pointer (some ⟨tq.b, 0, none⟩)] (by kernel_rfl) (Width_any (hTq.drew : Blk W.drew tq.b 106 (#[.pointer (some ⟨(sOf F.s0 F.s1 r.k), 0, none⟩), .int .i64 tq.num, .int .i64 tq.kd, .int .i64 tq.nn, .int .i64 tq.lk, .int .i64 tq.ls, .int .i64 tq.ll, .int .i64 tq.lr, tq.ks, .int .i64 tq.wd, .int .i64 tq.lf, .int .i64 tq.tt, .bool tq.fl]))) ?_
            rintro _ _ ⟨rfl, rfl⟩
            exact ⟨_, rfl, ⟨by kernel_rfl, by kernel_rfl⟩⟩
          · refine eff_at (W.drew) (upd (W.drew) (ab) 3 #[.int .i64 ((lsum pr) + tq.wd)]) (by kernel_rfl) (by kernel_rfl) ?_
            exact upon_store (b := ab) (off := 0) (vs := [.int .i64 ((lsum pr) + tq.wd)]) (by kernel_rfl) (habW.drew : Blk W.drew ab 3 (#[.int .i64 (lsum pr)])) (by simp) ⟨by kernel_rfl, by kernel_rfl⟩
        rintro a w249 hS hw250
        replace hw250 : w249 = upd (W.drew) (ab) 3 #[.int .i64 ((lsum pr) + tq.wd)] := hw250.trans (by kernel_rfl)
        have hB251 := OwnR.at' hw250 ((hWgr.drew).updNe (Ne.symm hnegrab) _ _)
        have hB252 := Blk.at' hw250 ((hWbx.drew).updNe (Ne.symm hnebxab) _ _)
        have hB253 := Blk.at' hw250 ((hWby_.drew).updNe (Ne.symm hneby_ab) _ _)
        have hB254 := Blk.at' hw250 ((hWrb.drew).updNe (Ne.symm hnerbab) _ _)
        have hB255 := Blk.at' hw250 ((hWvb.drew).updNe (Ne.symm hnevbab) _ _)
        have hB256 := Blk.at' hw250 ((hWkb.drew).updNe (Ne.symm hnekbab) _ _)
        have hB257 := Blk.at' hw250 ((hTq.drew).updNe (Blk.ne_type habW hTq (by decide)) _ _)
        have hB258 : Blk w249 ab 3 (#[.int .i64 ((lsum pr) + tq.wd)]) := by rw [hw250]; exact (habW.drew).upd _ _
        have hB259 := Blk.at' hw250 ((hlbW.drew).updNe hneablb _ _)
        have hE260 : Ext [ab, lb] W w249 := by rw [hw250]; exact (hWW.drew).updIn (.inl (by simp)) _ _
        replace hS := hS.keepTo [2, 6, 7, 13, 16, 17, 18, 19, 148] (m' := [(2, .pointer (some ⟨rb, 0, none⟩)), (6, .pointer (some ⟨r.t.b, 0, none⟩)), (7, .pointer (some ⟨vb, 0, none⟩)), (13, .pointer (some ⟨kb, 0, none⟩)), (16, .pointer (some ⟨ab, 0, none⟩)), (17, .pointer (some ⟨lb, 0, none⟩)), (18, .int .i64 (lsum pr)), (19, .pointer (some ⟨tq.b, 0, none⟩)), (148, .bool false)]) (by kernel_rfl)
        refine hK247 _ _ ?_
        refine region 3 (by kernel_rfl) ?_
        refine seg (wide_wide.inRound l2) [.ld (.int .i64 ↑pr.length), .as (.int .i64 (↑pr.length + 1))] [2, 6, 7, 13, 16, 17, 18, 19, 148, 154] [w249.cell? ⟨lb, 0, none⟩ = some (.int .i64 ↑pr.length), Value.int .i64 (IntKind.i64.wrap (↑pr.length + 1)) = .int .i64 (↑pr.length + 1)] [(2, .pointer (some ⟨rb, 0, none⟩)), (6, .pointer (some ⟨r.t.b, 0, none⟩)), (7, .pointer (some ⟨vb, 0, none⟩)), (13, .pointer (some ⟨kb, 0, none⟩)), (16, .pointer (some ⟨ab, 0, none⟩)), (17, .pointer (some ⟨lb, 0, none⟩)), (18, .int .i64 (lsum pr)), (19, .pointer (some ⟨tq.b, 0, none⟩)), (148, .bool false), (154, .int .i64 (↑pr.length + 1))] 2 1 hS (by kernel_rfl) (by kernel_rfl) (by kernel_rfl) (.cons (hB259.cell 0 rfl) (.cons (as_i64 (by omega)) .nil)) fun a hS => ?_
        refine eff_store (wide_wide.inRound l2) (r := 0) (b := lb) (off := 0) (vs := [.int .i64 (↑pr.length + 1)]) hS (by kernel_rfl) hB259 (by simp) fun a w261 hw262 hS => ?_
        have hB263 := OwnR.at' hw262 (hB251.updNe (Ne.symm hnegrlb) _ _)
        have hB264 := Blk.at' hw262 (hB252.updNe (Ne.symm hnebxlb) _ _)
        have hB265 := Blk.at' hw262 (hB253.updNe (Ne.symm hneby_lb) _ _)
        have hB266 := Blk.at' hw262 (hB254.updNe (Ne.symm hnerblb) _ _)
        have hB267 := Blk.at' hw262 (hB255.updNe (Ne.symm hnevblb) _ _)
        have hB268 := Blk.at' hw262 (hB256.updNe (Ne.symm hnekblb) _ _)
        have hB269 := Blk.at' hw262 (hB257.updNe (Blk.ne_type hB259 hB257 (by decide)) _ _)
        have hB270 := Blk.at' hw262 (hB258.updNe (Ne.symm hneablb) _ _)
        have hB271 : Blk w261 lb 3 (#[.int .i64 (↑pr.length + 1)]) := by rw [hw262]; exact hB259.upd _ _
        have hE272 : Ext [ab, lb] W w261 := by rw [hw262]; exact hE260.updIn (.inl (by simp)) _ _
        refine seg_end ?_
        refine inBlock_normal ?_
        exact left_normal (C' := [ab, lb]) hE272 (Fresh.refl _ _) (hlieW.ext hE272) ⟨rfl, by simpa [lsum_append, lsum] using hB270, by simpa using hB271⟩
      · rintro Cx wd2 a hEd2 hfrd2 hlied2 hDd2 ⟨rfl, had, hld⟩ hS
        obtain ⟨D2, hDe2⟩ : ∃ D, D = w227.heap.size := ⟨_, rfl⟩
        rw [← hDe2] at hDd2 hS
        have hDn2 : w.heap.size ≤ D2 := by rw [hDe2]; exact hE241.size
        have hEe2 := hE241.trans hEd2 (fun b hb => by rcases (by simpa using hb : b = ab ∨ b = lb) with rfl | rfl <;> first | exact .inr hwab | exact .inr hwlb)
        have hxd2 := hG239.ext hEd2 r.t (fun b hb hf => by
          rcases (by simpa using hb : b = ab ∨ b = lb) with rfl | rfl
          · exact hG239.not_foot hNab (by decide) (by decide) hf
          · exact hG239.not_foot hNlb (by decide) (by decide) hf)
        replace hS : St 177 ([D2, D1].map dmark) [(2, .pointer (some ⟨rb, 0, none⟩)), (6, .pointer (some ⟨r.t.b, 0, none⟩)), (7, .pointer (some ⟨vb, 0, none⟩)), (13, .pointer (some ⟨kb, 0, none⟩)), (16, .pointer (some ⟨ab, 0, none⟩)), (17, .pointer (some ⟨lb, 0, none⟩))] a := hS.keepTo [2, 6, 7, 13, 16, 17] (by kernel_rfl)
        have hd2rtb := hB229.ext hEd2 (by simpa using ⟨hnertbab, hnertblb⟩)
        have hd2gr := hB230.ext hEd2 (by simpa using ⟨hnegrab, hnegrlb⟩)
        have hd2bx := hB231.ext hEd2 (by simpa using ⟨hnebxab, hnebxlb⟩)
        have hd2by_ := hB232.ext hEd2 (by simpa using ⟨hneby_ab, hneby_lb⟩)
        have hd2rb := hB233.ext hEd2 (by simpa using ⟨hnerbab, hnerblb⟩)
        have hd2vb := hB234.ext hEd2 (by simpa using ⟨hnevbab, hnevblb⟩)
        have hd2kb := hB235.ext hEd2 (by simpa using ⟨hnekbab, hnekblb⟩)
        obtain ⟨_, hl1, hl2⟩ := leaves_cum r.t hG239 0
        rw [hl1] at had
        rw [hl2] at hld
        have hDo := hG240.ext hEd2 (by intro hm; rcases (by simpa using hm : D1 = ab ∨ D1 = lb) with h | h <;> first | exact hG240.ne_blk hNab h | exact hG240.ne_blk hNlb h)
        have hDne : D2 ≠ D1 := by have := hG240.lt; omega
        refine inBlock_normal ?_
        refine hK242 _ _ ?_
        refine wpIn_seq_k fun K273 hK273 => ?_
        refine region_fn2 wide_wide [.q (.ld (.int .i64 ↑N)), .q (.ld (.slice (some ⟨gr, 0, none⟩) N cr)), .q .p, .q (.as (.bool true)), .q .p, .q (.ld (.int .i64 ↑N)), .q .p, .e, .q (.as (.bool true)), .q .p, .q .p, .q (.ld (.int .i64 r.t.lf)), .q .p, .e, .q (.as (.bool true)), .q .p, .q .p, .q (.ld (.int .i64 r.t.wd)), .q .p, .e, .q (.as (.bool true)), .q .p, .e] [0, 0, 0, 0, 0, 0, 0, 0, 1, 1, 1, 1, 1, 1, 2, 2, 2, 2, 2, 2, 3, 3, 3] [0, 0, 0, 0, 0, 1, 0, 0, 1, 1, 1, 2, 1, 1, 2, 2, 2, 3, 2, 2, 3, 3, 3] [0, 0, 2, 7, 15, 31, 31, 95, 255, 511, 1023, 2047, 2047, 6143, 16383, 32767, 65535, 131071, 131071, 393215, 1048575, 2097151, 4194303] [7, 13, 19, 22] 4 ([(2, .pointer (some ⟨rb, 0, none⟩)), (6, .pointer (some ⟨r.t.b, 0, none⟩)), (7, .pointer (some ⟨vb, 0, none⟩)), (13, .pointer (some ⟨kb, 0, none⟩)), (16, .pointer (some ⟨ab, 0, none⟩)), (17, .pointer (some ⟨lb, 0, none⟩)), (155, .int .i64 ↑N), (156, .slice (some ⟨gr, 0, none⟩) N cr), (157, .int .i64 ↑N), (158, .bool true), (159, .bool true), (160, .int .i64 ↑N), (161, .pointer (some ⟨r.t.b, 0, none⟩)), (162, .int .i64 r.t.tt), (163, .bool true), (164, .bool true), (165, .bool true), (166, .int .i64 r.t.lf), (167, .pointer (some ⟨r.t.b, 0, none⟩)), (168, .int .i64 r.t.lf), (169, .bool true), (170, .bool true), (171, .bool true), (172, .int .i64 r.t.wd), (173, .pointer (some ⟨r.t.b, 0, none⟩)), (174, .int .i64 r.t.wd), (175, .bool true), (176, .bool true)]) [wd2.drew, wd2.drew, wd2.drew, wd2.drew, upd (wd2.drew) (rb) 4 #[.bool true]] wd2.drew (fun w' => [(0, [w'.cell? ⟨kb, 0, none⟩ = some (.int .i64 ↑N)]), (1, [w'.cell? ⟨vb, 0, none⟩ = some (.slice (some ⟨gr, 0, none⟩) N cr)]), (3, [Value.bool (((↑N : Int) == ↑N)) = .bool true]), (5, [w'.cell? ⟨kb, 0, none⟩ = some (.int .i64 ↑N)]), (8, [Value.bool (((↑N : Int) == r.t.tt)) = .bool true]), (11, [w'.cell? ⟨lb, 0, none⟩ = some (.int .i64 r.t.lf)]), (14, [Value.bool (((r.t.lf : Int) == r.t.lf)) = .bool true]), (17, [w'.cell? ⟨ab, 0, none⟩ = some (.int .i64 r.t.wd)]), (20, [Value.bool (((r.t.wd : Int) == r.t.wd)) = .bool true])]) [2, 6, 7, 13, 16, 17] [] hS (by kernel_rfl) (by kernel_rfl) (by kernel_rfl) (by kernel_rfl) (fun _ => by kernel_rfl) (by kernel_rfl) (by kernel_rfl) (by kernel_rfl) ?_ ?_ ?_
        · intro e w' hw
          refine (.cons ?_ (.cons ?_ (.cons ?_ (.cons ?_ (.cons ?_ (.cons ?_ (.cons ?_ (.cons ?_ (.cons ?_ .nil)))))))))
          · intro h1 h2
            obtain rfl : e = 0 := Nat.le_antisymm h2 h1
            obtain rfl : w' = wd2.drew := hw.trans (by kernel_rfl)
            exact (.cons ((hd2kb.drew : Blk wd2.drew kb 3 (#[.int .i64 ↑N])).cell 0 rfl) .nil)
          · intro h1 h2
            obtain rfl : e = 0 := Nat.le_antisymm h2 h1
            obtain rfl : w' = wd2.drew := hw.trans (by kernel_rfl)
            exact (.cons ((hd2vb.drew : Blk wd2.drew vb 54 (#[.slice (some ⟨gr, 0, none⟩) N cr])).cell 0 rfl) .nil)
          · exact fun _ _ => (.cons (as_eq_t (rfl)) .nil)
          · intro h1 h2
            replace h1 : 0 ≤ e := h1
            replace h2 : e ≤ 1 := h2
            have he : e = 0 ∨ e = 1 := by omega
            rcases he with rfl | rfl
            · obtain rfl : w' = wd2.drew := hw.trans (by kernel_rfl)
              exact (.cons ((hd2kb.drew : Blk wd2.drew kb 3 (#[.int .i64 ↑N])).cell 0 rfl) .nil)
            · obtain rfl : w' = wd2.drew := hw.trans (by kernel_rfl)
              exact (.cons ((hd2kb.drew : Blk wd2.drew kb 3 (#[.int .i64 ↑N])).cell 0 rfl) .nil)
          · exact fun _ _ => (.cons (as_eq_t (hNt)) .nil)
          · intro h1 h2
            replace h1 : 1 ≤ e := h1
            replace h2 : e ≤ 2 := h2
            have he : e = 1 ∨ e = 2 := by omega
            rcases he with rfl | rfl
            · obtain rfl : w' = wd2.drew := hw.trans (by kernel_rfl)
              exact (.cons ((hld.drew : Blk wd2.drew lb 3 (#[.int .i64 r.t.lf])).cell 0 rfl) .nil)
            · obtain rfl : w' = wd2.drew := hw.trans (by kernel_rfl)
              exact (.cons ((hld.drew : Blk wd2.drew lb 3 (#[.int .i64 r.t.lf])).cell 0 rfl) .nil)
          · exact fun _ _ => (.cons (as_eq_t (rfl)) .nil)
          · intro h1 h2
            replace h1 : 2 ≤ e := h1
            replace h2 : e ≤ 3 := h2
            have he : e = 2 ∨ e = 3 := by omega
            rcases he with rfl | rfl
            · obtain rfl : w' = wd2.drew := hw.trans (by kernel_rfl)
              exact (.cons ((had.drew : Blk wd2.drew ab 3 (#[.int .i64 r.t.wd])).cell 0 rfl) .nil)
            · obtain rfl : w' = wd2.drew := hw.trans (by kernel_rfl)
              exact (.cons ((had.drew : Blk wd2.drew ab 3 (#[.int .i64 r.t.wd])).cell 0 rfl) .nil)
          · exact fun _ _ => (.cons (as_eq_t (rfl)) .nil)
        · refine (.cons ?eq274_7 (.cons ?eq274_13 (.cons ?eq274_19 (.cons ?eq274_22 .nil))))
          · refine eff_at (wd2.drew) (wd2.drew) (by kernel_rfl) (by kernel_rfl) ?_
            refine upon_call (f := 22) (vs := [.pointer (some ⟨r.t.b, 0, none⟩)]) (cap := #[]) (d := (some 162)) (by kernel_rfl) Try.call22 #[.pointer (some ⟨r.t.b, 0, none⟩)] (by kernel_rfl) (Size_any (hd2rtb.drew : Blk wd2.drew r.t.b 106 (#[.pointer (some ⟨(sOf F.s0 F.s1 r.k), 0, none⟩), .int .i64 r.t.num, .int .i64 r.t.kd, .int .i64 r.t.nn, .int .i64 r.t.lk, .int .i64 r.t.ls, .int .i64 r.t.ll, .int .i64 r.t.lr, r.t.ks, .int .i64 r.t.wd, .int .i64 r.t.lf, .int .i64 r.t.tt, .bool r.t.fl]))) ?_
            rintro _ _ ⟨rfl, rfl⟩
            exact ⟨_, rfl, ⟨by kernel_rfl, by kernel_rfl⟩⟩
          · refine eff_at (wd2.drew) (wd2.drew) (by kernel_rfl) (by kernel_rfl) ?_
            refine upon_call (f := 21) (vs := [.pointer (some ⟨r.t.b, 0, none⟩)]) (cap := #[]) (d := (some 168)) (by kernel_rfl) Try.call21 #[.pointer (some ⟨r.t.b, 0, none⟩)] (by kernel_rfl) (Leafs_any (hd2rtb.drew : Blk wd2.drew r.t.b 106 (#[.pointer (some ⟨(sOf F.s0 F.s1 r.k), 0, none⟩), .int .i64 r.t.num, .int .i64 r.t.kd, .int .i64 r.t.nn, .int .i64 r.t.lk, .int .i64 r.t.ls, .int .i64 r.t.ll, .int .i64 r.t.lr, r.t.ks, .int .i64 r.t.wd, .int .i64 r.t.lf, .int .i64 r.t.tt, .bool r.t.fl]))) ?_
            rintro _ _ ⟨rfl, rfl⟩
            exact ⟨_, rfl, ⟨by kernel_rfl, by kernel_rfl⟩⟩
          · refine eff_at (wd2.drew) (wd2.drew) (by kernel_rfl) (by kernel_rfl) ?_
            refine upon_call (f := 19) (vs := [.pointer (some ⟨r.t.b, 0, none⟩)]) (cap := #[]) (d := (some 174)) (by kernel_rfl) Try.call19 #[.pointer (some ⟨r.t.b, 0, none⟩)] (by kernel_rfl) (Width_any (hd2rtb.drew : Blk wd2.drew r.t.b 106 (#[.pointer (some ⟨(sOf F.s0 F.s1 r.k), 0, none⟩), .int .i64 r.t.num, .int .i64 r.t.kd, .int .i64 r.t.nn, .int .i64 r.t.lk, .int .i64 r.t.ls, .int .i64 r.t.ll, .int .i64 r.t.lr, r.t.ks, .int .i64 r.t.wd, .int .i64 r.t.lf, .int .i64 r.t.tt, .bool r.t.fl]))) ?_
            rintro _ _ ⟨rfl, rfl⟩
            exact ⟨_, rfl, ⟨by kernel_rfl, by kernel_rfl⟩⟩
          · refine eff_at (wd2.drew) (upd (wd2.drew) (rb) 4 #[.bool true]) (by kernel_rfl) (by kernel_rfl) ?_
            exact upon_store (b := rb) (off := 0) (vs := [.bool true]) (by kernel_rfl) (hd2rb.drew : Blk wd2.drew rb 4 (#[.bool false])) (by simp) ⟨by kernel_rfl, by kernel_rfl⟩
        rintro a w275 hS hw276
        replace hw276 : w275 = upd (wd2.drew) (rb) 4 #[.bool true] := hw276.trans (by kernel_rfl)
        have hB277 := Blk.at' hw276 ((hd2rtb.drew).updNe (Blk.ne_type hd2rb hd2rtb (by decide)) _ _)
        have hB278 := OwnR.at' hw276 ((hd2gr.drew).updNe ((OwnR.ne_type hd2gr hd2rb (by decide)).symm) _ _)
        have hB279 := Blk.at' hw276 ((hd2bx.drew).updNe (Blk.ne_type hd2rb hd2bx (by decide)) _ _)
        have hB280 := Blk.at' hw276 ((hd2by_.drew).updNe (Blk.ne_type hd2rb hd2by_ (by decide)) _ _)
        have hB281 : Blk w275 rb 4 (#[.bool true]) := by rw [hw276]; exact (hd2rb.drew).upd _ _
        have hB282 := Blk.at' hw276 ((hd2vb.drew).updNe (Blk.ne_type hd2rb hd2vb (by decide)) _ _)
        have hB283 := Blk.at' hw276 ((hd2kb.drew).updNe (Blk.ne_type hd2rb hd2kb (by decide)) _ _)
        have hB284 := Blk.at' hw276 ((had.drew).updNe (Blk.ne_type hd2rb had (by decide)) _ _)
        have hB285 := Blk.at' hw276 ((hld.drew).updNe (Blk.ne_type hd2rb hld (by decide)) _ _)
        have hE286 : Ext [] w w275 := by rw [hw276]; exact (hEe2.drew).updIn (.inr hwrb) _ _
        have hX287 : Ext [rb] wd2 w275 := by rw [hw276]; exact ((Ext.refl _ _).drew).updIn (.inl (by simp)) _ _
        have hG288 : Dfr w275 D1 := hDo.ext hX287 (by simpa using hDo.ne_blk hd2rb)
        have hG289 : Dfr w275 D2 := hDd2.ext hX287 (by simpa using hDd2.ne_blk hd2rb)
        replace hS := hS.keepTo [2, 6, 7, 13, 16, 17] (m' := [(2, .pointer (some ⟨rb, 0, none⟩)), (6, .pointer (some ⟨r.t.b, 0, none⟩)), (7, .pointer (some ⟨vb, 0, none⟩)), (13, .pointer (some ⟨kb, 0, none⟩)), (16, .pointer (some ⟨ab, 0, none⟩)), (17, .pointer (some ⟨lb, 0, none⟩))]) (by kernel_rfl)
        refine hK273 _ _ ?_
        refine wpIn_ret ?_
        refine retMc [D2, D1] (T' := 4) hS Try.results6 (by kernel_rfl) rfl hB281 (by intro D hD; rcases (by simpa using hD : D = D2 ∨ D = D1) with rfl | rfl <;> first | exact hG289 | exact hG288) (by simpa using hDne) fun w99 hE99 => ?_
        exact ⟨rfl, hE286.trans hE99 (by intro b hb; rcases (by simpa using hb : b = D2 ∨ b = D1) with rfl | rfl <;> first | exact .inr hDn2 | exact .inr hDn1)⟩
      · intro c pr Cx W a _ _ _ _ _ h; exact h.elim
    · intro c pr Cx W a _ _ _ _ _ h; exact h.elim
  · -- an alternative
    refine ⟨_, rfl, fun a hS => ?_⟩
    refine seg wide_wide [.p] [0, 2, 3, 4, 26, 5] [] [(0, v), (2, .pointer (some ⟨w.heap.size, 0, none⟩)), (3, .pointer (some ⟨F.fb, 0, none⟩)), (4, .bool true), (26, .bool false), (5, .int .i64 (-1))] 3 0 hS (by kernel_rfl) (by kernel_rfl) (by kernel_rfl) .nil fun a hS => ?_
    refine seg_end ?_
    refine hK11 _ _ ?_
    refine wpIn_seq_k fun K290 hK290 => ?_
    refine wpIn_seq_k fun K291 hK291 => ?_
    refine region 2 (by kernel_rfl) ?_
    refine seg wide_wide [.p, .p] [0, 2, 3, 4, 26, 5, 30] [] [(0, v), (2, .pointer (some ⟨w.heap.size, 0, none⟩)), (3, .pointer (some ⟨F.fb, 0, none⟩)), (4, .bool true), (26, .bool false), (5, .int .i64 (-1)), (30, .bool true)] 2 0 hS (by kernel_rfl) (by kernel_rfl) (by kernel_rfl) .nil fun a hS => ?_
    refine seg_end ?_
    refine hK291 _ _ ?_
    refine cond_t hS rfl ?_
    refine wpIn_seq_k fun K292 hK292 => ?_
    refine region 1 (by kernel_rfl) ?_
    refine eff_store wide_wide (r := 0) (b := w.heap.size) (off := 0) (vs := [.bool true]) hS (by kernel_rfl) hB8 (by simp) fun a w293 hw294 hS => ?_
    have hB295 : Blk w293 w.heap.size 4 (#[.bool true]) := by rw [hw294]; exact hB8.upd _ _
    have hB296 := Blk.at' hw294 (hF.f.updNe (Blk.ne_type hB8 hF.f (by decide)) _ _)
    have hB297 := OwnV.at' hw294 (hF.P.updNe (OwnV.ne hF.P hB8 (by decide)) _ _)
    have hB298 := OwnV.at' hw294 (hF.R.updNe (OwnV.ne hF.R hB8 (by decide)) _ _)
    have hE299 : Ext [] w w293 := by rw [hw294]; exact hE1.updIn (.inr hs5) _ _
    refine seg_end ?_
    refine hK292 _ _ ?_
    refine wpIn_ret ?_
    refine then_ret ?_
    refine retMc [] (T' := 4) hS Try.results6 (by kernel_rfl) rfl hB295 (by simp) (by simp) fun w99 hE99 => ?_
    exact ⟨rfl, hE299.trans0 hE99⟩

end Go.Proofs.Ytpglmeeledmkoaa
